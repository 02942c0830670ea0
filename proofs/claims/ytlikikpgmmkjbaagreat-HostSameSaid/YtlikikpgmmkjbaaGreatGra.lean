import Derived.Test.YtlikikpgmmkjbaaGreatGol
set_option linter.unusedVariables false
set_option linter.unusedSimpArgs false
set_option maxRecDepth 100000
set_option maxHeartbeats 4000000
open Go.RowKit
namespace Go.Proofs.YtlikikpgmmkjbaaGreat
open Tryz
abbrev aRP:=@List.mem_singleton
abbrev aSk:=@List.take_succ_eq_append_getElem
abbrev aTh:=@Int.le_refl
abbrev aVX:=@List.perm_append_singleton
abbrev aV0:=@List.Perm.refl
abbrev aWb:=@List.cons.inj
abbrev aWE:=@Int.not_le
abbrev aWM:=@List.getElem?_set
section
theorem bD {B:List Nat} {b n:Nat} (u:∀ q∈B,q<n) (h:n≤b:=by omega):∀ q∈B,q∈ [b]→False:=fun q I Φ=>by have:=u q I;have:=aRP.1 Φ;omega
theorem bu {B:List Nat} {b n:Nat} (u:∀ q∈B,n≤q) (h:b<n:=by omega):∀ q∈B,q∈ [b]→False:=fun q I Φ=>by have:=u q I;have:=aRP.1 Φ;omega
theorem aN {a b:Nat} (h:a≠b:=by omega):a∉ [b]:=fun e=>h (aRP.1 e)
section
variable {P:Program} {n:Nat} {ops:Array Oper} {Q:Exit→Act→World→Prop} {E:List (Nat×Value)} {w w' w0:World} {v:Value} {ty:TypeId} {pos:String} {af:Array Edge} {x:Operand} {rest:List Oper} {d i:Nat} {b5:List Nat} {aZ:Nat→Nat}
theorem ai {y:Code} (h:W P n y Q E w):cK P n ops (rm P y Q) [] E w:=nl (aV h)
theorem aj {id:Nat} {l:List Oper} {y:Code} (h:cK P n l.toArray (rm P y Q) l E w):W P n (.seq (.region id l.toArray false) y) Q E w:=az (rg h)
theorem bt {y:Code} (h:W P n y Q E w):W P n .skip (rm P y Q) E w:=fo (aV h)
theorem J {op:Op} (hr:cY P E ⟨some d,op,ty,pos,af,none⟩ w v w') (h:cK P n ops Q rest ((d,v)::E) w') (hd:Nat.blt d n=true:=by rfl):cK P n ops Q (⟨some d,op,ty,pos,af,none⟩::rest) E w:=iy hr hd h
theorem vm (hx:ev E x=some v) (h:cK P n ops Q rest ((d,v)::E) w) (hd:Nat.blt d n=true:=by rfl):cK P n ops Q (⟨some d, .move x,ty,pos,af,none⟩::rest) E w:=iy (aH hx) hd h
theorem va (hx:ev E x=some v) (h:cK P n ops Q rest ((d,v)::E) w) (hd:Nat.blt d n=true:=by rfl):cK P n ops Q (⟨some d, .assign x,ty,pos,af,none⟩::rest) E w:=iy (ew hx) hd h
theorem aq {op:Op} (ar:ops[i]? =some ⟨some d,op,ty,pos,af,none⟩) (hr:∀ w,cY P E ⟨some d,op,ty,pos,af,none⟩ w v w) (h:j0 P n ops Q aZ b5 ((d,v)::E) w0) (av:aZ i=1:=by rfl) (hd:Nat.blt d n=true:=by rfl):j0 P n ops Q aZ (i::b5) E w0:=rF ar av hr hd h
theorem bA {op:Op} (ar:ops[i]? =some ⟨some d,op,ty,pos,af,none⟩) (hr:∀ w,Ext w0 w→cY P E ⟨some d,op,ty,pos,af,none⟩ w v w) (h:j0 P n ops Q aZ b5 ((d,v)::E) w0) (av:aZ i=0:=by rfl) (hd:Nat.blt d n=true:=by rfl):j0 P n ops Q aZ (i::b5) E w0:=ae9 ar av hr hd h
end
theorem v8:∀ {cU E:List (Nat×Value)},cU.map (fun p=>look E p.1)=cU.map (fun p=>some p.2)→Sub cU E
 | [],_,_=>Sub.nil
 | (k,v)::r,E,h=>have c6:look E k::r.map (fun p=>look E p.1)=some v::r.map (fun p=>some p.2):=h
  Sub.cons (aWb c6).1 (v8 (aWb c6).2)
theorem cy:(∀ (a b:Bool),((a || b)=true)↔(a=true∨b=true))∧(∀ (a b:Bool),((a || b)=false)↔(a=false∧b=false))∧(∀ (a b:Bool),((a && b)=true)↔(a=true∧b=true))∧(∀ (a b:Bool),((a && b)=false)↔(a=false∨b=false))∧(∀ (p:Prop) [Decidable p],(decide p=true)↔p)∧(∀ (p:Prop) [Decidable p],(decide p=false)↔¬ p)∧(∀ (α:Type) [BEq α] [LawfulBEq α] (a b:α),((a == b)=true)↔(a=b))∧(∀ (α:Type) [BEq α] [LawfulBEq α] (a b:α),((a != b)=true)↔(a≠b))∧(∀ (α:Type) [BEq α] [LawfulBEq α] (a b:α),((a == b)=false)↔(a≠b))∧(∀ (α:Type) [BEq α] [LawfulBEq α] (a b:α),((a != b)=false)↔(a=b))∧(∀ b:Bool,((!b)=true)↔(b=false))∧(∀ b:Bool,((!b)=false)↔(b=true))∧(∀ b:Bool,(¬ (b=true))↔(b=false))∧(∀ b:Bool,(¬ (b=false))↔(b=true))∧(∀ a b:Int,(¬ a<b)↔b≤a)∧(∀ a b:Int,(¬ a≤b)↔b<a)∧(∀ a b:Nat,(¬ a<b)↔b≤a)∧(∀ a b:Nat,(¬ a≤b)↔b<a)∧(∀ (α:Type) (a b:α),(a≠b)↔¬ (a=b))∧(∀ p:Prop,(¬ ¬ p)↔p):=
 ⟨fun a b=>by cases a<;>cases b<;>simp,fun a b=>by cases a<;>cases b<;>simp,fun a b=>by cases a<;>cases b<;>simp,fun a b=>by cases a<;>cases b<;>simp,fun p _=>by simp,fun p _=>by simp,fun α _ _ a b=>by simp,fun α _ _ a b=>by simp,fun α _ _ a b=>by simp,fun α _ _ a b=>by simp,fun b=>by simp,fun b=>by simp,fun b=>by simp,fun b=>by simp,fun _ _=>Int.not_lt,fun _ _=>aWE,fun _ _=>Nat.not_lt,fun _ _=>Nat.not_le,fun _ _ _=>Iff.rfl,fun _=>Classical.not_not⟩
theorem bb (j:Nat) {n:Nat} (h:j<n:=by omega):0<n:=Nat.zero_lt_of_lt h
theorem γ {a b c:World} (h:Ext a b) (k:Ext b c):Ext a c:=Ext.wa h k
theorem bs {b n:Nat} (h:n≤b:=by omega):∀ q∈ [b],n≤q:=fun q I=>by rw [aRP.1 I];exact h
theorem iJ:Fd prog 49 0 0:=fun _ _ _=>by kernel_rfl
theorem ba:eH prog 3 false:=fun _=>by kernel_rfl
theorem iK:Fd prog 49 1 1:=fun _ _ _=>by kernel_rfl
theorem cg:eH prog 49 true:=fun _=>by kernel_rfl
theorem bT:eP prog 49 2:=fun _=>by kernel_rfl
theorem PB:Enters prog 193 :=b9 func193
theorem PD:Enters prog 194 :=b9 func194
theorem dr:eP prog 3 1:=fun _=>by kernel_rfl
theorem oN:eP prog 313 4:=fun _=>by kernel_rfl
theorem PF:Fd prog 313 2 3:=fun _ _ _=>by kernel_rfl
theorem Pk:eH prog 313 true:=fun _=>by kernel_rfl
theorem pK:eH prog 263 false:=fun _=>by kernel_rfl
theorem Po:Enters prog 265 :=b9 func265
theorem Pp:Enters prog 266 :=b9 func266
theorem aem:eP prog 263 1:=fun _=>by kernel_rfl
theorem aeo:mg prog 313 (.agg #[.int .i64 0, .int .i64 0, .int .i64 0, .int .i64 0]):=fun _=>by kernel_rfl
theorem asG:Enters prog 268 :=b9 func268
theorem Km:Enters prog 219 :=b9 func219
theorem asP:Enters prog 239 :=b9 func239
theorem asS:Enters prog 240 :=b9 func240
theorem as1:Enters prog 267 :=b9 func267
theorem aev:Fd prog 265 0 0:=fun _ _ _=>by kernel_rfl
theorem Kp:Fd prog 24 0 0:=fun _ _ _=>by kernel_rfl
theorem k5:eH prog 24 true:=fun _=>by kernel_rfl
theorem k6:eP prog 24 3:=fun _=>by kernel_rfl
theorem rB:Enters prog 158 :=b9 func158
theorem ato:Enters prog 199 :=b9 func199
theorem atq:mg prog 260 (.agg #[.int .i64 0, .int .i64 0, .int .i64 0, .int .i64 0, .int .i64 0, .int .i64 0, .int .i64 0, .int .i64 0]):=fun _=>by kernel_rfl
theorem aeI:eP prog 260 8:=fun _=>by kernel_rfl
theorem atr:eH prog 260 true:=fun _=>by kernel_rfl
theorem aeJ:Fd prog 265 1 3:=fun _ _ _=>by kernel_rfl
theorem aeK:Enters prog 161 :=b9 func161
theorem EG:Fd prog 265 3 6:=fun _ _ _=>by kernel_rfl
theorem ats:Enters prog 218 :=b9 func218
theorem mJ:Enters prog 166 :=b9 func166
theorem oM:Fd prog 265 2 5:=fun _ _ _=>by kernel_rfl
theorem fQ:eH prog 22 false:=fun _=>by kernel_rfl
theorem att:Enters prog 220 :=b9 func220
theorem U3:Fd prog 313 0 0:=fun _ _ _=>by kernel_rfl
theorem aeL:Fd prog 313 1 2:=fun _ _ _=>by kernel_rfl
theorem aeM:Enters prog 165 :=b9 func165
theorem xe:mg prog 49 (.agg #[.int .i64 0, .int .i64 0]):=fun _=>by kernel_rfl
theorem U4:Enters prog 164 :=b9 func164
theorem U5:Enters prog 197 :=b9 func197
theorem atu:Enters prog 217 :=b9 func217
theorem xf:Fd prog 24 2 2:=fun _ _ _=>by kernel_rfl
theorem aeN:Enters prog 196 :=b9 func196
theorem aeO:Enters prog 198 :=b9 func198
theorem aeP:Enters prog 163 :=b9 func163
theorem atv:Enters prog 167 :=b9 func167
theorem atw:Enters prog 216 :=b9 func216
theorem aeQ:Enters prog 195 :=b9 func195
theorem PC:Fd prog 66 2 2:=fun _ _ _=>by kernel_rfl
theorem U6:Enters prog 128 :=b9 func128
theorem U7:mg prog 207 (.agg #[.int .i64 0, .int .i64 0, .int .i64 0, .int .i64 0]):=fun _=>by kernel_rfl
theorem U8:eP prog 207 4:=fun _=>by kernel_rfl
theorem tY:Fd prog 66 3 3:=fun _ _ _=>by kernel_rfl
theorem EH:Fd prog 66 1 1:=fun _ _ _=>by kernel_rfl
theorem atx:Fd prog 207 1 1:=fun _ _ _=>by kernel_rfl
theorem qy:Fd prog 28 0 0:=fun _ _ _=>by kernel_rfl
theorem aty:Enters prog 162 :=b9 func162
theorem cL:eH prog 28 true:=fun _=>by kernel_rfl
theorem bU:eP prog 28 9:=fun _=>by kernel_rfl
theorem G_:Enters prog 56 :=b9 func56
theorem j5:Fd prog 28 4 6:=fun _ _ _=>by kernel_rfl
theorem lT:eH prog 26 false:=fun _=>by kernel_rfl
theorem kk:eP prog 66 7:=fun _=>by kernel_rfl
theorem yM:eH prog 66 true:=fun _=>by kernel_rfl
theorem Kq:mg prog 66 (.agg #[.int .i64 0, .int .i64 0, .int .i64 0, .int .i64 0, .int .i64 0, .int .i64 0, .int .i64 0]):=fun _=>by kernel_rfl
theorem G':Fd prog 66 0 0:=fun _ _ _=>by kernel_rfl
theorem U9:eP prog 223 2:=fun _=>by kernel_rfl
theorem atz:eH prog 223 true:=fun _=>by kernel_rfl
theorem atA:mg prog 223 (.agg #[.int .i64 0, .int .i64 0]):=fun _=>by kernel_rfl
theorem atB:Fd prog 223 0 0:=fun _ _ _=>by kernel_rfl
theorem PE:mg prog 3 (.int .i64 0):=fun _=>by kernel_rfl
theorem atC:Fd prog 223 1 1:=fun _ _ _=>by kernel_rfl
theorem U_:eP prog 4 1:=fun _=>by kernel_rfl
theorem Ha:eH prog 4 false:=fun _=>by kernel_rfl
theorem atD:Enters prog 134 :=b9 func134
theorem atE:Fd prog 207 2 2:=fun _ _ _=>by kernel_rfl
theorem kK:mg prog 28 (.agg #[.int .i64 0, .int .i64 0, .slice none 0 0, .slice none 0 0, .slice none 0 0, .slice none 0 0, .slice none 0 0, .int .i64 0, .int .i64 0]):=fun _=>by kernel_rfl
theorem At:Enters prog 27 :=b9 func27
theorem xg:eP prog 22 1:=fun _=>by kernel_rfl
theorem rC:Fd prog 28 1 3:=fun _ _ _=>by kernel_rfl
theorem vy:eH prog 25 false:=fun _=>by kernel_rfl
theorem tZ:Fd prog 28 2 4:=fun _ _ _=>by kernel_rfl
theorem U':Enters prog 101 :=b9 func101
theorem Va:eP prog 25 1:=fun _=>by kernel_rfl
theorem yN:Fd prog 28 3 5:=fun _ _ _=>by kernel_rfl
theorem Vb:Enters prog 26 :=b9 func26
theorem Kr:eP prog 26 1:=fun _=>by kernel_rfl
theorem atF:Enters prog 95 :=b9 func95
theorem atG:Enters prog 96 :=b9 func96
theorem PG:Fd prog 66 4 5:=fun _ _ _=>by kernel_rfl
theorem Vc:eP prog 225 3:=fun _=>by kernel_rfl
theorem atH:eH prog 225 true:=fun _=>by kernel_rfl
theorem atI:Fd prog 225 0 0:=fun _ _ _=>by kernel_rfl
theorem Hb:eH prog 227 false:=fun _=>by kernel_rfl
theorem atJ:Enters prog 136 :=b9 func136
theorem atK:mg prog 227 (.pointer none):=fun _=>by kernel_rfl
theorem asg:eP prog 227 1:=fun _=>by kernel_rfl
theorem ash:Enters prog 135 :=b9 func135
theorem asi:Fd prog 225 1 1:=fun _ _ _=>by kernel_rfl
theorem asj:Enters prog 137 :=b9 func137
theorem asl:Enters prog 97 :=b9 func97
theorem asm:Enters prog 98 :=b9 func98
theorem yJ:Fd prog 178 1 1:=fun _ _ _=>by kernel_rfl
theorem Pl:Enters prog 168 :=b9 func168
theorem Pm:Enters prog 169 :=b9 func169
theorem Ap:Fd prog 66 5 6:=fun _ _ _=>by kernel_rfl
theorem Pn:Fd prog 178 2 2:=fun _ _ _=>by kernel_rfl
theorem nt:Fd prog 176 0 0:=fun _ _ _=>by kernel_rfl
theorem asn:Enters prog 202 :=b9 func202
theorem aek:Fd prog 178 3 4:=fun _ _ _=>by kernel_rfl
theorem ael:Fd prog 207 3 3:=fun _ _ _=>by kernel_rfl
theorem EB:Fd prog 28 5 7:=fun _ _ _=>by kernel_rfl
theorem aso:Enters prog 170 :=b9 func170
theorem asp:Fd prog 207 0 0:=fun _ _ _=>by kernel_rfl
theorem asq:Fd prog 178 0 0:=fun _ _ _=>by kernel_rfl
theorem Kl:eH prog 178 true:=fun _=>by kernel_rfl
theorem EC:eP prog 178 5:=fun _=>by kernel_rfl
theorem asr:Enters prog 138 :=b9 func138
theorem ass:Enters prog 139 :=b9 func139
theorem ast:Enters prog 140 :=b9 func140
theorem asu:Enters prog 99 :=b9 func99
theorem asv:mg prog 176 (.agg #[.int .i64 0, .int .i64 0, .slice none 0 0, .slice none 0 0, .slice none 0 0, .slice none 0 0, .slice none 0 0, .int .i64 0, .int .i64 0]):=fun _=>by kernel_rfl
theorem asw:eP prog 176 9:=fun _=>by kernel_rfl
theorem asx:mg prog 178 (.agg #[.int .i64 0, .int .i64 0, .int .i64 0, .int .i64 0, .int .i64 0]):=fun _=>by kernel_rfl
theorem asy:Enters prog 100 :=b9 func100
theorem UL:Fd prog 24 1 1:=fun _ _ _=>by kernel_rfl
theorem UM:Enters prog 31 :=b9 func31
theorem asz:Enters prog 49 :=b9 func49
theorem asA:Enters prog 50 :=b9 func50
theorem asB:Enters prog 30 :=b9 func30
theorem ED:Fd prog 28 6 8:=fun _ _ _=>by kernel_rfl
theorem Pq:mg prog 51 (.agg #[.int .i64 0, .int .i64 0, .int .i64 0, .int .i64 0, .int .i64 0, .int .i64 0]):=fun _=>by kernel_rfl
theorem pL:Fd prog 51 1 1:=fun _ _ _=>by kernel_rfl
theorem Cq:Fd prog 51 2 2:=fun _ _ _=>by kernel_rfl
theorem Cr:Fd prog 51 3 3:=fun _ _ _=>by kernel_rfl
theorem Cs:Fd prog 51 4 5:=fun _ _ _=>by kernel_rfl
theorem iZ:eH prog 51 true:=fun _=>by kernel_rfl
theorem fC:eP prog 51 6:=fun _=>by kernel_rfl
theorem tW:Fd prog 51 0 0:=fun _ _ _=>by kernel_rfl
theorem G6:Enters prog 145 :=b9 func145
theorem asC:Enters prog 146 :=b9 func146
theorem UN:Enters prog 104 :=b9 func104
theorem UO:Fd prog 169 0 0:=fun _ _ _=>by kernel_rfl
theorem aen:eH prog 123 false:=fun _=>by kernel_rfl
theorem asD:eP prog 123 1:=fun _=>by kernel_rfl
theorem UP:Fd prog 169 1 1:=fun _ _ _=>by kernel_rfl
theorem aep:eH prog 124 false:=fun _=>by kernel_rfl
theorem asE:eP prog 124 1:=fun _=>by kernel_rfl
theorem EE:Fd prog 169 2 2:=fun _ _ _=>by kernel_rfl
theorem Pr:eH prog 125 false:=fun _=>by kernel_rfl
theorem UQ:eP prog 125 1:=fun _=>by kernel_rfl
theorem UR:Enters prog 87 :=b9 func87
theorem asF:mg prog 169 (.agg #[.slice none 0 0, .slice none 0 0, .slice none 0 0]):=fun _=>by kernel_rfl
theorem aeq:Enters prog 94 :=b9 func94
theorem G7:mg prog 60 (.agg #[.slice none 0 0, .slice none 0 0, .slice none 0 0]):=fun _=>by kernel_rfl
theorem US:Enters prog 60 :=b9 func60
theorem Aq:eP prog 60 3:=fun _=>by kernel_rfl
theorem Ps:eH prog 60 true:=fun _=>by kernel_rfl
theorem aer:Enters prog 61 :=b9 func61
theorem asH:Fd prog 60 0 0:=fun _ _ _=>by kernel_rfl
theorem asI:Enters prog 62 :=b9 func62
theorem asJ:Fd prog 60 1 1:=fun _ _ _=>by kernel_rfl
theorem asK:Enters prog 63 :=b9 func63
theorem asL:Fd prog 60 2 2:=fun _ _ _=>by kernel_rfl
theorem asM:eP prog 58 1:=fun _=>by kernel_rfl
theorem aes:Enters prog 92 :=b9 func92
theorem asN:Enters prog 83 :=b9 func83
theorem Pt:Enters prog 57 :=b9 func57
theorem asO:Enters prog 58 :=b9 func58
theorem aet:Enters prog 20 :=b9 func20
theorem Ar:eP prog 44 1:=fun _=>by kernel_rfl
theorem pM:eH prog 44 false:=fun _=>by kernel_rfl
theorem UT:Enters prog 25 :=b9 func25
theorem G8:Fd prog 31 0 0:=fun _ _ _=>by kernel_rfl
theorem rz:Fd prog 31 1 9:=fun _ _ _=>by kernel_rfl
theorem vt:eH prog 29 false:=fun _=>by kernel_rfl
theorem EF:Enters prog 47 :=b9 func47
theorem vu:eH prog 31 true:=fun _=>by kernel_rfl
theorem n6:eP prog 31 10:=fun _=>by kernel_rfl
theorem aeu:Enters prog 46 :=b9 func46
theorem asQ:Enters prog 114 :=b9 func114
theorem kJ:eP prog 90 3:=fun _=>by kernel_rfl
theorem Ct:eH prog 90 true:=fun _=>by kernel_rfl
theorem asR:Enters prog 171 :=b9 func171
theorem G9:Fd prog 90 1 1:=fun _ _ _=>by kernel_rfl
theorem Kn:Fd prog 90 2 2:=fun _ _ _=>by kernel_rfl
theorem rA:Fd prog 90 0 0:=fun _ _ _=>by kernel_rfl
theorem asT:Enters prog 173 :=b9 func173
theorem asU:Enters prog 172 :=b9 func172
theorem asV:Enters prog 142 :=b9 func142
theorem asW:Enters prog 141 :=b9 func141
theorem Pu:mg prog 90 (.agg #[.slice none 0 0, .int .i64 0, .bool false]):=fun _=>by kernel_rfl
theorem asX:Enters prog 143 :=b9 func143
theorem asY:Enters prog 115 :=b9 func115
theorem asZ:Enters prog 84 :=b9 func84
theorem as0:Enters prog 85 :=b9 func85
theorem as2:mg prog 44 (.slice none 0 0):=fun _=>by kernel_rfl
theorem as3:Enters prog 86 :=b9 func86
theorem as4:Enters prog 121 :=b9 func121
theorem UU:mg prog 31 (.agg #[.int .i64 0, .int .i64 0, .slice none 0 0, .slice none 0 0, .slice none 0 0, .slice none 0 0, .slice none 0 0, .int .i64 0, .int .i64 0, .slice none 0 0]):=fun _=>by kernel_rfl
theorem Ko:Enters prog 28 :=b9 func28
theorem UW:eP prog 29 1:=fun _=>by kernel_rfl
theorem Pv:Enters prog 102 :=b9 func102
theorem UX:Enters prog 105 :=b9 func105
theorem vv:eP prog 73 1:=fun _=>by kernel_rfl
theorem qx:eH prog 73 false:=fun _=>by kernel_rfl
theorem aew:Enters prog 174 :=b9 func174
theorem vw:Fd prog 83 0 0:=fun _ _ _=>by kernel_rfl
theorem vx:Fd prog 83 1 1:=fun _ _ _=>by kernel_rfl
theorem yK:eH prog 81 false:=fun _=>by kernel_rfl
theorem as5:Enters prog 176 :=b9 func176
theorem as6:Enters prog 175 :=b9 func175
theorem oL:eH prog 83 true:=fun _=>by kernel_rfl
theorem kj:eP prog 83 2:=fun _=>by kernel_rfl
theorem UY:Enters prog 144 :=b9 func144
theorem Pw:mg prog 83 (.agg #[.int .u32 0, .slice none 0 0]):=fun _=>by kernel_rfl
theorem aex:Enters prog 103 :=b9 func103
theorem UZ:Enters prog 147 :=b9 func147
theorem aey:Enters prog 36 :=b9 func36
theorem aez:eP prog 81 1:=fun _=>by kernel_rfl
theorem as7:Enters prog 148 :=b9 func148
theorem Cu:mg prog 85 (.agg #[.int .i64 0, .int .i64 0, .slice none 0 0, .slice none 0 0, .slice none 0 0, .slice none 0 0, .slice none 0 0, .int .i64 0, .int .i64 0, .slice none 0 0, .slice none 0 0, .int .u32 0, .slice none 0 0, .int .i64 0]):=fun _=>by kernel_rfl
theorem tX:Fd prog 85 0 0:=fun _ _ _=>by kernel_rfl
theorem sI:Fd prog 85 1 10:=fun _ _ _=>by kernel_rfl
theorem yL:eH prog 80 false:=fun _=>by kernel_rfl
theorem Px:eP prog 80 1:=fun _=>by kernel_rfl
theorem Cv:Fd prog 85 2 11:=fun _ _ _=>by kernel_rfl
theorem h_:eH prog 85 true:=fun _=>by kernel_rfl
theorem ea:eP prog 85 14:=fun _=>by kernel_rfl
theorem aeA:Fd prog 85 3 13:=fun _ _ _=>by kernel_rfl
theorem aeB:Enters prog 69 :=b9 func69
theorem as8:Enters prog 106 :=b9 func106
theorem as9:Enters prog 23 :=b9 func23
theorem ata:Enters prog 79 :=b9 func79
theorem atb:Enters prog 107 :=b9 func107
theorem atc:Enters prog 108 :=b9 func108
theorem atd:Enters prog 64 :=b9 func64
theorem ate:Enters prog 65 :=b9 func65
theorem Py:Fd prog 87 0 0:=fun _ _ _=>by kernel_rfl
theorem aeC:Fd prog 87 1 1:=fun _ _ _=>by kernel_rfl
theorem atf:Enters prog 66 :=b9 func66
theorem atg:Enters prog 67 :=b9 func67
theorem ath:Fd prog 87 2 7:=fun _ _ _=>by kernel_rfl
theorem ati:Fd prog 87 3 8:=fun _ _ _=>by kernel_rfl
theorem atj:Enters prog 68 :=b9 func68
theorem atk:Enters prog 70 :=b9 func70
theorem aeD:eP prog 9 1:=fun _=>by kernel_rfl
theorem atl:eH prog 9 false:=fun _=>by kernel_rfl
theorem atm:Enters prog 55 :=b9 func55
theorem aeE:Enters prog 48 :=b9 func48
theorem aeF:Enters prog 40 :=b9 func40
theorem U0:Enters prog 39 :=b9 func39
theorem Pz:Enters prog 33 :=b9 func33
theorem PA:eP prog 87 9:=fun _=>by kernel_rfl
theorem aeG:eH prog 87 true:=fun _=>by kernel_rfl
theorem atn:mg prog 87 (.agg #[.int .i64 0, .int .i64 0, .int .i64 0, .int .i64 0, .int .i64 0, .int .i64 0, .int .i64 0, .int .i64 0, .int .i64 0]):=fun _=>by kernel_rfl
theorem aeH:Enters prog 34 :=b9 func34
theorem atp:Enters prog 41 :=b9 func41
theorem U1:Enters prog 13 :=b9 func13
theorem U2:Enters prog 15 :=b9 func15
end
section
namespace ct
section
variable {α:Type} [Inhabited α] {key:α→Int} {l:List α} {i j n k:Nat} {x:α}
def swp (l:List α) (i j:Nat):List α:=(l.set i (l.getD j default)).set j (l.getD i default)
theorem mo:(swp l i j).length=l.length:=by unfold swp;rw [aR1,aR1]
theorem afm {i k:Nat} (ar:i<l.length):(l.set i x).getD k default=if k=i then x else l.getD k default:=by
 rw [aRQ,aRQ,aWM];by_cases e:i=k
 ·subst e;rw [aR5 rfl,aR5 rfl];simp [ar]
 ·rw [aR0 e,aR0 (λ h=>e h.symm)]
theorem Dh (ar:i<l.length) (ay:j<l.length):(swp l i j).getD k default=if k=j then l.getD i default else if k=i then l.getD j default else l.getD k default:=by
 unfold swp;rw [afm (by rw [aR1];exact ay),afm ar]
theorem Di (ar:i<l.length) (ay:j<l.length):(swp l i j).Perm l:=by
 have h:=Array.swap_perm (xs:=l.toArray) (i:=i) (j:=j) (by simpa using ar) (by simpa using ay);have h:=h.toList;have e:(l.toArray.swap i j (by simpa using ar) (by simpa using ay)).toList=swp l i j:=by
  unfold swp;rw [aRQ,aRQ,aRT ar,aRT ay];simp [Array.swap]
 rw [e] at h;simpa using h
def qc (key:α→Int) (l:List α) (j:Nat):List α :=
 if 0<j∧key (l.getD j default)<key (l.getD ((j - 1) / 2) default) then qc key (swp l ((j - 1) / 2) j) ((j - 1) / 2) else l
termination_by j
decreasing_by omega
def n_ (key:α→Int) (n:Nat) (l:List α) (i:Nat):Nat:=if 2 * i+2<n∧key (l.getD (2 * i+2) default)<key (l.getD (2 * i+1) default) then 2 * i+2 else 2 * i+1
theorem Mi:i<n_ key n l i:=by unfold n_;split<;>omega
theorem XY (h:2 * i+1<n):n_ key n l i<n:=by unfold n_;split<;>omega
theorem azu:(n_ key n l i - 1) / 2=i:=by unfold n_;split<;>omega
theorem ajl (av:0<k) (hn:k<n) (hp:(k - 1) / 2=i):key (l.getD (n_ key n l i) default)≤key (l.getD k default):=by
 have:k=2 * i+1∨k=2 * i+2:=by omega
 unfold n_;split
 ·rename_i h
  rcases this with rfl | rfl
  ·omega
  ·exact aTh _
 ·rename_i h
  rcases this with rfl | rfl
  ·exact aTh _
  ·have:¬ key (l.getD (2 * i+2) default)<key (l.getD (2 * i+1) default):=λ fS=>h ⟨hn,fS⟩;omega
def j4 (key:α→Int) (n:Nat) (l:List α) (i:Nat):List α :=
 if 2 * i+1<n∧key (l.getD (n_ key n l i) default)<key (l.getD i default) then j4 key n (swp l i (n_ key n l i)) (n_ key n l i) else l
termination_by n - i
decreasing_by rename_i h;have:=Mi (key:=key) (n:=n) (l:=l) (i:=i);omega
theorem aEb:∀ (j:Nat) (l:List α),(qc key l j).length=l.length:=by
 intro j;induction j using Nat.strongRecOn with
 | ind j bF =>
  intro l;unfold qc;split
  ·rw [bF _ (by omega),mo]
  ·rfl
theorem aEc:∀ (j:Nat) (l:List α),j<l.length→(qc key l j).Perm l:=by
 intro j;induction j using Nat.strongRecOn with
 | ind j bF =>
  intro l aB;unfold qc;split
  ·exact (bF _ (by omega) _ (by rw [mo];omega)).trans (Di (by omega) aB)
  ·exact aV0 _
theorem aeb (n:Nat):∀ (m i:Nat) (l:List α),n - i≤m→(j4 key n l i).length=l.length:=by
 intro m;induction m with
 | zero=>intro i l h;unfold j4;rw [aR0 (by omega)]
 | succ m bF =>
  intro i l h;unfold j4;split
  ·have:=Mi (key:=key) (n:=n) (l:=l) (i:=i);rw [bF _ _ (by omega),mo]
  ·rfl
theorem aec (n:Nat):∀ (m i:Nat) (l:List α),n - i≤m→n≤l.length→i<l.length→(j4 key n l i).Perm l:=by
 intro m;induction m with
 | zero=>intro i l h _ _;unfold j4;rw [aR0 (by omega)]
 | succ m bF =>
  intro i l h hn ar;unfold j4;split
  ·rename_i hc
   have:=Mi (key:=key) (n:=n) (l:=l) (i:=i);have:=XY (key:=key) (l:=l) hc.1;exact (bF _ _ (by omega) (by rw [mo];exact hn) (by rw [mo];omega)).trans (Di ar (by omega))
  ·exact aV0 _
theorem arV (n:Nat):∀ (m i:Nat) (l:List α),n - i≤m→n≤l.length→i<l.length→∀ k,n≤k→i<n→(j4 key n l i).getD k default=l.getD k default:=by
 intro m;induction m with
 | zero=>intro i l h _ _ k _ _;unfold j4;rw [aR0 (by omega)]
 | succ m bF =>
  intro i l h hn ar k av dv;unfold j4;split
  ·rename_i hc
   have κ:=Mi (key:=key) (n:=n) (l:=l) (i:=i);have aa:=XY (key:=key) (l:=l) hc.1;rw [bF _ _ (by omega) (by rw [mo];exact hn) (by rw [mo];omega) k av aa,Dh ar (by omega),aR0 (by omega),aR0 (by omega)]
  ·rfl
def Heap (key:α→Int) (n:Nat) (l:List α):Prop:=∀ i,0<i→i<n→key (l.getD ((i - 1) / 2) default)≤key (l.getD i default)
theorem aEa (n:Nat):∀ (j:Nat) (l:List α),j<n→n≤l.length→(∀ i,0<i→i<n→i≠j→key (l.getD ((i - 1) / 2) default)≤key (l.getD i default))→
  (∀ i,0<i→i<n→(i - 1) / 2=j→0<j→key (l.getD ((j - 1) / 2) default)≤key (l.getD i default))→Heap key n (qc key l j):=by
 intro j;induction j using Nat.strongRecOn with
 | ind j bF =>
  intro l ay hn κ aa;unfold qc;split
  ·rename_i hc
   obtain ⟨aG,bC⟩:=hc;have aO:∀ k,(swp l ((j - 1) / 2) j).getD k default=if k=j then l.getD ((j - 1) / 2) default else if k=(j - 1) / 2 then l.getD j default else l.getD k default:=λ k=>Dh (by omega) (by omega)
   refine bF _ (by omega) _ (by omega) (by rw [mo];exact hn) (λ i ko dv ff=> ?_) (λ i ko dv hp yQ=> ?_)
   ·rw [aO,aO];by_cases e:i=j
    ·subst e;rw [aR5 rfl,aR0 (by omega),aR5 rfl];omega
    ·rw [aR0 e,aR0 ff];by_cases bl:(i - 1) / 2=j
     ·rw [aR5 bl];exact aa i ko dv bl aG
     ·rw [aR0 bl];by_cases cH:(i - 1) / 2=(j - 1) / 2
      ·rw [aR5 cH];have:=κ i ko dv e;rw [cH] at this;omega
      ·rw [aR0 cH];exact κ i ko dv e
   ·rw [aO,aO];rw [aR0 (by omega),aR0 (by omega)];have QD:=κ ((j - 1) / 2) yQ (by omega) (by omega);by_cases e:i=j
    ·rw [aR5 e];exact QD
    ·rw [aR0 e,aR0 (by omega)];have:=κ i ko dv e;rw [hp] at this;omega
  ·rename_i hc
   intro i ko dv;by_cases e:i=j
   ·subst e;have:¬ key (l.getD i default)<key (l.getD ((i - 1) / 2) default):=λ h=>hc ⟨ko,h⟩;omega
   ·exact κ i ko dv e
theorem arU (n:Nat):∀ (m i0:Nat) (l:List α),n - i0≤m→i0<l.length→n≤l.length→(∀ i,0<i→i<n→(i - 1) / 2≠i0→key (l.getD ((i - 1) / 2) default)≤key (l.getD i default))→
  (∀ i,0<i→i<n→(i - 1) / 2=i0→0<i0→key (l.getD ((i0 - 1) / 2) default)≤key (l.getD i default))→Heap key n (j4 key n l i0):=by
 intro m;induction m with
 | zero =>
  intro i0 l h _ _ κ _;unfold j4;rw [aR0 (by omega)];intro i ko dv;exact κ i ko dv (by omega)
 | succ m bF =>
  intro i0 l h HJ hn κ aa;unfold j4;split
  ·rename_i hc
   obtain ⟨Wt,bC⟩:=hc;have g1:=Mi (key:=key) (n:=n) (l:=l) (i:=i0);have g2:=XY (key:=key) (l:=l) Wt;have g3:=azu (key:=key) (n:=n) (l:=l) (i:=i0);have g4:=λ k av hn hp=>ajl (key:=key) (n:=n) (l:=l) (i:=i0) (k:=k) av hn hp;generalize ay:n_ key n l i0=j at *
   have aO:∀ k,(swp l i0 j).getD k default=if k=j then l.getD i0 default else if k=i0 then l.getD j default else l.getD k default:=λ k=>Dh HJ (by omega)
   refine bF _ _ (by omega) (by rw [mo];omega) (by rw [mo];exact hn) (λ i ko dv ff=> ?_) (λ i ko dv hp yQ=> ?_)
   ·rw [aO,aO];rw [aR0 ff];by_cases e:(i - 1) / 2=i0
    ·rw [aR5 e];by_cases bl:i=j
     ·rw [aR5 bl];omega
     ·rw [aR0 bl,aR0 (by omega)];exact g4 i ko dv e
    ·rw [aR0 e];by_cases bl:i=j
     ·omega
     ·rw [aR0 bl];by_cases cH:i=i0
      ·rw [aR5 cH];have:=aa j (by omega) g2 g3 (by omega);rw [cH];exact this
      ·rw [aR0 cH];exact κ i ko dv e
   ·rw [aO,aO,g3];rw [aR0 (by omega),aR5 rfl,aR0 (by omega),aR0 (by omega)];have:=κ i ko dv (by omega);rw [hp] at this;exact this
  ·rename_i hc
   intro i ko dv;by_cases e:(i - 1) / 2=i0
   ·have Wt:2 * i0+1<n:=by omega
    have:¬ key (l.getD (n_ key n l i0) default)<key (l.getD i0 default):=λ h=>hc ⟨Wt,h⟩;have:=ajl (key:=key) (n:=n) (l:=l) ko dv e;rw [e];omega
   ·exact κ i ko dv e
theorem Heap.min (h:Heap key n l):∀ i,i<n→key (l.getD 0 default)≤key (l.getD i default):=by
 intro i;induction i using Nat.strongRecOn with
 | ind i bF =>
  intro ar;by_cases aG:0<i
  ·exact Int.le_trans (bF ((i - 1) / 2) (by omega) (by omega)) (h i aG ar)
  ·have:i=0:=by omega
   subst this;exact aTh _
def push (key:α→Int) (l:List α) (x:α):List α:=qc key (l++ [x]) l.length
theorem MF:(push key l x).length=l.length+1:=by unfold push;rw [aEb,aRX];rfl
theorem akn:(push key l x).Perm (x::l):=(aEc _ _ (by rw [aRX];simp)).trans (aVX x l)
theorem acr (h:k<l.length):(l++ [x]).getD k default=l.getD k default:=by
 rw [aRQ,aRQ,aSd h]
theorem aBC (h:Heap key l.length l):Heap key (push key l x).length (push key l x):=by
 rw [MF];refine aEa _ _ _ (by omega) (by simp) (λ i ko dv ff=> ?_) (λ i ko dv hp aG=>by omega);rw [acr (by omega),acr (by omega)];exact h i ko (by omega)
def xP (key:α→Int) (l:List α):List α:=j4 key (l.length - 1) (swp l 0 (l.length - 1)) 0
def oh (key:α→Int) (l:List α):List α:=(xP key l).take (l.length - 1)
theorem akg:(xP key l).length=l.length:=by unfold xP;rw [aeb _ _ _ _ (aR3 _),mo]
theorem Ir:(oh key l).length=l.length - 1:=by unfold oh;rw [aRU,akg];omega
theorem akf (aG:0<l.length):(xP key l).getD (l.length - 1) default=l.getD 0 default:=by
 unfold xP;by_cases κ:l.length - 1=0
 ·unfold j4;rw [aR0 (by omega),Dh aG (by omega),aR5 rfl]
 ·rw [arV _ _ _ _ (aR3 _) (by rw [mo];omega) (by rw [mo];omega) _ (aR3 _) (by omega),Dh aG (by omega),aR5 rfl]
theorem aki (aG:0<l.length):(l.getD 0 default::oh key l).Perm l:=by
 have κ:(xP key l).Perm l:=by
  unfold xP;exact (aec _ _ _ _ (aR3 _) (by rw [mo];omega) (by rw [mo];exact aG)).trans (Di aG (by omega))
 have aa:oh key l++ [l.getD 0 default]=xP key l:=by
  have e:=akf (key:=key) aG;have aB:=akg (key:=key) (l:=l);unfold oh;rw [← e,aRQ,aRT (by omega),aSX];rw [← aSk (by omega)];exact aSh (by omega)
 exact ((aVX _ _).symm.trans (by rw [aa])).trans κ
theorem akh (h:Heap key l.length l) (aG:0<l.length):Heap key (oh key l).length (oh key l):=by
 rw [Ir];have hd:Heap key (l.length - 1) (xP key l):=by
  unfold xP;refine arU _ _ _ _ (aR3 _) (by rw [mo];exact aG) (by rw [mo];omega) (λ i ko dv ff=> ?_) (λ i _ _ _ aG=>absurd aG (by omega));rw [Dh aG (by omega),Dh aG (by omega),aR0 (by omega),aR0 ff,aR0 (by omega),aR0 (by omega)];exact h i ko (by omega)
 intro i ko dv;have aE:∀ k,k<l.length - 1→(oh key l).getD k default=(xP key l).getD k default:=λ k av=>by
  unfold oh;rw [aRQ,aRQ,aSy,aR5 av]
 rw [aE _ (by omega),aE _ dv];exact hd i ko dv
theorem Heap.least (h:Heap key l.length l):∀ y∈l,key (l.getD 0 default)≤key y:=by
 intro y aK;obtain ⟨i,ar,rfl⟩:=aSP.1 aK;have:=h.min i ar
 rwa [show l.getD i default=l[i] by rw [aRQ,aRT ar];rfl] at this
end
end ct
end
section
namespace qq
section
variable {α:Type} {cS:α→List α} {k h:α→Int} {src:α→Prop} {x y s b:α} {d ru D:Int} {aA Aw:α→Int} {Q qu:List (α×Int)} {rest:List α} {e:α×Int}
inductive oG (cS:α→List α) (k:α→Int) (src:α→Prop):α→Int→Prop
 | start {s:α} (hs:src s):oG cS k src s 0
 | step {x y:α} {d:Int} (hx:oG cS k src x d) (aK:y∈cS x):oG cS k src y (d+k y)
def tH (cS:α→List α) (k:α→Int) (src:α→Prop) (x:α) (d:Int):Prop:=oG cS k src x d∧∀ ru,oG cS k src x ru→d≤ru
structure iY (cS:α→List α) (k h:α→Int):Prop where
 vM:∀ x,∀ y∈cS x,0<k y
 aG:∀ x,0≤h x
 av:∀ x,∀ y∈cS x,h x≤k y+h y
theorem oG.qQ (o:iY cS k h) (r:oG cS k src x d):0≤d:=by
 induction r with
 | start _=>exact aTh 0
 | step _ aK bF=>have:=o.vM _ _ aK;omega
theorem tH.uniq (κ:tH cS k src x d) (aa:tH cS k src x ru):d=ru:=Int.le_antisymm (κ.2 _ aa.1) (aa.2 _ κ.1)
structure Inv (cS:α→List α) (k h:α→Int) (src:α→Prop) (aA:α→Int) (Q:List (α×Int)) (dc:α) (rest:List α):Prop where
 q:∀ e∈Q,(src e.1∧e.2=0)∨∃ p,0≤aA p∧e.1∈cS p∧e.2=aA p+k e.1
 neg:∀ x,aA x<0→aA x= -1
 oK:∀ x,0≤aA x→tH cS k src x (aA x)
 pred:∀ x,0≤aA x→(src x∧aA x=0)∨∃ p,0≤aA p∧x∈cS p∧aA x=aA p+k x
 MD:∀ x,0≤aA x→∀ y∈cS x,0≤aA y∨(y,aA x+k y)∈Q∨(x=dc∧y∈rest)
 MW:∀ s,src s→0≤aA s∨(s,0)∈Q
 mono:∀ x,0≤aA x→∀ e∈Q,aA x+h x≤e.2+h e.1
 amI:rest≠ []→0≤aA dc∧(∀ y∈rest,y∈cS dc)∧∀ z,0≤aA z→aA z+h z≤aA dc+h dc
theorem Inv.akG (i:Inv cS k h src aA Q x rest) (he:e∈Q):oG cS k src e.1 e.2:=by
 rcases i.q e he with ⟨κ,aa⟩ | ⟨p,κ,aa,aw⟩
 ·rw [aa];exact .start κ
 ·rw [aw];exact .step (i.oK p κ).1 aa
theorem Inv.front (o:iY cS k h) (i:Inv cS k h src aA Q s []) (r:oG cS k src x d):aA x<0→∃ e∈Q,e.2+h e.1≤d+h x:=by
 induction r with
 | start hs =>
  intro hx;rcases i.MW _ hs with κ | κ
  ·omega
  ·exact ⟨_,κ,aTh _⟩
 | @step x y d r aK bF =>
  intro aLu;by_cases hx:aA x<0
  ·obtain ⟨e,he,hle⟩:=bF hx;have:=o.av x y aK;exact ⟨e,he,by omega⟩
  ·rcases i.MD x (by omega) y aK with κ | κ | ⟨_,κ⟩
   ·omega
   ·have:=(i.oK x (by omega)).2 d r;exact ⟨_,κ,by dsimp only;omega⟩
   ·simp at κ
theorem Inv.aBm (i:Inv cS k h src aA Q x []) (hp:Q.Perm (e::qu)) (hd:0≤aA e.1):Inv cS k h src aA qu x []:=by
 have hs:∀ z∈qu,z∈Q:=λ z bE=>hp.symm.subset (aR7 _ bE);have I:∀ z∈Q,z=e∨z∈qu:=λ z bE=>aSc.1 (hp.subset bE);refine ⟨λ z bE=>i.q z (hs z bE),i.neg,i.oK,i.pred,λ a ha c hc=> ?_,λ s axv=> ?_,λ a ha z bE=>i.mono a ha z (hs z bE),λ hn=>absurd Z hn⟩
 ·rcases i.MD a ha c hc with κ | κ | κ
  ·exact .inl κ
  ·rcases I _ κ with aa | aa
   ·left;rw [← aa] at hd;exact hd
   ·exact .inr (.inl aa)
  ·exact .inr (.inr κ)
 ·rcases i.MW s axv with κ | κ
  ·exact .inl κ
  ·rcases I _ κ with aa | aa
   ·left;rw [← aa] at hd;exact hd
   ·exact .inr aa
theorem Inv.aBl (o:iY cS k h) (i:Inv cS k h src aA Q s []) (hp:Q.Perm (e::qu)) (hd:aA e.1<0) (agM:∀ z∈Q,e.2+h e.1≤z.2+h z.1) (K':Aw e.1=e.2) (ff:∀ z,z≠e.1→Aw z=aA z):Inv cS k h src Aw qu e.1 (cS e.1)∧0≤e.2:=by
 have hs:∀ z∈qu,z∈Q:=λ z bE=>hp.symm.subset (aR7 _ bE);have I:∀ z∈Q,z=e∨z∈qu:=λ z bE=>aSc.1 (hp.subset bE);have HF:e∈Q:=hp.symm.subset aSe;have ahl:=i.akG HF;have lz:=ahl.qQ o;have mN:∀ z,0≤aA z→Aw z=aA z:=λ z bE=>ff z (λ bc=>by rw [bc] at bE;omega);have vC:tH cS k src e.1 e.2:=⟨ahl,λ ru r=>by
  obtain ⟨z,bE,hle⟩:=i.front o r hd;have:=agM z bE
  omega⟩
 have agz:∀ a,0≤Aw a→Aw a+h a≤e.2+h e.1:=λ a ha=>by
  by_cases bc:a=e.1
  ·subst bc;omega
  ·rw [ff a bc] at ha ⊢;exact i.mono a ha e HF
 refine ⟨⟨λ z bE=> ?_,λ a ha=> ?_,λ a ha=> ?_,λ a ha=> ?_,λ a ha c hc=> ?_,λ a ha=> ?_,λ a ha z bE=> ?_,λ _=>⟨by omega,λ y aK=>aK,λ a ha=>by rw [K'];exact agz a ha⟩⟩,lz⟩
 ·rcases i.q z (hs z bE) with κ | ⟨p,κ,aa,aw⟩
  ·exact .inl κ
  ·exact .inr ⟨p,by rw [mN p κ];exact κ,aa,by rw [mN p κ];exact aw⟩
 ·by_cases bc:a=e.1
  ·subst bc;omega
  ·rw [ff a bc] at ha ⊢;exact i.neg a ha
 ·by_cases bc:a=e.1
  ·rw [bc,K'];exact vC
  ·rw [ff a bc] at ha ⊢;exact i.oK a ha
 ·by_cases bc:a=e.1
  ·rw [bc,K'];rcases i.q e HF with κ | ⟨p,κ,aa,aw⟩
   ·exact .inl κ
   ·exact .inr ⟨p,by rw [mN p κ];exact κ,aa,by rw [mN p κ];exact aw⟩
  ·rw [ff a bc] at ha ⊢;rcases i.pred a ha with κ | ⟨p,κ,aa,aw⟩
   ·exact .inl κ
   ·exact .inr ⟨p,by rw [mN p κ];exact κ,aa,by rw [mN p κ];exact aw⟩
 ·by_cases bc:a=e.1
  ·exact .inr (.inr ⟨bc,by rw [← bc];exact hc⟩)
  ·rw [ff a bc] at ha ⊢;rcases i.MD a ha c hc with κ | κ | ⟨_,κ⟩
   ·left;rw [mN c κ];exact κ
   ·rcases I _ κ with aa | aa
    ·left;have:c=e.1:=by rw [← aa]
     rw [this,K'];exact lz
    ·exact .inr (.inl aa)
   ·simp at κ
 ·rcases i.MW a ha with κ | κ
  ·left;rw [mN a κ];exact κ
  ·rcases I _ κ with aa | aa
   ·left;have:a=e.1:=by rw [← aa]
    rw [this,K'];exact lz
   ·exact .inr aa
 ·have:=agz a ha;have:=agM z (hs z bE);omega
theorem Inv.push (o:iY cS k h) (i:Inv cS k h src aA Q x (y::rest)) (hp:qu.Perm ((y,aA x+k y)::Q)):Inv cS k h src aA qu x rest:=by
 have hs:∀ z∈Q,z∈qu:=λ z bE=>hp.symm.subset (aR7 _ bE);have hn:(y,aA x+k y)∈qu:=hp.symm.subset aSe;have I:∀ z∈qu,z=(y,aA x+k y)∨z∈Q:=λ z bE=>aSc.1 (hp.subset bE);obtain ⟨eL,e9,iN⟩:=i.amI (by simp);have ahu:=e9 y aSe;refine ⟨λ z bE=> ?_,i.neg,i.oK,i.pred,λ a ha c hc=> ?_,λ a ha=>(i.MW a ha).imp id (hs _),λ a ha z bE=> ?_,λ _=>⟨eL,λ c hc=>e9 c (aR7 _ hc),iN⟩⟩
 ·rcases I z bE with rfl | κ
  ·exact .inr ⟨x,eL,ahu,Z⟩
  ·exact i.q z κ
 ·rcases i.MD a ha c hc with κ | κ | ⟨κ,aa⟩
  ·exact .inl κ
  ·exact .inr (.inl (hs _ κ))
  ·rcases aSc.1 aa with aw | aw
   ·subst κ;subst aw;exact .inr (.inl hn)
   ·exact .inr (.inr ⟨κ,aw⟩)
 ·rcases I z bE with rfl | κ
  ·have:=iN a ha;have:=o.av x y ahu;dsimp only;omega
  ·exact i.mono a ha z κ
theorem Inv.skip (i:Inv cS k h src aA Q x (y::rest)) (aK:0≤aA y):Inv cS k h src aA Q x rest:=by
 obtain ⟨eL,e9,iN⟩:=i.amI (by simp);refine ⟨i.q,i.neg,i.oK,i.pred,λ a ha c hc=> ?_,i.MW,i.mono,λ _=>⟨eL,λ c hc=>e9 c (aR7 _ hc),iN⟩⟩;rcases i.MD a ha c hc with κ | κ | ⟨κ,aa⟩
 ·exact .inl κ
 ·exact .inr (.inl κ)
 ·rcases aSc.1 aa with aw | aw
  ·subst aw;exact .inl aK
  ·exact .inr (.inr ⟨κ,aw⟩)
theorem Inv.start (hn:∀ x,aA x= -1) (I:∀ e∈Q,src e.1∧e.2=0) (hs:∀ s,src s→(s,0)∈Q):Inv cS k h src aA Q x [] :=
 ⟨λ e he=> .inl (I e he),λ a _=>hn a,λ a ha=>by rw [hn a] at ha;omega,λ a ha=>by rw [hn a] at ha;omega,λ a ha=>by rw [hn a] at ha;omega,λ s κ=> .inr (hs s κ),λ a ha=>by rw [hn a] at ha;omega,λ κ=>absurd rfl κ⟩
theorem Inv.all (o:iY cS k h) (i:Inv cS k h src aA [] s []) (r:oG cS k src x d):0≤aA x:=by
 by_cases hx:aA x<0
 ·obtain ⟨e,he,_⟩:=i.front o r hx;simp at he
 ·omega
structure Spec (cS:α→List α) (k h:α→Int) (src:α→Prop) (b:α) (aA:α→Int):Prop where
 neg:∀ x,aA x<0→aA x= -1
 oK:∀ x,0≤aA x→tH cS k src x (aA x)∧∀ D,tH cS k src b D→aA x+h x≤D
 known:∀ x d,tH cS k src x d→(∀ D,tH cS k src b D→d+h x≤D)→aA x=d
 pred:∀ x,0≤aA x→(src x∧aA x=0)∨∃ p,0≤aA p∧x∈cS p∧aA x=aA p+k x
theorem Spec.uniq (s1:Spec cS k h src b aA) (s2:Spec cS k h src b Aw) (x:α):aA x=Aw x:=by
 by_cases κ:0≤aA x
 ·exact (s2.known x _ (s1.oK x κ).1 (s1.oK x κ).2).symm
 ·by_cases aa:0≤Aw x
  ·exact s1.known x _ (s2.oK x aa).1 (s2.oK x aa).2
  ·rw [s1.neg x (by omega),s2.neg x (by omega)]
theorem Inv.ends (o:iY cS k h) (i:Inv cS k h src aA Q s []) (Φ:h b=0) (hm:0≤aA b→∀ x,0≤aA x→aA x+h x≤aA b) (he:(0≤aA b∧∀ e∈Q,aA b<e.2+h e.1)∨Q= []):Spec cS k h src b aA:=by
 refine ⟨i.neg,λ x hx=>⟨i.oK x hx,λ D vC=> ?_⟩,λ x d hd hle=> ?_,i.pred⟩
 ·by_cases κ:0≤aA b
  ·have:=hm κ x hx;rw [vC.uniq (i.oK b κ)];exact this
  ·rcases he with he | he
   ·omega
   ·subst he;exact absurd (i.all o vC.1) κ
 ·by_cases κ:aA x<0
  ·obtain ⟨e,HF,av⟩:=i.front o hd.1 κ;rcases he with ⟨aa,aw⟩ | aa
   ·have:=hle _ (i.oK b aa);have:=aw e HF;omega
   ·subst aa;simp at HF
  ·exact (i.oK x (by omega)).uniq hd
theorem Spec.end_ (s:Spec cS k h src b aA) (Φ:h b=0) (hd:tH cS k src b D):aA b=D:=s.known b D hd λ aGN κ=>by rw [Φ,hd.uniq κ];omega
theorem oG.ahz (o:iY cS k h) (r:oG cS k src x d):∃ d,tH cS k src x d:=by
 have:∀ n:Nat,∀ d,oG cS k src x d→d.toNat=n→∃ d,tH cS k src x d:=by
  intro n;induction n using Nat.strongRecOn with
  | ind n bF =>
   intro d r hn;by_cases hex:∃ ru,oG cS k src x ru∧ru<d
   ·obtain ⟨ru,r',bC⟩:=hex;have:=r'.qQ o;exact bF ru.toNat (by omega) ru r' Z
   ·exact ⟨d,r,λ ru r'=>by
     by_cases bC:ru<d
     ·exact absurd ⟨ru,r',bC⟩ hex
     ·omega⟩
 exact this _ d r Z
end
end qq
end
end Go.Proofs.YtlikikpgmmkjbaaGreat
