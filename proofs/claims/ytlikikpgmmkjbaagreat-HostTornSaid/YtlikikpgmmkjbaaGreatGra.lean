import Derived.Test.YtlikikpgmmkjbaaGreatGol
set_option linter.unusedVariables false
set_option linter.unusedSimpArgs false
set_option maxRecDepth 100000
set_option maxHeartbeats 4000000
open Go.RowKit
namespace Go.Proofs.YtlikikpgmmkjbaaGreat
open Tryz
abbrev aQJ:=@List.mem_singleton
abbrev aRh:=@List.take_succ_eq_append_getElem
abbrev aSe:=@Int.le_refl
abbrev aU6:=@List.perm_append_singleton
abbrev aU9:=@List.Perm.refl
abbrev aVk:=@List.cons.inj
abbrev aVR:=@Int.not_le
abbrev aVZ:=@List.getElem?_set
section
theorem b0 {B:List Nat} {b n:Nat} (u:∀ q∈B,q<n) (h:n≤b:=by omega):∀ q∈B,q∈ [b]→False:=fun q I Φ=>by have:=u q I;have:=aQJ.1 Φ;omega
theorem bz {B:List Nat} {b n:Nat} (u:∀ q∈B,n≤q) (h:b<n:=by omega):∀ q∈B,q∈ [b]→False:=fun q I Φ=>by have:=u q I;have:=aQJ.1 Φ;omega
theorem aR {a b:Nat} (h:a≠b:=by omega):a∉ [b]:=fun e=>h (aQJ.1 e)
section
variable {P:Program} {n:Nat} {ops:Array Oper} {Q:Exit→Act→World→Prop} {E:List (Nat×Value)} {w w' w0:World} {v:Value} {ty:TypeId} {pos:String} {af:Array Edge} {x:Operand} {rest:List Oper} {d i:Nat} {bZ:List Nat} {aZ:Nat→Nat}
theorem ai {y:Code} (h:W P n y Q E w):cE P n ops (qU P y Q) [] E w:=nl (aV h)
theorem aj {id:Nat} {l:List Oper} {y:Code} (h:cE P n l.toArray (qU P y Q) l E w):W P n (.seq (.region id l.toArray false) y) Q E w:=aB (rg h)
theorem bs {y:Code} (h:W P n y Q E w):W P n .skip (qU P y Q) E w:=e6 (aV h)
theorem J {op:Op} (hr:cN P E ⟨some d,op,ty,pos,af,none⟩ w v w') (h:cE P n ops Q rest ((d,v)::E) w') (hd:Nat.blt d n=true:=by rfl):cE P n ops Q (⟨some d,op,ty,pos,af,none⟩::rest) E w:=h6 hr hd h
theorem vm (hx:ev E x=some v) (h:cE P n ops Q rest ((d,v)::E) w) (hd:Nat.blt d n=true:=by rfl):cE P n ops Q (⟨some d, .move x,ty,pos,af,none⟩::rest) E w:=h6 (aH hx) hd h
theorem va (hx:ev E x=some v) (h:cE P n ops Q rest ((d,v)::E) w) (hd:Nat.blt d n=true:=by rfl):cE P n ops Q (⟨some d, .assign x,ty,pos,af,none⟩::rest) E w:=h6 (eY hx) hd h
theorem aq {op:Op} (ar:ops[i]? =some ⟨some d,op,ty,pos,af,none⟩) (hr:∀ w,cN P E ⟨some d,op,ty,pos,af,none⟩ w v w) (h:jG P n ops Q aZ bZ ((d,v)::E) w0) (av:aZ i=1:=by rfl) (hd:Nat.blt d n=true:=by rfl):jG P n ops Q aZ (i::bZ) E w0:=q7 ar av hr hd h
theorem bE {op:Op} (ar:ops[i]? =some ⟨some d,op,ty,pos,af,none⟩) (hr:∀ w,Ext w0 w→cN P E ⟨some d,op,ty,pos,af,none⟩ w v w) (h:jG P n ops Q aZ bZ ((d,v)::E) w0) (av:aZ i=0:=by rfl) (hd:Nat.blt d n=true:=by rfl):jG P n ops Q aZ (i::bZ) E w0:=ad5 ar av hr hd h
end
theorem vE:∀ {cR E:List (Nat×Value)},cR.map (fun p=>look E p.1)=cR.map (fun p=>some p.2)→Sub cR E
 | [],_,_=>Sub.nil
 | (k,v)::r,E,h=>have c8:look E k::r.map (fun p=>look E p.1)=some v::r.map (fun p=>some p.2):=h
  Sub.cons (aVk c8).1 (vE (aVk c8).2)
theorem cv:(∀ (a b:Bool),((a || b)=true)↔(a=true∨b=true))∧(∀ (a b:Bool),((a || b)=false)↔(a=false∧b=false))∧(∀ (a b:Bool),((a && b)=true)↔(a=true∧b=true))∧(∀ (a b:Bool),((a && b)=false)↔(a=false∨b=false))∧(∀ (p:Prop) [Decidable p],(decide p=true)↔p)∧(∀ (p:Prop) [Decidable p],(decide p=false)↔¬ p)∧(∀ (α:Type) [BEq α] [LawfulBEq α] (a b:α),((a == b)=true)↔(a=b))∧(∀ (α:Type) [BEq α] [LawfulBEq α] (a b:α),((a != b)=true)↔(a≠b))∧(∀ (α:Type) [BEq α] [LawfulBEq α] (a b:α),((a == b)=false)↔(a≠b))∧(∀ (α:Type) [BEq α] [LawfulBEq α] (a b:α),((a != b)=false)↔(a=b))∧(∀ b:Bool,((!b)=true)↔(b=false))∧(∀ b:Bool,((!b)=false)↔(b=true))∧(∀ b:Bool,(¬ (b=true))↔(b=false))∧(∀ b:Bool,(¬ (b=false))↔(b=true))∧(∀ a b:Int,(¬ a<b)↔b≤a)∧(∀ a b:Int,(¬ a≤b)↔b<a)∧(∀ a b:Nat,(¬ a<b)↔b≤a)∧(∀ a b:Nat,(¬ a≤b)↔b<a)∧(∀ (α:Type) (a b:α),(a≠b)↔¬ (a=b))∧(∀ p:Prop,(¬ ¬ p)↔p):=
 ⟨fun a b=>by cases a<;>cases b<;>simp,fun a b=>by cases a<;>cases b<;>simp,fun a b=>by cases a<;>cases b<;>simp,fun a b=>by cases a<;>cases b<;>simp,fun p _=>by simp,fun p _=>by simp,fun α _ _ a b=>by simp,fun α _ _ a b=>by simp,fun α _ _ a b=>by simp,fun α _ _ a b=>by simp,fun b=>by simp,fun b=>by simp,fun b=>by simp,fun b=>by simp,fun _ _=>Int.not_lt,fun _ _=>aVR,fun _ _=>Nat.not_lt,fun _ _=>Nat.not_le,fun _ _ _=>Iff.rfl,fun _=>Classical.not_not⟩
theorem a7 (j:Nat) {n:Nat} (h:j<n:=by omega):0<n:=Nat.zero_lt_of_lt h
theorem κ {a b c:World} (h:Ext a b) (k:Ext b c):Ext a c:=Ext.t_ h k
theorem bw {b n:Nat} (h:n≤b:=by omega):∀ q∈ [b],n≤q:=fun q I=>by rw [aQJ.1 I];exact h
theorem iv:Fd prog 49 0 0:=fun _ _ _=>by kernel_rfl
theorem bd:eD prog 3 false:=fun _=>by kernel_rfl
theorem iw:Fd prog 49 1 1:=fun _ _ _=>by kernel_rfl
theorem cf:eD prog 49 true:=fun _=>by kernel_rfl
theorem bS:eF prog 49 2:=fun _=>by kernel_rfl
theorem OO:Enters prog 193 :=b6 func193
theorem OQ:Enters prog 194 :=b6 func194
theorem dr:eF prog 3 1:=fun _=>by kernel_rfl
theorem oq:eF prog 313 4:=fun _=>by kernel_rfl
theorem OS:Fd prog 313 2 3:=fun _ _ _=>by kernel_rfl
theorem Oz:eD prog 313 true:=fun _=>by kernel_rfl
theorem pg:eD prog 263 false:=fun _=>by kernel_rfl
theorem OD:Enters prog 265 :=b6 func265
theorem OE:Enters prog 266 :=b6 func266
theorem adi:eF prog 263 1:=fun _=>by kernel_rfl
theorem adk:l_ prog 313 (.agg #[.int .i64 0, .int .i64 0, .int .i64 0, .int .i64 0]):=fun _=>by kernel_rfl
theorem arj:Enters prog 268 :=b6 func268
theorem JH:Enters prog 219 :=b6 func219
theorem aru:Enters prog 239 :=b6 func239
theorem arz:Enters prog 240 :=b6 func240
theorem arJ:Enters prog 267 :=b6 func267
theorem adr:Fd prog 265 0 0:=fun _ _ _=>by kernel_rfl
theorem JM:Fd prog 24 0 0:=fun _ _ _=>by kernel_rfl
theorem kN:eD prog 24 true:=fun _=>by kernel_rfl
theorem kO:eF prog 24 3:=fun _=>by kernel_rfl
theorem q4:Enters prog 158 :=b6 func158
theorem ar6:Enters prog 199 :=b6 func199
theorem ar8:l_ prog 260 (.agg #[.int .i64 0, .int .i64 0, .int .i64 0, .int .i64 0, .int .i64 0, .int .i64 0, .int .i64 0, .int .i64 0]):=fun _=>by kernel_rfl
theorem adB:eF prog 260 8:=fun _=>by kernel_rfl
theorem ar9:eD prog 260 true:=fun _=>by kernel_rfl
theorem adC:Fd prog 265 1 3:=fun _ _ _=>by kernel_rfl
theorem adD:Enters prog 161 :=b6 func161
theorem D9:Fd prog 265 3 6:=fun _ _ _=>by kernel_rfl
theorem asa:Enters prog 218 :=b6 func218
theorem mg:Enters prog 166 :=b6 func166
theorem oo:Fd prog 265 2 5:=fun _ _ _=>by kernel_rfl
theorem fK:eD prog 22 false:=fun _=>by kernel_rfl
theorem asb:Enters prog 220 :=b6 func220
theorem T7:Fd prog 313 0 0:=fun _ _ _=>by kernel_rfl
theorem adE:Fd prog 313 1 2:=fun _ _ _=>by kernel_rfl
theorem adF:Enters prog 165 :=b6 func165
theorem wI:l_ prog 49 (.agg #[.int .i64 0, .int .i64 0]):=fun _=>by kernel_rfl
theorem T8:Enters prog 164 :=b6 func164
theorem T9:Enters prog 197 :=b6 func197
theorem asc:Enters prog 217 :=b6 func217
theorem wJ:Fd prog 24 2 2:=fun _ _ _=>by kernel_rfl
theorem adG:Enters prog 196 :=b6 func196
theorem adH:Enters prog 198 :=b6 func198
theorem adI:Enters prog 163 :=b6 func163
theorem ase:Enters prog 167 :=b6 func167
theorem asf:Enters prog 216 :=b6 func216
theorem adJ:Enters prog 195 :=b6 func195
theorem OP:Fd prog 66 2 2:=fun _ _ _=>by kernel_rfl
theorem T_:Enters prog 128 :=b6 func128
theorem T':l_ prog 207 (.agg #[.int .i64 0, .int .i64 0, .int .i64 0, .int .i64 0]):=fun _=>by kernel_rfl
theorem Ua:eF prog 207 4:=fun _=>by kernel_rfl
theorem tz:Fd prog 66 3 3:=fun _ _ _=>by kernel_rfl
theorem D_:Fd prog 66 1 1:=fun _ _ _=>by kernel_rfl
theorem asg:Fd prog 207 1 1:=fun _ _ _=>by kernel_rfl
theorem qc:Fd prog 28 0 0:=fun _ _ _=>by kernel_rfl
theorem ash:Enters prog 162 :=b6 func162
theorem c7:eD prog 28 true:=fun _=>by kernel_rfl
theorem b3:eF prog 28 9:=fun _=>by kernel_rfl
theorem Gw:Enters prog 56 :=b6 func56
theorem jL:Fd prog 28 4 6:=fun _ _ _=>by kernel_rfl
theorem lr:eD prog 26 false:=fun _=>by kernel_rfl
theorem j3:eF prog 66 7:=fun _=>by kernel_rfl
theorem ym:eD prog 66 true:=fun _=>by kernel_rfl
theorem JP:l_ prog 66 (.agg #[.int .i64 0, .int .i64 0, .int .i64 0, .int .i64 0, .int .i64 0, .int .i64 0, .int .i64 0]):=fun _=>by kernel_rfl
theorem Gx:Fd prog 66 0 0:=fun _ _ _=>by kernel_rfl
theorem Ub:eF prog 223 2:=fun _=>by kernel_rfl
theorem asi:eD prog 223 true:=fun _=>by kernel_rfl
theorem asj:l_ prog 223 (.agg #[.int .i64 0, .int .i64 0]):=fun _=>by kernel_rfl
theorem asl:Fd prog 223 0 0:=fun _ _ _=>by kernel_rfl
theorem OR:l_ prog 3 (.int .i64 0):=fun _=>by kernel_rfl
theorem asm:Fd prog 223 1 1:=fun _ _ _=>by kernel_rfl
theorem Uc:eF prog 4 1:=fun _=>by kernel_rfl
theorem Gy:eD prog 4 false:=fun _=>by kernel_rfl
theorem asn:Enters prog 134 :=b6 func134
theorem aso:Fd prog 207 2 2:=fun _ _ _=>by kernel_rfl
theorem mh:l_ prog 28 (.agg #[.int .i64 0, .int .i64 0, .slice none 0 0, .slice none 0 0, .slice none 0 0, .slice none 0 0, .slice none 0 0, .int .i64 0, .int .i64 0]):=fun _=>by kernel_rfl
theorem zY:Enters prog 27 :=b6 func27
theorem wK:eF prog 22 1:=fun _=>by kernel_rfl
theorem qd:Fd prog 28 1 3:=fun _ _ _=>by kernel_rfl
theorem tA:eD prog 25 false:=fun _=>by kernel_rfl
theorem tB:Fd prog 28 2 4:=fun _ _ _=>by kernel_rfl
theorem Ud:Enters prog 101 :=b6 func101
theorem Ue:eF prog 25 1:=fun _=>by kernel_rfl
theorem yn:Fd prog 28 3 5:=fun _ _ _=>by kernel_rfl
theorem Uf:Enters prog 26 :=b6 func26
theorem JQ:eF prog 26 1:=fun _=>by kernel_rfl
theorem asp:Enters prog 95 :=b6 func95
theorem asq:Enters prog 96 :=b6 func96
theorem OT:Fd prog 66 4 5:=fun _ _ _=>by kernel_rfl
theorem Ug:eF prog 225 3:=fun _=>by kernel_rfl
theorem asr:eD prog 225 true:=fun _=>by kernel_rfl
theorem ass:Fd prog 225 0 0:=fun _ _ _=>by kernel_rfl
theorem Gz:eD prog 227 false:=fun _=>by kernel_rfl
theorem ast:Enters prog 136 :=b6 func136
theorem asu:l_ prog 227 (.pointer none):=fun _=>by kernel_rfl
theorem aqS:eF prog 227 1:=fun _=>by kernel_rfl
theorem aqT:Enters prog 135 :=b6 func135
theorem aqU:Fd prog 225 1 1:=fun _ _ _=>by kernel_rfl
theorem aqV:Enters prog 137 :=b6 func137
theorem aqW:Enters prog 97 :=b6 func97
theorem aqX:Enters prog 98 :=b6 func98
theorem yj:Fd prog 178 1 1:=fun _ _ _=>by kernel_rfl
theorem OA:Enters prog 168 :=b6 func168
theorem OB:Enters prog 169 :=b6 func169
theorem zU:Fd prog 66 5 6:=fun _ _ _=>by kernel_rfl
theorem OC:Fd prog 178 2 2:=fun _ _ _=>by kernel_rfl
theorem mV:Fd prog 176 0 0:=fun _ _ _=>by kernel_rfl
theorem aqY:Enters prog 202 :=b6 func202
theorem adg:Fd prog 178 3 4:=fun _ _ _=>by kernel_rfl
theorem adh:Fd prog 207 3 3:=fun _ _ _=>by kernel_rfl
theorem D5:Fd prog 28 5 7:=fun _ _ _=>by kernel_rfl
theorem aqZ:Enters prog 170 :=b6 func170
theorem aq0:Fd prog 207 0 0:=fun _ _ _=>by kernel_rfl
theorem aq1:Fd prog 178 0 0:=fun _ _ _=>by kernel_rfl
theorem JG:eD prog 178 true:=fun _=>by kernel_rfl
theorem D6:eF prog 178 5:=fun _=>by kernel_rfl
theorem aq2:Enters prog 138 :=b6 func138
theorem aq3:Enters prog 139 :=b6 func139
theorem aq4:Enters prog 140 :=b6 func140
theorem aq5:Enters prog 99 :=b6 func99
theorem aq6:l_ prog 176 (.agg #[.int .i64 0, .int .i64 0, .slice none 0 0, .slice none 0 0, .slice none 0 0, .slice none 0 0, .slice none 0 0, .int .i64 0, .int .i64 0]):=fun _=>by kernel_rfl
theorem aq7:eF prog 176 9:=fun _=>by kernel_rfl
theorem aq8:l_ prog 178 (.agg #[.int .i64 0, .int .i64 0, .int .i64 0, .int .i64 0, .int .i64 0]):=fun _=>by kernel_rfl
theorem aq9:Enters prog 100 :=b6 func100
theorem TQ:Fd prog 24 1 1:=fun _ _ _=>by kernel_rfl
theorem TR:Enters prog 31 :=b6 func31
theorem ara:Enters prog 49 :=b6 func49
theorem arb:Enters prog 50 :=b6 func50
theorem arc:Enters prog 30 :=b6 func30
theorem D7:Fd prog 28 6 8:=fun _ _ _=>by kernel_rfl
theorem OG:l_ prog 51 (.agg #[.int .i64 0, .int .i64 0, .int .i64 0, .int .i64 0, .int .i64 0, .int .i64 0]):=fun _=>by kernel_rfl
theorem ph:Fd prog 51 1 1:=fun _ _ _=>by kernel_rfl
theorem BK:Fd prog 51 2 2:=fun _ _ _=>by kernel_rfl
theorem BL:Fd prog 51 3 3:=fun _ _ _=>by kernel_rfl
theorem BM:Fd prog 51 4 5:=fun _ _ _=>by kernel_rfl
theorem jc:eD prog 51 true:=fun _=>by kernel_rfl
theorem fF:eF prog 51 6:=fun _=>by kernel_rfl
theorem tx:Fd prog 51 0 0:=fun _ _ _=>by kernel_rfl
theorem Gs:Enters prog 145 :=b6 func145
theorem ard:Enters prog 146 :=b6 func146
theorem TS:Enters prog 104 :=b6 func104
theorem TT:Fd prog 169 0 0:=fun _ _ _=>by kernel_rfl
theorem adj:eD prog 123 false:=fun _=>by kernel_rfl
theorem arf:eF prog 123 1:=fun _=>by kernel_rfl
theorem TU:Fd prog 169 1 1:=fun _ _ _=>by kernel_rfl
theorem adl:eD prog 124 false:=fun _=>by kernel_rfl
theorem arh:eF prog 124 1:=fun _=>by kernel_rfl
theorem D8:Fd prog 169 2 2:=fun _ _ _=>by kernel_rfl
theorem OH:eD prog 125 false:=fun _=>by kernel_rfl
theorem TV:eF prog 125 1:=fun _=>by kernel_rfl
theorem TW:Enters prog 87 :=b6 func87
theorem ari:l_ prog 169 (.agg #[.slice none 0 0, .slice none 0 0, .slice none 0 0]):=fun _=>by kernel_rfl
theorem adm:Enters prog 94 :=b6 func94
theorem Gt:l_ prog 60 (.agg #[.slice none 0 0, .slice none 0 0, .slice none 0 0]):=fun _=>by kernel_rfl
theorem TX:Enters prog 60 :=b6 func60
theorem zV:eF prog 60 3:=fun _=>by kernel_rfl
theorem OI:eD prog 60 true:=fun _=>by kernel_rfl
theorem adn:Enters prog 61 :=b6 func61
theorem ark:Fd prog 60 0 0:=fun _ _ _=>by kernel_rfl
theorem arl:Enters prog 62 :=b6 func62
theorem arn:Fd prog 60 1 1:=fun _ _ _=>by kernel_rfl
theorem aro:Enters prog 63 :=b6 func63
theorem arp:Fd prog 60 2 2:=fun _ _ _=>by kernel_rfl
theorem arq:eF prog 58 1:=fun _=>by kernel_rfl
theorem ado:Enters prog 92 :=b6 func92
theorem ars:Enters prog 83 :=b6 func83
theorem OJ:Enters prog 57 :=b6 func57
theorem art:Enters prog 58 :=b6 func58
theorem adp:Enters prog 20 :=b6 func20
theorem BN:eF prog 44 1:=fun _=>by kernel_rfl
theorem pj:eD prog 44 false:=fun _=>by kernel_rfl
theorem TY:Enters prog 25 :=b6 func25
theorem JI:Fd prog 31 0 0:=fun _ _ _=>by kernel_rfl
theorem u2:Fd prog 31 1 9:=fun _ _ _=>by kernel_rfl
theorem zW:eD prog 29 false:=fun _=>by kernel_rfl
theorem JJ:Enters prog 47 :=b6 func47
theorem arv:Enters prog 114 :=b6 func114
theorem kq:eF prog 90 3:=fun _=>by kernel_rfl
theorem BO:eD prog 90 true:=fun _=>by kernel_rfl
theorem arw:Enters prog 171 :=b6 func171
theorem Gu:Fd prog 90 1 1:=fun _ _ _=>by kernel_rfl
theorem JK:Fd prog 90 2 2:=fun _ _ _=>by kernel_rfl
theorem q2:Fd prog 90 0 0:=fun _ _ _=>by kernel_rfl
theorem arx:Enters prog 173 :=b6 func173
theorem ary:Enters prog 172 :=b6 func172
theorem arA:Enters prog 142 :=b6 func142
theorem arB:Enters prog 141 :=b6 func141
theorem OK:l_ prog 90 (.agg #[.slice none 0 0, .int .i64 0, .bool false]):=fun _=>by kernel_rfl
theorem arC:Enters prog 143 :=b6 func143
theorem arD:Enters prog 115 :=b6 func115
theorem arE:Enters prog 84 :=b6 func84
theorem arF:Enters prog 85 :=b6 func85
theorem arG:l_ prog 44 (.slice none 0 0):=fun _=>by kernel_rfl
theorem arH:Enters prog 86 :=b6 func86
theorem arI:Enters prog 121 :=b6 func121
theorem TZ:l_ prog 31 (.agg #[.int .i64 0, .int .i64 0, .slice none 0 0, .slice none 0 0, .slice none 0 0, .slice none 0 0, .slice none 0 0, .int .i64 0, .int .i64 0, .slice none 0 0]):=fun _=>by kernel_rfl
theorem q3:eF prog 31 10:=fun _=>by kernel_rfl
theorem BP:eD prog 31 true:=fun _=>by kernel_rfl
theorem JL:Enters prog 28 :=b6 func28
theorem T1:eF prog 29 1:=fun _=>by kernel_rfl
theorem OL:Enters prog 102 :=b6 func102
theorem T2:Enters prog 105 :=b6 func105
theorem u3:eF prog 73 1:=fun _=>by kernel_rfl
theorem qb:eD prog 73 false:=fun _=>by kernel_rfl
theorem adq:Enters prog 174 :=b6 func174
theorem u4:Fd prog 83 0 0:=fun _ _ _=>by kernel_rfl
theorem u5:Fd prog 83 1 1:=fun _ _ _=>by kernel_rfl
theorem yk:eD prog 81 false:=fun _=>by kernel_rfl
theorem arK:Enters prog 176 :=b6 func176
theorem arL:Enters prog 175 :=b6 func175
theorem om:eD prog 83 true:=fun _=>by kernel_rfl
theorem j1:eF prog 83 2:=fun _=>by kernel_rfl
theorem T3:Enters prog 144 :=b6 func144
theorem OM:l_ prog 83 (.agg #[.int .u32 0, .slice none 0 0]):=fun _=>by kernel_rfl
theorem ads:Enters prog 103 :=b6 func103
theorem T4:Enters prog 147 :=b6 func147
theorem adt:Enters prog 36 :=b6 func36
theorem adu:eF prog 81 1:=fun _=>by kernel_rfl
theorem arM:Enters prog 148 :=b6 func148
theorem JN:l_ prog 85 (.agg #[.int .i64 0, .int .i64 0, .slice none 0 0, .slice none 0 0, .slice none 0 0, .slice none 0 0, .slice none 0 0, .int .i64 0, .int .i64 0, .slice none 0 0, .slice none 0 0, .int .u32 0, .slice none 0 0, .int .i64 0]):=fun _=>by kernel_rfl
theorem zX:Fd prog 85 0 0:=fun _ _ _=>by kernel_rfl
theorem r_:Fd prog 85 1 10:=fun _ _ _=>by kernel_rfl
theorem yl:eD prog 80 false:=fun _=>by kernel_rfl
theorem ON:eF prog 80 1:=fun _=>by kernel_rfl
theorem BQ:Fd prog 85 2 11:=fun _ _ _=>by kernel_rfl
theorem j2:eD prog 85 true:=fun _=>by kernel_rfl
theorem fQ:eF prog 85 14:=fun _=>by kernel_rfl
theorem arN:Enters prog 46 :=b6 func46
theorem adv:Fd prog 85 3 13:=fun _ _ _=>by kernel_rfl
theorem adw:Enters prog 69 :=b6 func69
theorem arO:Enters prog 106 :=b6 func106
theorem arP:Enters prog 23 :=b6 func23
theorem arQ:Enters prog 79 :=b6 func79
theorem arR:Enters prog 107 :=b6 func107
theorem arS:Enters prog 108 :=b6 func108
theorem arT:Enters prog 64 :=b6 func64
theorem arU:Enters prog 65 :=b6 func65
theorem arV:Fd prog 87 0 0:=fun _ _ _=>by kernel_rfl
theorem arW:Fd prog 87 1 1:=fun _ _ _=>by kernel_rfl
theorem arX:Enters prog 66 :=b6 func66
theorem arY:Enters prog 67 :=b6 func67
theorem arZ:Fd prog 87 2 7:=fun _ _ _=>by kernel_rfl
theorem ar0:Fd prog 87 3 8:=fun _ _ _=>by kernel_rfl
theorem ar1:Enters prog 68 :=b6 func68
theorem ar2:Enters prog 70 :=b6 func70
theorem Gv:eF prog 9 1:=fun _=>by kernel_rfl
theorem T5:eD prog 9 false:=fun _=>by kernel_rfl
theorem ar3:Enters prog 55 :=b6 func55
theorem adx:Enters prog 48 :=b6 func48
theorem ar4:Enters prog 40 :=b6 func40
theorem ady:Enters prog 39 :=b6 func39
theorem JO:Enters prog 33 :=b6 func33
theorem adz:Enters prog 34 :=b6 func34
theorem T6:eF prog 5 1:=fun _=>by kernel_rfl
theorem ar5:eD prog 5 false:=fun _=>by kernel_rfl
theorem ar7:Enters prog 35 :=b6 func35
theorem adA:Enters prog 15 :=b6 func15
end
section
namespace ct
section
variable {α:Type} [Inhabited α] {key:α→Int} {l:List α} {i j n k:Nat} {x:α}
def swp (l:List α) (i j:Nat):List α:=(l.set i (l.getD j default)).set j (l.getD i default)
theorem l1:(swp l i j).length=l.length:=by unfold swp;rw [aQS,aQS]
theorem aei {i k:Nat} (ar:i<l.length):(l.set i x).getD k default=if k=i then x else l.getD k default:=by
 rw [aQK,aQK,aVZ];by_cases e:i=k
 ·subst e;rw [aQZ rfl,aQZ rfl];simp [ar]
 ·rw [aQV e,aQV (λ h=>e h.symm)]
theorem CJ (ar:i<l.length) (ay:j<l.length):(swp l i j).getD k default=if k=j then l.getD i default else if k=i then l.getD j default else l.getD k default:=by
 unfold swp;rw [aei (by rw [aQS];exact ay),aei ar]
theorem CK (ar:i<l.length) (ay:j<l.length):(swp l i j).Perm l:=by
 have h:=Array.swap_perm (xs:=l.toArray) (i:=i) (j:=j) (by simpa using ar) (by simpa using ay);have h:=h.toList;have e:(l.toArray.swap i j (by simpa using ar) (by simpa using ay)).toList=swp l i j:=by
  unfold swp;rw [aQK,aQK,aQN ar,aQN ay];simp [Array.swap]
 rw [e] at h;simpa using h
def pU (key:α→Int) (l:List α) (j:Nat):List α :=
 if 0<j∧key (l.getD j default)<key (l.getD ((j - 1) / 2) default) then pU key (swp l ((j - 1) / 2) j) ((j - 1) / 2) else l
termination_by j
decreasing_by omega
def nO (key:α→Int) (n:Nat) (l:List α) (i:Nat):Nat:=if 2 * i+2<n∧key (l.getD (2 * i+2) default)<key (l.getD (2 * i+1) default) then 2 * i+2 else 2 * i+1
theorem LA:i<nO key n l i:=by unfold nO;split<;>omega
theorem WT (h:2 * i+1<n):nO key n l i<n:=by unfold nO;split<;>omega
theorem ayc:(nO key n l i - 1) / 2=i:=by unfold nO;split<;>omega
theorem aic (av:0<k) (hn:k<n) (hp:(k - 1) / 2=i):key (l.getD (nO key n l i) default)≤key (l.getD k default):=by
 have:k=2 * i+1∨k=2 * i+2:=by omega
 unfold nO;split
 ·rename_i h
  rcases this with rfl | rfl
  ·omega
  ·exact aSe _
 ·rename_i h
  rcases this with rfl | rfl
  ·exact aSe _
  ·have:¬ key (l.getD (2 * i+2) default)<key (l.getD (2 * i+1) default):=λ fM=>h ⟨hn,fM⟩;omega
def jK (key:α→Int) (n:Nat) (l:List α) (i:Nat):List α :=
 if 2 * i+1<n∧key (l.getD (nO key n l i) default)<key (l.getD i default) then jK key n (swp l i (nO key n l i)) (nO key n l i) else l
termination_by n - i
decreasing_by rename_i h;have:=LA (key:=key) (n:=n) (l:=l) (i:=i);omega
theorem aC6:∀ (j:Nat) (l:List α),(pU key l j).length=l.length:=by
 intro j;induction j using Nat.strongRecOn with
 | ind j bt =>
  intro l;unfold pU;split
  ·rw [bt _ (by omega),l1]
  ·rfl
theorem aC7:∀ (j:Nat) (l:List α),j<l.length→(pU key l j).Perm l:=by
 intro j;induction j using Nat.strongRecOn with
 | ind j bt =>
  intro l az;unfold pU;split
  ·exact (bt _ (by omega) _ (by rw [l1];omega)).trans (CK (by omega) az)
  ·exact aU9 _
theorem ac4 (n:Nat):∀ (m i:Nat) (l:List α),n - i≤m→(jK key n l i).length=l.length:=by
 intro m;induction m with
 | zero=>intro i l h;unfold jK;rw [aQV (by omega)]
 | succ m bt =>
  intro i l h;unfold jK;split
  ·have:=LA (key:=key) (n:=n) (l:=l) (i:=i);rw [bt _ _ (by omega),l1]
  ·rfl
theorem ac5 (n:Nat):∀ (m i:Nat) (l:List α),n - i≤m→n≤l.length→i<l.length→(jK key n l i).Perm l:=by
 intro m;induction m with
 | zero=>intro i l h _ _;unfold jK;rw [aQV (by omega)]
 | succ m bt =>
  intro i l h hn ar;unfold jK;split
  ·rename_i hc
   have:=LA (key:=key) (n:=n) (l:=l) (i:=i);have:=WT (key:=key) (l:=l) hc.1;exact (bt _ _ (by omega) (by rw [l1];exact hn) (by rw [l1];omega)).trans (CK ar (by omega))
  ·exact aU9 _
theorem aqz (n:Nat):∀ (m i:Nat) (l:List α),n - i≤m→n≤l.length→i<l.length→∀ k,n≤k→i<n→(jK key n l i).getD k default=l.getD k default:=by
 intro m;induction m with
 | zero=>intro i l h _ _ k _ _;unfold jK;rw [aQV (by omega)]
 | succ m bt =>
  intro i l h hn ar k av dn;unfold jK;split
  ·rename_i hc
   have γ:=LA (key:=key) (n:=n) (l:=l) (i:=i);have ab:=WT (key:=key) (l:=l) hc.1;rw [bt _ _ (by omega) (by rw [l1];exact hn) (by rw [l1];omega) k av ab,CJ ar (by omega),aQV (by omega),aQV (by omega)]
  ·rfl
def Heap (key:α→Int) (n:Nat) (l:List α):Prop:=∀ i,0<i→i<n→key (l.getD ((i - 1) / 2) default)≤key (l.getD i default)
theorem aC5 (n:Nat):∀ (j:Nat) (l:List α),j<n→n≤l.length→(∀ i,0<i→i<n→i≠j→key (l.getD ((i - 1) / 2) default)≤key (l.getD i default))→
  (∀ i,0<i→i<n→(i - 1) / 2=j→0<j→key (l.getD ((j - 1) / 2) default)≤key (l.getD i default))→Heap key n (pU key l j):=by
 intro j;induction j using Nat.strongRecOn with
 | ind j bt =>
  intro l ay hn γ ab;unfold pU;split
  ·rename_i hc
   obtain ⟨aF,bA⟩:=hc;have aM:∀ k,(swp l ((j - 1) / 2) j).getD k default=if k=j then l.getD ((j - 1) / 2) default else if k=(j - 1) / 2 then l.getD j default else l.getD k default:=λ k=>CJ (by omega) (by omega)
   refine bt _ (by omega) _ (by omega) (by rw [l1];exact hn) (λ i j8 dn fb=> ?_) (λ i j8 dn hp yq=> ?_)
   ·rw [aM,aM];by_cases e:i=j
    ·subst e;rw [aQZ rfl,aQV (by omega),aQZ rfl];omega
    ·rw [aQV e,aQV fb];by_cases bh:(i - 1) / 2=j
     ·rw [aQZ bh];exact ab i j8 dn bh aF
     ·rw [aQV bh];by_cases cD:(i - 1) / 2=(j - 1) / 2
      ·rw [aQZ cD];have:=γ i j8 dn e;rw [cD] at this;omega
      ·rw [aQV cD];exact γ i j8 dn e
   ·rw [aM,aM];rw [aQV (by omega),aQV (by omega)];have PT:=γ ((j - 1) / 2) yq (by omega) (by omega);by_cases e:i=j
    ·rw [aQZ e];exact PT
    ·rw [aQV e,aQV (by omega)];have:=γ i j8 dn e;rw [hp] at this;omega
  ·rename_i hc
   intro i j8 dn;by_cases e:i=j
   ·subst e;have:¬ key (l.getD i default)<key (l.getD ((i - 1) / 2) default):=λ h=>hc ⟨j8,h⟩;omega
   ·exact γ i j8 dn e
theorem aqy (n:Nat):∀ (m i0:Nat) (l:List α),n - i0≤m→i0<l.length→n≤l.length→(∀ i,0<i→i<n→(i - 1) / 2≠i0→key (l.getD ((i - 1) / 2) default)≤key (l.getD i default))→
  (∀ i,0<i→i<n→(i - 1) / 2=i0→0<i0→key (l.getD ((i0 - 1) / 2) default)≤key (l.getD i default))→Heap key n (jK key n l i0):=by
 intro m;induction m with
 | zero =>
  intro i0 l h _ _ γ _;unfold jK;rw [aQV (by omega)];intro i j8 dn;exact γ i j8 dn (by omega)
 | succ m bt =>
  intro i0 l h G7 hn γ ab;unfold jK;split
  ·rename_i hc
   obtain ⟨Vx,bA⟩:=hc;have g1:=LA (key:=key) (n:=n) (l:=l) (i:=i0);have g2:=WT (key:=key) (l:=l) Vx;have g3:=ayc (key:=key) (n:=n) (l:=l) (i:=i0);have g4:=λ k av hn hp=>aic (key:=key) (n:=n) (l:=l) (i:=i0) (k:=k) av hn hp;generalize ay:nO key n l i0=j at *
   have aM:∀ k,(swp l i0 j).getD k default=if k=j then l.getD i0 default else if k=i0 then l.getD j default else l.getD k default:=λ k=>CJ G7 (by omega)
   refine bt _ _ (by omega) (by rw [l1];omega) (by rw [l1];exact hn) (λ i j8 dn fb=> ?_) (λ i j8 dn hp yq=> ?_)
   ·rw [aM,aM];rw [aQV fb];by_cases e:(i - 1) / 2=i0
    ·rw [aQZ e];by_cases bh:i=j
     ·rw [aQZ bh];omega
     ·rw [aQV bh,aQV (by omega)];exact g4 i j8 dn e
    ·rw [aQV e];by_cases bh:i=j
     ·omega
     ·rw [aQV bh];by_cases cD:i=i0
      ·rw [aQZ cD];have:=ab j (by omega) g2 g3 (by omega);rw [cD];exact this
      ·rw [aQV cD];exact γ i j8 dn e
   ·rw [aM,aM,g3];rw [aQV (by omega),aQZ rfl,aQV (by omega),aQV (by omega)];have:=γ i j8 dn (by omega);rw [hp] at this;exact this
  ·rename_i hc
   intro i j8 dn;by_cases e:(i - 1) / 2=i0
   ·have Vx:2 * i0+1<n:=by omega
    have:¬ key (l.getD (nO key n l i0) default)<key (l.getD i0 default):=λ h=>hc ⟨Vx,h⟩;have:=aic (key:=key) (n:=n) (l:=l) j8 dn e;rw [e];omega
   ·exact γ i j8 dn e
theorem Heap.min (h:Heap key n l):∀ i,i<n→key (l.getD 0 default)≤key (l.getD i default):=by
 intro i;induction i using Nat.strongRecOn with
 | ind i bt =>
  intro ar;by_cases aF:0<i
  ·exact Int.le_trans (bt ((i - 1) / 2) (by omega) (by omega)) (h i aF ar)
  ·have:i=0:=by omega
   subst this;exact aSe _
def push (key:α→Int) (l:List α) (x:α):List α:=pU key (l++ [x]) l.length
theorem LY:(push key l x).length=l.length+1:=by unfold push;rw [aC6,aQU];rfl
theorem ajg:(push key l x).Perm (x::l):=(aC7 _ _ (by rw [aQU];simp)).trans (aU6 x l)
theorem abh (h:k<l.length):(l++ [x]).getD k default=l.getD k default:=by
 rw [aQK,aQK,aQ5 h]
theorem aAh (h:Heap key l.length l):Heap key (push key l x).length (push key l x):=by
 rw [LY];refine aC5 _ _ _ (by omega) (by simp) (λ i j8 dn fb=> ?_) (λ i j8 dn hp aF=>by omega);rw [abh (by omega),abh (by omega)];exact h i j8 (by omega)
def xj (key:α→Int) (l:List α):List α:=jK key (l.length - 1) (swp l 0 (l.length - 1)) 0
def nV (key:α→Int) (l:List α):List α:=(xj key l).take (l.length - 1)
theorem ai9:(xj key l).length=l.length:=by unfold xj;rw [ac4 _ _ _ _ (aQW _),l1]
theorem HM:(nV key l).length=l.length - 1:=by unfold nV;rw [aQP,ai9];omega
theorem ai8 (aF:0<l.length):(xj key l).getD (l.length - 1) default=l.getD 0 default:=by
 unfold xj;by_cases γ:l.length - 1=0
 ·unfold jK;rw [aQV (by omega),CJ aF (by omega),aQZ rfl]
 ·rw [aqz _ _ _ _ (aQW _) (by rw [l1];omega) (by rw [l1];omega) _ (aQW _) (by omega),CJ aF (by omega),aQZ rfl]
theorem ajb (aF:0<l.length):(l.getD 0 default::nV key l).Perm l:=by
 have γ:(xj key l).Perm l:=by
  unfold xj;exact (ac5 _ _ _ _ (aQW _) (by rw [l1];omega) (by rw [l1];exact aF)).trans (CK aF (by omega))
 have ab:nV key l++ [l.getD 0 default]=xj key l:=by
  have e:=ai8 (key:=key) aF;have az:=ai9 (key:=key) (l:=l);unfold nV;rw [← e,aQK,aQN (by omega),aRU];rw [← aRh (by omega)];exact aRb (by omega)
 exact ((aU6 _ _).symm.trans (by rw [ab])).trans γ
theorem aja (h:Heap key l.length l) (aF:0<l.length):Heap key (nV key l).length (nV key l):=by
 rw [HM];have hd:Heap key (l.length - 1) (xj key l):=by
  unfold xj;refine aqy _ _ _ _ (aQW _) (by rw [l1];exact aF) (by rw [l1];omega) (λ i j8 dn fb=> ?_) (λ i _ _ _ aF=>absurd aF (by omega));rw [CJ aF (by omega),CJ aF (by omega),aQV (by omega),aQV fb,aQV (by omega),aQV (by omega)];exact h i j8 (by omega)
 intro i j8 dn;have aD:∀ k,k<l.length - 1→(nV key l).getD k default=(xj key l).getD k default:=λ k av=>by
  unfold nV;rw [aQK,aQK,aRq,aQZ av]
 rw [aD _ (by omega),aD _ dn];exact hd i j8 dn
theorem Heap.least (h:Heap key l.length l):∀ y∈l,key (l.getD 0 default)≤key y:=by
 intro y aK;obtain ⟨i,ar,rfl⟩:=aRM.1 aK;have:=h.min i ar
 rwa [show l.getD i default=l[i] by rw [aQK,aQN ar];rfl] at this
end
end ct
end
section
namespace p6
section
variable {α:Type} {cP:α→List α} {k h:α→Int} {src:α→Prop} {x y s b:α} {d q0 D:Int} {aA z6:α→Int} {Q p9:List (α×Int)} {rest:List α} {e:α×Int}
inductive od (cP:α→List α) (k:α→Int) (src:α→Prop):α→Int→Prop
 | start {s:α} (hs:src s):od cP k src s 0
 | step {x y:α} {d:Int} (hx:od cP k src x d) (aK:y∈cP x):od cP k src y (d+k y)
def s3 (cP:α→List α) (k:α→Int) (src:α→Prop) (x:α) (d:Int):Prop:=od cP k src x d∧∀ q0,od cP k src x q0→d≤q0
structure iH (cP:α→List α) (k h:α→Int):Prop where
 yC:∀ x,∀ y∈cP x,0<k y
 aF:∀ x,0≤h x
 av:∀ x,∀ y∈cP x,h x≤k y+h y
theorem od.qq (o:iH cP k h) (r:od cP k src x d):0≤d:=by
 induction r with
 | start _=>exact aSe 0
 | step _ aK bt=>have:=o.yC _ _ aK;omega
theorem s3.uniq (γ:s3 cP k src x d) (ab:s3 cP k src x q0):d=q0:=Int.le_antisymm (γ.2 _ ab.1) (ab.2 _ γ.1)
structure Inv (cP:α→List α) (k h:α→Int) (src:α→Prop) (aA:α→Int) (Q:List (α×Int)) (dc:α) (rest:List α):Prop where
 q:∀ e∈Q,(src e.1∧e.2=0)∨∃ p,0≤aA p∧e.1∈cP p∧e.2=aA p+k e.1
 neg:∀ x,aA x<0→aA x= -1
 oj:∀ x,0≤aA x→s3 cP k src x (aA x)
 pred:∀ x,0≤aA x→(src x∧aA x=0)∨∃ p,0≤aA p∧x∈cP p∧aA x=aA p+k x
 LV:∀ x,0≤aA x→∀ y∈cP x,0≤aA y∨(y,aA x+k y)∈Q∨(x=dc∧y∈rest)
 Me:∀ s,src s→0≤aA s∨(s,0)∈Q
 mono:∀ x,0≤aA x→∀ e∈Q,aA x+h x≤e.2+h e.1
 alz:rest≠ []→0≤aA dc∧(∀ y∈rest,y∈cP dc)∧∀ z,0≤aA z→aA z+h z≤aA dc+h dc
theorem Inv.ajx (i:Inv cP k h src aA Q x rest) (he:e∈Q):od cP k src e.1 e.2:=by
 rcases i.q e he with ⟨γ,ab⟩ | ⟨p,γ,ab,aw⟩
 ·rw [ab];exact .start γ
 ·rw [aw];exact .step (i.oj p γ).1 ab
theorem Inv.front (o:iH cP k h) (i:Inv cP k h src aA Q s []) (r:od cP k src x d):aA x<0→∃ e∈Q,e.2+h e.1≤d+h x:=by
 induction r with
 | start hs =>
  intro hx;rcases i.Me _ hs with γ | γ
  ·omega
  ·exact ⟨_,γ,aSe _⟩
 | @step x y d r aK bt =>
  intro aKn;by_cases hx:aA x<0
  ·obtain ⟨e,he,hle⟩:=bt hx;have:=o.av x y aK;exact ⟨e,he,by omega⟩
  ·rcases i.LV x (by omega) y aK with γ | γ | ⟨_,γ⟩
   ·omega
   ·have:=(i.oj x (by omega)).2 d r;exact ⟨_,γ,by dsimp only;omega⟩
   ·simp at γ
theorem Inv.az0 (i:Inv cP k h src aA Q x []) (hp:Q.Perm (e::p9)) (hd:0≤aA e.1):Inv cP k h src aA p9 x []:=by
 have hs:∀ z∈p9,z∈Q:=λ z bB=>hp.symm.subset (aQ1 _ bB);have I:∀ z∈Q,z=e∨z∈p9:=λ z bB=>aQ7.1 (hp.subset bB);refine ⟨λ z bB=>i.q z (hs z bB),i.neg,i.oj,i.pred,λ a ha c hc=> ?_,λ s awh=> ?_,λ a ha z bB=>i.mono a ha z (hs z bB),λ hn=>absurd Z hn⟩
 ·rcases i.LV a ha c hc with γ | γ | γ
  ·exact .inl γ
  ·rcases I _ γ with ab | ab
   ·left;rw [← ab] at hd;exact hd
   ·exact .inr (.inl ab)
  ·exact .inr (.inr γ)
 ·rcases i.Me s awh with γ | γ
  ·exact .inl γ
  ·rcases I _ γ with ab | ab
   ·left;rw [← ab] at hd;exact hd
   ·exact .inr ab
theorem Inv.azZ (o:iH cP k h) (i:Inv cP k h src aA Q s []) (hp:Q.Perm (e::p9)) (hd:aA e.1<0) (afJ:∀ z∈Q,e.2+h e.1≤z.2+h z.1) (Ku:z6 e.1=e.2) (fb:∀ z,z≠e.1→z6 z=aA z):Inv cP k h src z6 p9 e.1 (cP e.1)∧0≤e.2:=by
 have hs:∀ z∈p9,z∈Q:=λ z bB=>hp.symm.subset (aQ1 _ bB);have I:∀ z∈Q,z=e∨z∈p9:=λ z bB=>aQ7.1 (hp.subset bB);have G3:e∈Q:=hp.symm.subset aRa;have age:=i.ajx G3;have j9:=age.qq o;have mn:∀ z,0≤aA z→z6 z=aA z:=λ z bB=>fb z (λ a_=>by rw [a_] at bB;omega);have u_:s3 cP k src e.1 e.2:=⟨age,λ q0 r=>by
  obtain ⟨z,bB,hle⟩:=i.front o r hd;have:=afJ z bB
  omega⟩
 have afx:∀ a,0≤z6 a→z6 a+h a≤e.2+h e.1:=λ a ha=>by
  by_cases a_:a=e.1
  ·subst a_;omega
  ·rw [fb a a_] at ha ⊢;exact i.mono a ha e G3
 refine ⟨⟨λ z bB=> ?_,λ a ha=> ?_,λ a ha=> ?_,λ a ha=> ?_,λ a ha c hc=> ?_,λ a ha=> ?_,λ a ha z bB=> ?_,λ _=>⟨by omega,λ y aK=>aK,λ a ha=>by rw [Ku];exact afx a ha⟩⟩,j9⟩
 ·rcases i.q z (hs z bB) with γ | ⟨p,γ,ab,aw⟩
  ·exact .inl γ
  ·exact .inr ⟨p,by rw [mn p γ];exact γ,ab,by rw [mn p γ];exact aw⟩
 ·by_cases a_:a=e.1
  ·subst a_;omega
  ·rw [fb a a_] at ha ⊢;exact i.neg a ha
 ·by_cases a_:a=e.1
  ·rw [a_,Ku];exact u_
  ·rw [fb a a_] at ha ⊢;exact i.oj a ha
 ·by_cases a_:a=e.1
  ·rw [a_,Ku];rcases i.q e G3 with γ | ⟨p,γ,ab,aw⟩
   ·exact .inl γ
   ·exact .inr ⟨p,by rw [mn p γ];exact γ,ab,by rw [mn p γ];exact aw⟩
  ·rw [fb a a_] at ha ⊢;rcases i.pred a ha with γ | ⟨p,γ,ab,aw⟩
   ·exact .inl γ
   ·exact .inr ⟨p,by rw [mn p γ];exact γ,ab,by rw [mn p γ];exact aw⟩
 ·by_cases a_:a=e.1
  ·exact .inr (.inr ⟨a_,by rw [← a_];exact hc⟩)
  ·rw [fb a a_] at ha ⊢;rcases i.LV a ha c hc with γ | γ | ⟨_,γ⟩
   ·left;rw [mn c γ];exact γ
   ·rcases I _ γ with ab | ab
    ·left;have:c=e.1:=by rw [← ab]
     rw [this,Ku];exact j9
    ·exact .inr (.inl ab)
   ·simp at γ
 ·rcases i.Me a ha with γ | γ
  ·left;rw [mn a γ];exact γ
  ·rcases I _ γ with ab | ab
   ·left;have:a=e.1:=by rw [← ab]
    rw [this,Ku];exact j9
   ·exact .inr ab
 ·have:=afx a ha;have:=afJ z (hs z bB);omega
theorem Inv.push (o:iH cP k h) (i:Inv cP k h src aA Q x (y::rest)) (hp:p9.Perm ((y,aA x+k y)::Q)):Inv cP k h src aA p9 x rest:=by
 have hs:∀ z∈Q,z∈p9:=λ z bB=>hp.symm.subset (aQ1 _ bB);have hn:(y,aA x+k y)∈p9:=hp.symm.subset aRa;have I:∀ z∈p9,z=(y,aA x+k y)∨z∈Q:=λ z bB=>aQ7.1 (hp.subset bB);obtain ⟨e2,ft,jl⟩:=i.alz (by simp);have ago:=ft y aRa;refine ⟨λ z bB=> ?_,i.neg,i.oj,i.pred,λ a ha c hc=> ?_,λ a ha=>(i.Me a ha).imp id (hs _),λ a ha z bB=> ?_,λ _=>⟨e2,λ c hc=>ft c (aQ1 _ hc),jl⟩⟩
 ·rcases I z bB with rfl | γ
  ·exact .inr ⟨x,e2,ago,Z⟩
  ·exact i.q z γ
 ·rcases i.LV a ha c hc with γ | γ | ⟨γ,ab⟩
  ·exact .inl γ
  ·exact .inr (.inl (hs _ γ))
  ·rcases aQ7.1 ab with aw | aw
   ·subst γ;subst aw;exact .inr (.inl hn)
   ·exact .inr (.inr ⟨γ,aw⟩)
 ·rcases I z bB with rfl | γ
  ·have:=jl a ha;have:=o.av x y ago;dsimp only;omega
  ·exact i.mono a ha z γ
theorem Inv.skip (i:Inv cP k h src aA Q x (y::rest)) (aK:0≤aA y):Inv cP k h src aA Q x rest:=by
 obtain ⟨e2,ft,jl⟩:=i.alz (by simp);refine ⟨i.q,i.neg,i.oj,i.pred,λ a ha c hc=> ?_,i.Me,i.mono,λ _=>⟨e2,λ c hc=>ft c (aQ1 _ hc),jl⟩⟩;rcases i.LV a ha c hc with γ | γ | ⟨γ,ab⟩
 ·exact .inl γ
 ·exact .inr (.inl γ)
 ·rcases aQ7.1 ab with aw | aw
  ·subst aw;exact .inl aK
  ·exact .inr (.inr ⟨γ,aw⟩)
theorem Inv.start (hn:∀ x,aA x= -1) (I:∀ e∈Q,src e.1∧e.2=0) (hs:∀ s,src s→(s,0)∈Q):Inv cP k h src aA Q x [] :=
 ⟨λ e he=> .inl (I e he),λ a _=>hn a,λ a ha=>by rw [hn a] at ha;omega,λ a ha=>by rw [hn a] at ha;omega,λ a ha=>by rw [hn a] at ha;omega,λ s γ=> .inr (hs s γ),λ a ha=>by rw [hn a] at ha;omega,λ γ=>absurd rfl γ⟩
theorem Inv.all (o:iH cP k h) (i:Inv cP k h src aA [] s []) (r:od cP k src x d):0≤aA x:=by
 by_cases hx:aA x<0
 ·obtain ⟨e,he,_⟩:=i.front o r hx;simp at he
 ·omega
structure Spec (cP:α→List α) (k h:α→Int) (src:α→Prop) (b:α) (aA:α→Int):Prop where
 neg:∀ x,aA x<0→aA x= -1
 oj:∀ x,0≤aA x→s3 cP k src x (aA x)∧∀ D,s3 cP k src b D→aA x+h x≤D
 known:∀ x d,s3 cP k src x d→(∀ D,s3 cP k src b D→d+h x≤D)→aA x=d
 pred:∀ x,0≤aA x→(src x∧aA x=0)∨∃ p,0≤aA p∧x∈cP p∧aA x=aA p+k x
theorem Spec.uniq (s1:Spec cP k h src b aA) (s2:Spec cP k h src b z6) (x:α):aA x=z6 x:=by
 by_cases γ:0≤aA x
 ·exact (s2.known x _ (s1.oj x γ).1 (s1.oj x γ).2).symm
 ·by_cases ab:0≤z6 x
  ·exact s1.known x _ (s2.oj x ab).1 (s2.oj x ab).2
  ·rw [s1.neg x (by omega),s2.neg x (by omega)]
theorem Inv.ends (o:iH cP k h) (i:Inv cP k h src aA Q s []) (Φ:h b=0) (hm:0≤aA b→∀ x,0≤aA x→aA x+h x≤aA b) (he:(0≤aA b∧∀ e∈Q,aA b<e.2+h e.1)∨Q= []):Spec cP k h src b aA:=by
 refine ⟨i.neg,λ x hx=>⟨i.oj x hx,λ D u_=> ?_⟩,λ x d hd hle=> ?_,i.pred⟩
 ·by_cases γ:0≤aA b
  ·have:=hm γ x hx;rw [u_.uniq (i.oj b γ)];exact this
  ·rcases he with he | he
   ·omega
   ·subst he;exact absurd (i.all o u_.1) γ
 ·by_cases γ:aA x<0
  ·obtain ⟨e,G3,av⟩:=i.front o hd.1 γ;rcases he with ⟨ab,aw⟩ | ab
   ·have:=hle _ (i.oj b ab);have:=aw e G3;omega
   ·subst ab;simp at G3
  ·exact (i.oj x (by omega)).uniq hd
theorem Spec.end_ (s:Spec cP k h src b aA) (Φ:h b=0) (hd:s3 cP k src b D):aA b=D:=s.known b D hd λ aFB γ=>by rw [Φ,hd.uniq γ];omega
theorem od.agu (o:iH cP k h) (r:od cP k src x d):∃ d,s3 cP k src x d:=by
 have:∀ n:Nat,∀ d,od cP k src x d→d.toNat=n→∃ d,s3 cP k src x d:=by
  intro n;induction n using Nat.strongRecOn with
  | ind n bt =>
   intro d r hn;by_cases hex:∃ q0,od cP k src x q0∧q0<d
   ·obtain ⟨q0,r',bA⟩:=hex;have:=r'.qq o;exact bt q0.toNat (by omega) q0 r' Z
   ·exact ⟨d,r,λ q0 r'=>by
     by_cases bA:q0<d
     ·exact absurd ⟨q0,r',bA⟩ hex
     ·omega⟩
 exact this _ d r Z
end
end p6
end
end Go.Proofs.YtlikikpgmmkjbaaGreat
