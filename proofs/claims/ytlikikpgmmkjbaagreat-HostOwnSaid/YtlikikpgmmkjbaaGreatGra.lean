import Derived.Test.YtlikikpgmmkjbaaGreatGol
set_option linter.unusedVariables false
set_option linter.unusedSimpArgs false
set_option maxRecDepth 100000
set_option maxHeartbeats 4000000
open Go.RowKit
namespace Go.Proofs.YtlikikpgmmkjbaaGreat
open Tryz
abbrev aUM:=@List.take_succ_eq_append_getElem
abbrev aVR:=@Int.le_refl
abbrev aYr:=@List.perm_append_singleton
abbrev aYt:=@List.Perm.refl
abbrev aYF:=@List.cons.inj
abbrev aZe:=@Int.not_le
abbrev aZm:=@List.getElem?_set
section
theorem b' {B:List Nat} {b n:Nat} (u:∀ q∈B,q<n) (h:n≤b:=by omega):∀ q∈B,q∈ [b]→False:=fun q I Φ=>by have:=u q I;have:=aUg.1 Φ;omega
theorem bC {B:List Nat} {b n:Nat} (u:∀ q∈B,n≤q) (h:b<n:=by omega):∀ q∈B,q∈ [b]→False:=fun q I Φ=>by have:=u q I;have:=aUg.1 Φ;omega
theorem aQ {a b:Nat} (h:a≠b:=by omega):a∉ [b]:=fun e=>h (aUg.1 e)
section
variable {P:Program} {n:Nat} {ops:Array Oper} {Q:Exit→Act→World→Prop} {E:List (Nat×Value)} {w w' w0:World} {v:Value} {ty:TypeId} {pos:String} {af:Array Edge} {x:Operand} {rest:List Oper} {d i:Nat} {bZ:List Nat} {a6:Nat→Nat}
theorem ag {y:Code} (h:W P n y Q E w):cG P n ops (rF P y Q) [] E w:=nl (aT h)
theorem ai {id:Nat} {l:List Oper} {y:Code} (h:cG P n l.toArray (rF P y Q) l E w):W P n (.seq (.region id l.toArray false) y) Q E w:=az (rg h)
theorem bt {y:Code} (h:W P n y Q E w):W P n .skip (rF P y Q) E w:=fv (aT h)
theorem J {op:Op} (hr:cT P E ⟨some d,op,ty,pos,af,none⟩ w v w') (h:cG P n ops Q rest ((d,v)::E) w') (hd:Nat.blt d n=true:=by rfl):cG P n ops Q (⟨some d,op,ty,pos,af,none⟩::rest) E w:=iC hr hd h
theorem vm (hx:ev E x=some v) (h:cG P n ops Q rest ((d,v)::E) w) (hd:Nat.blt d n=true:=by rfl):cG P n ops Q (⟨some d, .move x,ty,pos,af,none⟩::rest) E w:=iC (aM hx) hd h
theorem va (hx:ev E x=some v) (h:cG P n ops Q rest ((d,v)::E) w) (hd:Nat.blt d n=true:=by rfl):cG P n ops Q (⟨some d, .assign x,ty,pos,af,none⟩::rest) E w:=iC (fA hx) hd h
theorem ar {op:Op} (aq:ops[i]? =some ⟨some d,op,ty,pos,af,none⟩) (hr:∀ w,cT P E ⟨some d,op,ty,pos,af,none⟩ w v w) (h:iF P n ops Q a6 bZ ((d,v)::E) w0) (aw:a6 i=1:=by rfl) (hd:Nat.blt d n=true:=by rfl):iF P n ops Q a6 (i::bZ) E w0:=rU aq aw hr hd h
theorem bG {op:Op} (aq:ops[i]? =some ⟨some d,op,ty,pos,af,none⟩) (hr:∀ w,Ext w0 w→cT P E ⟨some d,op,ty,pos,af,none⟩ w v w) (h:iF P n ops Q a6 bZ ((d,v)::E) w0) (aw:a6 i=0:=by rfl) (hd:Nat.blt d n=true:=by rfl):iF P n ops Q a6 (i::bZ) E w0:=afW aq aw hr hd h
end
theorem q4:∀ {c0 E:List (Nat×Value)},c0.map (fun p=>look E p.1)=c0.map (fun p=>some p.2)→Sub c0 E
 | [],_,_=>Sub.nil
 | (k,v)::r,E,h=>have dk:look E k::r.map (fun p=>look E p.1)=some v::r.map (fun p=>some p.2):=h
  Sub.cons (aYF dk).1 (q4 (aYF dk).2)
theorem cH:(∀ (a b:Bool),((a || b)=true)↔(a=true∨b=true))∧(∀ (a b:Bool),((a || b)=false)↔(a=false∧b=false))∧(∀ (a b:Bool),((a && b)=true)↔(a=true∧b=true))∧(∀ (a b:Bool),((a && b)=false)↔(a=false∨b=false))∧(∀ (p:Prop) [Decidable p],(decide p=true)↔p)∧(∀ (p:Prop) [Decidable p],(decide p=false)↔¬ p)∧(∀ (α:Type) [BEq α] [LawfulBEq α] (a b:α),((a == b)=true)↔(a=b))∧(∀ (α:Type) [BEq α] [LawfulBEq α] (a b:α),((a != b)=true)↔(a≠b))∧(∀ (α:Type) [BEq α] [LawfulBEq α] (a b:α),((a == b)=false)↔(a≠b))∧(∀ (α:Type) [BEq α] [LawfulBEq α] (a b:α),((a != b)=false)↔(a=b))∧(∀ b:Bool,((!b)=true)↔(b=false))∧(∀ b:Bool,((!b)=false)↔(b=true))∧(∀ b:Bool,(¬ (b=true))↔(b=false))∧(∀ b:Bool,(¬ (b=false))↔(b=true))∧(∀ a b:Int,(¬ a<b)↔b≤a)∧(∀ a b:Int,(¬ a≤b)↔b<a)∧(∀ a b:Nat,(¬ a<b)↔b≤a)∧(∀ a b:Nat,(¬ a≤b)↔b<a)∧(∀ (α:Type) (a b:α),(a≠b)↔¬ (a=b))∧(∀ p:Prop,(¬ ¬ p)↔p):=
 ⟨fun a b=>by cases a<;>cases b<;>simp,fun a b=>by cases a<;>cases b<;>simp,fun a b=>by cases a<;>cases b<;>simp,fun a b=>by cases a<;>cases b<;>simp,fun p _=>by simp,fun p _=>by simp,fun α _ _ a b=>by simp,fun α _ _ a b=>by simp,fun α _ _ a b=>by simp,fun α _ _ a b=>by simp,fun b=>by simp,fun b=>by simp,fun b=>by simp,fun b=>by simp,fun _ _=>Int.not_lt,fun _ _=>aZe,fun _ _=>Nat.not_lt,fun _ _=>Nat.not_le,fun _ _ _=>Iff.rfl,fun _=>Classical.not_not⟩
theorem aX (j:Nat) {n:Nat} (h:j<n:=by omega):0<n:=Nat.zero_lt_of_lt h
theorem bO {E:List (Nat×Value)} {t:Nat} {k:IntKind} {i j:Int} (h:look E t=some (.int k i)) (e:i=j:=by first | omega | rfl | (simp<;>omega)):look E t=some (.int k j):=F5 h e
theorem τ {a b c:World} (h:Ext a b) (k:Ext b c):Ext a c:=Ext.qg h k
theorem bx {b n:Nat} (h:n≤b:=by omega):∀ q∈ [b],n≤q:=fun q I=>by rw [aUg.1 I];exact h
theorem ij:Fd prog 49 0 0:=fun _ _ _=>by kernel_rfl
theorem bf:eP prog 3 false:=fun _=>by kernel_rfl
theorem iN:Fd prog 49 1 1:=fun _ _ _=>by kernel_rfl
theorem cm:eP prog 49 true:=fun _=>by kernel_rfl
theorem bW:ez prog 49 2:=fun _=>by kernel_rfl
theorem Qx:Enters prog 193 :=cb func193
theorem Qz:Enters prog 194 :=cb func194
theorem cU:ez prog 3 1:=fun _=>by kernel_rfl
theorem oY:ez prog 313 4:=fun _=>by kernel_rfl
theorem QC:Fd prog 313 2 3:=fun _ _ _=>by kernel_rfl
theorem Qk:eP prog 313 true:=fun _=>by kernel_rfl
theorem pM:eP prog 263 false:=fun _=>by kernel_rfl
theorem Qo:Enters prog 265 :=cb func265
theorem Qq:Enters prog 266 :=cb func266
theorem aff:ez prog 263 1:=fun _=>by kernel_rfl
theorem afi:la prog 313 (.agg #[.int .i64 0, .int .i64 0, .int .i64 0, .int .i64 0]):=fun _=>by kernel_rfl
theorem atp:Enters prog 268 :=cb func268
theorem Lj:Enters prog 219 :=cb func219
theorem aty:Enters prog 239 :=cb func239
theorem atF:Enters prog 240 :=cb func240
theorem atM:Enters prog 267 :=cb func267
theorem afo:Fd prog 265 0 0:=fun _ _ _=>by kernel_rfl
theorem VU:Fd prog 24 0 0:=fun _ _ _=>by kernel_rfl
theorem lW:eP prog 24 true:=fun _=>by kernel_rfl
theorem lX:ez prog 24 3:=fun _=>by kernel_rfl
theorem rR:Enters prog 158 :=cb func158
theorem auh:Enters prog 199 :=cb func199
theorem aul:la prog 260 (.agg #[.int .i64 0, .int .i64 0, .int .i64 0, .int .i64 0, .int .i64 0, .int .i64 0, .int .i64 0, .int .i64 0]):=fun _=>by kernel_rfl
theorem afw:ez prog 260 8:=fun _=>by kernel_rfl
theorem aum:eP prog 260 true:=fun _=>by kernel_rfl
theorem afx:Fd prog 265 1 3:=fun _ _ _=>by kernel_rfl
theorem afy:Enters prog 161 :=cb func161
theorem Fq:Fd prog 265 3 6:=fun _ _ _=>by kernel_rfl
theorem aun:Enters prog 218 :=cb func218
theorem mR:Enters prog 166 :=cb func166
theorem oX:Fd prog 265 2 5:=fun _ _ _=>by kernel_rfl
theorem gy:eP prog 22 false:=fun _=>by kernel_rfl
theorem auo:Enters prog 220 :=cb func220
theorem VW:Fd prog 313 0 0:=fun _ _ _=>by kernel_rfl
theorem afz:Fd prog 313 1 2:=fun _ _ _=>by kernel_rfl
theorem afA:Enters prog 165 :=cb func165
theorem xC:la prog 49 (.agg #[.int .i64 0, .int .i64 0]):=fun _=>by kernel_rfl
theorem VX:Enters prog 164 :=cb func164
theorem VY:Enters prog 197 :=cb func197
theorem aup:Enters prog 217 :=cb func217
theorem y7:Fd prog 24 2 2:=fun _ _ _=>by kernel_rfl
theorem afB:Enters prog 196 :=cb func196
theorem afC:Enters prog 198 :=cb func198
theorem afD:Enters prog 163 :=cb func163
theorem auq:Enters prog 167 :=cb func167
theorem aur:Enters prog 216 :=cb func216
theorem afE:Enters prog 195 :=cb func195
theorem Qy:Fd prog 66 2 2:=fun _ _ _=>by kernel_rfl
theorem VZ:Enters prog 128 :=cb func128
theorem V0:la prog 207 (.agg #[.int .i64 0, .int .i64 0, .int .i64 0, .int .i64 0]):=fun _=>by kernel_rfl
theorem V1:ez prog 207 4:=fun _=>by kernel_rfl
theorem uA:Fd prog 66 3 3:=fun _ _ _=>by kernel_rfl
theorem Fs:Fd prog 66 1 1:=fun _ _ _=>by kernel_rfl
theorem aus:Fd prog 207 1 1:=fun _ _ _=>by kernel_rfl
theorem rS:Fd prog 28 0 0:=fun _ _ _=>by kernel_rfl
theorem aut:Enters prog 162 :=cb func162
theorem dD:eP prog 28 true:=fun _=>by kernel_rfl
theorem cf:ez prog 28 9:=fun _=>by kernel_rfl
theorem HV:Enters prog 56 :=cb func56
theorem iO:Fd prog 28 4 6:=fun _ _ _=>by kernel_rfl
theorem j7:eP prog 26 false:=fun _=>by kernel_rfl
theorem jd:ez prog 66 7:=fun _=>by kernel_rfl
theorem y8:eP prog 66 true:=fun _=>by kernel_rfl
theorem Ln:la prog 66 (.agg #[.int .i64 0, .int .i64 0, .int .i64 0, .int .i64 0, .int .i64 0, .int .i64 0, .int .i64 0]):=fun _=>by kernel_rfl
theorem HW:Fd prog 66 0 0:=fun _ _ _=>by kernel_rfl
theorem V2:ez prog 223 2:=fun _=>by kernel_rfl
theorem auu:eP prog 223 true:=fun _=>by kernel_rfl
theorem auv:la prog 223 (.agg #[.int .i64 0, .int .i64 0]):=fun _=>by kernel_rfl
theorem auw:Fd prog 223 0 0:=fun _ _ _=>by kernel_rfl
theorem QA:la prog 3 (.int .i64 0):=fun _=>by kernel_rfl
theorem auy:Fd prog 223 1 1:=fun _ _ _=>by kernel_rfl
theorem V3:ez prog 4 1:=fun _=>by kernel_rfl
theorem HX:eP prog 4 false:=fun _=>by kernel_rfl
theorem auz:Enters prog 134 :=cb func134
theorem auA:Fd prog 207 2 2:=fun _ _ _=>by kernel_rfl
theorem pR:la prog 28 (.agg #[.int .i64 0, .int .i64 0, .slice none 0 0, .slice none 0 0, .slice none 0 0, .slice none 0 0, .slice none 0 0, .int .i64 0, .int .i64 0]):=fun _=>by kernel_rfl
theorem AY:Enters prog 27 :=cb func27
theorem xD:ez prog 22 1:=fun _=>by kernel_rfl
theorem pS:Fd prog 28 1 3:=fun _ _ _=>by kernel_rfl
theorem sY:eP prog 25 false:=fun _=>by kernel_rfl
theorem vT:Fd prog 28 2 4:=fun _ _ _=>by kernel_rfl
theorem V4:Enters prog 101 :=cb func101
theorem V5:ez prog 25 1:=fun _=>by kernel_rfl
theorem AZ:Fd prog 28 3 5:=fun _ _ _=>by kernel_rfl
theorem QB:Enters prog 26 :=cb func26
theorem HY:ez prog 26 1:=fun _=>by kernel_rfl
theorem auB:Enters prog 95 :=cb func95
theorem auC:Enters prog 96 :=cb func96
theorem HZ:Fd prog 66 4 5:=fun _ _ _=>by kernel_rfl
theorem V6:ez prog 225 3:=fun _=>by kernel_rfl
theorem auD:eP prog 225 true:=fun _=>by kernel_rfl
theorem auE:Fd prog 225 0 0:=fun _ _ _=>by kernel_rfl
theorem H0:eP prog 227 false:=fun _=>by kernel_rfl
theorem auF:Enters prog 136 :=cb func136
theorem auG:la prog 227 (.pointer none):=fun _=>by kernel_rfl
theorem as1:ez prog 227 1:=fun _=>by kernel_rfl
theorem as2:Enters prog 135 :=cb func135
theorem as3:Fd prog 225 1 1:=fun _ _ _=>by kernel_rfl
theorem as4:Enters prog 137 :=cb func137
theorem as5:Enters prog 97 :=cb func97
theorem as6:Enters prog 98 :=cb func98
theorem y6:Fd prog 178 1 1:=fun _ _ _=>by kernel_rfl
theorem Ql:Enters prog 168 :=cb func168
theorem Qm:Enters prog 169 :=cb func169
theorem AW:Fd prog 66 5 6:=fun _ _ _=>by kernel_rfl
theorem Qn:Fd prog 178 2 2:=fun _ _ _=>by kernel_rfl
theorem nB:Fd prog 176 0 0:=fun _ _ _=>by kernel_rfl
theorem as7:Enters prog 202 :=cb func202
theorem afd:Fd prog 178 3 4:=fun _ _ _=>by kernel_rfl
theorem afe:Fd prog 207 3 3:=fun _ _ _=>by kernel_rfl
theorem Lg:Fd prog 28 5 7:=fun _ _ _=>by kernel_rfl
theorem as8:Enters prog 170 :=cb func170
theorem as9:Fd prog 207 0 0:=fun _ _ _=>by kernel_rfl
theorem ata:Fd prog 178 0 0:=fun _ _ _=>by kernel_rfl
theorem Lh:eP prog 178 true:=fun _=>by kernel_rfl
theorem Fl:ez prog 178 5:=fun _=>by kernel_rfl
theorem atb:Enters prog 138 :=cb func138
theorem atc:Enters prog 139 :=cb func139
theorem atd:Enters prog 140 :=cb func140
theorem ate:Enters prog 99 :=cb func99
theorem atf:la prog 176 (.agg #[.int .i64 0, .int .i64 0, .slice none 0 0, .slice none 0 0, .slice none 0 0, .slice none 0 0, .slice none 0 0, .int .i64 0, .int .i64 0]):=fun _=>by kernel_rfl
theorem atg:ez prog 176 9:=fun _=>by kernel_rfl
theorem ath:la prog 178 (.agg #[.int .i64 0, .int .i64 0, .int .i64 0, .int .i64 0, .int .i64 0]):=fun _=>by kernel_rfl
theorem ati:Enters prog 100 :=cb func100
theorem Qp:la prog 51 (.agg #[.int .i64 0, .int .i64 0, .int .i64 0, .int .i64 0, .int .i64 0, .int .i64 0]):=fun _=>by kernel_rfl
theorem pN:Fd prog 51 1 1:=fun _ _ _=>by kernel_rfl
theorem C3:Fd prog 51 2 2:=fun _ _ _=>by kernel_rfl
theorem C4:Fd prog 51 3 3:=fun _ _ _=>by kernel_rfl
theorem C5:Fd prog 51 4 5:=fun _ _ _=>by kernel_rfl
theorem iM:eP prog 51 true:=fun _=>by kernel_rfl
theorem eI:ez prog 51 6:=fun _=>by kernel_rfl
theorem pO:Fd prog 51 0 0:=fun _ _ _=>by kernel_rfl
theorem HR:Enters prog 145 :=cb func145
theorem atj:Enters prog 146 :=cb func146
theorem VH:Enters prog 104 :=cb func104
theorem VI:Fd prog 169 0 0:=fun _ _ _=>by kernel_rfl
theorem afg:eP prog 123 false:=fun _=>by kernel_rfl
theorem atk:ez prog 123 1:=fun _=>by kernel_rfl
theorem VJ:Fd prog 169 1 1:=fun _ _ _=>by kernel_rfl
theorem afh:eP prog 124 false:=fun _=>by kernel_rfl
theorem atl:ez prog 124 1:=fun _=>by kernel_rfl
theorem Fm:Fd prog 169 2 2:=fun _ _ _=>by kernel_rfl
theorem Qr:eP prog 125 false:=fun _=>by kernel_rfl
theorem VK:ez prog 125 1:=fun _=>by kernel_rfl
theorem VL:Enters prog 87 :=cb func87
theorem atm:la prog 169 (.agg #[.slice none 0 0, .slice none 0 0, .slice none 0 0]):=fun _=>by kernel_rfl
theorem afj:Enters prog 94 :=cb func94
theorem HS:la prog 60 (.agg #[.slice none 0 0, .slice none 0 0, .slice none 0 0]):=fun _=>by kernel_rfl
theorem VM:Enters prog 60 :=cb func60
theorem AX:ez prog 60 3:=fun _=>by kernel_rfl
theorem Qs:eP prog 60 true:=fun _=>by kernel_rfl
theorem Li:Fd prog 28 6 8:=fun _ _ _=>by kernel_rfl
theorem afk:Enters prog 61 :=cb func61
theorem atn:Fd prog 60 0 0:=fun _ _ _=>by kernel_rfl
theorem ato:Enters prog 62 :=cb func62
theorem atq:Fd prog 60 1 1:=fun _ _ _=>by kernel_rfl
theorem atr:Enters prog 63 :=cb func63
theorem ats:Fd prog 60 2 2:=fun _ _ _=>by kernel_rfl
theorem att:ez prog 58 1:=fun _=>by kernel_rfl
theorem afl:Enters prog 92 :=cb func92
theorem atu:Enters prog 83 :=cb func83
theorem atv:Fd prog 24 1 1:=fun _ _ _=>by kernel_rfl
theorem Qt:Enters prog 57 :=cb func57
theorem atw:Enters prog 58 :=cb func58
theorem afm:Enters prog 20 :=cb func20
theorem uy:ez prog 44 1:=fun _=>by kernel_rfl
theorem kL:eP prog 44 false:=fun _=>by kernel_rfl
theorem VN:Enters prog 25 :=cb func25
theorem C6:Fd prog 31 0 0:=fun _ _ _=>by kernel_rfl
theorem rN:Fd prog 31 1 9:=fun _ _ _=>by kernel_rfl
theorem qE:eP prog 29 false:=fun _=>by kernel_rfl
theorem Lk:Enters prog 47 :=cb func47
theorem atx:Enters prog 114 :=cb func114
theorem h9:ez prog 90 3:=fun _=>by kernel_rfl
theorem xB:eP prog 90 true:=fun _=>by kernel_rfl
theorem atz:Enters prog 171 :=cb func171
theorem HT:Fd prog 90 1 1:=fun _ _ _=>by kernel_rfl
theorem Ll:Fd prog 90 2 2:=fun _ _ _=>by kernel_rfl
theorem oe:Fd prog 90 0 0:=fun _ _ _=>by kernel_rfl
theorem atA:Enters prog 173 :=cb func173
theorem atB:Enters prog 172 :=cb func172
theorem atC:Enters prog 142 :=cb func142
theorem atD:Enters prog 141 :=cb func141
theorem Fo:la prog 90 (.agg #[.slice none 0 0, .int .i64 0, .bool false]):=fun _=>by kernel_rfl
theorem atE:Enters prog 143 :=cb func143
theorem atG:Enters prog 115 :=cb func115
theorem atH:Enters prog 84 :=cb func84
theorem atI:Enters prog 85 :=cb func85
theorem atJ:la prog 44 (.slice none 0 0):=fun _=>by kernel_rfl
theorem atK:Enters prog 86 :=cb func86
theorem atL:Enters prog 121 :=cb func121
theorem VO:la prog 31 (.agg #[.int .i64 0, .int .i64 0, .slice none 0 0, .slice none 0 0, .slice none 0 0, .slice none 0 0, .slice none 0 0, .int .i64 0, .int .i64 0, .slice none 0 0]):=fun _=>by kernel_rfl
theorem rO:ez prog 31 10:=fun _=>by kernel_rfl
theorem C7:eP prog 31 true:=fun _=>by kernel_rfl
theorem Fp:Enters prog 28 :=cb func28
theorem Lm:ez prog 29 1:=fun _=>by kernel_rfl
theorem Qu:Enters prog 102 :=cb func102
theorem VP:Enters prog 105 :=cb func105
theorem pP:ez prog 73 1:=fun _=>by kernel_rfl
theorem og:eP prog 73 false:=fun _=>by kernel_rfl
theorem afn:Enters prog 174 :=cb func174
theorem vR:Fd prog 83 0 0:=fun _ _ _=>by kernel_rfl
theorem qF:Fd prog 83 1 1:=fun _ _ _=>by kernel_rfl
theorem rP:eP prog 81 false:=fun _=>by kernel_rfl
theorem atN:Enters prog 176 :=cb func176
theorem atO:Enters prog 175 :=cb func175
theorem oW:eP prog 83 true:=fun _=>by kernel_rfl
theorem kk:ez prog 83 2:=fun _=>by kernel_rfl
theorem VQ:Enters prog 144 :=cb func144
theorem Qv:la prog 83 (.agg #[.int .u32 0, .slice none 0 0]):=fun _=>by kernel_rfl
theorem afp:Enters prog 103 :=cb func103
theorem VR:Enters prog 147 :=cb func147
theorem VS:Enters prog 36 :=cb func36
theorem VT:ez prog 81 1:=fun _=>by kernel_rfl
theorem atP:Enters prog 148 :=cb func148
theorem HU:la prog 85 (.agg #[.int .i64 0, .int .i64 0, .slice none 0 0, .slice none 0 0, .slice none 0 0, .slice none 0 0, .slice none 0 0, .int .i64 0, .int .i64 0, .slice none 0 0, .slice none 0 0, .int .u32 0, .slice none 0 0, .int .i64 0]):=fun _=>by kernel_rfl
theorem rQ:Fd prog 85 0 0:=fun _ _ _=>by kernel_rfl
theorem pQ:Fd prog 85 1 10:=fun _ _ _=>by kernel_rfl
theorem uz:eP prog 80 false:=fun _=>by kernel_rfl
theorem Qw:ez prog 80 1:=fun _=>by kernel_rfl
theorem vS:Fd prog 85 2 11:=fun _ _ _=>by kernel_rfl
theorem j6:eP prog 85 true:=fun _=>by kernel_rfl
theorem fR:ez prog 85 14:=fun _=>by kernel_rfl
theorem atQ:Enters prog 46 :=cb func46
theorem afq:Fd prog 85 3 13:=fun _ _ _=>by kernel_rfl
theorem afr:Enters prog 69 :=cb func69
theorem atS:Enters prog 106 :=cb func106
theorem atT:Enters prog 23 :=cb func23
theorem atU:Enters prog 79 :=cb func79
theorem atV:Enters prog 107 :=cb func107
theorem atW:Enters prog 108 :=cb func108
theorem atX:Enters prog 64 :=cb func64
theorem atY:Enters prog 65 :=cb func65
theorem atZ:Fd prog 87 0 0:=fun _ _ _=>by kernel_rfl
theorem at0:Fd prog 87 1 1:=fun _ _ _=>by kernel_rfl
theorem at1:Enters prog 66 :=cb func66
theorem at2:Enters prog 67 :=cb func67
theorem at3:Fd prog 87 2 7:=fun _ _ _=>by kernel_rfl
theorem at4:Fd prog 87 3 8:=fun _ _ _=>by kernel_rfl
theorem at5:Enters prog 68 :=cb func68
theorem at6:Enters prog 70 :=cb func70
theorem at7:ez prog 9 1:=fun _=>by kernel_rfl
theorem at8:eP prog 9 false:=fun _=>by kernel_rfl
theorem at9:Enters prog 55 :=cb func55
theorem afs:Enters prog 48 :=cb func48
theorem aua:Enters prog 40 :=cb func40
theorem VV:Enters prog 39 :=cb func39
theorem aub:Enters prog 33 :=cb func33
theorem auc:Enters prog 30 :=cb func30
theorem aud:Enters prog 38 :=cb func38
theorem aft:Enters prog 19 :=cb func19
theorem aue:la prog 26 (.slice none 0 0):=fun _=>by kernel_rfl
theorem auf:la prog 81 (.slice none 0 0):=fun _=>by kernel_rfl
theorem afu:la prog 29 (.slice none 0 0):=fun _=>by kernel_rfl
theorem aug:eP prog 87 true:=fun _=>by kernel_rfl
theorem aui:ez prog 87 9:=fun _=>by kernel_rfl
theorem afv:Enters prog 37 :=cb func37
theorem auj:Enters prog 29 :=cb func29
theorem auk:Enters prog 34 :=cb func34
end
section
namespace cx
section
variable {α:Type} [Inhabited α] {key:α→Int} {l:List α} {i j n k:Nat} {x:α}
def swp (l:List α) (i j:Nat):List α:=(l.set i (l.getD j default)).set j (l.getD i default)
theorem mv:(swp l i j).length=l.length:=by unfold swp;rw [aUs,aUs]
theorem agd {i k:Nat} (aq:i<l.length):(l.set i x).getD k default=if k=i then x else l.getD k default:=by
 rw [aUi,aUi,aZm];by_cases e:i=k
 ·subst e;rw [aUz rfl,aUz rfl];simp [aq]
 ·rw [aUr e,aUr (λ h=>e h.symm)]
theorem D6 (aq:i<l.length) (aA:j<l.length):(swp l i j).getD k default=if k=j then l.getD i default else if k=i then l.getD j default else l.getD k default:=by
 unfold swp;rw [agd (by rw [aUs];exact aA),agd aq]
theorem D7 (aq:i<l.length) (aA:j<l.length):(swp l i j).Perm l:=by
 have h:=Array.swap_perm (xs:=l.toArray) (i:=i) (j:=j) (by simpa using aq) (by simpa using aA);have h:=h.toList;have e:(l.toArray.swap i j (by simpa using aq) (by simpa using aA)).toList=swp l i j:=by
  unfold swp;rw [aUi,aUi,aUk aq,aUk aA];simp [Array.swap]
 rw [e] at h;simpa using h
def qh (key:α→Int) (l:List α) (j:Nat):List α :=
 if 0<j∧key (l.getD j default)<key (l.getD ((j - 1) / 2) default) then qh key (swp l ((j - 1) / 2) j) ((j - 1) / 2) else l
termination_by j
decreasing_by omega
def oo (key:α→Int) (n:Nat) (l:List α) (i:Nat):Nat:=if 2 * i+2<n∧key (l.getD (2 * i+2) default)<key (l.getD (2 * i+1) default) then 2 * i+2 else 2 * i+1
theorem Nj:i<oo key n l i:=by unfold oo;split<;>omega
theorem YF (h:2 * i+1<n):oo key n l i<n:=by unfold oo;split<;>omega
theorem aAO:(oo key n l i - 1) / 2=i:=by unfold oo;split<;>omega
theorem ajV (aw:0<k) (hn:k<n) (hp:(k - 1) / 2=i):key (l.getD (oo key n l i) default)≤key (l.getD k default):=by
 have:k=2 * i+1∨k=2 * i+2:=by omega
 unfold oo;split
 ·rename_i h
  rcases this with rfl | rfl
  ·omega
  ·exact aVR _
 ·rename_i h
  rcases this with rfl | rfl
  ·exact aVR _
  ·have:¬ key (l.getD (2 * i+2) default)<key (l.getD (2 * i+1) default):=λ fp=>h ⟨hn,fp⟩;omega
def j5 (key:α→Int) (n:Nat) (l:List α) (i:Nat):List α :=
 if 2 * i+1<n∧key (l.getD (oo key n l i) default)<key (l.getD i default) then j5 key n (swp l i (oo key n l i)) (oo key n l i) else l
termination_by n - i
decreasing_by rename_i h;have:=Nj (key:=key) (n:=n) (l:=l) (i:=i);omega
theorem aFE:∀ (j:Nat) (l:List α),(qh key l j).length=l.length:=by
 intro j;induction j using Nat.strongRecOn with
 | ind j bI =>
  intro l;unfold qh;split
  ·rw [bI _ (by omega),mv]
  ·rfl
theorem aFF:∀ (j:Nat) (l:List α),j<l.length→(qh key l j).Perm l:=by
 intro j;induction j using Nat.strongRecOn with
 | ind j bI =>
  intro l aB;unfold qh;split
  ·exact (bI _ (by omega) _ (by rw [mv];omega)).trans (D7 (by omega) aB)
  ·exact aYt _
theorem ae4 (n:Nat):∀ (m i:Nat) (l:List α),n - i≤m→(j5 key n l i).length=l.length:=by
 intro m;induction m with
 | zero=>intro i l h;unfold j5;rw [aUr (by omega)]
 | succ m bI =>
  intro i l h;unfold j5;split
  ·have:=Nj (key:=key) (n:=n) (l:=l) (i:=i);rw [bI _ _ (by omega),mv]
  ·rfl
theorem ae5 (n:Nat):∀ (m i:Nat) (l:List α),n - i≤m→n≤l.length→i<l.length→(j5 key n l i).Perm l:=by
 intro m;induction m with
 | zero=>intro i l h _ _;unfold j5;rw [aUr (by omega)]
 | succ m bI =>
  intro i l h hn aq;unfold j5;split
  ·rename_i hc
   have:=Nj (key:=key) (n:=n) (l:=l) (i:=i);have:=YF (key:=key) (l:=l) hc.1;exact (bI _ _ (by omega) (by rw [mv];exact hn) (by rw [mv];omega)).trans (D7 aq (by omega))
  ·exact aYt _
theorem asH (n:Nat):∀ (m i:Nat) (l:List α),n - i≤m→n≤l.length→i<l.length→∀ k,n≤k→i<n→(j5 key n l i).getD k default=l.getD k default:=by
 intro m;induction m with
 | zero=>intro i l h _ _ k _ _;unfold j5;rw [aUr (by omega)]
 | succ m bI =>
  intro i l h hn aq k aw dJ;unfold j5;split
  ·rename_i hc
   have γ:=Nj (key:=key) (n:=n) (l:=l) (i:=i);have aa:=YF (key:=key) (l:=l) hc.1;rw [bI _ _ (by omega) (by rw [mv];exact hn) (by rw [mv];omega) k aw aa,D6 aq (by omega),aUr (by omega),aUr (by omega)]
  ·rfl
def Heap (key:α→Int) (n:Nat) (l:List α):Prop:=∀ i,0<i→i<n→key (l.getD ((i - 1) / 2) default)≤key (l.getD i default)
theorem aFD (n:Nat):∀ (j:Nat) (l:List α),j<n→n≤l.length→(∀ i,0<i→i<n→i≠j→key (l.getD ((i - 1) / 2) default)≤key (l.getD i default))→
  (∀ i,0<i→i<n→(i - 1) / 2=j→0<j→key (l.getD ((j - 1) / 2) default)≤key (l.getD i default))→Heap key n (qh key l j):=by
 intro j;induction j using Nat.strongRecOn with
 | ind j bI =>
  intro l aA hn γ aa;unfold qh;split
  ·rename_i hc
   obtain ⟨aI,bE⟩:=hc;have aS:∀ k,(swp l ((j - 1) / 2) j).getD k default=if k=j then l.getD ((j - 1) / 2) default else if k=(j - 1) / 2 then l.getD j default else l.getD k default:=λ k=>D6 (by omega) (by omega)
   refine bI _ (by omega) _ (by omega) (by rw [mv];exact hn) (λ i ko dJ dY=> ?_) (λ i ko dJ hp za=> ?_)
   ·rw [aS,aS];by_cases e:i=j
    ·subst e;rw [aUz rfl,aUr (by omega),aUz rfl];omega
    ·rw [aUr e,aUr dY];by_cases bl:(i - 1) / 2=j
     ·rw [aUz bl];exact aa i ko dJ bl aI
     ·rw [aUr bl];by_cases cZ:(i - 1) / 2=(j - 1) / 2
      ·rw [aUz cZ];have:=γ i ko dJ e;rw [cZ] at this;omega
      ·rw [aUr cZ];exact γ i ko dJ e
   ·rw [aS,aS];rw [aUr (by omega),aUr (by omega)];have Rz:=γ ((j - 1) / 2) za (by omega) (by omega);by_cases e:i=j
    ·rw [aUz e];exact Rz
    ·rw [aUr e,aUr (by omega)];have:=γ i ko dJ e;rw [hp] at this;omega
  ·rename_i hc
   intro i ko dJ;by_cases e:i=j
   ·subst e;have:¬ key (l.getD i default)<key (l.getD ((i - 1) / 2) default):=λ h=>hc ⟨ko,h⟩;omega
   ·exact γ i ko dJ e
theorem asG (n:Nat):∀ (m i0:Nat) (l:List α),n - i0≤m→i0<l.length→n≤l.length→(∀ i,0<i→i<n→(i - 1) / 2≠i0→key (l.getD ((i - 1) / 2) default)≤key (l.getD i default))→
  (∀ i,0<i→i<n→(i - 1) / 2=i0→0<i0→key (l.getD ((i0 - 1) / 2) default)≤key (l.getD i default))→Heap key n (j5 key n l i0):=by
 intro m;induction m with
 | zero =>
  intro i0 l h _ _ γ _;unfold j5;rw [aUr (by omega)];intro i ko dJ;exact γ i ko dJ (by omega)
 | succ m bI =>
  intro i0 l h IB hn γ aa;unfold j5;split
  ·rename_i hc
   obtain ⟨Xj,bE⟩:=hc;have g1:=Nj (key:=key) (n:=n) (l:=l) (i:=i0);have g2:=YF (key:=key) (l:=l) Xj;have g3:=aAO (key:=key) (n:=n) (l:=l) (i:=i0);have g4:=λ k aw hn hp=>ajV (key:=key) (n:=n) (l:=l) (i:=i0) (k:=k) aw hn hp;generalize aA:oo key n l i0=j at *
   have aS:∀ k,(swp l i0 j).getD k default=if k=j then l.getD i0 default else if k=i0 then l.getD j default else l.getD k default:=λ k=>D6 IB (by omega)
   refine bI _ _ (by omega) (by rw [mv];omega) (by rw [mv];exact hn) (λ i ko dJ dY=> ?_) (λ i ko dJ hp za=> ?_)
   ·rw [aS,aS];rw [aUr dY];by_cases e:(i - 1) / 2=i0
    ·rw [aUz e];by_cases bl:i=j
     ·rw [aUz bl];omega
     ·rw [aUr bl,aUr (by omega)];exact g4 i ko dJ e
    ·rw [aUr e];by_cases bl:i=j
     ·omega
     ·rw [aUr bl];by_cases cZ:i=i0
      ·rw [aUz cZ];have:=aa j (by omega) g2 g3 (by omega);rw [cZ];exact this
      ·rw [aUr cZ];exact γ i ko dJ e
   ·rw [aS,aS,g3];rw [aUr (by omega),aUz rfl,aUr (by omega),aUr (by omega)];have:=γ i ko dJ (by omega);rw [hp] at this;exact this
  ·rename_i hc
   intro i ko dJ;by_cases e:(i - 1) / 2=i0
   ·have Xj:2 * i0+1<n:=by omega
    have:¬ key (l.getD (oo key n l i0) default)<key (l.getD i0 default):=λ h=>hc ⟨Xj,h⟩;have:=ajV (key:=key) (n:=n) (l:=l) ko dJ e;rw [e];omega
   ·exact γ i ko dJ e
theorem Heap.min (h:Heap key n l):∀ i,i<n→key (l.getD 0 default)≤key (l.getD i default):=by
 intro i;induction i using Nat.strongRecOn with
 | ind i bI =>
  intro aq;by_cases aI:0<i
  ·exact Int.le_trans (bI ((i - 1) / 2) (by omega) (by omega)) (h i aI aq)
  ·have:i=0:=by omega
   subst this;exact aVR _
def push (key:α→Int) (l:List α) (x:α):List α:=qh key (l++ [x]) l.length
theorem NI:(push key l x).length=l.length+1:=by unfold push;rw [aFE,aUq];rfl
theorem ak0:(push key l x).Perm (x::l):=(aFF _ _ (by rw [aUq];simp)).trans (aYr x l)
theorem adf (h:k<l.length):(l++ [x]).getD k default=l.getD k default:=by
 rw [aUi,aUi,aUC h]
theorem aCU (h:Heap key l.length l):Heap key (push key l x).length (push key l x):=by
 rw [NI];refine aFD _ _ _ (by omega) (by simp) (λ i ko dJ dY=> ?_) (λ i ko dJ hp aI=>by omega);rw [adf (by omega),adf (by omega)];exact h i ko (by omega)
def ya (key:α→Int) (l:List α):List α:=j5 key (l.length - 1) (swp l 0 (l.length - 1)) 0
def oy (key:α→Int) (l:List α):List α:=(ya key l).take (l.length - 1)
theorem akT:(ya key l).length=l.length:=by unfold ya;rw [ae4 _ _ _ _ (aUu _),mv]
theorem Ji:(oy key l).length=l.length - 1:=by unfold oy;rw [aUm,akT];omega
theorem akS (aI:0<l.length):(ya key l).getD (l.length - 1) default=l.getD 0 default:=by
 unfold ya;by_cases γ:l.length - 1=0
 ·unfold j5;rw [aUr (by omega),D6 aI (by omega),aUz rfl]
 ·rw [asH _ _ _ _ (aUu _) (by rw [mv];omega) (by rw [mv];omega) _ (aUu _) (by omega),D6 aI (by omega),aUz rfl]
theorem akV (aI:0<l.length):(l.getD 0 default::oy key l).Perm l:=by
 have γ:(ya key l).Perm l:=by
  unfold ya;exact (ae5 _ _ _ _ (aUu _) (by rw [mv];omega) (by rw [mv];exact aI)).trans (D7 aI (by omega))
 have aa:oy key l++ [l.getD 0 default]=ya key l:=by
  have e:=akS (key:=key) aI;have aB:=akT (key:=key) (l:=l);unfold oy;rw [← e,aUi,aUk (by omega),aVq];rw [← aUM (by omega)];exact aUI (by omega)
 exact ((aYr _ _).symm.trans (by rw [aa])).trans γ
theorem akU (h:Heap key l.length l) (aI:0<l.length):Heap key (oy key l).length (oy key l):=by
 rw [Ji];have hd:Heap key (l.length - 1) (ya key l):=by
  unfold ya;refine asG _ _ _ _ (aUu _) (by rw [mv];exact aI) (by rw [mv];omega) (λ i ko dJ dY=> ?_) (λ i _ _ _ aI=>absurd aI (by omega));rw [D6 aI (by omega),D6 aI (by omega),aUr (by omega),aUr dY,aUr (by omega),aUr (by omega)];exact h i ko (by omega)
 intro i ko dJ;have aF:∀ k,k<l.length - 1→(oy key l).getD k default=(ya key l).getD k default:=λ k aw=>by
  unfold oy;rw [aUi,aUi,aU2,aUz aw]
 rw [aF _ (by omega),aF _ dJ];exact hd i ko dJ
theorem Heap.least (h:Heap key l.length l):∀ y∈l,key (l.getD 0 default)≤key y:=by
 intro y aH;obtain ⟨i,aq,rfl⟩:=aVj.1 aH;have:=h.min i aq
 rwa [show l.getD i default=l[i] by rw [aUi,aUk aq];rfl] at this
end
end cx
end
section
namespace qx
section
variable {α:Type} {cY:α→List α} {k h:α→Int} {src:α→Prop} {x y s b:α} {d rK D:Int} {aC A2:α→Int} {Q qB:List (α×Int)} {rest:List α} {e:α×Int}
inductive oQ (cY:α→List α) (k:α→Int) (src:α→Prop):α→Int→Prop
 | start {s:α} (hs:src s):oQ cY k src s 0
 | step {x y:α} {d:Int} (hx:oQ cY k src x d) (aH:y∈cY x):oQ cY k src y (d+k y)
def ua (cY:α→List α) (k:α→Int) (src:α→Prop) (x:α) (d:Int):Prop:=oQ cY k src x d∧∀ rK,oQ cY k src x rK→d≤rK
structure hV (cY:α→List α) (k h:α→Int):Prop where
 s9:∀ x,∀ y∈cY x,0<k y
 aI:∀ x,0≤h x
 aw:∀ x,∀ y∈cY x,h x≤k y+h y
theorem oQ.q1 (o:hV cY k h) (r:oQ cY k src x d):0≤d:=by
 induction r with
 | start _=>exact aVR 0
 | step _ aH bI=>have:=o.s9 _ _ aH;omega
theorem ua.uniq (γ:ua cY k src x d) (aa:ua cY k src x rK):d=rK:=Int.le_antisymm (γ.2 _ aa.1) (aa.2 _ γ.1)
structure Inv (cY:α→List α) (k h:α→Int) (src:α→Prop) (aC:α→Int) (Q:List (α×Int)) (dg:α) (rest:List α):Prop where
 q:∀ e∈Q,(src e.1∧e.2=0)∨∃ p,0≤aC p∧e.1∈cY p∧e.2=aC p+k e.1
 neg:∀ x,aC x<0→aC x= -1
 oV:∀ x,0≤aC x→ua cY k src x (aC x)
 pred:∀ x,0≤aC x→(src x∧aC x=0)∨∃ p,0≤aC p∧x∈cY p∧aC x=aC p+k x
 NF:∀ x,0≤aC x→∀ y∈cY x,0≤aC y∨(y,aC x+k y)∈Q∨(x=dg∧y∈rest)
 NY:∀ s,src s→0≤aC s∨(s,0)∈Q
 mono:∀ x,0≤aC x→∀ e∈Q,aC x+h x≤e.2+h e.1
 anj:rest≠ []→0≤aC dg∧(∀ y∈rest,y∈cY dg)∧∀ z,0≤aC z→aC z+h z≤aC dg+h dg
theorem Inv.alh (i:Inv cY k h src aC Q x rest) (he:e∈Q):oQ cY k src e.1 e.2:=by
 rcases i.q e he with ⟨γ,aa⟩ | ⟨p,γ,aa,av⟩
 ·rw [aa];exact .start γ
 ·rw [av];exact .step (i.oV p γ).1 aa
theorem Inv.front (o:hV cY k h) (i:Inv cY k h src aC Q s []) (r:oQ cY k src x d):aC x<0→∃ e∈Q,e.2+h e.1≤d+h x:=by
 induction r with
 | start hs =>
  intro hx;rcases i.NY _ hs with γ | γ
  ·omega
  ·exact ⟨_,γ,aVR _⟩
 | @step x y d r aH bI =>
  intro aMY;by_cases hx:aC x<0
  ·obtain ⟨e,he,hle⟩:=bI hx;have:=o.aw x y aH;exact ⟨e,he,by omega⟩
  ·rcases i.NF x (by omega) y aH with γ | γ | ⟨_,γ⟩
   ·omega
   ·have:=(i.oV x (by omega)).2 d r;exact ⟨_,γ,by dsimp only;omega⟩
   ·simp at γ
theorem Inv.aCE (i:Inv cY k h src aC Q x []) (hp:Q.Perm (e::qB)) (hd:0≤aC e.1):Inv cY k h src aC qB x []:=by
 have hs:∀ z∈qB,z∈Q:=λ z bB=>hp.symm.subset (aUB _ bB);have I:∀ z∈Q,z=e∨z∈qB:=λ z bB=>aUD.1 (hp.subset bB);refine ⟨λ z bB=>i.q z (hs z bB),i.neg,i.oV,i.pred,λ a ha c hc=> ?_,λ s ayL=> ?_,λ a ha z bB=>i.mono a ha z (hs z bB),λ hn=>absurd Z hn⟩
 ·rcases i.NF a ha c hc with γ | γ | γ
  ·exact .inl γ
  ·rcases I _ γ with aa | aa
   ·left;rw [← aa] at hd;exact hd
   ·exact .inr (.inl aa)
  ·exact .inr (.inr γ)
 ·rcases i.NY s ayL with γ | γ
  ·exact .inl γ
  ·rcases I _ γ with aa | aa
   ·left;rw [← aa] at hd;exact hd
   ·exact .inr aa
theorem Inv.aCD (o:hV cY k h) (i:Inv cY k h src aC Q s []) (hp:Q.Perm (e::qB)) (hd:aC e.1<0) (ahD:∀ z∈Q,e.2+h e.1≤z.2+h z.1) (uI:A2 e.1=e.2) (dY:∀ z,z≠e.1→A2 z=aC z):Inv cY k h src A2 qB e.1 (cY e.1)∧0≤e.2:=by
 have hs:∀ z∈qB,z∈Q:=λ z bB=>hp.symm.subset (aUB _ bB);have I:∀ z∈Q,z=e∨z∈qB:=λ z bB=>aUD.1 (hp.subset bB);have Ix:e∈Q:=hp.symm.subset aUH;have ah8:=i.alh Ix;have lG:=ah8.q1 o;have mW:∀ z,0≤aC z→A2 z=aC z:=λ z bB=>dY z (λ a8=>by rw [a8] at bB;omega);have vX:ua cY k src e.1 e.2:=⟨ah8,λ rK r=>by
  obtain ⟨z,bB,hle⟩:=i.front o r hd;have:=ahD z bB
  omega⟩
 have ahr:∀ a,0≤A2 a→A2 a+h a≤e.2+h e.1:=λ a ha=>by
  by_cases a8:a=e.1
  ·subst a8;omega
  ·rw [dY a a8] at ha ⊢;exact i.mono a ha e Ix
 refine ⟨⟨λ z bB=> ?_,λ a ha=> ?_,λ a ha=> ?_,λ a ha=> ?_,λ a ha c hc=> ?_,λ a ha=> ?_,λ a ha z bB=> ?_,λ _=>⟨by omega,λ y aH=>aH,λ a ha=>by rw [uI];exact ahr a ha⟩⟩,lG⟩
 ·rcases i.q z (hs z bB) with γ | ⟨p,γ,aa,av⟩
  ·exact .inl γ
  ·exact .inr ⟨p,by rw [mW p γ];exact γ,aa,by rw [mW p γ];exact av⟩
 ·by_cases a8:a=e.1
  ·subst a8;omega
  ·rw [dY a a8] at ha ⊢;exact i.neg a ha
 ·by_cases a8:a=e.1
  ·rw [a8,uI];exact vX
  ·rw [dY a a8] at ha ⊢;exact i.oV a ha
 ·by_cases a8:a=e.1
  ·rw [a8,uI];rcases i.q e Ix with γ | ⟨p,γ,aa,av⟩
   ·exact .inl γ
   ·exact .inr ⟨p,by rw [mW p γ];exact γ,aa,by rw [mW p γ];exact av⟩
  ·rw [dY a a8] at ha ⊢;rcases i.pred a ha with γ | ⟨p,γ,aa,av⟩
   ·exact .inl γ
   ·exact .inr ⟨p,by rw [mW p γ];exact γ,aa,by rw [mW p γ];exact av⟩
 ·by_cases a8:a=e.1
  ·exact .inr (.inr ⟨a8,by rw [← a8];exact hc⟩)
  ·rw [dY a a8] at ha ⊢;rcases i.NF a ha c hc with γ | γ | ⟨_,γ⟩
   ·left;rw [mW c γ];exact γ
   ·rcases I _ γ with aa | aa
    ·left;have:c=e.1:=by rw [← aa]
     rw [this,uI];exact lG
    ·exact .inr (.inl aa)
   ·simp at γ
 ·rcases i.NY a ha with γ | γ
  ·left;rw [mW a γ];exact γ
  ·rcases I _ γ with aa | aa
   ·left;have:a=e.1:=by rw [← aa]
    rw [this,uI];exact lG
   ·exact .inr aa
 ·have:=ahr a ha;have:=ahD z (hs z bB);omega
theorem Inv.push (o:hV cY k h) (i:Inv cY k h src aC Q x (y::rest)) (hp:qB.Perm ((y,aC x+k y)::Q)):Inv cY k h src aC qB x rest:=by
 have hs:∀ z∈Q,z∈qB:=λ z bB=>hp.symm.subset (aUB _ bB);have hn:(y,aC x+k y)∈qB:=hp.symm.subset aUH;have I:∀ z∈qB,z=(y,aC x+k y)∨z∈Q:=λ z bB=>aUD.1 (hp.subset bB);obtain ⟨eH,e3,iv⟩:=i.anj (by simp);have aih:=e3 y aUH;refine ⟨λ z bB=> ?_,i.neg,i.oV,i.pred,λ a ha c hc=> ?_,λ a ha=>(i.NY a ha).imp id (hs _),λ a ha z bB=> ?_,λ _=>⟨eH,λ c hc=>e3 c (aUB _ hc),iv⟩⟩
 ·rcases I z bB with rfl | γ
  ·exact .inr ⟨x,eH,aih,Z⟩
  ·exact i.q z γ
 ·rcases i.NF a ha c hc with γ | γ | ⟨γ,aa⟩
  ·exact .inl γ
  ·exact .inr (.inl (hs _ γ))
  ·rcases aUD.1 aa with av | av
   ·subst γ;subst av;exact .inr (.inl hn)
   ·exact .inr (.inr ⟨γ,av⟩)
 ·rcases I z bB with rfl | γ
  ·have:=iv a ha;have:=o.aw x y aih;dsimp only;omega
  ·exact i.mono a ha z γ
theorem Inv.skip (i:Inv cY k h src aC Q x (y::rest)) (aH:0≤aC y):Inv cY k h src aC Q x rest:=by
 obtain ⟨eH,e3,iv⟩:=i.anj (by simp);refine ⟨i.q,i.neg,i.oV,i.pred,λ a ha c hc=> ?_,i.NY,i.mono,λ _=>⟨eH,λ c hc=>e3 c (aUB _ hc),iv⟩⟩;rcases i.NF a ha c hc with γ | γ | ⟨γ,aa⟩
 ·exact .inl γ
 ·exact .inr (.inl γ)
 ·rcases aUD.1 aa with av | av
  ·subst av;exact .inl aH
  ·exact .inr (.inr ⟨γ,av⟩)
theorem Inv.start (hn:∀ x,aC x= -1) (I:∀ e∈Q,src e.1∧e.2=0) (hs:∀ s,src s→(s,0)∈Q):Inv cY k h src aC Q x [] :=
 ⟨λ e he=> .inl (I e he),λ a _=>hn a,λ a ha=>by rw [hn a] at ha;omega,λ a ha=>by rw [hn a] at ha;omega,λ a ha=>by rw [hn a] at ha;omega,λ s γ=> .inr (hs s γ),λ a ha=>by rw [hn a] at ha;omega,λ γ=>absurd rfl γ⟩
theorem Inv.all (o:hV cY k h) (i:Inv cY k h src aC [] s []) (r:oQ cY k src x d):0≤aC x:=by
 by_cases hx:aC x<0
 ·obtain ⟨e,he,_⟩:=i.front o r hx;simp at he
 ·omega
structure Spec (cY:α→List α) (k h:α→Int) (src:α→Prop) (b:α) (aC:α→Int):Prop where
 neg:∀ x,aC x<0→aC x= -1
 oV:∀ x,0≤aC x→ua cY k src x (aC x)∧∀ D,ua cY k src b D→aC x+h x≤D
 known:∀ x d,ua cY k src x d→(∀ D,ua cY k src b D→d+h x≤D)→aC x=d
 pred:∀ x,0≤aC x→(src x∧aC x=0)∨∃ p,0≤aC p∧x∈cY p∧aC x=aC p+k x
theorem Spec.uniq (s1:Spec cY k h src b aC) (s2:Spec cY k h src b A2) (x:α):aC x=A2 x:=by
 by_cases γ:0≤aC x
 ·exact (s2.known x _ (s1.oV x γ).1 (s1.oV x γ).2).symm
 ·by_cases aa:0≤A2 x
  ·exact s1.known x _ (s2.oV x aa).1 (s2.oV x aa).2
  ·rw [s1.neg x (by omega),s2.neg x (by omega)]
theorem Inv.ends (o:hV cY k h) (i:Inv cY k h src aC Q s []) (Φ:h b=0) (hm:0≤aC b→∀ x,0≤aC x→aC x+h x≤aC b) (he:(0≤aC b∧∀ e∈Q,aC b<e.2+h e.1)∨Q= []):Spec cY k h src b aC:=by
 refine ⟨i.neg,λ x hx=>⟨i.oV x hx,λ D vX=> ?_⟩,λ x d hd hle=> ?_,i.pred⟩
 ·by_cases γ:0≤aC b
  ·have:=hm γ x hx;rw [vX.uniq (i.oV b γ)];exact this
  ·rcases he with he | he
   ·omega
   ·subst he;exact absurd (i.all o vX.1) γ
 ·by_cases γ:aC x<0
  ·obtain ⟨e,Ix,aw⟩:=i.front o hd.1 γ;rcases he with ⟨aa,av⟩ | aa
   ·have:=hle _ (i.oV b aa);have:=av e Ix;omega
   ·subst aa;simp at Ix
  ·exact (i.oV x (by omega)).uniq hd
theorem Spec.end_ (s:Spec cY k h src b aC) (Φ:h b=0) (hd:ua cY k src b D):aC b=D:=s.known b D hd λ aIq γ=>by rw [Φ,hd.uniq γ];omega
theorem oQ.ain (o:hV cY k h) (r:oQ cY k src x d):∃ d,ua cY k src x d:=by
 have:∀ n:Nat,∀ d,oQ cY k src x d→d.toNat=n→∃ d,ua cY k src x d:=by
  intro n;induction n using Nat.strongRecOn with
  | ind n bI =>
   intro d r hn;by_cases hex:∃ rK,oQ cY k src x rK∧rK<d
   ·obtain ⟨rK,r',bE⟩:=hex;have:=r'.q1 o;exact bI rK.toNat (by omega) rK r' Z
   ·exact ⟨d,r,λ rK r'=>by
     by_cases bE:rK<d
     ·exact absurd ⟨rK,r',bE⟩ hex
     ·omega⟩
 exact this _ d r Z
end
end qx
end
end Go.Proofs.YtlikikpgmmkjbaaGreat
