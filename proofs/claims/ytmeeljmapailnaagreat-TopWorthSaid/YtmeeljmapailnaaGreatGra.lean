import Derived.Test.YtmeeljmapailnaaGreatGol
set_option linter.unusedVariables false
set_option linter.unusedSimpArgs false
set_option maxRecDepth 100000
set_option maxHeartbeats 4000000
open Go.RowKit
namespace Go.Proofs.YtmeeljmapailnaaGreat
open Tryz
abbrev aRT:=@List.mem_singleton
abbrev aSn:=@List.take_succ_eq_append_getElem
abbrev aTk:=@Int.le_refl
abbrev aV4:=@List.perm_append_singleton
abbrev aV7:=@List.Perm.refl
abbrev aWk:=@List.cons.inj
abbrev aWM:=@Int.not_le
abbrev aWV:=@List.getElem?_set
section
theorem bI {B:List Nat} {b n:Nat} (u:∀ q∈B,q<n) (h:n≤b:=by omega):∀ q∈B,q∈ [b]→False:=fun q I Φ=>by have:=u q I;have:=aRT.1 Φ;omega
theorem bB {B:List Nat} {b n:Nat} (u:∀ q∈B,n≤q) (h:b<n:=by omega):∀ q∈B,q∈ [b]→False:=fun q I Φ=>by have:=u q I;have:=aRT.1 Φ;omega
theorem aM {a b:Nat} (h:a≠b:=by omega):a∉ [b]:=fun e=>h (aRT.1 e)
section
variable {P:Program} {n:Nat} {ops:Array Oper} {Q:Exit→Act→World→Prop} {E:List (Nat×Value)} {w w' w0:World} {v:Value} {ty:TypeId} {pos:String} {af:Array Edge} {x:Operand} {rest:List Oper} {d i:Nat} {b1:List Nat} {a7:Nat→Nat}
theorem ai {y:Code} (h:W P n y Q E w):cK P n ops (rH P y Q) [] E w:=nl (aU h)
theorem aj {id:Nat} {l:List Oper} {y:Code} (h:cK P n l.toArray (rH P y Q) l E w):W P n (.seq (.region id l.toArray false) y) Q E w:=aA (rg h)
theorem bu {y:Code} (h:W P n y Q E w):W P n .skip (rH P y Q) E w:=fI (aU h)
theorem J {op:Op} (hr:cW P E ⟨some d,op,ty,pos,af,none⟩ w v w') (h:cK P n ops Q rest ((d,v)::E) w') (hd:Nat.blt d n=true:=by rfl):cK P n ops Q (⟨some d,op,ty,pos,af,none⟩::rest) E w:=iT hr hd h
theorem vm (hx:ev E x=some v) (h:cK P n ops Q rest ((d,v)::E) w) (hd:Nat.blt d n=true:=by rfl):cK P n ops Q (⟨some d, .move x,ty,pos,af,none⟩::rest) E w:=iT (aK hx) hd h
theorem va (hx:ev E x=some v) (h:cK P n ops Q rest ((d,v)::E) w) (hd:Nat.blt d n=true:=by rfl):cK P n ops Q (⟨some d, .assign x,ty,pos,af,none⟩::rest) E w:=iT (fF hx) hd h
theorem au {op:Op} (aq:ops[i]? =some ⟨some d,op,ty,pos,af,none⟩) (hr:∀ w,cW P E ⟨some d,op,ty,pos,af,none⟩ w v w) (h:kq P n ops Q a7 b1 ((d,v)::E) w0) (ar:a7 i=1:=by rfl) (hd:Nat.blt d n=true:=by rfl):kq P n ops Q a7 (i::b1) E w0:=rT aq ar hr hd h
theorem bJ {op:Op} (aq:ops[i]? =some ⟨some d,op,ty,pos,af,none⟩) (hr:∀ w,Ext w0 w→cW P E ⟨some d,op,ty,pos,af,none⟩ w v w) (h:kq P n ops Q a7 b1 ((d,v)::E) w0) (ar:a7 i=0:=by rfl) (hd:Nat.blt d n=true:=by rfl):kq P n ops Q a7 (i::b1) E w0:=afq aq ar hr hd h
end
theorem tI:∀ {cU E:List (Nat×Value)},cU.map (fun p=>look E p.1)=cU.map (fun p=>some p.2)→Sub cU E
 | [],_,_=>Sub.nil
 | (k,v)::r,E,h=>have c6:look E k::r.map (fun p=>look E p.1)=some v::r.map (fun p=>some p.2):=h
  Sub.cons (aWk c6).1 (tI (aWk c6).2)
theorem cE:(∀ (a b:Bool),((a || b)=true)↔(a=true∨b=true))∧(∀ (a b:Bool),((a || b)=false)↔(a=false∧b=false))∧(∀ (a b:Bool),((a && b)=true)↔(a=true∧b=true))∧(∀ (a b:Bool),((a && b)=false)↔(a=false∨b=false))∧(∀ (p:Prop) [Decidable p],(decide p=true)↔p)∧(∀ (p:Prop) [Decidable p],(decide p=false)↔¬ p)∧(∀ (α:Type) [BEq α] [LawfulBEq α] (a b:α),((a == b)=true)↔(a=b))∧(∀ (α:Type) [BEq α] [LawfulBEq α] (a b:α),((a != b)=true)↔(a≠b))∧(∀ (α:Type) [BEq α] [LawfulBEq α] (a b:α),((a == b)=false)↔(a≠b))∧(∀ (α:Type) [BEq α] [LawfulBEq α] (a b:α),((a != b)=false)↔(a=b))∧(∀ b:Bool,((!b)=true)↔(b=false))∧(∀ b:Bool,((!b)=false)↔(b=true))∧(∀ b:Bool,(¬ (b=true))↔(b=false))∧(∀ b:Bool,(¬ (b=false))↔(b=true))∧(∀ a b:Int,(¬ a<b)↔b≤a)∧(∀ a b:Int,(¬ a≤b)↔b<a)∧(∀ a b:Nat,(¬ a<b)↔b≤a)∧(∀ a b:Nat,(¬ a≤b)↔b<a)∧(∀ (α:Type) (a b:α),(a≠b)↔¬ (a=b))∧(∀ p:Prop,(¬ ¬ p)↔p):=
 ⟨fun a b=>by cases a<;>cases b<;>simp,fun a b=>by cases a<;>cases b<;>simp,fun a b=>by cases a<;>cases b<;>simp,fun a b=>by cases a<;>cases b<;>simp,fun p _=>by simp,fun p _=>by simp,fun α _ _ a b=>by simp,fun α _ _ a b=>by simp,fun α _ _ a b=>by simp,fun α _ _ a b=>by simp,fun b=>by simp,fun b=>by simp,fun b=>by simp,fun b=>by simp,fun _ _=>Int.not_lt,fun _ _=>aWM,fun _ _=>Nat.not_lt,fun _ _=>Nat.not_le,fun _ _ _=>Iff.rfl,fun _=>Classical.not_not⟩
theorem bb (j:Nat) {n:Nat} (h:j<n:=by omega):0<n:=Nat.zero_lt_of_lt h
theorem bW {E:List (Nat×Value)} {t:Nat} {k:IntKind} {i j:Int} (h:look E t=some (.int k i)) (e:i=j:=by first | omega | rfl | (simp<;>omega)):look E t=some (.int k j):=wq h e
theorem γ {a b c:World} (h:Ext a b) (k:Ext b c):Ext a c:=Ext.uU h k
theorem bt {b n:Nat} (h:n≤b:=by omega):∀ q∈ [b],n≤q:=fun q I=>by rw [aRT.1 I];exact h
theorem je:Fd prog 55 0 0:=fun _ _ _=>by kernel_rfl
theorem bc:eB prog 3 false:=fun _=>by kernel_rfl
theorem jf:Fd prog 55 1 1:=fun _ _ _=>by kernel_rfl
theorem cm:eB prog 55 true:=fun _=>by kernel_rfl
theorem bU:eI prog 55 2:=fun _=>by kernel_rfl
theorem Qb:Enters prog 165 :=b8 func165
theorem Qc:Enters prog 166 :=b8 func166
theorem dx:eI prog 3 1:=fun _=>by kernel_rfl
theorem o9:eI prog 304 4:=fun _=>by kernel_rfl
theorem Qe:Fd prog 304 2 3:=fun _ _ _=>by kernel_rfl
theorem PW:eB prog 304 true:=fun _=>by kernel_rfl
theorem p0:eB prog 247 false:=fun _=>by kernel_rfl
theorem P1:Enters prog 210 :=b8 func210
theorem P3:Enters prog 211 :=b8 func211
theorem aeD:eI prog 247 1:=fun _=>by kernel_rfl
theorem aeG:mH prog 304 (.agg #[.int .i64 0, .int .i64 0, .int .i64 0, .int .i64 0]):=fun _=>by kernel_rfl
theorem as1:Enters prog 215 :=b8 func215
theorem K0:Enters prog 185 :=b8 func185
theorem ata:Enters prog 192 :=b8 func192
theorem ath:Enters prog 193 :=b8 func193
theorem ato:Enters prog 214 :=b8 func214
theorem aeN:Fd prog 249 0 0:=fun _ _ _=>by kernel_rfl
theorem Vv:Fd prog 24 0 0:=fun _ _ _=>by kernel_rfl
theorem l_:eB prog 24 true:=fun _=>by kernel_rfl
theorem l':eI prog 24 3:=fun _=>by kernel_rfl
theorem rQ:Enters prog 143 :=b8 func143
theorem atO:Enters prog 171 :=b8 func171
theorem atP:mH prog 244 (.agg #[.int .i64 0, .int .i64 0, .int .i64 0, .int .i64 0, .int .i64 0, .int .i64 0, .int .i64 0, .int .i64 0]):=fun _=>by kernel_rfl
theorem aeZ:eI prog 244 8:=fun _=>by kernel_rfl
theorem atQ:eB prog 244 true:=fun _=>by kernel_rfl
theorem ae0:Fd prog 249 1 3:=fun _ _ _=>by kernel_rfl
theorem ae1:Enters prog 134 :=b8 func134
theorem FC:Fd prog 249 3 6:=fun _ _ _=>by kernel_rfl
theorem atS:Enters prog 184 :=b8 func184
theorem m5:Enters prog 139 :=b8 func139
theorem o8:Fd prog 249 2 5:=fun _ _ _=>by kernel_rfl
theorem gu:eB prog 22 false:=fun _=>by kernel_rfl
theorem atT:Enters prog 186 :=b8 func186
theorem Vx:Fd prog 304 0 0:=fun _ _ _=>by kernel_rfl
theorem ae2:Fd prog 304 1 2:=fun _ _ _=>by kernel_rfl
theorem ae3:Enters prog 138 :=b8 func138
theorem xG:mH prog 55 (.agg #[.int .i64 0, .int .i64 0]):=fun _=>by kernel_rfl
theorem Vy:Enters prog 137 :=b8 func137
theorem Vz:Enters prog 169 :=b8 func169
theorem atU:Enters prog 183 :=b8 func183
theorem Bh:Fd prog 24 2 2:=fun _ _ _=>by kernel_rfl
theorem ae4:Enters prog 168 :=b8 func168
theorem ae5:Enters prog 170 :=b8 func170
theorem ae6:Enters prog 136 :=b8 func136
theorem atV:Enters prog 140 :=b8 func140
theorem atW:Enters prog 182 :=b8 func182
theorem ae7:Enters prog 167 :=b8 func167
theorem HS:Fd prog 57 2 2:=fun _ _ _=>by kernel_rfl
theorem K4:Enters prog 11 :=b8 func11
theorem K5:mH prog 61 (.agg #[.int .i64 0, .int .i64 0, .int .i64 0, .int .i64 0]):=fun _=>by kernel_rfl
theorem K6:eI prog 61 4:=fun _=>by kernel_rfl
theorem uA:Fd prog 57 3 3:=fun _ _ _=>by kernel_rfl
theorem FD:Fd prog 57 1 1:=fun _ _ _=>by kernel_rfl
theorem atX:Fd prog 61 1 1:=fun _ _ _=>by kernel_rfl
theorem s5:Fd prog 28 0 0:=fun _ _ _=>by kernel_rfl
theorem atY:Enters prog 135 :=b8 func135
theorem dc:eB prog 28 true:=fun _=>by kernel_rfl
theorem b3:eI prog 28 9:=fun _=>by kernel_rfl
theorem FE:Enters prog 34 :=b8 func34
theorem ku:Fd prog 28 4 6:=fun _ _ _=>by kernel_rfl
theorem ma:eB prog 26 false:=fun _=>by kernel_rfl
theorem ih:eI prog 57 7:=fun _=>by kernel_rfl
theorem uB:eB prog 57 true:=fun _=>by kernel_rfl
theorem Bi:mH prog 57 (.agg #[.int .i64 0, .int .i64 0, .int .i64 0, .int .i64 0, .int .i64 0, .int .i64 0, .int .i64 0]):=fun _=>by kernel_rfl
theorem FF:Fd prog 57 0 0:=fun _ _ _=>by kernel_rfl
theorem VA:eI prog 201 2:=fun _=>by kernel_rfl
theorem atZ:eB prog 201 true:=fun _=>by kernel_rfl
theorem at0:mH prog 201 (.agg #[.int .i64 0, .int .i64 0]):=fun _=>by kernel_rfl
theorem at1:Fd prog 201 0 0:=fun _ _ _=>by kernel_rfl
theorem Qd:mH prog 3 (.int .i64 0):=fun _=>by kernel_rfl
theorem at2:Fd prog 201 1 1:=fun _ _ _=>by kernel_rfl
theorem VB:eI prog 4 1:=fun _=>by kernel_rfl
theorem HT:eB prog 4 false:=fun _=>by kernel_rfl
theorem at3:Enters prog 101 :=b8 func101
theorem at4:Fd prog 61 2 2:=fun _ _ _=>by kernel_rfl
theorem ov:mH prog 28 (.agg #[.int .i64 0, .int .i64 0, .slice none 0 0, .slice none 0 0, .slice none 0 0, .slice none 0 0, .slice none 0 0, .int .i64 0, .int .i64 0]):=fun _=>by kernel_rfl
theorem Bj:Enters prog 77 :=b8 func77
theorem xH:eI prog 22 1:=fun _=>by kernel_rfl
theorem uC:Fd prog 28 1 3:=fun _ _ _=>by kernel_rfl
theorem zw:eB prog 25 false:=fun _=>by kernel_rfl
theorem vU:Fd prog 28 2 4:=fun _ _ _=>by kernel_rfl
theorem VC:Enters prog 88 :=b8 func88
theorem VD:eI prog 25 1:=fun _=>by kernel_rfl
theorem Bk:Fd prog 28 3 5:=fun _ _ _=>by kernel_rfl
theorem VE:Enters prog 89 :=b8 func89
theorem K7:eI prog 26 1:=fun _=>by kernel_rfl
theorem at5:Enters prog 58 :=b8 func58
theorem at6:Enters prog 59 :=b8 func59
theorem Qf:Fd prog 57 4 5:=fun _ _ _=>by kernel_rfl
theorem VF:eI prog 203 3:=fun _=>by kernel_rfl
theorem at7:eB prog 203 true:=fun _=>by kernel_rfl
theorem at8:Fd prog 203 0 0:=fun _ _ _=>by kernel_rfl
theorem HU:eB prog 206 false:=fun _=>by kernel_rfl
theorem at9:Enters prog 103 :=b8 func103
theorem aua:mH prog 206 (.pointer none):=fun _=>by kernel_rfl
theorem asE:eI prog 206 1:=fun _=>by kernel_rfl
theorem asF:Enters prog 102 :=b8 func102
theorem asG:Fd prog 203 1 1:=fun _ _ _=>by kernel_rfl
theorem asH:Enters prog 104 :=b8 func104
theorem asI:Enters prog 60 :=b8 func60
theorem asJ:Enters prog 61 :=b8 func61
theorem zp:Fd prog 153 1 1:=fun _ _ _=>by kernel_rfl
theorem PX:Enters prog 141 :=b8 func141
theorem PY:Enters prog 142 :=b8 func142
theorem xF:Fd prog 57 5 6:=fun _ _ _=>by kernel_rfl
theorem PZ:Fd prog 153 2 2:=fun _ _ _=>by kernel_rfl
theorem nK:Fd prog 151 0 0:=fun _ _ _=>by kernel_rfl
theorem asK:Enters prog 174 :=b8 func174
theorem aeC:Fd prog 153 3 4:=fun _ _ _=>by kernel_rfl
theorem P0:Fd prog 61 3 3:=fun _ _ _=>by kernel_rfl
theorem KX:Fd prog 28 5 7:=fun _ _ _=>by kernel_rfl
theorem asL:Enters prog 144 :=b8 func144
theorem asM:Fd prog 61 0 0:=fun _ _ _=>by kernel_rfl
theorem asN:Fd prog 153 0 0:=fun _ _ _=>by kernel_rfl
theorem KY:eB prog 153 true:=fun _=>by kernel_rfl
theorem Fz:eI prog 153 5:=fun _=>by kernel_rfl
theorem asO:Enters prog 105 :=b8 func105
theorem asP:Enters prog 106 :=b8 func106
theorem asQ:Enters prog 107 :=b8 func107
theorem asR:Enters prog 62 :=b8 func62
theorem asS:mH prog 151 (.agg #[.int .i64 0, .int .i64 0, .slice none 0 0, .slice none 0 0, .slice none 0 0, .slice none 0 0, .slice none 0 0, .int .i64 0, .int .i64 0]):=fun _=>by kernel_rfl
theorem asT:eI prog 151 9:=fun _=>by kernel_rfl
theorem asU:mH prog 153 (.agg #[.int .i64 0, .int .i64 0, .int .i64 0, .int .i64 0, .int .i64 0]):=fun _=>by kernel_rfl
theorem asV:Enters prog 63 :=b8 func63
theorem P2:mH prog 69 (.agg #[.int .i64 0, .int .i64 0, .int .i64 0, .int .i64 0, .int .i64 0, .int .i64 0]):=fun _=>by kernel_rfl
theorem p1:Fd prog 69 1 1:=fun _ _ _=>by kernel_rfl
theorem Df:Fd prog 69 2 2:=fun _ _ _=>by kernel_rfl
theorem Dg:Fd prog 69 3 3:=fun _ _ _=>by kernel_rfl
theorem Dh:Fd prog 69 4 5:=fun _ _ _=>by kernel_rfl
theorem jW:eB prog 69 true:=fun _=>by kernel_rfl
theorem fN:eI prog 69 6:=fun _=>by kernel_rfl
theorem uz:Fd prog 69 0 0:=fun _ _ _=>by kernel_rfl
theorem HP:Enters prog 130 :=b8 func130
theorem asW:Enters prog 131 :=b8 func131
theorem Vk:Enters prog 94 :=b8 func94
theorem Vl:Fd prog 143 0 0:=fun _ _ _=>by kernel_rfl
theorem aeE:eB prog 101 false:=fun _=>by kernel_rfl
theorem asX:eI prog 101 1:=fun _=>by kernel_rfl
theorem Vm:Fd prog 143 1 1:=fun _ _ _=>by kernel_rfl
theorem aeF:eB prog 102 false:=fun _=>by kernel_rfl
theorem asY:eI prog 102 1:=fun _=>by kernel_rfl
theorem FA:Fd prog 143 2 2:=fun _ _ _=>by kernel_rfl
theorem P4:eB prog 103 false:=fun _=>by kernel_rfl
theorem Vn:eI prog 103 1:=fun _=>by kernel_rfl
theorem Vo:Enters prog 56 :=b8 func56
theorem asZ:mH prog 143 (.agg #[.slice none 0 0, .slice none 0 0, .slice none 0 0]):=fun _=>by kernel_rfl
theorem aeH:Enters prog 57 :=b8 func57
theorem FB:mH prog 51 (.agg #[.slice none 0 0, .slice none 0 0, .slice none 0 0]):=fun _=>by kernel_rfl
theorem Vp:Enters prog 30 :=b8 func30
theorem zq:eI prog 51 3:=fun _=>by kernel_rfl
theorem P5:eB prog 51 true:=fun _=>by kernel_rfl
theorem KZ:Fd prog 28 6 8:=fun _ _ _=>by kernel_rfl
theorem aeI:Enters prog 31 :=b8 func31
theorem aeJ:Fd prog 51 0 0:=fun _ _ _=>by kernel_rfl
theorem as0:Enters prog 32 :=b8 func32
theorem as2:Fd prog 51 1 1:=fun _ _ _=>by kernel_rfl
theorem as3:Enters prog 33 :=b8 func33
theorem as4:Fd prog 51 2 2:=fun _ _ _=>by kernel_rfl
theorem as5:eI prog 49 1:=fun _=>by kernel_rfl
theorem aeK:Enters prog 123 :=b8 func123
theorem as6:Enters prog 124 :=b8 func124
theorem as7:Fd prog 24 1 1:=fun _ _ _=>by kernel_rfl
theorem P6:Enters prog 86 :=b8 func86
theorem as8:Enters prog 87 :=b8 func87
theorem aeL:Enters prog 50 :=b8 func50
theorem Be:eI prog 48 1:=fun _=>by kernel_rfl
theorem o6:eB prog 48 false:=fun _=>by kernel_rfl
theorem P7:Enters prog 9 :=b8 func9
theorem HQ:Fd prog 32 0 0:=fun _ _ _=>by kernel_rfl
theorem vQ:Fd prog 32 1 9:=fun _ _ _=>by kernel_rfl
theorem Bf:eB prog 30 false:=fun _=>by kernel_rfl
theorem K1:Enters prog 25 :=b8 func25
theorem as9:Enters prog 180 :=b8 func180
theorem k2:eI prog 163 3:=fun _=>by kernel_rfl
theorem Di:eB prog 163 true:=fun _=>by kernel_rfl
theorem atb:Enters prog 159 :=b8 func159
theorem HR:Fd prog 163 1 1:=fun _ _ _=>by kernel_rfl
theorem K2:Fd prog 163 2 2:=fun _ _ _=>by kernel_rfl
theorem rO:Fd prog 163 0 0:=fun _ _ _=>by kernel_rfl
theorem atc:Enters prog 161 :=b8 func161
theorem atd:Enters prog 160 :=b8 func160
theorem ate:Enters prog 127 :=b8 func127
theorem atf:Enters prog 126 :=b8 func126
theorem P8:mH prog 163 (.agg #[.slice none 0 0, .int .i64 0, .bool false]):=fun _=>by kernel_rfl
theorem atg:Enters prog 128 :=b8 func128
theorem ati:Enters prog 119 :=b8 func119
theorem atj:Enters prog 83 :=b8 func83
theorem atk:Enters prog 84 :=b8 func84
theorem atl:mH prog 48 (.slice none 0 0):=fun _=>by kernel_rfl
theorem atm:Enters prog 85 :=b8 func85
theorem atn:Enters prog 122 :=b8 func122
theorem Vq:mH prog 32 (.agg #[.int .i64 0, .int .i64 0, .slice none 0 0, .slice none 0 0, .slice none 0 0, .slice none 0 0, .slice none 0 0, .int .i64 0, .int .i64 0, .slice none 0 0]):=fun _=>by kernel_rfl
theorem rP:eI prog 32 10:=fun _=>by kernel_rfl
theorem Dj:eB prog 32 true:=fun _=>by kernel_rfl
theorem K3:Enters prog 90 :=b8 func90
theorem Vr:eI prog 30 1:=fun _=>by kernel_rfl
theorem P9:Enters prog 92 :=b8 func92
theorem Vs:Enters prog 95 :=b8 func95
theorem vR:eI prog 35 1:=fun _=>by kernel_rfl
theorem qR:eB prog 35 false:=fun _=>by kernel_rfl
theorem aeM:Enters prog 162 :=b8 func162
theorem vS:Fd prog 38 0 0:=fun _ _ _=>by kernel_rfl
theorem vT:Fd prog 38 1 1:=fun _ _ _=>by kernel_rfl
theorem zr:eB prog 36 false:=fun _=>by kernel_rfl
theorem atp:Enters prog 164 :=b8 func164
theorem atq:Enters prog 163 :=b8 func163
theorem o7:eB prog 38 true:=fun _=>by kernel_rfl
theorem kH:eI prog 38 2:=fun _=>by kernel_rfl
theorem Vt:Enters prog 129 :=b8 func129
theorem P_:mH prog 38 (.agg #[.int .u32 0, .slice none 0 0]):=fun _=>by kernel_rfl
theorem aeO:Enters prog 93 :=b8 func93
theorem Vu:Enters prog 132 :=b8 func132
theorem aeP:Enters prog 91 :=b8 func91
theorem aeQ:eI prog 36 1:=fun _=>by kernel_rfl
theorem atr:Enters prog 133 :=b8 func133
theorem Bg:mH prog 40 (.agg #[.int .i64 0, .int .i64 0, .slice none 0 0, .slice none 0 0, .slice none 0 0, .slice none 0 0, .slice none 0 0, .int .i64 0, .int .i64 0, .slice none 0 0, .slice none 0 0, .int .u32 0, .slice none 0 0, .int .i64 0]):=fun _=>by kernel_rfl
theorem zt:Fd prog 40 0 0:=fun _ _ _=>by kernel_rfl
theorem s4:Fd prog 40 1 10:=fun _ _ _=>by kernel_rfl
theorem zu:eB prog 34 false:=fun _=>by kernel_rfl
theorem P':eI prog 34 1:=fun _=>by kernel_rfl
theorem Dk:Fd prog 40 2 11:=fun _ _ _=>by kernel_rfl
theorem iL:eB prog 40 true:=fun _=>by kernel_rfl
theorem en:eI prog 40 14:=fun _=>by kernel_rfl
theorem ats:Enters prog 45 :=b8 func45
theorem aeR:Fd prog 40 3 13:=fun _ _ _=>by kernel_rfl
theorem aeS:Enters prog 26 :=b8 func26
theorem att:Enters prog 96 :=b8 func96
theorem atu:Enters prog 97 :=b8 func97
theorem atv:Enters prog 98 :=b8 func98
theorem atw:Enters prog 99 :=b8 func99
theorem atx:Enters prog 100 :=b8 func100
theorem aty:Enters prog 51 :=b8 func51
theorem atz:Enters prog 52 :=b8 func52
theorem aeT:Fd prog 71 0 0:=fun _ _ _=>by kernel_rfl
theorem atA:Fd prog 71 1 1:=fun _ _ _=>by kernel_rfl
theorem atB:Enters prog 53 :=b8 func53
theorem atC:Enters prog 54 :=b8 func54
theorem atD:Fd prog 71 2 7:=fun _ _ _=>by kernel_rfl
theorem atE:Fd prog 71 3 8:=fun _ _ _=>by kernel_rfl
theorem atF:Enters prog 55 :=b8 func55
theorem atG:Enters prog 27 :=b8 func27
theorem atH:eI prog 9 1:=fun _=>by kernel_rfl
theorem atI:eB prog 9 false:=fun _=>by kernel_rfl
theorem atJ:Enters prog 44 :=b8 func44
theorem aeU:Enters prog 28 :=b8 func28
theorem aeV:Enters prog 6 :=b8 func6
theorem Vw:Enters prog 29 :=b8 func29
theorem atK:Enters prog 22 :=b8 func22
theorem Qa:eI prog 71 9:=fun _=>by kernel_rfl
theorem aeW:eB prog 71 true:=fun _=>by kernel_rfl
theorem atL:mH prog 71 (.agg #[.int .i64 0, .int .i64 0, .int .i64 0, .int .i64 0, .int .i64 0, .int .i64 0, .int .i64 0, .int .i64 0, .int .i64 0]):=fun _=>by kernel_rfl
theorem aeX:Enters prog 7 :=b8 func7
theorem atM:Enters prog 8 :=b8 func8
theorem atN:Enters prog 10 :=b8 func10
theorem aeY:Enters prog 12 :=b8 func12
end
section
namespace cr
section
variable {α:Type} [Inhabited α] {key:α→Int} {l:List α} {i j n k:Nat} {x:α}
def swp (l:List α) (i j:Nat):List α:=(l.set i (l.getD j default)).set j (l.getD i default)
theorem mR:(swp l i j).length=l.length:=by unfold swp;rw [aR4,aR4]
theorem afD {i k:Nat} (aq:i<l.length):(l.set i x).getD k default=if k=i then x else l.getD k default:=by
 rw [aRU,aRU,aWV];by_cases e:i=k
 ·subst e;rw [aR8 rfl,aR8 rfl];simp [aq]
 ·rw [aR5 e,aR5 (λ h=>e h.symm)]
theorem Eb (aq:i<l.length) (az:j<l.length):(swp l i j).getD k default=if k=j then l.getD i default else if k=i then l.getD j default else l.getD k default:=by
 unfold swp;rw [afD (by rw [aR4];exact az),afD aq]
theorem Ec (aq:i<l.length) (az:j<l.length):(swp l i j).Perm l:=by
 have h:=Array.swap_perm (xs:=l.toArray) (i:=i) (j:=j) (by simpa using aq) (by simpa using az);have h:=h.toList;have e:(l.toArray.swap i j (by simpa using aq) (by simpa using az)).toList=swp l i j:=by
  unfold swp;rw [aRU,aRU,aRX aq,aRX az];simp [Array.swap]
 rw [e] at h;simpa using h
def qu (key:α→Int) (l:List α) (j:Nat):List α :=
 if 0<j∧key (l.getD j default)<key (l.getD ((j - 1) / 2) default) then qu key (swp l ((j - 1) / 2) j) ((j - 1) / 2) else l
termination_by j
decreasing_by omega
def oD (key:α→Int) (n:Nat) (l:List α) (i:Nat):Nat:=if 2 * i+2<n∧key (l.getD (2 * i+2) default)<key (l.getD (2 * i+1) default) then 2 * i+2 else 2 * i+1
theorem MY:i<oD key n l i:=by unfold oD;split<;>omega
theorem Yl (h:2 * i+1<n):oD key n l i<n:=by unfold oD;split<;>omega
theorem azJ:(oD key n l i - 1) / 2=i:=by unfold oD;split<;>omega
theorem ajP (ar:0<k) (hn:k<n) (hp:(k - 1) / 2=i):key (l.getD (oD key n l i) default)≤key (l.getD k default):=by
 have:k=2 * i+1∨k=2 * i+2:=by omega
 unfold oD;split
 ·rename_i h
  rcases this with rfl | rfl
  ·omega
  ·exact aTk _
 ·rename_i h
  rcases this with rfl | rfl
  ·exact aTk _
  ·have:¬ key (l.getD (2 * i+2) default)<key (l.getD (2 * i+1) default):=λ fV=>h ⟨hn,fV⟩;omega
def kt (key:α→Int) (n:Nat) (l:List α) (i:Nat):List α :=
 if 2 * i+1<n∧key (l.getD (oD key n l i) default)<key (l.getD i default) then kt key n (swp l i (oD key n l i)) (oD key n l i) else l
termination_by n - i
decreasing_by rename_i h;have:=MY (key:=key) (n:=n) (l:=l) (i:=i);omega
theorem aEr:∀ (j:Nat) (l:List α),(qu key l j).length=l.length:=by
 intro j;induction j using Nat.strongRecOn with
 | ind j bx =>
  intro l;unfold qu;split
  ·rw [bx _ (by omega),mR]
  ·rfl
theorem aEs:∀ (j:Nat) (l:List α),j<l.length→(qu key l j).Perm l:=by
 intro j;induction j using Nat.strongRecOn with
 | ind j bx =>
  intro l ay;unfold qu;split
  ·exact (bx _ (by omega) _ (by rw [mR];omega)).trans (Ec (by omega) ay)
  ·exact aV7 _
theorem aet (n:Nat):∀ (m i:Nat) (l:List α),n - i≤m→(kt key n l i).length=l.length:=by
 intro m;induction m with
 | zero=>intro i l h;unfold kt;rw [aR5 (by omega)]
 | succ m bx =>
  intro i l h;unfold kt;split
  ·have:=MY (key:=key) (n:=n) (l:=l) (i:=i);rw [bx _ _ (by omega),mR]
  ·rfl
theorem aeu (n:Nat):∀ (m i:Nat) (l:List α),n - i≤m→n≤l.length→i<l.length→(kt key n l i).Perm l:=by
 intro m;induction m with
 | zero=>intro i l h _ _;unfold kt;rw [aR5 (by omega)]
 | succ m bx =>
  intro i l h hn aq;unfold kt;split
  ·rename_i hc
   have:=MY (key:=key) (n:=n) (l:=l) (i:=i);have:=Yl (key:=key) (l:=l) hc.1;exact (bx _ _ (by omega) (by rw [mR];exact hn) (by rw [mR];omega)).trans (Ec aq (by omega))
  ·exact aV7 _
theorem asl (n:Nat):∀ (m i:Nat) (l:List α),n - i≤m→n≤l.length→i<l.length→∀ k,n≤k→i<n→(kt key n l i).getD k default=l.getD k default:=by
 intro m;induction m with
 | zero=>intro i l h _ _ k _ _;unfold kt;rw [aR5 (by omega)]
 | succ m bx =>
  intro i l h hn aq k ar dp;unfold kt;split
  ·rename_i hc
   have κ:=MY (key:=key) (n:=n) (l:=l) (i:=i);have ab:=Yl (key:=key) (l:=l) hc.1;rw [bx _ _ (by omega) (by rw [mR];exact hn) (by rw [mR];omega) k ar ab,Eb aq (by omega),aR5 (by omega),aR5 (by omega)]
  ·rfl
def Heap (key:α→Int) (n:Nat) (l:List α):Prop:=∀ i,0<i→i<n→key (l.getD ((i - 1) / 2) default)≤key (l.getD i default)
theorem aEq (n:Nat):∀ (j:Nat) (l:List α),j<n→n≤l.length→(∀ i,0<i→i<n→i≠j→key (l.getD ((i - 1) / 2) default)≤key (l.getD i default))→
  (∀ i,0<i→i<n→(i - 1) / 2=j→0<j→key (l.getD ((j - 1) / 2) default)≤key (l.getD i default))→Heap key n (qu key l j):=by
 intro j;induction j using Nat.strongRecOn with
 | ind j bx =>
  intro l az hn κ ab;unfold qu;split
  ·rename_i hc
   obtain ⟨aG,bz⟩:=hc;have aO:∀ k,(swp l ((j - 1) / 2) j).getD k default=if k=j then l.getD ((j - 1) / 2) default else if k=(j - 1) / 2 then l.getD j default else l.getD k default:=λ k=>Eb (by omega) (by omega)
   refine bx _ (by omega) _ (by omega) (by rw [mR];exact hn) (λ i kK dp fl=> ?_) (λ i kK dp hp zz=> ?_)
   ·rw [aO,aO];by_cases e:i=j
    ·subst e;rw [aR8 rfl,aR5 (by omega),aR8 rfl];omega
    ·rw [aR5 e,aR5 fl];by_cases bh:(i - 1) / 2=j
     ·rw [aR8 bh];exact ab i kK dp bh aG
     ·rw [aR5 bh];by_cases cF:(i - 1) / 2=(j - 1) / 2
      ·rw [aR8 cF];have:=κ i kK dp e;rw [cF] at this;omega
      ·rw [aR5 cF];exact κ i kK dp e
   ·rw [aO,aO];rw [aR5 (by omega),aR5 (by omega)];have Rc:=κ ((j - 1) / 2) zz (by omega) (by omega);by_cases e:i=j
    ·rw [aR8 e];exact Rc
    ·rw [aR5 e,aR5 (by omega)];have:=κ i kK dp e;rw [hp] at this;omega
  ·rename_i hc
   intro i kK dp;by_cases e:i=j
   ·subst e;have:¬ key (l.getD i default)<key (l.getD ((i - 1) / 2) default):=λ h=>hc ⟨kK,h⟩;omega
   ·exact κ i kK dp e
theorem asj (n:Nat):∀ (m i0:Nat) (l:List α),n - i0≤m→i0<l.length→n≤l.length→(∀ i,0<i→i<n→(i - 1) / 2≠i0→key (l.getD ((i - 1) / 2) default)≤key (l.getD i default))→
  (∀ i,0<i→i<n→(i - 1) / 2=i0→0<i0→key (l.getD ((i0 - 1) / 2) default)≤key (l.getD i default))→Heap key n (kt key n l i0):=by
 intro m;induction m with
 | zero =>
  intro i0 l h _ _ κ _;unfold kt;rw [aR5 (by omega)];intro i kK dp;exact κ i kK dp (by omega)
 | succ m bx =>
  intro i0 l h Is hn κ ab;unfold kt;split
  ·rename_i hc
   obtain ⟨WW,bz⟩:=hc;have g1:=MY (key:=key) (n:=n) (l:=l) (i:=i0);have g2:=Yl (key:=key) (l:=l) WW;have g3:=azJ (key:=key) (n:=n) (l:=l) (i:=i0);have g4:=λ k ar hn hp=>ajP (key:=key) (n:=n) (l:=l) (i:=i0) (k:=k) ar hn hp;generalize az:oD key n l i0=j at *
   have aO:∀ k,(swp l i0 j).getD k default=if k=j then l.getD i0 default else if k=i0 then l.getD j default else l.getD k default:=λ k=>Eb Is (by omega)
   refine bx _ _ (by omega) (by rw [mR];omega) (by rw [mR];exact hn) (λ i kK dp fl=> ?_) (λ i kK dp hp zz=> ?_)
   ·rw [aO,aO];rw [aR5 fl];by_cases e:(i - 1) / 2=i0
    ·rw [aR8 e];by_cases bh:i=j
     ·rw [aR8 bh];omega
     ·rw [aR5 bh,aR5 (by omega)];exact g4 i kK dp e
    ·rw [aR5 e];by_cases bh:i=j
     ·omega
     ·rw [aR5 bh];by_cases cF:i=i0
      ·rw [aR8 cF];have:=ab j (by omega) g2 g3 (by omega);rw [cF];exact this
      ·rw [aR5 cF];exact κ i kK dp e
   ·rw [aO,aO,g3];rw [aR5 (by omega),aR8 rfl,aR5 (by omega),aR5 (by omega)];have:=κ i kK dp (by omega);rw [hp] at this;exact this
  ·rename_i hc
   intro i kK dp;by_cases e:(i - 1) / 2=i0
   ·have WW:2 * i0+1<n:=by omega
    have:¬ key (l.getD (oD key n l i0) default)<key (l.getD i0 default):=λ h=>hc ⟨WW,h⟩;have:=ajP (key:=key) (n:=n) (l:=l) kK dp e;rw [e];omega
   ·exact κ i kK dp e
theorem Heap.min (h:Heap key n l):∀ i,i<n→key (l.getD 0 default)≤key (l.getD i default):=by
 intro i;induction i using Nat.strongRecOn with
 | ind i bx =>
  intro aq;by_cases aG:0<i
  ·exact Int.le_trans (bx ((i - 1) / 2) (by omega) (by omega)) (h i aG aq)
  ·have:i=0:=by omega
   subst this;exact aTk _
def push (key:α→Int) (l:List α) (x:α):List α:=qu key (l++ [x]) l.length
theorem Nn:(push key l x).length=l.length+1:=by unfold push;rw [aEr,aR1];rfl
theorem akV:(push key l x).Perm (x::l):=(aEs _ _ (by rw [aR1];simp)).trans (aV4 x l)
theorem acI (h:k<l.length):(l++ [x]).getD k default=l.getD k default:=by
 rw [aRU,aRU,aSg h]
theorem aBO (h:Heap key l.length l):Heap key (push key l x).length (push key l x):=by
 rw [Nn];refine aEq _ _ _ (by omega) (by simp) (λ i kK dp fl=> ?_) (λ i kK dp hp aG=>by omega);rw [acI (by omega),acI (by omega)];exact h i kK (by omega)
def ym (key:α→Int) (l:List α):List α:=kt key (l.length - 1) (swp l 0 (l.length - 1)) 0
def oK (key:α→Int) (l:List α):List α:=(ym key l).take (l.length - 1)
theorem akN:(ym key l).length=l.length:=by unfold ym;rw [aet _ _ _ _ (aR7 _),mR]
theorem I9:(oK key l).length=l.length - 1:=by unfold oK;rw [aRZ,akN];omega
theorem akM (aG:0<l.length):(ym key l).getD (l.length - 1) default=l.getD 0 default:=by
 unfold ym;by_cases κ:l.length - 1=0
 ·unfold kt;rw [aR5 (by omega),Eb aG (by omega),aR8 rfl]
 ·rw [asl _ _ _ _ (aR7 _) (by rw [mR];omega) (by rw [mR];omega) _ (aR7 _) (by omega),Eb aG (by omega),aR8 rfl]
theorem akP (aG:0<l.length):(l.getD 0 default::oK key l).Perm l:=by
 have κ:(ym key l).Perm l:=by
  unfold ym;exact (aeu _ _ _ _ (aR7 _) (by rw [mR];omega) (by rw [mR];exact aG)).trans (Ec aG (by omega))
 have ab:oK key l++ [l.getD 0 default]=ym key l:=by
  have e:=akM (key:=key) aG;have ay:=akN (key:=key) (l:=l);unfold oK;rw [← e,aRU,aRX (by omega),aS2];rw [← aSn (by omega)];exact aSk (by omega)
 exact ((aV4 _ _).symm.trans (by rw [ab])).trans κ
theorem akO (h:Heap key l.length l) (aG:0<l.length):Heap key (oK key l).length (oK key l):=by
 rw [I9];have hd:Heap key (l.length - 1) (ym key l):=by
  unfold ym;refine asj _ _ _ _ (aR7 _) (by rw [mR];exact aG) (by rw [mR];omega) (λ i kK dp fl=> ?_) (λ i _ _ _ aG=>absurd aG (by omega));rw [Eb aG (by omega),Eb aG (by omega),aR5 (by omega),aR5 fl,aR5 (by omega),aR5 (by omega)];exact h i kK (by omega)
 intro i kK dp;have aC:∀ k,k<l.length - 1→(oK key l).getD k default=(ym key l).getD k default:=λ k ar=>by
  unfold oK;rw [aRU,aRU,aSE,aR8 ar]
 rw [aC _ (by omega),aC _ dp];exact hd i kK dp
theorem Heap.least (h:Heap key l.length l):∀ y∈l,key (l.getD 0 default)≤key y:=by
 intro y aI;obtain ⟨i,aq,rfl⟩:=aSV.1 aI;have:=h.min i aq
 rwa [show l.getD i default=l[i] by rw [aRU,aRX aq];rfl] at this
end
end cr
end
section
namespace qK
section
variable {α:Type} {cS:α→List α} {k h:α→Int} {src:α→Prop} {x y s b:α} {d rM D:Int} {aB Bn:α→Int} {Q qN:List (α×Int)} {rest:List α} {e:α×Int}
inductive o1 (cS:α→List α) (k:α→Int) (src:α→Prop):α→Int→Prop
 | start {s:α} (hs:src s):o1 cS k src s 0
 | step {x y:α} {d:Int} (hx:o1 cS k src x d) (aI:y∈cS x):o1 cS k src y (d+k y)
def ub (cS:α→List α) (k:α→Int) (src:α→Prop) (x:α) (d:Int):Prop:=o1 cS k src x d∧∀ rM,o1 cS k src x rM→d≤rM
structure jw (cS:α→List α) (k h:α→Int):Prop where
 wm:∀ x,∀ y∈cS x,0<k y
 aG:∀ x,0≤h x
 ar:∀ x,∀ y∈cS x,h x≤k y+h y
theorem o1.q8 (o:jw cS k h) (r:o1 cS k src x d):0≤d:=by
 induction r with
 | start _=>exact aTk 0
 | step _ aI bx=>have:=o.wm _ _ aI;omega
theorem ub.uniq (κ:ub cS k src x d) (ab:ub cS k src x rM):d=rM:=Int.le_antisymm (κ.2 _ ab.1) (ab.2 _ κ.1)
structure Inv (cS:α→List α) (k h:α→Int) (src:α→Prop) (aB:α→Int) (Q:List (α×Int)) (df:α) (rest:List α):Prop where
 q:∀ e∈Q,(src e.1∧e.2=0)∨∃ p,0≤aB p∧e.1∈cS p∧e.2=aB p+k e.1
 neg:∀ x,aB x<0→aB x= -1
 o5:∀ x,0≤aB x→ub cS k src x (aB x)
 pred:∀ x,0≤aB x→(src x∧aB x=0)∨∃ p,0≤aB p∧x∈cS p∧aB x=aB p+k x
 Nj:∀ x,0≤aB x→∀ y∈cS x,0≤aB y∨(y,aB x+k y)∈Q∨(x=df∧y∈rest)
 NF:∀ s,src s→0≤aB s∨(s,0)∈Q
 mono:∀ x,0≤aB x→∀ e∈Q,aB x+h x≤e.2+h e.1
 anl:rest≠ []→0≤aB df∧(∀ y∈rest,y∈cS df)∧∀ z,0≤aB z→aB z+h z≤aB df+h df
theorem Inv.alf (i:Inv cS k h src aB Q x rest) (he:e∈Q):o1 cS k src e.1 e.2:=by
 rcases i.q e he with ⟨κ,ab⟩ | ⟨p,κ,ab,aw⟩
 ·rw [ab];exact .start κ
 ·rw [aw];exact .step (i.o5 p κ).1 ab
theorem Inv.front (o:jw cS k h) (i:Inv cS k h src aB Q s []) (r:o1 cS k src x d):aB x<0→∃ e∈Q,e.2+h e.1≤d+h x:=by
 induction r with
 | start hs =>
  intro hx;rcases i.NF _ hs with κ | κ
  ·omega
  ·exact ⟨_,κ,aTk _⟩
 | @step x y d r aI bx =>
  intro aLx;by_cases hx:aB x<0
  ·obtain ⟨e,he,hle⟩:=bx hx;have:=o.ar x y aI;exact ⟨e,he,by omega⟩
  ·rcases i.Nj x (by omega) y aI with κ | κ | ⟨_,κ⟩
   ·omega
   ·have:=(i.o5 x (by omega)).2 d r;exact ⟨_,κ,by dsimp only;omega⟩
   ·simp at κ
theorem Inv.aBz (i:Inv cS k h src aB Q x []) (hp:Q.Perm (e::qN)) (hd:0≤aB e.1):Inv cS k h src aB qN x []:=by
 have hs:∀ z∈qN,z∈Q:=λ z bC=>hp.symm.subset (aSa _ bC);have I:∀ z∈Q,z=e∨z∈qN:=λ z bC=>aSh.1 (hp.subset bC);refine ⟨λ z bC=>i.q z (hs z bC),i.neg,i.o5,i.pred,λ a ha c hc=> ?_,λ s axQ=> ?_,λ a ha z bC=>i.mono a ha z (hs z bC),λ hn=>absurd Z hn⟩
 ·rcases i.Nj a ha c hc with κ | κ | κ
  ·exact .inl κ
  ·rcases I _ κ with ab | ab
   ·left;rw [← ab] at hd;exact hd
   ·exact .inr (.inl ab)
  ·exact .inr (.inr κ)
 ·rcases i.NF s axQ with κ | κ
  ·exact .inl κ
  ·rcases I _ κ with ab | ab
   ·left;rw [← ab] at hd;exact hd
   ·exact .inr ab
theorem Inv.aBy (o:jw cS k h) (i:Inv cS k h src aB Q s []) (hp:Q.Perm (e::qN)) (hd:aB e.1<0) (ag4:∀ z∈Q,e.2+h e.1≤z.2+h z.1) (LS:Bn e.1=e.2) (fl:∀ z,z≠e.1→Bn z=aB z):Inv cS k h src Bn qN e.1 (cS e.1)∧0≤e.2:=by
 have hs:∀ z∈qN,z∈Q:=λ z bC=>hp.symm.subset (aSa _ bC);have I:∀ z∈Q,z=e∨z∈qN:=λ z bC=>aSh.1 (hp.subset bC);have Io:e∈Q:=hp.symm.subset aSj;have ahB:=i.alf Io;have lQ:=ahB.q8 o;have m9:∀ z,0≤aB z→Bn z=aB z:=λ z bC=>fl z (λ aZ=>by rw [aZ] at bC;omega);have vZ:ub cS k src e.1 e.2:=⟨ahB,λ rM r=>by
  obtain ⟨z,bC,hle⟩:=i.front o r hd;have:=ag4 z bC
  omega⟩
 have agS:∀ a,0≤Bn a→Bn a+h a≤e.2+h e.1:=λ a ha=>by
  by_cases aZ:a=e.1
  ·subst aZ;omega
  ·rw [fl a aZ] at ha ⊢;exact i.mono a ha e Io
 refine ⟨⟨λ z bC=> ?_,λ a ha=> ?_,λ a ha=> ?_,λ a ha=> ?_,λ a ha c hc=> ?_,λ a ha=> ?_,λ a ha z bC=> ?_,λ _=>⟨by omega,λ y aI=>aI,λ a ha=>by rw [LS];exact agS a ha⟩⟩,lQ⟩
 ·rcases i.q z (hs z bC) with κ | ⟨p,κ,ab,aw⟩
  ·exact .inl κ
  ·exact .inr ⟨p,by rw [m9 p κ];exact κ,ab,by rw [m9 p κ];exact aw⟩
 ·by_cases aZ:a=e.1
  ·subst aZ;omega
  ·rw [fl a aZ] at ha ⊢;exact i.neg a ha
 ·by_cases aZ:a=e.1
  ·rw [aZ,LS];exact vZ
  ·rw [fl a aZ] at ha ⊢;exact i.o5 a ha
 ·by_cases aZ:a=e.1
  ·rw [aZ,LS];rcases i.q e Io with κ | ⟨p,κ,ab,aw⟩
   ·exact .inl κ
   ·exact .inr ⟨p,by rw [m9 p κ];exact κ,ab,by rw [m9 p κ];exact aw⟩
  ·rw [fl a aZ] at ha ⊢;rcases i.pred a ha with κ | ⟨p,κ,ab,aw⟩
   ·exact .inl κ
   ·exact .inr ⟨p,by rw [m9 p κ];exact κ,ab,by rw [m9 p κ];exact aw⟩
 ·by_cases aZ:a=e.1
  ·exact .inr (.inr ⟨aZ,by rw [← aZ];exact hc⟩)
  ·rw [fl a aZ] at ha ⊢;rcases i.Nj a ha c hc with κ | κ | ⟨_,κ⟩
   ·left;rw [m9 c κ];exact κ
   ·rcases I _ κ with ab | ab
    ·left;have:c=e.1:=by rw [← ab]
     rw [this,LS];exact lQ
    ·exact .inr (.inl ab)
   ·simp at κ
 ·rcases i.NF a ha with κ | κ
  ·left;rw [m9 a κ];exact κ
  ·rcases I _ κ with ab | ab
   ·left;have:a=e.1:=by rw [← ab]
    rw [this,LS];exact lQ
   ·exact .inr ab
 ·have:=agS a ha;have:=ag4 z (hs z bC);omega
theorem Inv.push (o:jw cS k h) (i:Inv cS k h src aB Q x (y::rest)) (hp:qN.Perm ((y,aB x+k y)::Q)):Inv cS k h src aB qN x rest:=by
 have hs:∀ z∈Q,z∈qN:=λ z bC=>hp.symm.subset (aSa _ bC);have hn:(y,aB x+k y)∈qN:=hp.symm.subset aSj;have I:∀ z∈qN,z=(y,aB x+k y)∨z∈Q:=λ z bC=>aSh.1 (hp.subset bC);obtain ⟨fY,fb,jm⟩:=i.anl (by simp);have ahM:=fb y aSj;refine ⟨λ z bC=> ?_,i.neg,i.o5,i.pred,λ a ha c hc=> ?_,λ a ha=>(i.NF a ha).imp id (hs _),λ a ha z bC=> ?_,λ _=>⟨fY,λ c hc=>fb c (aSa _ hc),jm⟩⟩
 ·rcases I z bC with rfl | κ
  ·exact .inr ⟨x,fY,ahM,Z⟩
  ·exact i.q z κ
 ·rcases i.Nj a ha c hc with κ | κ | ⟨κ,ab⟩
  ·exact .inl κ
  ·exact .inr (.inl (hs _ κ))
  ·rcases aSh.1 ab with aw | aw
   ·subst κ;subst aw;exact .inr (.inl hn)
   ·exact .inr (.inr ⟨κ,aw⟩)
 ·rcases I z bC with rfl | κ
  ·have:=jm a ha;have:=o.ar x y ahM;dsimp only;omega
  ·exact i.mono a ha z κ
theorem Inv.skip (i:Inv cS k h src aB Q x (y::rest)) (aI:0≤aB y):Inv cS k h src aB Q x rest:=by
 obtain ⟨fY,fb,jm⟩:=i.anl (by simp);refine ⟨i.q,i.neg,i.o5,i.pred,λ a ha c hc=> ?_,i.NF,i.mono,λ _=>⟨fY,λ c hc=>fb c (aSa _ hc),jm⟩⟩;rcases i.Nj a ha c hc with κ | κ | ⟨κ,ab⟩
 ·exact .inl κ
 ·exact .inr (.inl κ)
 ·rcases aSh.1 ab with aw | aw
  ·subst aw;exact .inl aI
  ·exact .inr (.inr ⟨κ,aw⟩)
theorem Inv.start (hn:∀ x,aB x= -1) (I:∀ e∈Q,src e.1∧e.2=0) (hs:∀ s,src s→(s,0)∈Q):Inv cS k h src aB Q x [] :=
 ⟨λ e he=> .inl (I e he),λ a _=>hn a,λ a ha=>by rw [hn a] at ha;omega,λ a ha=>by rw [hn a] at ha;omega,λ a ha=>by rw [hn a] at ha;omega,λ s κ=> .inr (hs s κ),λ a ha=>by rw [hn a] at ha;omega,λ κ=>absurd rfl κ⟩
theorem Inv.all (o:jw cS k h) (i:Inv cS k h src aB [] s []) (r:o1 cS k src x d):0≤aB x:=by
 by_cases hx:aB x<0
 ·obtain ⟨e,he,_⟩:=i.front o r hx;simp at he
 ·omega
structure Spec (cS:α→List α) (k h:α→Int) (src:α→Prop) (b:α) (aB:α→Int):Prop where
 neg:∀ x,aB x<0→aB x= -1
 o5:∀ x,0≤aB x→ub cS k src x (aB x)∧∀ D,ub cS k src b D→aB x+h x≤D
 known:∀ x d,ub cS k src x d→(∀ D,ub cS k src b D→d+h x≤D)→aB x=d
 pred:∀ x,0≤aB x→(src x∧aB x=0)∨∃ p,0≤aB p∧x∈cS p∧aB x=aB p+k x
theorem Spec.uniq (s1:Spec cS k h src b aB) (s2:Spec cS k h src b Bn) (x:α):aB x=Bn x:=by
 by_cases κ:0≤aB x
 ·exact (s2.known x _ (s1.o5 x κ).1 (s1.o5 x κ).2).symm
 ·by_cases ab:0≤Bn x
  ·exact s1.known x _ (s2.o5 x ab).1 (s2.o5 x ab).2
  ·rw [s1.neg x (by omega),s2.neg x (by omega)]
theorem Inv.ends (o:jw cS k h) (i:Inv cS k h src aB Q s []) (Φ:h b=0) (hm:0≤aB b→∀ x,0≤aB x→aB x+h x≤aB b) (he:(0≤aB b∧∀ e∈Q,aB b<e.2+h e.1)∨Q= []):Spec cS k h src b aB:=by
 refine ⟨i.neg,λ x hx=>⟨i.o5 x hx,λ D vZ=> ?_⟩,λ x d hd hle=> ?_,i.pred⟩
 ·by_cases κ:0≤aB b
  ·have:=hm κ x hx;rw [vZ.uniq (i.o5 b κ)];exact this
  ·rcases he with he | he
   ·omega
   ·subst he;exact absurd (i.all o vZ.1) κ
 ·by_cases κ:aB x<0
  ·obtain ⟨e,Io,ar⟩:=i.front o hd.1 κ;rcases he with ⟨ab,aw⟩ | ab
   ·have:=hle _ (i.o5 b ab);have:=aw e Io;omega
   ·subst ab;simp at Io
  ·exact (i.o5 x (by omega)).uniq hd
theorem Spec.end_ (s:Spec cS k h src b aB) (Φ:h b=0) (hd:ub cS k src b D):aB b=D:=s.known b D hd λ aGU κ=>by rw [Φ,hd.uniq κ];omega
theorem o1.ahR (o:jw cS k h) (r:o1 cS k src x d):∃ d,ub cS k src x d:=by
 have:∀ n:Nat,∀ d,o1 cS k src x d→d.toNat=n→∃ d,ub cS k src x d:=by
  intro n;induction n using Nat.strongRecOn with
  | ind n bx =>
   intro d r hn;by_cases hex:∃ rM,o1 cS k src x rM∧rM<d
   ·obtain ⟨rM,r',bz⟩:=hex;have:=r'.q8 o;exact bx rM.toNat (by omega) rM r' Z
   ·exact ⟨d,r,λ rM r'=>by
     by_cases bz:rM<d
     ·exact absurd ⟨rM,r',bz⟩ hex
     ·omega⟩
 exact this _ d r Z
end
end qK
end
end Go.Proofs.YtmeeljmapailnaaGreat
