import Derived.Test.YtccankldeogdlaaGol
import Derived.RangeFuncNested
import Derived.RangeFuncLeaves
import Derived.OrdersIn
import Derived.TacticsIn
import Derived.LoopNIn
import Derived.Laws.IdiomCopy
set_option linter.unusedVariables false
set_option linter.unusedSimpArgs false
set_option maxRecDepth 100000
set_option maxHeartbeats 4000000
namespace Go.Proofs.Ytccankldeogdlaa
section
open Go.RowKit
theorem fk1 {B : List Nat} {b n : Nat} (u : ∀ q ∈ B, q < n) (h : n ≤ b) : ∀ q ∈ B, q ∈ [b] → False := fun q hq hb => by have := u q hq; have := List.mem_singleton.1 hb; omega
theorem fk2 {B : List Nat} {b n : Nat} (u : ∀ q ∈ B, n ≤ q) (h : b < n) : ∀ q ∈ B, q ∈ [b] → False := fun q hq hb => by have := u q hq; have := List.mem_singleton.1 hb; omega
theorem nm1 {a b : Nat} (h : a ≠ b) : a ∉ [b] := fun e => h (List.mem_singleton.1 e)
section
variable {P : Program} {n : Nat} {ops : Array Oper} {Q : Exit → Act → World → Prop} {E : List (Nat × Value)} {w w' w0 : World} {v : Value} {ty : TypeId} {pos : String} {af : Array Edge} {x : Operand} {rest : List Oper} {d i : Nat} {τ : List Nat} {kd : Nat → Nat}
theorem nK {y : Code} (h : W P n y Q E w) : WL P n ops (Th P y Q) [] E w := nl (nT h)
theorem sg {id : Nat} {l : List Oper} {y : Code} (h : WL P n l.toArray (Th P y Q) l E w) : W P n (.seq (.region id l.toArray false) y) Q E w := sq (rg h)
theorem sK {y : Code} (h : W P n y Q E w) : W P n .skip (Th P y Q) E w := sk (nT h)
theorem vL {op : Op} (hr : Runs P E ⟨some d, op, ty, pos, af, none⟩ w v w') (h : WL P n ops Q rest ((d, v) :: E) w') (hd : Nat.blt d n = true := by rfl) : WL P n ops Q (⟨some d, op, ty, pos, af, none⟩ :: rest) E w := vl hr hd h
theorem vm (hx : ev E x = some v) (h : WL P n ops Q rest ((d, v) :: E) w) (hd : Nat.blt d n = true := by rfl) : WL P n ops Q (⟨some d, .move x, ty, pos, af, none⟩ :: rest) E w := vl (mv hx) hd h
theorem va (hx : ev E x = some v) (h : WL P n ops Q rest ((d, v) :: E) w) (hd : Nat.blt d n = true := by rfl) : WL P n ops Q (⟨some d, .assign x, ty, pos, af, none⟩ :: rest) E w := vl (as_ hx) hd h
theorem fw1 {op : Op} (hi : ops[i]? = some ⟨some d, op, ty, pos, af, none⟩) (hr : ∀ w, Runs P E ⟨some d, op, ty, pos, af, none⟩ w v w) (h : FL P n ops Q kd τ ((d, v) :: E) w0) (hk : kd i = 1 := by rfl) (hd : Nat.blt d n = true := by rfl) : FL P n ops Q kd (i :: τ) E w0 := fw hi hk hr hd h
theorem fq1 {op : Op} (hi : ops[i]? = some ⟨some d, op, ty, pos, af, none⟩) (hr : ∀ w, Ext w0 w → Runs P E ⟨some d, op, ty, pos, af, none⟩ w v w) (h : FL P n ops Q kd τ ((d, v) :: E) w0) (hk : kd i = 0 := by rfl) (hd : Nat.blt d n = true := by rfl) : FL P n ops Q kd (i :: τ) E w0 := fq hi hk hr hd h
end
theorem sba : ∀ {E' E : List (Nat × Value)}, E'.map (fun p => look E p.1) = E'.map (fun p => some p.2) → Sub E' E
 | [], _, _ => Sub.nil
 | (k, v) :: r, E, h => have h' : look E k :: r.map (fun p => look E p.1) = some v :: r.map (fun p => some p.2) := h
  Sub.cons (List.cons.inj h').1 (sba (List.cons.inj h').2)
theorem bS : (∀ (a b : Bool), ((a || b) = true) ↔ (a = true ∨ b = true)) ∧ (∀ (a b : Bool), ((a || b) = false) ↔ (a = false ∧ b = false)) ∧ (∀ (a b : Bool), ((a && b) = true) ↔ (a = true ∧ b = true)) ∧ (∀ (a b : Bool), ((a && b) = false) ↔ (a = false ∨ b = false)) ∧ (∀ (p : Prop) [Decidable p], (decide p = true) ↔ p) ∧ (∀ (p : Prop) [Decidable p], (decide p = false) ↔ ¬ p) ∧ (∀ (α : Type) [BEq α] [LawfulBEq α] (a b : α), ((a == b) = true) ↔ (a = b)) ∧ (∀ (α : Type) [BEq α] [LawfulBEq α] (a b : α), ((a != b) = true) ↔ (a ≠ b)) ∧ (∀ (α : Type) [BEq α] [LawfulBEq α] (a b : α), ((a == b) = false) ↔ (a ≠ b)) ∧ (∀ (α : Type) [BEq α] [LawfulBEq α] (a b : α), ((a != b) = false) ↔ (a = b)) ∧ (∀ b : Bool, ((!b) = true) ↔ (b = false)) ∧ (∀ b : Bool, ((!b) = false) ↔ (b = true)) ∧ (∀ b : Bool, (¬ (b = true)) ↔ (b = false)) ∧ (∀ b : Bool, (¬ (b = false)) ↔ (b = true)) ∧ (∀ a b : Int, (¬ a < b) ↔ b ≤ a) ∧ (∀ a b : Int, (¬ a ≤ b) ↔ b < a) ∧ (∀ a b : Nat, (¬ a < b) ↔ b ≤ a) ∧ (∀ a b : Nat, (¬ a ≤ b) ↔ b < a) ∧ (∀ (α : Type) (a b : α), (a ≠ b) ↔ ¬ (a = b)) ∧ (∀ p : Prop, (¬ ¬ p) ↔ p) :=
 ⟨fun a b => by cases a <;> cases b <;> simp, fun a b => by cases a <;> cases b <;> simp, fun a b => by cases a <;> cases b <;> simp, fun a b => by cases a <;> cases b <;> simp, fun p _ => by simp, fun p _ => by simp, fun α _ _ a b => by simp, fun α _ _ a b => by simp, fun α _ _ a b => by simp, fun α _ _ a b => by simp, fun b => by simp, fun b => by simp, fun b => by simp, fun b => by simp, fun _ _ => Int.not_lt, fun _ _ => Int.not_le, fun _ _ => Nat.not_lt, fun _ _ => Nat.not_le, fun _ _ _ => Iff.rfl, fun _ => Classical.not_not⟩
theorem zl (j : Nat) {n : Nat} (h : j < n) : 0 < n := Nat.zero_lt_of_lt h
theorem eT {a b c : World} (h : Ext a b) (k : Ext b c) : Ext a c := Ext.tr h k
theorem ge1 {b n : Nat} (h : n ≤ b) : ∀ q ∈ [b], n ≤ q := fun q hq => by rw [List.mem_singleton.1 hq]; exact h
theorem eF0 : Sz Try.prog 80 7 := fun _ => by kernel_rfl
theorem eF1 : Ag Try.prog 80 true := fun _ => by kernel_rfl
theorem eF2 : Enters Try.prog 109 := en Try.func109 (by kernel_rfl) (by kernel_rfl)
theorem eF3 : Zv Try.prog 80 (.agg #[.int .i64 0, .int .i64 0, .int .i64 0, .int .i64 0, .int .i64 0, .int .i64 0, .int .i64 0]) := fun _ => by kernel_rfl
theorem eF4 : Fd Try.prog 70 0 0 := fun _ _ _ => by kernel_rfl
theorem eF5 : Ag Try.prog 3 false := fun _ => by kernel_rfl
theorem eF6 : Fd Try.prog 70 1 1 := fun _ _ _ => by kernel_rfl
theorem eF7 : Ag Try.prog 70 true := fun _ => by kernel_rfl
theorem eF8 : Sz Try.prog 70 2 := fun _ => by kernel_rfl
theorem eF9 : Enters Try.prog 167 := en Try.func167 (by kernel_rfl) (by kernel_rfl)
theorem eF10 : Enters Try.prog 168 := en Try.func168 (by kernel_rfl) (by kernel_rfl)
theorem eF11 : Sz Try.prog 3 1 := fun _ => by kernel_rfl
theorem eF12 : Enters Try.prog 175 := en Try.func175 (by kernel_rfl) (by kernel_rfl)
theorem eF13 : Zv Try.prog 70 (.agg #[.int .i64 0, .int .i64 0]) := fun _ => by kernel_rfl
theorem eF14 : Ag Try.prog 54 true := fun _ => by kernel_rfl
theorem eF15 : Sz Try.prog 54 3 := fun _ => by kernel_rfl
theorem eF16 : Enters Try.prog 141 := en Try.func141 (by kernel_rfl) (by kernel_rfl)
theorem eF17 : Enters Try.prog 164 := en Try.func164 (by kernel_rfl) (by kernel_rfl)
theorem eF18 : Fd Try.prog 54 1 1 := fun _ _ _ => by kernel_rfl
theorem eF19 : Fd Try.prog 54 0 0 := fun _ _ _ => by kernel_rfl
theorem eF20 : Fd Try.prog 159 1 1 := fun _ _ _ => by kernel_rfl
theorem eF21 : Enters Try.prog 161 := en Try.func161 (by kernel_rfl) (by kernel_rfl)
theorem eF22 : Enters Try.prog 162 := en Try.func162 (by kernel_rfl) (by kernel_rfl)
theorem eF23 : Fd Try.prog 80 2 2 := fun _ _ _ => by kernel_rfl
theorem eF24 : Fd Try.prog 80 5 6 := fun _ _ _ => by kernel_rfl
theorem eF25 : Fd Try.prog 80 3 3 := fun _ _ _ => by kernel_rfl
theorem eF26 : Fd Try.prog 159 2 2 := fun _ _ _ => by kernel_rfl
theorem eF27 : Fd Try.prog 157 0 0 := fun _ _ _ => by kernel_rfl
theorem eF28 : Fd Try.prog 58 0 0 := fun _ _ _ => by kernel_rfl
theorem eF29 : Fd Try.prog 58 3 5 := fun _ _ _ => by kernel_rfl
theorem eF30 : Ag Try.prog 42 false := fun _ => by kernel_rfl
theorem eF31 : Fd Try.prog 58 1 3 := fun _ _ _ => by kernel_rfl
theorem eF32 : Ag Try.prog 55 false := fun _ => by kernel_rfl
theorem eF33 : Fd Try.prog 80 1 1 := fun _ _ _ => by kernel_rfl
theorem eF34 : Fd Try.prog 58 2 4 := fun _ _ _ => by kernel_rfl
theorem eF35 : Fd Try.prog 58 4 6 := fun _ _ _ => by kernel_rfl
theorem eF36 : Ag Try.prog 56 false := fun _ => by kernel_rfl
theorem eF37 : Enters Try.prog 72 := en Try.func72 (by kernel_rfl) (by kernel_rfl)
theorem eF38 : Fd Try.prog 159 3 4 := fun _ _ _ => by kernel_rfl
theorem eF39 : Enters Try.prog 39 := en Try.func39 (by kernel_rfl) (by kernel_rfl)
theorem eF40 : Zv Try.prog 84 (.agg #[.int .i64 0, .int .i64 0, .int .i64 0, .int .i64 0]) := fun _ => by kernel_rfl
theorem eF41 : Sz Try.prog 84 4 := fun _ => by kernel_rfl
theorem eF42 : Fd Try.prog 84 3 3 := fun _ _ _ => by kernel_rfl
theorem eF43 : Fd Try.prog 58 5 7 := fun _ _ _ => by kernel_rfl
theorem eF44 : Enters Try.prog 163 := en Try.func163 (by kernel_rfl) (by kernel_rfl)
theorem eF45 : Fd Try.prog 84 0 0 := fun _ _ _ => by kernel_rfl
theorem eF46 : Sz Try.prog 56 1 := fun _ => by kernel_rfl
theorem eF47 : Fd Try.prog 159 0 0 := fun _ _ _ => by kernel_rfl
theorem eF48 : Ag Try.prog 159 true := fun _ => by kernel_rfl
theorem eF49 : Sz Try.prog 159 5 := fun _ => by kernel_rfl
theorem eF50 : Enters Try.prog 137 := en Try.func137 (by kernel_rfl) (by kernel_rfl)
theorem eF51 : Enters Try.prog 138 := en Try.func138 (by kernel_rfl) (by kernel_rfl)
theorem eF52 : Enters Try.prog 139 := en Try.func139 (by kernel_rfl) (by kernel_rfl)
theorem eF53 : Zv Try.prog 58 (.agg #[.int .i64 0, .int .i64 0, .slice none 0 0, .slice none 0 0, .slice none 0 0, .slice none 0 0, .slice none 0 0, .int .i64 0, .int .i64 0]) := fun _ => by kernel_rfl
theorem eF54 : Ag Try.prog 58 true := fun _ => by kernel_rfl
theorem eF55 : Sz Try.prog 58 9 := fun _ => by kernel_rfl
theorem eF56 : Enters Try.prog 30 := en Try.func30 (by kernel_rfl) (by kernel_rfl)
theorem eF57 : Enters Try.prog 95 := en Try.func95 (by kernel_rfl) (by kernel_rfl)
theorem eF58 : Zv Try.prog 157 (.agg #[.int .i64 0, .int .i64 0, .slice none 0 0, .slice none 0 0, .slice none 0 0, .slice none 0 0, .slice none 0 0, .int .i64 0, .int .i64 0]) := fun _ => by kernel_rfl
theorem eF59 : Sz Try.prog 157 9 := fun _ => by kernel_rfl
theorem eF60 : Zv Try.prog 159 (.agg #[.int .i64 0, .int .i64 0, .int .i64 0, .int .i64 0, .int .i64 0]) := fun _ => by kernel_rfl
theorem eF61 : Enters Try.prog 96 := en Try.func96 (by kernel_rfl) (by kernel_rfl)
theorem eF62 : Fd Try.prog 54 2 2 := fun _ _ _ => by kernel_rfl
theorem eF63 : Enters Try.prog 26 := en Try.func26 (by kernel_rfl) (by kernel_rfl)
theorem eF64 : Enters Try.prog 61 := en Try.func61 (by kernel_rfl) (by kernel_rfl)
theorem eF65 : Enters Try.prog 62 := en Try.func62 (by kernel_rfl) (by kernel_rfl)
theorem eF66 : Enters Try.prog 63 := en Try.func63 (by kernel_rfl) (by kernel_rfl)
theorem eF67 : Fd Try.prog 58 6 8 := fun _ _ _ => by kernel_rfl
theorem eF68 : Enters Try.prog 144 := en Try.func144 (by kernel_rfl) (by kernel_rfl)
theorem eF69 : Ag Try.prog 37 false := fun _ => by kernel_rfl
theorem eF70 : Sz Try.prog 4 1 := fun _ => by kernel_rfl
theorem eF71 : Zv Try.prog 37 (.slice none 0 0) := fun _ => by kernel_rfl
theorem eF72 : Sz Try.prog 37 1 := fun _ => by kernel_rfl
theorem eF73 : Enters Try.prog 143 := en Try.func143 (by kernel_rfl) (by kernel_rfl)
theorem eF74 : Enters Try.prog 103 := en Try.func103 (by kernel_rfl) (by kernel_rfl)
theorem eF75 : Ag Try.prog 4 false := fun _ => by kernel_rfl
theorem eF76 : Enters Try.prog 104 := en Try.func104 (by kernel_rfl) (by kernel_rfl)
theorem eF77 : Enters Try.prog 105 := en Try.func105 (by kernel_rfl) (by kernel_rfl)
theorem eF78 : Sz Try.prog 42 1 := fun _ => by kernel_rfl
theorem eF79 : Sz Try.prog 55 1 := fun _ => by kernel_rfl
theorem eF80 : Enters Try.prog 107 := en Try.func107 (by kernel_rfl) (by kernel_rfl)
theorem eF81 : Enters Try.prog 108 := en Try.func108 (by kernel_rfl) (by kernel_rfl)
theorem eF82 : Enters Try.prog 106 := en Try.func106 (by kernel_rfl) (by kernel_rfl)
theorem eF83 : Fd Try.prog 80 0 0 := fun _ _ _ => by kernel_rfl
theorem eF84 : Enters Try.prog 59 := en Try.func59 (by kernel_rfl) (by kernel_rfl)
theorem eF85 : Enters Try.prog 74 := en Try.func74 (by kernel_rfl) (by kernel_rfl)
theorem eF86 : Enters Try.prog 70 := en Try.func70 (by kernel_rfl) (by kernel_rfl)
theorem eF87 : Sz Try.prog 250 4 := fun _ => by kernel_rfl
theorem eF88 : Fd Try.prog 250 2 3 := fun _ _ _ => by kernel_rfl
theorem eF89 : Ag Try.prog 250 true := fun _ => by kernel_rfl
theorem eF90 : Ag Try.prog 227 false := fun _ => by kernel_rfl
theorem eF91 : Enters Try.prog 200 := en Try.func200 (by kernel_rfl) (by kernel_rfl)
theorem eF92 : Enters Try.prog 201 := en Try.func201 (by kernel_rfl) (by kernel_rfl)
theorem eF93 : Sz Try.prog 227 1 := fun _ => by kernel_rfl
theorem eF94 : Zv Try.prog 250 (.agg #[.int .i64 0, .int .i64 0, .int .i64 0, .int .i64 0]) := fun _ => by kernel_rfl
theorem eF95 : Enters Try.prog 203 := en Try.func203 (by kernel_rfl) (by kernel_rfl)
theorem eF96 : Enters Try.prog 178 := en Try.func178 (by kernel_rfl) (by kernel_rfl)
theorem eF97 : Enters Try.prog 182 := en Try.func182 (by kernel_rfl) (by kernel_rfl)
theorem eF98 : Enters Try.prog 183 := en Try.func183 (by kernel_rfl) (by kernel_rfl)
theorem eF99 : Enters Try.prog 202 := en Try.func202 (by kernel_rfl) (by kernel_rfl)
theorem eF100 : Fd Try.prog 229 0 0 := fun _ _ _ => by kernel_rfl
theorem eF101 : Enters Try.prog 172 := en Try.func172 (by kernel_rfl) (by kernel_rfl)
theorem eF102 : Zv Try.prog 224 (.agg #[.int .i64 0, .int .i64 0, .int .i64 0, .int .i64 0, .int .i64 0, .int .i64 0, .int .i64 0, .int .i64 0]) := fun _ => by kernel_rfl
theorem eF103 : Sz Try.prog 224 8 := fun _ => by kernel_rfl
theorem eF104 : Ag Try.prog 224 true := fun _ => by kernel_rfl
theorem eF105 : Fd Try.prog 229 1 3 := fun _ _ _ => by kernel_rfl
theorem eF106 : Enters Try.prog 154 := en Try.func154 (by kernel_rfl) (by kernel_rfl)
theorem eF107 : Fd Try.prog 229 3 6 := fun _ _ _ => by kernel_rfl
theorem eF108 : Enters Try.prog 177 := en Try.func177 (by kernel_rfl) (by kernel_rfl)
theorem eF109 : Enters Try.prog 159 := en Try.func159 (by kernel_rfl) (by kernel_rfl)
theorem eF110 : Fd Try.prog 229 2 5 := fun _ _ _ => by kernel_rfl
theorem eF111 : Enters Try.prog 179 := en Try.func179 (by kernel_rfl) (by kernel_rfl)
theorem eF112 : Fd Try.prog 250 0 0 := fun _ _ _ => by kernel_rfl
theorem eF113 : Fd Try.prog 250 1 2 := fun _ _ _ => by kernel_rfl
theorem eF114 : Enters Try.prog 158 := en Try.func158 (by kernel_rfl) (by kernel_rfl)
theorem eF115 : Enters Try.prog 157 := en Try.func157 (by kernel_rfl) (by kernel_rfl)
theorem eF116 : Enters Try.prog 170 := en Try.func170 (by kernel_rfl) (by kernel_rfl)
theorem eF117 : Enters Try.prog 176 := en Try.func176 (by kernel_rfl) (by kernel_rfl)
theorem eF118 : Enters Try.prog 169 := en Try.func169 (by kernel_rfl) (by kernel_rfl)
theorem eF119 : Enters Try.prog 171 := en Try.func171 (by kernel_rfl) (by kernel_rfl)
theorem eF120 : Enters Try.prog 156 := en Try.func156 (by kernel_rfl) (by kernel_rfl)
theorem eF121 : Enters Try.prog 160 := en Try.func160 (by kernel_rfl) (by kernel_rfl)
theorem eF122 : Fd Try.prog 84 1 1 := fun _ _ _ => by kernel_rfl
theorem eF123 : Enters Try.prog 155 := en Try.func155 (by kernel_rfl) (by kernel_rfl)
theorem eF124 : Sz Try.prog 193 2 := fun _ => by kernel_rfl
theorem eF125 : Ag Try.prog 193 true := fun _ => by kernel_rfl
theorem eF126 : Zv Try.prog 193 (.agg #[.int .i64 0, .int .i64 0]) := fun _ => by kernel_rfl
theorem eF127 : Fd Try.prog 193 0 0 := fun _ _ _ => by kernel_rfl
theorem eF128 : Zv Try.prog 3 (.int .i64 0) := fun _ => by kernel_rfl
theorem eF129 : Fd Try.prog 193 1 1 := fun _ _ _ => by kernel_rfl
theorem eF130 : Enters Try.prog 133 := en Try.func133 (by kernel_rfl) (by kernel_rfl)
theorem eF131 : Fd Try.prog 84 2 2 := fun _ _ _ => by kernel_rfl
theorem eF132 : Enters Try.prog 91 := en Try.func91 (by kernel_rfl) (by kernel_rfl)
theorem eF133 : Enters Try.prog 92 := en Try.func92 (by kernel_rfl) (by kernel_rfl)
theorem eF134 : Fd Try.prog 80 4 5 := fun _ _ _ => by kernel_rfl
theorem eF135 : Sz Try.prog 195 3 := fun _ => by kernel_rfl
theorem eF136 : Ag Try.prog 195 true := fun _ => by kernel_rfl
theorem eF137 : Fd Try.prog 195 0 0 := fun _ _ _ => by kernel_rfl
theorem eF138 : Ag Try.prog 197 false := fun _ => by kernel_rfl
theorem eF139 : Enters Try.prog 135 := en Try.func135 (by kernel_rfl) (by kernel_rfl)
theorem eF140 : Zv Try.prog 197 (.pointer none) := fun _ => by kernel_rfl
theorem eF141 : Sz Try.prog 197 1 := fun _ => by kernel_rfl
theorem eF142 : Enters Try.prog 134 := en Try.func134 (by kernel_rfl) (by kernel_rfl)
theorem eF143 : Fd Try.prog 195 1 1 := fun _ _ _ => by kernel_rfl
theorem eF144 : Enters Try.prog 136 := en Try.func136 (by kernel_rfl) (by kernel_rfl)
theorem eF145 : Enters Try.prog 93 := en Try.func93 (by kernel_rfl) (by kernel_rfl)
theorem eF146 : Enters Try.prog 94 := en Try.func94 (by kernel_rfl) (by kernel_rfl)
theorem eF147 : Zv Try.prog 72 (.agg #[.int .i64 0, .int .i64 0, .int .i64 0, .int .i64 0, .int .i64 0, .int .i64 0]) := fun _ => by kernel_rfl
theorem eF148 : Fd Try.prog 72 1 1 := fun _ _ _ => by kernel_rfl
theorem eF149 : Fd Try.prog 72 2 2 := fun _ _ _ => by kernel_rfl
theorem eF150 : Fd Try.prog 72 3 3 := fun _ _ _ => by kernel_rfl
theorem eF151 : Fd Try.prog 72 4 5 := fun _ _ _ => by kernel_rfl
theorem eF152 : Ag Try.prog 72 true := fun _ => by kernel_rfl
theorem eF153 : Sz Try.prog 72 6 := fun _ => by kernel_rfl
theorem eF154 : Fd Try.prog 72 0 0 := fun _ _ _ => by kernel_rfl
theorem eF155 : Enters Try.prog 152 := en Try.func152 (by kernel_rfl) (by kernel_rfl)
theorem eF156 : Enters Try.prog 153 := en Try.func153 (by kernel_rfl) (by kernel_rfl)
theorem eF157 : Enters Try.prog 132 := en Try.func132 (by kernel_rfl) (by kernel_rfl)
theorem eF158 : Fd Try.prog 151 0 0 := fun _ _ _ => by kernel_rfl
theorem eF159 : Ag Try.prog 107 false := fun _ => by kernel_rfl
theorem eF160 : Sz Try.prog 107 1 := fun _ => by kernel_rfl
theorem eF161 : Fd Try.prog 151 1 1 := fun _ _ _ => by kernel_rfl
theorem eF162 : Ag Try.prog 108 false := fun _ => by kernel_rfl
theorem eF163 : Sz Try.prog 108 1 := fun _ => by kernel_rfl
theorem eF164 : Fd Try.prog 151 2 2 := fun _ _ _ => by kernel_rfl
theorem eF165 : Ag Try.prog 109 false := fun _ => by kernel_rfl
theorem eF166 : Sz Try.prog 109 1 := fun _ => by kernel_rfl
theorem eF167 : Enters Try.prog 89 := en Try.func89 (by kernel_rfl) (by kernel_rfl)
theorem eF168 : Zv Try.prog 151 (.agg #[.slice none 0 0, .slice none 0 0, .slice none 0 0]) := fun _ => by kernel_rfl
theorem eF169 : Enters Try.prog 90 := en Try.func90 (by kernel_rfl) (by kernel_rfl)
theorem eF170 : Zv Try.prog 61 (.agg #[.slice none 0 0, .slice none 0 0, .slice none 0 0]) := fun _ => by kernel_rfl
theorem eF171 : Enters Try.prog 55 := en Try.func55 (by kernel_rfl) (by kernel_rfl)
theorem eF172 : Sz Try.prog 61 3 := fun _ => by kernel_rfl
theorem eF173 : Ag Try.prog 61 true := fun _ => by kernel_rfl
theorem eF174 : Enters Try.prog 56 := en Try.func56 (by kernel_rfl) (by kernel_rfl)
theorem eF175 : Fd Try.prog 61 0 0 := fun _ _ _ => by kernel_rfl
theorem eF176 : Enters Try.prog 57 := en Try.func57 (by kernel_rfl) (by kernel_rfl)
theorem eF177 : Fd Try.prog 61 1 1 := fun _ _ _ => by kernel_rfl
theorem eF178 : Enters Try.prog 58 := en Try.func58 (by kernel_rfl) (by kernel_rfl)
theorem eF179 : Fd Try.prog 61 2 2 := fun _ _ _ => by kernel_rfl
theorem eF180 : Enters Try.prog 69 := en Try.func69 (by kernel_rfl) (by kernel_rfl)
theorem eF181 : Enters Try.prog 73 := en Try.func73 (by kernel_rfl) (by kernel_rfl)
theorem eF182 : Enters Try.prog 33 := en Try.func33 (by kernel_rfl) (by kernel_rfl)
theorem eF183 : Enters Try.prog 71 := en Try.func71 (by kernel_rfl) (by kernel_rfl)
theorem eF184 : Enters Try.prog 32 := en Try.func32 (by kernel_rfl) (by kernel_rfl)
theorem eF185 : Enters Try.prog 40 := en Try.func40 (by kernel_rfl) (by kernel_rfl)
theorem eF186 : Enters Try.prog 41 := en Try.func41 (by kernel_rfl) (by kernel_rfl)
theorem eF187 : Enters Try.prog 42 := en Try.func42 (by kernel_rfl) (by kernel_rfl)
theorem eF188 : Enters Try.prog 27 := en Try.func27 (by kernel_rfl) (by kernel_rfl)
theorem eF189 : Enters Try.prog 29 := en Try.func29 (by kernel_rfl) (by kernel_rfl)
end
end Go.Proofs.Ytccankldeogdlaa
set_option linter.unusedVariables false
set_option linter.unusedSimpArgs false
namespace Go.Proofs.Ytccankldeogdlaa
open Go.RowKit

namespace Rep
variable {α : Type} {R : Rep α}
theorem flatten_set {β : Type} {size : Nat} {X : List (List β)} {i : Nat} {es : List β} (hX : ∀ x ∈ X, x.length = size) (hi : i < X.length) : (X.set i es).flatten = X.flatten.take (i * size) ++ es ++ X.flatten.drop (i * size + size) := by
 rw [List.set_eq_take_append_cons_drop, if_pos hi, List.flatten_append, List.flatten_cons, flatten_take i hX, flatten_drop (i + 1) hX, Nat.succ_mul, List.append_assoc]
theorem take_mid {β : Type} {cur es : List β} {p n k : Nat} (hk : es.length = k) (h1 : p + k ≤ n) (h2 : n ≤ cur.length) : (cur.take p ++ es ++ cur.drop (p + k)).take n = (cur.take n).take p ++ es ++ (cur.take n).drop (p + k) := by
 apply List.ext_getElem?
 intro j
 subst hk
 simp only [List.getElem?_take, List.getElem?_append, List.length_append, List.length_take, List.getElem?_drop]
 grind
theorem SOwn.setE {E by_ B c i g : Nat} {f : List Nat} {l : List α} {w : World} {q' : α} {es : List Value} {cur : Array Value} (h : R.SOwn E by_ w B f (some ⟨g, 0, none⟩) c l) (hp : R.Bare) (hi : i < l.length) (hq : ∀ w, R.has w es q') (hcur : w.heap[g]? = some (.cells cur E (0, 0))) :
  R.SOwn E by_ (w.setRow g (cur.toList.take (i * R.size) ++ es ++ cur.toList.drop (i * R.size + es.length)).toArray) B f (some ⟨g, 0, none⟩) c (l.set i q') ∧ i * R.size + es.length ≤ cur.toList.length := by
 obtain ⟨hb, ps, rfl, hn, ho, hall⟩ := h
 have hel : es.length = R.size := R.len (hq w)
 have hl := olens hall
 have hpl : ps.length = l.length := hall.length
 obtain ⟨hx1, hx2⟩ := ho
 obtain ⟨g', cap, cur', hv, hBg, hh, hnc, hcm, hsz, htk, hG⟩ := hx2.resolve_left (λ hz => nomatch hz.1)
 injection hv with hv1 hv2 hv3
 injection hv1 with hv1
 injection hv1 with hv1 hv4 hv5
 subst hv1 hv3
 rw [hh] at hcur
 injection hcur with hcur
 injection hcur with hcur
 subst hcur
 have hle : i * R.size + R.size ≤ l.length * R.size := by rw [← Nat.succ_mul]; exact Nat.mul_le_mul_right _ hi
 have hle2 : l.length * R.size ≤ c * R.size := Nat.mul_le_mul_right _ hnc
 have hsl : cur'.toList.length = c * R.size := by rw [Array.length_toList, hsz]
 obtain ⟨x, hx, hxo⟩ := hall.at_ (get_d (l := l) (u := q') hi)
 have hx0 : x.1 = [] := hp.2 hxo
 have hdiff : ∀ y ∈ ps, ∀ q ∈ y.1, q ≠ g := λ y hy q hq e => by
  obtain ⟨b, hb'⟩ := hall.left y hy
  rw [hp.2 hb'] at hq
  simp at hq
 have e1 : (ps.set i (x.1, es)).map (·.1) = ps.map (·.1) := by
  rw [List.map_set]
  have : (ps.map (·.1))[i]? = some x.1 := by rw [List.getElem?_map, hx]; rfl
  obtain ⟨h2, h3⟩ := List.getElem?_eq_some_iff.1 this
  conv => lhs; rw [← h3]
  exact List.set_getElem_self _
 have e2 : (ps.set i (x.1, es)).map (·.2) = (ps.map (·.2)).set i es := by rw [List.map_set]
 have hfs := flatten_set (es := es) hl (by rw [List.length_map]; omega : i < (ps.map (·.2)).length)
 rw [hel]
 refine ⟨⟨by rw [List.length_set]; exact hb, ps.set i (x.1, es), by rw [e1], hn, ⟨?_, .inr ⟨g, c, (cur'.toList.take (i * R.size) ++ es ++ cur'.toList.drop (i * R.size + R.size)).toArray, by rw [List.length_set], hBg, ?_, by rw [List.length_set]; exact hnc, hcm, ?_, ?_, ?_⟩⟩, ?_⟩, by omega⟩
 ·rw [e2, hfs, List.length_set]
  simp only [List.length_append, List.length_take, List.length_drop, hx1, hel]
  omega
 ·exact Blk.setRow (cur := cur'.toList) (by simpa [Blk] using hh) _
 ·rw [List.size_toArray]
  simp only [List.length_append, List.length_take, List.length_drop, hsl, hel]
  omega
 ·rw [List.length_set, e2, hfs, ← htk]
  exact take_mid hel hle (by omega)
 ·intro j u hu
  rw [List.getElem?_toArray] at hu
  by_cases h1 : j < i * R.size
  ·refine hG j u ?_
   rw [List.append_assoc, List.getElem?_append_left (by rw [List.length_take]; omega), List.getElem?_take, if_pos h1] at hu
   rw [← Array.getElem?_toList]; exact hu
  ·by_cases h2 : j < i * R.size + R.size
   ·rw [List.append_assoc, List.getElem?_append_right (by rw [List.length_take]; omega), List.getElem?_append_left (by rw [List.length_take]; omega), List.length_take] at hu
    have hj : j % R.size = j - i * R.size := by
     have h3 : j = R.size * i + (j - i * R.size) := by rw [Nat.mul_comm]; omega
     have h5 : (j - i * R.size) % R.size = j - i * R.size := Nat.mod_eq_of_lt (by omega)
     conv => lhs; rw [h3, Nat.mul_add_mod, h5]
    rw [hj]
    exact R.raw_ (hq w) _ u (by rw [Nat.min_eq_left (by omega)] at hu; exact hu)
   ·refine hG j u ?_
    rw [List.getElem?_append_right (by simp only [List.length_append, List.length_take]; omega), List.getElem?_drop] at hu
    rw [← Array.getElem?_toList]
    rw [show i * R.size + R.size + (j - (List.take (i * R.size) cur'.toList ++ es).length) = j from by simp only [List.length_append, List.length_take]; omega] at hu
    exact hu
 ·have hall2 : All2 (λ x a => R.own (w.setRow g (cur'.toList.take (i * R.size) ++ es ++ cur'.toList.drop (i * R.size + R.size)).toArray) B x.1 x.2 a) ps l := hall.imp λ y a hy hyo => R.okeep hyo λ q hq => (Mod.setRow w g _).block q (R.olt hyo q hq).2 (by simpa using hdiff y hy q hq)
  exact hall2.set_ (P := λ (x : List Nat × List Value) a => R.own _ B x.1 x.2 a) (by rw [hx0]; exact hp.1 (hq _))
end Rep
section
variable {P : Program} {n : Nat} {E E' : List (Nat × Value)} {a : Act} {w w' w0 w1 : World} {Q : Exit → Act → World → Prop} {ops : Array Oper} {v : Value}
variable {d : Option Nat} {ty : TypeId} {pos : String} {af : Array Edge} {g : Option (Nat × Bool)} {x y z : Operand} {t : TypeId} {rest : List Oper}
theorem soE {α : Type} {R : Rep α} {e by_ B i : Nat} {A : Option Addr} {c : Nat} {l : List α} {q' : α} {p : Addr} {es : List Value} (h : R.SOwn e by_ w B (Rep.blkOf A) A c l) (hR : R.Bare) (hi : i < l.length) (hx : ev E x = some (.pointer (some p))) (hp : p = ⟨bA A, oA A + i * R.size, none⟩) (hy : ev E y = some v) (hc : v.cells = es.toArray)
  (hq : ∀ w, R.has w es q') (hs : Sz P t es.length)
  (hk : ∀ w1, Mod (Rep.blkOf A) w w1 → R.SOwn e by_ w1 B (Rep.blkOf A) A c (l.set i q') → WL P n ops Q rest E w1) : WL P n ops Q (⟨none, .store t x y, ty, pos, af, none⟩ :: rest) E w := by
 obtain ⟨b, rfl⟩ := h.block (by omega)
 have hp' : p = ⟨b, i * R.size, none⟩ := by rw [hp]; simp [bA, oA]
 subst hp'
 obtain ⟨_, ps, _, _, ho, _⟩ := id h
 obtain ⟨cur, hcur, _, _⟩ := ho.cells_at
 obtain ⟨hset, hle⟩ := Rep.SOwn.setE (q' := q') h hR hi hq hcur
 have hst := run_storeVar (P := P) (w := w) (b := b) (p := i * R.size) (cur := cur.toList) (e := e) (by simpa [Blk] using hcur) hc hs (List.all_eq_true.2 (R.one (hq w))) hle
 refine us (λ n a ha => ?_) (hk _ (Mod.setRow w b _) hset)
 simp only [execOp, ha.ev hx, ha.ev hy, Instr.storeAt, Instr.sureAddr, Sem.run_bind, Sem.run_pure, Result.andThen_ok, hst]
def pfx (A : Option Addr) (_hi : Nat) : Option Addr := A
theorem sP {A : Option Addr} {len cap e s : Nat} {k : IntKind} (hi m : Nat) {i : Int} (ht : P.underlying t = some (.slice e)) (hs : Sz P e s) (hx : ev E x = some (.slice A len cap)) (hy : ev E y = some (.int k i)) (h1 : i = (hi : Int)) (h2 : hi ≤ cap) (hm : m = hi) : Runs P E ⟨d, .slice t x none (some y) none, ty, pos, af, g⟩ w (.slice (pfx A hi) m cap) w := λ n a ha => by
 subst h1; subst hm
 have h1 : P.underlying t = some (.slice (P.elem t)) := by simp [Program.elem, ht]
 have q2 : P.elem t = e := by simp [Program.elem, ht]
 have h3 := run_slice_h (P := P) (w := w) t A len cap h1 k (m : Int) (by omega) (by omega)
 have h4 := run_sliceAt_slice (P := P) (w := w) t (.slice A len cap) none (some (.int k (m : Int))) none h1
 rw [q2, hs w] at h3
 simp only [execOp, ha.ev hx, ha.ev hy, Option.map, h4, h3, Sem.run_bind, Result.andThen_ok, Sem.run_pure, sliced, Int.toNat_natCast, Nat.sub_zero]
 unfold pfx
 cases A with
 | none => simp
 | some a => simp [Addr.add]
end
theorem Rep.SHas.pre {α : Type} {R : Rep α} {by_ c : Nat} {A : Option Addr} {l : List α} {w : World} (h : R.SHas by_ w A c l) (k : Nat) : R.SHas by_ w (pfx A k) c (l.take k) := h.take_ k
end Go.Proofs.Ytccankldeogdlaa
namespace Go.Proofs.Ytccankldeogdlaa
open Go.RowKit
section
variable {P : Program} {n : Nat} {E : List (Nat × Value)} {w : World} {Q : Exit → Act → World → Prop} {ops : Array Oper} {kd : Nat → Nat}
def AQ2 (P : Program) (ops : Array Oper) (Q : Exit → Act → World → Prop) (kd : Nat → Nat) (τ1 τ2 : List Nat) : Exit → Act → World → Prop :=
 nrm (λ a w => wpFlow P ops (nrm (Q .normal)) kd τ1 a w ∧ wpFlow P ops (nrm (Q .normal)) kd τ2 a w)
end
end Go.Proofs.Ytccankldeogdlaa
namespace Go.Proofs.Ytccankldeogdlaa
section
open Go.RowKit
def fen (ro : Option Nat) : Fence := { Fence.wide with round := ro }
section
variable {P : Program} {ro : Option Nat} {m : Nat} {ops : Array Oper} {Q : Exit → Act → World → Prop} {w : World}
theorem calls_fen {f : FuncId} {args : Array Value} {R : Ending → World → Prop} (h : Calls P f args w R) : CallsIn (fen ro) m P f args w R := (callsIn_wide (n := m)).2 h
theorem rows_fen {row : String} {args : Array Value} {R : Value → World → Prop} (h : Rows P row args w R) : RowsIn (fen ro) m P row args w R := λ c cs _ =>
 let ⟨v, w', r, s⟩ := h c cs; ⟨v, w', r, stepsIn_wide.2 s⟩
def noDefer (o : Oper) : Bool := match o.op with
 | .defer _ => false
 | _ => true
theorem op_in {o : Oper} {a : Act} {K : Act → World → Prop} (hd : noDefer o = true) (h : o.wp P a w K Q) : o.wpIn (fen ro) m P a w K Q := by
 refine ⟨λ _ _ => trivial, ?_⟩
 have hs : o.semAt (fen ro).round a.eval = execOp a.eval o := Oper.semAt_eq _ _ _ (λ c e => by simp [noDefer, e] at hd)
 rw [hs]
 unfold Oper.wp at h
 generalize (execOp a.eval o).run P w = r at *
 cases r with
 | ok x w' =>
  cases x <;> simp only [Oper.upon] at h <;> simp only [Oper.uponIn] <;>
   first
    | exact h
    | exact h.elim
    | exact ⟨λ h => by simp [fen, Fence.wide] at h, calls_fen h⟩
    | exact ⟨λ h => by simp [fen, Fence.wide] at h, rows_fen h⟩
 | halt x w' => cases x <;> simp only [Oper.upon] at h <;> simp only [Oper.uponIn] <;> first | exact h | exact h.elim
theorem list_in : ∀ (l : List Oper) {a : Act} {w : World}, l.all noDefer = true → wpList P ops Q l a w → (∀ c a w, ¬ Q (.panic c) a w) → ¬ LetsOut Q → wpListIn (fen ro) m P ops Q l a w
 | [], a, w, _, h, _, _ => by unfold wpList at h; unfold wpListIn; exact h
 | o :: rest, a, w, hd, h, hp, ho => by
  rw [List.all_cons, Bool.and_eq_true] at hd
  unfold wpList at h
  unfold wpListIn
  split at h
  ·rename_i hw
   rw [if_pos hw]
   rcases h with h | ⟨h, x⟩
   ·exact Oper.wpIn_mono (λ a w h => list_in rest hd.2 h hp ho) (op_in hd.1 h)
   ·exact (ho x).elim
  ·rename_i hw
   rw [if_neg hw]
   exact ⟨λ _ _ => trivial, list_in rest hd.2 h hp ho⟩
theorem wop_in {i : Nat} {K : Act → World → Prop} {a : Act} {w : World} (hd : ops.toList.all noDefer = true) (ho : ¬ LetsOut Q) (h : wpOp P ops Q i K a w) : wpOpIn (fen ro) m P ops Q i K a w := by
 unfold wpOp at h
 unfold wpOpIn
 split at h
 ·rename_i hi; simp only [hi]; exact h
 ·rename_i o hi
  simp only [hi]
  have hdo : noDefer o = true := List.all_eq_true.1 hd o (by rw [Array.mem_toList_iff]; exact Array.mem_of_getElem? hi)
  split at h
  ·rename_i hw
   rw [if_pos hw]
   rcases h with h | ⟨h, x⟩
   ·exact op_in hdo h
   ·exact (ho x).elim
  ·rename_i hw
   rw [if_neg hw]
   exact ⟨λ _ _ => trivial, h⟩
theorem any_in (hd : ops.toList.all noDefer = true) (ho : ¬ LetsOut Q) : ∀ (f : Nat) (l : Array Bool) {a : Act} {w : World}, wpAny P .any ops Q f l a w → wpAnyIn (fen ro) m P .any ops Q f l a w
 | 0, l, a, w, h => h
 | f + 1, l, a, w, h => ⟨h.1, λ i hi => wpOpIn_mono (λ a w h => any_in hd ho f _ h) (wop_in hd ho (h.2 i hi))⟩
end
theorem nrm_np {K : Act → World → Prop} : ∀ c a w, ¬ nrm K (.panic c) a w := λ _ _ _ h => h
theorem nrm_no {K : Act → World → Prop} : ¬ LetsOut (nrm K) := λ ⟨_, _, h⟩ => h
theorem nrm_mono {K : Exit → Act → World → Prop} : ∀ e a w, nrm (K .normal) e a w → K e a w := λ e a w h => by cases e <;> first | exact h | exact h.elim
namespace Rd
section
variable {P : Program} {ro : Option Nat} {m n : Nat} {ops : Array Oper} {Q : Exit → Act → World → Prop} {w w0 : World} {E E' : List (Nat × Value)} {id id' : Nat} {c : Operand} {x y : Code} {i j : Int} {τ : List Nat} {v : Value}
def W (ro : Option Nat) (m : Nat) (P : Program) (n : Nat) (c : Code) (Q : Exit → Act → World → Prop) (E : List (Nat × Value)) (w : World) : Prop := ∀ a, Agr n E a → c.wpIn (fen ro) m P Q a w
abbrev M (n : Nat) (Q : Exit → Act → World → Prop) (E : List (Nat × Value)) (w : World) : Prop := N n (nrm (Q .normal)) E w
abbrev Th (ro : Option Nat) (m : Nat) (P : Program) (y : Code) (Q : Exit → Act → World → Prop) : Exit → Act → World → Prop := Exit.then (λ a w => y.wpIn (fen ro) m P Q a w) Q
theorem sq (h : W ro m P n x (Th ro m P y Q) E w) : W ro m P n (.seq x y) Q E w := λ a ha => wpIn_seq (h a ha)
theorem sk (h : M n Q E w) : W ro m P n .skip Q E w := λ a ha => wpIn_skip (h a ha)
theorem rt (h : T n Q E w) : W ro m P n .ret Q E w := λ a ha => wpIn_ret (h a ha)
theorem xt (h : X n Q id E w) : W ro m P n (.exit id) Q E w := λ a ha => wpIn_exit (h a ha)
theorem bk (h : W ro m P n x (Exit.inBlock id Q) E w) : W ro m P n (.block id x) Q E w := λ a ha => wpIn_block (h a ha)
theorem rg {l : List Oper} (h : WL P n l.toArray (nrm (Q .normal)) l E w) (hd : l.all noDefer = true := by kernel_rfl) : W ro m P n (.region id l.toArray false) Q E w := λ a ha => Go.wpIn_mono (wpIn_region_lit (list_in l hd (h a ha) nrm_np nrm_no)) nrm_mono
theorem cT (hc : ev E c = some (.bool true)) (h : W ro m P n x Q E w) : W ro m P n (.cond c x y) Q E w := λ a ha => wpIn_cond_true (ha.ev hc) (h a ha)
theorem cF (hc : ev E c = some (.bool false)) (h : W ro m P n y Q E w) : W ro m P n (.cond c x y) Q E w := λ a ha => wpIn_cond_false (ha.ev hc) (h a ha)
theorem cb {b : Bool} (hc : ev E c = some (.bool b)) (h1 : b = true → W ro m P n x Q E w) (h2 : b = false → W ro m P n y Q E w) : W ro m P n (.cond c x y) Q E w :=
 λ a ha => wpIn_cond_split (ha.ev hc) (λ h => h1 h a ha) (λ h => h2 h a ha)
theorem clt (hc : ev E c = some (.bool (decide (i < j)))) (h1 : i < j → W ro m P n x Q E w) (h2 : ¬ i < j → W ro m P n y Q E w) : W ro m P n (.cond c x y) Q E w := cb hc (λ h => h1 (of_decide_eq_true h)) (λ h => h2 (of_decide_eq_false h))
theorem cle (hc : ev E c = some (.bool (decide (i ≤ j)))) (h1 : i ≤ j → W ro m P n x Q E w) (h2 : ¬ i ≤ j → W ro m P n y Q E w) : W ro m P n (.cond c x y) Q E w := cb hc (λ h => h1 (of_decide_eq_true h)) (λ h => h2 (of_decide_eq_false h))
theorem ceq (hc : ev E c = some (.bool (i == j))) (h1 : i = j → W ro m P n x Q E w) (h2 : ¬ i = j → W ro m P n y Q E w) : W ro m P n (.cond c x y) Q E w := cb hc (λ h => h1 (by simpa using h)) (λ h => h2 (by simpa using h))
theorem cne (hc : ev E c = some (.bool (i != j))) (h1 : ¬ i = j → W ro m P n x Q E w) (h2 : i = j → W ro m P n y Q E w) : W ro m P n (.cond c x y) Q E w := cb hc (λ h => h1 (by simpa using h)) (λ h => h2 (by simpa using h))
theorem nT (h : W ro m P n y Q E w) : M n (Th ro m P y Q) E w := h
theorem ne {fn : Func} {R : Ending → World → Prop} (h : T n (bodyPost P fn R) E w) : M n (bodyPost P fn R) E w := λ a ha => h a ha
theorem nB (h : M n Q E w) : M n (Exit.inBlock id Q) E w := h
theorem xT (h : X n Q id E w) : X n (Th ro m P y Q) id E w := h
theorem xB (h : M n Q E w) : X n (Exit.inBlock id Q) id E w := λ a ha => by simp only [Exit.inBlock, if_true]; exact h a ha
theorem tT (h : T n Q E w) : T n (Th ro m P y Q) E w := h
theorem lp {c : Code} (I : Nat → List (Nat × Value) → World → Prop) (k : Nat) (E' : List (Nat × Value)) (h0 : I k E' w) (hs : Sub E' E)
  (round : ∀ k E w, I k E w → W ro m P n c (Exit.then (LI n I k) Q) E w) : W ro m P n (.loop c) Q E w := λ a ha => by
 intro b kk cs hro hb hr
 have key : ∀ k a w, (∃ E, I k E w ∧ Agr n E a) → ∃ e a' w', Q e a' w' ∧ ArrivesIn (Machine.fenced P (fen ro)) P (lone (b.atR a (.code c :: .inLoop c :: kk)) cs w) b kk cs e a' w' := by
  intro k
  induction k using Nat.strongRecOn with
  | _ k ih =>
   intro a w ⟨E, hI, ha⟩
   obtain ⟨e, a1, w1, hq, harr⟩ := round k E w hI a ha b (.inLoop c :: kk) cs hro hb hr
   cases e with
   | normal =>
    obtain ⟨m', hlt, hI1⟩ := hq
    obtain ⟨e2, a2, w2, hq2, harr2⟩ := ih m' hlt a1 w1 hI1
    exact ⟨e2, a2, w2, hq2, .of_steps (StepsIn.trans harr (.one (fenced_calm hb hr rfl) stepR_inLoop)) harr2⟩
   | exit id => exact ⟨_, a1, w1, hq, .pass (x := .inLoop c) rfl (λ _ _ => .inl (by simp)) harr⟩
   | goto l => exact ⟨_, a1, w1, hq, .pass (x := .inLoop c) rfl (λ _ _ => .inl (by simp)) harr⟩
   | ret => exact ⟨_, a1, w1, hq, .pass (x := .inLoop c) rfl (λ _ _ => .inl (by simp)) harr⟩
   | panic ch => exact ⟨_, a1, w1, hq, .pass (x := .inLoop c) rfl (λ _ _ => .inl (by simp)) harr⟩
   | outgrown => exact ⟨_, a1, w1, hq, .pass (x := .inLoop c) rfl (λ _ _ => .inl (by simp)) harr⟩
 obtain ⟨e, a', w', hq, harr⟩ := key k a w ⟨E', h0, ha.sub hs⟩
 exact ⟨e, a', w', hq, .of_steps (.one (fenced_calm hb hr rfl) stepR_loop) harr⟩
theorem nI {I : Nat → List (Nat × Value) → World → Prop} {k : Nat} (k' : Nat) (E' : List (Nat × Value)) (h : I k' E' w) (hm : k' < k) (hs : Sub E' E) : M n (Exit.then (LI n I k) Q) E w :=
 λ a ha => ⟨k', hm, E', h, ha.sub hs⟩
theorem rd (ks : List (Nat × Nat)) (τ : List Nat) (hm : P.follows .mixedOrders = true) (hB : (Region.noSelect ops && (τ.length == ops.size) && flowB ops (kds ks) τ (Array.replicate ops.size false)) = true)
  (h : FL P n ops (nrm (Q .normal)) (kds ks) τ E w) (hd : ops.toList.all noDefer = true := by kernel_rfl) : W ro m P n (.region id ops true) Q E w := λ a ha => by
 simp only [Bool.and_eq_true, beq_iff_eq] at hB
 obtain ⟨⟨hs, hl⟩, hB⟩ := hB
 refine Go.wpIn_mono (wpIn_region_any hm (Q := nrm (Q .normal)) (any_in hd nrm_no _ _ ?_)) nrm_mono
 have := any_of_flow (P := P) hs (Q := nrm (Q .normal)) nrm_np τ (Array.replicate ops.size false) a w (by simp) hB (h a ha)
 rw [hl] at this
 exact any_of_F _ _ _ _ this _ (Below.refl _ w).drew
theorem agr0 {l : List Value} (hl : Nat.ble l.length n = true) : Agr n (argEnv 0 l) { tmps := l.toArray ++ Array.replicate (n - l.toArray.size) undef, defers := [] } := by
 refine ⟨rfl, ?_, λ t v hv => ?_⟩
 ·have := Nat.le_of_ble_eq_true hl
  simp only [Array.size_append, Array.size_replicate, List.size_toArray]; omega
 ·obtain ⟨j, e, hj⟩ := argEnv_look l 0 t v hv
  have hlt := (List.getElem?_eq_some_iff.1 hj).1
  rw [Array.getElem?_append_left (by simp; omega)]
  simpa [show t = j by omega] using hj
theorem calls_W {f : FuncId} {fn : Func} {c : Code} {l : List Value} {R : Ending → World → Prop} (hf : P.funcs[f]? = some fn) (hb : fn.body = some c) (hn : fn.ntmps = n) (hl : Nat.ble l.length n = true)
  (h : W none m P n c (bodyPostM (fen none) m P fn R) (argEnv 0 l) w) : Calls P f l.toArray w R := by
 have h1 : CallsIn (fen none) m P f l.toArray w R := callsIn_of_wp_marks hf hb trivial (by rw [hn]; exact h _ (agr0 hl)) rfl
 exact (callsIn_wide (n := m)).1 h1
theorem tR {fn : Func} {R : Ending → World → Prop} {vs : List Value} (h : Res P E w fn.results.toList vs) (hR : R (.returned (tup vs)) w) : T n (bodyPostM (fen none) m P fn R) E w :=
 λ a ha => by
  show LeavesInM _ _ _ _ _ _ a.defers _ _
  rw [ha.d]
  exact ⟨_, run_results h ha, hR⟩
end
end Rd
namespace Ri
section
variable {P : Program} {ro : Option Nat} {m n : Nat} {ops : Array Oper} {Q : Exit → Act → World → Prop} {w w' w0 : World} {E E' : List (Nat × Value)} {id : Nat} {v : Value}
variable {d : Option Nat} {ty : TypeId} {pos : String} {af : Array Edge} {g : Option (Nat × Bool)} {x y z : Operand} {t : TypeId} {rest : List Oper}
def WL (ro : Option Nat) (m : Nat) (P : Program) (n : Nat) (ops : Array Oper) (Q : Exit → Act → World → Prop) (l : List Oper) (E : List (Nat × Value)) (w : World) : Prop := ∀ a, Agr n E a → wpListIn (fen ro) m P ops Q l a w
theorem rg {l : List Oper} (h : WL ro m P n l.toArray Q l E w) : Rd.W ro m P n (.region id l.toArray false) Q E w := λ a ha => wpIn_region_lit (h a ha)
theorem nl (h : Rd.M n Q E w) : WL ro m P n ops Q [] E w := h
theorem vl {d : Nat} {op : Op} (hr : Runs P E ⟨some d, op, ty, pos, af, none⟩ w v w') (hd : Nat.blt d n = true) (h : WL ro m P n ops Q rest ((d, v) :: E) w') : WL ro m P n ops Q (⟨some d, op, ty, pos, af, none⟩ :: rest) E w := λ a ha => by
 have hrun := hr n a ha
 unfold wpListIn
 rw [if_pos (by simp [Region.wanted])]
 refine ⟨λ _ _ => trivial, ?_⟩
 have hs : (⟨some d, op, ty, pos, af, none⟩ : Oper).semAt (fen ro).round a.eval = execOp a.eval ⟨some d, op, ty, pos, af, none⟩ := Oper.semAt_eq _ _ _ (λ c e => by
  have e : op = .defer c := e
  subst e
  simp only [execOp, Sem.run_bind, Sem.run_pure] at hrun
  revert hrun
  generalize (resolve a.eval c ty).run P w = r
  cases r <;> simp [Result.andThen])
 rw [hs, hrun]
 exact h _ (ha.put hd v)
end
end Ri
def mark (D : Nat) : List Deferred := [{ target := .collected D, args := #[] }]
def wd (ds : List Deferred) (a : Act) : Act := { a with defers := ds }
theorem wd_put (ds : List Deferred) (a : Act) (d : Option Nat) (v : Value) : (wd ds a).put d v = wd ds (a.put d v) := by cases d <;> rfl
theorem wd_eval (ds : List Deferred) (a : Act) : (wd ds a).eval = a.eval := by funext x; cases x <;> rfl
def DMark (w : World) (D : Nat) : Prop := w.heap[D]? = some (.deferred (some []))
theorem DMark.lt {D : Nat} {w : World} (h : DMark w D) : D < w.heap.size := (Array.getElem?_eq_some_iff.1 h).1
theorem DMark.later {D : Nat} {w w' : World} (h : DMark w D) (x : Ext w w') : DMark w' D := (x.block D h.lt).trans h
theorem DMark.mod {D : Nat} {w w' : World} {S : List Nat} (h : DMark w D) (m : Mod S w w') (hs : D ∉ S) : DMark w' D := (m.block D h.lt hs).trans h
def unmark (w : World) (D : Nat) : World := w.putObj D (.deferred none)
namespace Rt
section
variable {P : Program} {ds : List Deferred} {m n : Nat} {ops : Array Oper} {Q : Exit → Act → World → Prop} {w w' w0 : World} {E E' : List (Nat × Value)} {id : Nat} {v : Value}
variable {d : Option Nat} {ty : TypeId} {pos : String} {af : Array Edge} {g : Option (Nat × Bool)} {x y z : Operand} {t : TypeId} {rest : List Oper} {c : Operand} {cx cy : Code} {i j : Int}
def W (ds : List Deferred) (m : Nat) (P : Program) (n : Nat) (c : Code) (Q : Exit → Act → World → Prop) (E : List (Nat × Value)) (w : World) : Prop := ∀ a, Agr n E a → c.wpIn (fen none) m P Q (wd ds a) w
def N (ds : List Deferred) (n : Nat) (Q : Exit → Act → World → Prop) (E : List (Nat × Value)) (w : World) : Prop := ∀ a, Agr n E a → Q .normal (wd ds a) w
def T (ds : List Deferred) (n : Nat) (Q : Exit → Act → World → Prop) (E : List (Nat × Value)) (w : World) : Prop := ∀ a, Agr n E a → Q .ret (wd ds a) w
def WL (ds : List Deferred) (m : Nat) (P : Program) (n : Nat) (ops : Array Oper) (Q : Exit → Act → World → Prop) (l : List Oper) (E : List (Nat × Value)) (w : World) : Prop := ∀ a, Agr n E a → wpListIn (fen none) m P ops Q l (wd ds a) w
theorem sq (h : W ds m P n cx (Rd.Th none m P cy Q) E w) : W ds m P n (.seq cx cy) Q E w := λ a ha => wpIn_seq (h a ha)
theorem sk (h : N ds n Q E w) : W ds m P n .skip Q E w := λ a ha => wpIn_skip (h a ha)
theorem rt (h : T ds n Q E w) : W ds m P n .ret Q E w := λ a ha => wpIn_ret (h a ha)
theorem rg {l : List Oper} (h : WL ds m P n l.toArray Q l E w) : W ds m P n (.region id l.toArray false) Q E w := λ a ha => wpIn_region_lit (h a ha)
theorem nl (h : N ds n Q E w) : WL ds m P n ops Q [] E w := h
theorem nT (h : W ds m P n cy Q E w) : N ds n (Rd.Th none m P cy Q) E w := h
theorem nB (h : N ds n Q E w) : N ds n (Exit.inBlock id Q) E w := h
theorem tT (h : T ds n Q E w) : T ds n (Rd.Th none m P cy Q) E w := h
theorem tB (h : T ds n Q E w) : T ds n (Exit.inBlock id Q) E w := h
theorem cT (hc : ev E c = some (.bool true)) (h : W ds m P n cx Q E w) : W ds m P n (.cond c cx cy) Q E w := λ a ha => wpIn_cond_true (by rw [wd_eval]; exact ha.ev hc) (h a ha)
theorem cF (hc : ev E c = some (.bool false)) (h : W ds m P n cy Q E w) : W ds m P n (.cond c cx cy) Q E w := λ a ha => wpIn_cond_false (by rw [wd_eval]; exact ha.ev hc) (h a ha)
theorem cb {b : Bool} (hc : ev E c = some (.bool b)) (h1 : b = true → W ds m P n cx Q E w) (h2 : b = false → W ds m P n cy Q E w) : W ds m P n (.cond c cx cy) Q E w :=
 λ a ha => wpIn_cond_split (by rw [wd_eval]; exact ha.ev hc) (λ h => h1 h a ha) (λ h => h2 h a ha)
theorem cne (hc : ev E c = some (.bool (i != j))) (h1 : ¬ i = j → W ds m P n cx Q E w) (h2 : i = j → W ds m P n cy Q E w) : W ds m P n (.cond c cx cy) Q E w := cb hc (λ h => h1 (by simpa using h)) (λ h => h2 (by simpa using h))
theorem ceq (hc : ev E c = some (.bool (i == j))) (h1 : i = j → W ds m P n cx Q E w) (h2 : ¬ i = j → W ds m P n cy Q E w) : W ds m P n (.cond c cx cy) Q E w := cb hc (λ h => h1 (by simpa using h)) (λ h => h2 (by simpa using h))
theorem nodef_of_value {o : Oper} {a : Act} {v : Value} (h : (execOp a.eval o).run P w = .ok (.value v) w') : ∀ c, o.op ≠ .defer c := λ c e => by
 unfold execOp at h
 rw [e] at h
 simp only [Sem.run_bind, Sem.run_pure] at h
 revert h
 generalize (resolve a.eval c o.type).run P w = r
 cases r <;> simp [Result.andThen]
theorem vl {d : Nat} {op : Op} (hr : Runs P E ⟨some d, op, ty, pos, af, none⟩ w v w') (hd : Nat.blt d n = true) (h : WL ds m P n ops Q rest ((d, v) :: E) w') : WL ds m P n ops Q (⟨some d, op, ty, pos, af, none⟩ :: rest) E w := λ a ha => by
 have hrun := hr n a ha
 unfold wpListIn
 rw [if_pos (by simp [Region.wanted])]
 refine ⟨λ _ _ => trivial, ?_⟩
 rw [wd_eval, Oper.semAt_eq _ _ _ (nodef_of_value hrun), hrun]
 show wpListIn _ _ _ _ _ _ _ _
 rw [wd_put]
 exact h _ (ha.put hd v)
theorem ca {d : Nat} {f : FuncId} (hf : Enters P f) {xs : Array Operand} {ts : Array TypeId} {args : List Value} (he : evs E xs.toList = some args) (hd : Nat.blt d n = true)
  (h : Calls P f args.toArray w λ e w' => ∃ v, e = .returned v ∧ WL ds m P n ops Q rest ((d, v) :: E) w') : WL ds m P n ops Q (⟨some d, .call { callee := .value (.func f), args := xs, argTypes := ts }, ty, pos, af, none⟩ :: rest) E w := λ a ha => by
 unfold wpListIn
 rw [if_pos (by simp [Region.wanted])]
 refine ⟨λ _ _ => trivial, ?_⟩
 rw [wd_eval, Oper.semAt_eq _ _ _ (λ c e => by cases e), run_call hf ha he]
 refine ⟨λ h => by simp [fen, Fence.wide] at h, CallsIn.mono (calls_fen h) λ e w' hh => ?_⟩
 obtain ⟨v, rfl, h⟩ := hh
 show wpListIn _ _ _ _ _ _ _ _
 rw [wd_put]
 exact h _ (ha.put hd v)
theorem tR {D : Nat} {fn : Func} {R : Ending → World → Prop} {vs : List Value} (hK : DMark w D) (h : Res P E (unmark w D) fn.results.toList vs) (hR : R (.returned (tup vs)) (unmark w D)) : T (mark D) n (bodyPostM (fen none) m P fn R) E w :=
 λ a ha => by
  have hr := run_results (a := a) h ha
  exact ⟨by simp, .inl ⟨D, _, rfl, run_takeDeferred hK, _, hr, hR⟩⟩
end
end Rt
def Keep2 (b c : Nat) (W W' : World) : Prop := W'.heap[b]? = W.heap[b]? ∧ W'.heap[c]? = W.heap[c]?
theorem Keep2.tr {b c : Nat} {X Y Z : World} (h : Keep2 b c X Y) (k : Keep2 b c Y Z) : Keep2 b c X Z := ⟨k.1.trans h.1, k.2.trans h.2⟩
theorem Mod.keepsFrom {S : List Nat} {W W' : World} {B : Nat} (h : Mod S W W') (hS : ∀ q ∈ S, q < W.heap.size → ∃ cur e fr, W.heap[q]? = some (.cells cur e fr)) : KeepsFrom B W W' :=
 ⟨h.size, λ k o _ hk ho => by
  by_cases hm : k ∈ S
  ·obtain ⟨cur, e, fr, hc⟩ := hS k hm (Array.getElem?_eq_some_iff.1 hk).1
   rw [hc] at hk
   injection hk with hk
   subst hk
   exact nomatch ho
  ·exact (h.block k (Array.getElem?_eq_some_iff.1 hk).1 hm).trans hk⟩
def KF (B : Nat) (w0 w : World) : Prop := KeepsFrom B w0 w
theorem KF.rf (B : Nat) (w : World) : KF B w w := KeepsFrom.refl B w
theorem KF.later {B : Nat} {w0 w w' : World} (h : KF B w0 w) (x : Ext w w') : KF B w0 w' := KeepsFrom.trans h ((Mod.of_ext (S := []) x).keepsFrom λ q hq => nomatch hq)
theorem KF.mod {B : Nat} {w0 w w' : World} {S : List Nat} (h : KF B w0 w) (m : Mod S w w') (hS : ∀ q ∈ S, ∃ cur e fr, w.heap[q]? = some (.cells cur e fr)) : KF B w0 w' := KeepsFrom.trans h (m.keepsFrom λ q hq _ => hS q hq)
structure JAt {α : Type} (B : Nat) (J : List α → World → Prop) (pre : List α) (w : World) : Prop where
 ab : AbidesFrom B J
 at_ : J pre w
theorem JAt.later {α : Type} {B : Nat} {J : List α → World → Prop} {pre : List α} {w w' : World} (h : JAt B J pre w) (x : Ext w w') : JAt B J pre w' :=
 ⟨h.ab, h.ab _ _ _ none h.at_ ⟨x.os, x.tape, x.output, x.size, λ k hk _ => x.block k hk⟩ λ r e => nomatch e⟩
section
variable {P : Program} {n : Nat} {E E' : List (Nat × Value)} {w : World} {d : Option Nat} {ty : TypeId} {pos : String} {af : Array Edge} {g : Option (Nat × Bool)} {x y z u : Operand} {t : TypeId}
end
namespace Rd
theorem rf {α : Type} {P : Program} {m n : Nat} {Q : Exit → Act → World → Prop} {w w0 : World} {E : List (Nat × Value)} {tt p : Nat} {ty : TypeId} {pos : String} {af : Array Edge} {id : Nat} {body : Code} {g : Operand} {gf : Nat} {lb : List Value} {enc : α → Value} {b2 b3 : Nat} {S Sp : List α → Prop} {N0 : Nat}
  (hg : ev E g = some (.func (.func gf) #[] lb.toArray)) (hf : Enters P gf) (hseq : SeqStopsK (fen none) (m - 1) P gf lb.toArray (λ x => #[enc x]) (Keep2 b2 b3) S Sp N0 w0) (hb2 : b2 < w.heap.size) (hb3 : b3 < w.heap.size) (hb0 : Ext w0 w) (h1 : 1 ≤ m) (hp : Nat.blt p n = true) (ht : Nat.blt tt n = true)
  (I : List α → World → Prop) (hI : ∀ s W W' S, I s W → Mod S W W' → (∀ q ∈ S, w.heap.size ≤ q ∧ ∀ cur e fr, W.heap[q]? ≠ some (.cells cur e fr)) → I s W') (h0 : I [] w)
  (hbody : ∀ (l : Nat) (pre : List α) (x : α) (W' : World), I pre W' → pre.length < N0 → W (some l) (m - 1 - 1) P n body (ownPostG w.heap.size (Keep2 b2 b3) I (λ _ _ _ => False) (pre ++ [x]) W') ((tt, enc x) :: (p, enc x) :: E) W')
  (hdone : ∀ (D : Nat) (xs : List α) (W' : World), w.heap.size ≤ D → S xs → I xs W' → DMark W' D → Rt.N (mark D) n Q E W') :
  W none m P n (.rangeFunc g #[p] (.region id #[⟨some tt, .assign (.tmp p), ty, pos, af, none⟩] false) body) Q E w := λ a ha => by
 have hOf : ∀ {β : Type} (J : β → World → Prop), (∀ s W W' S, J s W → Mod S W W' → (∀ q ∈ S, w.heap.size ≤ q ∧ ∀ cur e fr, W.heap[q]? ≠ some (.cells cur e fr)) → J s W') → OwnFrom w.heap.size J := λ J hJ s X Y row hs hgr hr =>
  hJ s X Y row.toList hs (Mod.grown hgr) λ q hq => by
   cases row with
   | none => exact nomatch hq
   | some r =>
    obtain rfl := List.mem_singleton.1 hq
    obtain ⟨hB, o, ho, hc⟩ := hr _ rfl
    exact ⟨hB, λ cur e fr h => by rw [h] at ho; injection ho with ho; subst ho; exact nomatch hc⟩
 obtain ⟨fn, hf1, hf2, hf3⟩ := hf
 obtain ⟨bc, hbc⟩ : ∃ c, fn.body = some c := by
  cases h : fn.body with
  | none => rw [h] at hf3; simp at hf3
  | some c => exact ⟨c, rfl⟩
 refine wpIn_rangeFunc_ownH (F := fen none) rfl h1 (gf := gf) (lb := lb.toArray) (ha.ev hg) trivial (enters_of hf1 hf2 hbc) hseq (λ h k => h.tr k) ?_ hb0 (λ x => rfl) I (λ _ _ _ => False) (hOf I hI) (λ c s A B row hs hg hr => hs.elim) h0
  (λ x a' _ => Agr n ((tt, enc x) :: (p, enc x) :: E) a') (λ x a' s A B row hs hg hr => hs) ?_ ?_ ?_ ?_
 ·intro W' l o o' hl hW _ _
  have hm := Mod.grown (grownBy_putObj' W' l o')
  exact ⟨hm.block b2 (by have := (Array.getElem?_eq_some_iff.1 hW).1; omega) (by simp; omega), hm.block b3 (by have := (Array.getElem?_eq_some_iff.1 hW).1; omega) (by simp; omega)⟩
 ·intro l pre x W' K hi hK
  have hA : Agr n ((p, enc x) :: E) { tmps := (#[p].zip #[enc x]).foldl (λ t (p, v) => t.setIfInBounds p v) a.tmps, defers := [] } := by
   have := ha.put hp (enc x)
   have e : ({ tmps := (#[p].zip #[enc x]).foldl (λ t (p, v) => t.setIfInBounds p v) a.tmps, defers := [] } : Act) = a.put (some p) (enc x) := by
    simp [Act.put, ha.d]
   rw [e]; exact this
  have h2 : W (some l) (m - 1 - 1) P n (.region id [(⟨some tt, .assign (.tmp p), ty, pos, af, none⟩ : Oper)].toArray false) (Exit.then K (λ _ _ _ => False)) ((p, enc x) :: E) W' := by
   refine Ri.rg (Ri.vl (v := enc x) (w' := W') (as_ ?_) ht (Ri.nl λ a' ha' => hK a' W' (KeepsFrom.refl _ _) ⟨rfl, rfl⟩ hi ha'))
   show look ((p, enc x) :: E) p = _
   simp [look]
  exact h2 _ hA
 ·intro l pre x a' W' _ _ hi hx hlen
  exact hbody l pre x W' hi hlen a' hx
 ·intro D xs W' hD hS hi hK
  have := hdone D xs W' hD hS hi hK a ha
  have e : ({ a with defers := { target := .collected D, args := #[] } :: a.defers } : Act) = wd (mark D) a := by simp [wd, mark, ha.d]
  rw [e]; exact this
 ·intro D c pre W' _ _ h _
  exact h.elim
end Rd
end
section
open Go.RowKit
namespace Rep
variable {α : Type} {R : Rep α}
theorem SOwn.fsts {E by_ B c : Nat} {A : Option Addr} {l : List α} {w : World} {ps : List (List Nat × List Value)} (hp : R.Bare) (hall : All2 (λ x a => R.own w B x.1 x.2 a) ps l) : ∀ y ∈ ps, y.1 = [] := λ y hy => by
 obtain ⟨b, hb⟩ := hall.left y hy
 exact hp.2 hb
theorem fst_flat {ps : List (List Nat × List Value)} (h : ∀ y ∈ ps, y.1 = []) : (ps.map (·.1)).flatten = [] := by
 rw [List.flatten_eq_nil_iff]
 intro x hx
 obtain ⟨y, hy, rfl⟩ := List.mem_map.1 hx
 exact h y hy
theorem SOwn.cut {E by_ B c : Nat} {A : Option Addr} {l : List α} {w : World} (h : R.SOwn E by_ w B (blkOf A) A c l) (hp : R.Bare) (k : Nat) (hk : k ≤ l.length) : R.SOwn E by_ w B (blkOf A) A c (l.take k) := by
 obtain ⟨hb, ps, hf, hn, ho, hall⟩ := h
 have hl := olens hall
 have hpl : ps.length = l.length := hall.length
 have h1 := SOwn.fsts (E := E) (by_ := by_) (c := c) (A := A) hp hall
 have hlen : (l.take k).length = k := by rw [List.length_take]; omega
 have hm := Nat.mul_le_mul_right by_ hk
 refine ⟨by rw [hlen]; omega, ps.take k, ?_, hn, ?_, hall.take_ k⟩
 ·rw [fst_flat λ y hy => h1 y (List.mem_of_mem_take hy), List.append_nil]
 ·rw [hlen, List.map_take, flatten_take k hl]
  obtain ⟨hx1, hx2⟩ := ho
  have hle : k * R.size ≤ l.length * R.size := Nat.mul_le_mul_right _ hk
  refine ⟨by rw [List.length_take, hx1]; omega, ?_⟩
  rcases hx2 with ⟨hx2, hx3⟩ | ⟨g, cap, cur, hv, hB, hh, hnc, hcm, hs, ht, hG⟩
  ·injection hx2 with e1 e2 e3
   subst e1 e3
   have : k = 0 := by omega
   subst this
   exact .inl ⟨rfl, rfl⟩
  ·injection hv with e1 e2 e3
   subst e1 e3
   exact .inr ⟨g, c, cur, rfl, hB, hh, by omega, hcm, hs, by rw [← ht, List.take_take, Nat.min_eq_left hle], hG⟩
theorem Own.setCells_at {base e size n g c : Nat} {G : Nat → Value → Prop} {xs : List Value} : ∀ (zs : List Value) (o : Nat) (w : World), n * size ≤ o → Own w base e size G (.slice (some ⟨g, 0, none⟩) n c) n xs → (∀ (j : Nat) u, zs[j]? = some u → G ((o + j) % size) u) →
  Own (w.setCells g o zs) base e size G (.slice (some ⟨g, 0, none⟩) n c) n xs
 | [], _, _, _, h, _ => h
 | v :: r, o, w, ho, h, hG => by
  rw [World.setCells]
  have h1 := h.stored o v (hG 0 v rfl)
  rw [List.set_eq_of_length_le (by rw [h.1]; exact ho)] at h1
  refine Own.setCells_at r (o + 1) _ (by omega) h1 λ j u hu => ?_
  have := hG (j + 1) u hu
  rwa [show o + 1 + j = o + (j + 1) from by omega]
theorem Mod.setCells (g : Nat) : ∀ (zs : List Value) (o : Nat) (w : World), Mod [g] w (w.setCells g o zs)
 | [], _, w => Mod.of_ext (Ext.rf w)
 | v :: r, o, w => by
  rw [World.setCells]
  exact (Mod.setCell w ⟨g, o, none⟩ v).trans (Mod.setCells g r (o + 1) _)
theorem SOwn.setTail {E by_ B c g : Nat} {l : List α} {w : World} (h : R.SOwn E by_ w B (blkOf (some ⟨g, 0, none⟩)) (some ⟨g, 0, none⟩) c l) (hp : R.Bare) (k : Nat) (hk : k ≤ l.length) (zs : List Value) (hz : ∀ (j : Nat) u, zs[j]? = some u → R.raw (j % R.size) u) :
  R.SOwn E by_ (w.setCells g (k * R.size) zs) B (blkOf (some ⟨g, 0, none⟩)) (some ⟨g, 0, none⟩) c (l.take k) := by
 obtain ⟨hb, ps, hf, hn, ho, hall⟩ := h.cut hp k hk
 have h1 := SOwn.fsts (E := E) (by_ := by_) (c := c) (A := some ⟨g, 0, none⟩) hp hall
 have hlen : (l.take k).length = k := by rw [List.length_take]; omega
 refine ⟨hb, ps, hf, hn, ?_, hall.imp λ y a hy hyo => R.okeep hyo λ q hq => ?_⟩
 ·refine Own.setCells_at zs _ w (by rw [hlen]; exact Nat.le_refl _) ho λ j u hu => ?_
  rw [Nat.mul_comm, Nat.mul_add_mod]
  exact hz j u hu
 ·rw [h1 y hy] at hq; simp at hq
end Rep
section
variable {P : Program} {n : Nat} {E E' : List (Nat × Value)} {a : Act} {w w' w0 w1 : World} {Q : Exit → Act → World → Prop} {ops : Array Oper} {v : Value}
variable {d : Option Nat} {ty : TypeId} {pos : String} {af : Array Edge} {g : Option (Nat × Bool)} {x y z : Operand} {t : TypeId} {rest : List Oper}
theorem zeroCells_get {zs : Array Value} {m j : Nat} {u : Value} (hu : (Builtin.zeroCells zs m).toList[j]? = some u) : ∃ i : Nat, i = j % zs.size ∧ (0 < zs.size → zs[i]? = some u) := by
 rw [Array.getElem?_toList] at hu
 obtain ⟨h, hv⟩ := Array.getElem?_eq_some_iff.1 hu
 simp only [Builtin.zeroCells, Array.getElem_map, Array.getElem_range] at hv
 refine ⟨_, rfl, λ h0 => ?_⟩
 have hr : j % zs.size < zs.size := Nat.mod_lt _ h0
 rw [Array.getElem?_eq_getElem hr, ← hv]
 rw [getElem!_pos zs (j % zs.size) hr]
theorem sT {A : Option Addr} {len cap e s : Nat} {k : IntKind} (lo : Nat) {i : Int} (ht : P.underlying t = some (.slice e)) (hs : Sz P e s) (hx : ev E x = some (.slice A len cap)) (hy : ev E y = some (.int k i)) (hi : i = (lo : Int)) (h1 : lo ≤ len) :
  Runs P E ⟨d, .slice t x (some y) none none, ty, pos, af, g⟩ w (.slice (sA A cap lo s) (len - lo) (cap - lo)) w := λ n a ha => by
 subst hi
 have q1 : P.underlying t = some (.slice (P.elem t)) := by simp [Program.elem, ht]
 have q2 : P.elem t = e := by simp [Program.elem, ht]
 have h3 := run_slice_l (P := P) (w := w) t A len cap q1 k (lo : Int) (by omega) (by omega)
 have h4 := run_sliceAt_slice (P := P) (w := w) t (.slice A len cap) (some (.int k (lo : Int))) none none q1
 rw [q2, hs w] at h3
 simp only [execOp, ha.ev hx, ha.ev hy, Option.map, h4, h3, Sem.run_bind, Result.andThen_ok, Sem.run_pure, sliced, Int.toNat_natCast, sA]
theorem uv {op : Op} (hr : Runs P E ⟨none, op, ty, pos, af, none⟩ w v w') (h : WL P n ops Q rest E w') : WL P n ops Q (⟨none, op, ty, pos, af, none⟩ :: rest) E w := λ a ha => by
 refine WL_one rfl ?_
 unfold Oper.wp
 rw [hr n a ha]
 exact h _ ha
theorem run_clear_own {α : Type} {R : Rep α} {e by_ B c k q g m : Nat} {l : List α} {z : Value} (ht : P.underlying t = some (.slice e)) (hi : (P.info? e).map (λ i => (i.zero, i.size, i.bytes)) = some (some z, m, by_)) (hm : R.size = m) (h0 : 0 < m) (hz : z.cells.size = m) (hz1 : z.cells.toList.all (·.oneCell') = true)
  (hr : ∀ (j : Nat) u, z.cells[j]? = some u → R.raw j u) (h : R.SOwn e by_ w B (Rep.blkOf (some ⟨g, 0, none⟩)) (some ⟨g, 0, none⟩) c l) (hR : R.Bare) (hk : k ≤ l.length) (hq : 0 < q) (hkq : k + q ≤ c) :
  ∃ w1, Mod [g] w w1 ∧ R.SOwn e by_ w1 B (Rep.blkOf (some ⟨g, 0, none⟩)) (some ⟨g, 0, none⟩) c (l.take k) ∧ (Builtin.clear_ #[t] ty #[.slice (some ⟨g, k * m, none⟩) q (c - k)]).run P w = .ok (.tuple #[]) w1 := by
 subst hm
 have hlen : (Builtin.zeroCells z.cells q).toList.length = q * R.size := by rw [Array.length_toList]; simp [Builtin.zeroCells, hz]
 obtain ⟨hle, ps, hf, hn, ho, hall⟩ := id h
 have hin : ∀ j, j < q * R.size → k * R.size + j < c * R.size := λ j hj => by
  have e1 : k * R.size + q * R.size = (k + q) * R.size := by rw [← Nat.add_mul]
  have e2 := Nat.mul_le_mul_right R.size hkq
  omega
 have hz3 : ∀ (j : Nat) u, (Builtin.zeroCells z.cells q).toList[j]? = some u → u.oneCell' = true ∧ R.raw (j % R.size) u := λ j u hu => by
  obtain ⟨i, hi, hg⟩ := zeroCells_get hu
  have hg := hg (by omega)
  rw [hz] at hi; subst hi
  refine ⟨?_, hr _ u hg⟩
  have := List.all_eq_true.1 hz1 u (by rw [Array.mem_toList_iff]; exact Array.mem_of_getElem? hg)
  exact this
 have hst := run_storeCells_cells (P := P) g (k * R.size) (Builtin.zeroCells z.cells q).toList 0 w (λ j hj => by
   rw [hlen] at hj
   obtain ⟨u, hu, _⟩ := ho.some_ (k * R.size + 0 + j) (hin j hj)
   rw [hu]; rfl) (λ j _ => ho.free _) (λ v hv => by
   obtain ⟨j, hj⟩ := List.mem_iff_getElem?.1 hv
   exact (hz3 j v hj).1)
 rw [Nat.add_zero] at hst
 refine ⟨_, Rep.Mod.setCells g _ _ w, h.setTail hR k (by omega) _ (λ j u hu => (hz3 j u hu).2), ?_⟩
 have hzv : ∀ w, (zeroValue e).run P w = .ok z w := λ w => by
  cases hq : P.info? e with
  | none => rw [hq] at hi; cases hi
  | some i =>
   rw [hq] at hi
   simp only [Option.map_some, Option.some.injEq, Prod.mk.injEq] at hi
   simp [zeroValue, typeInfo, hq, hi.1]
 obtain ⟨p, rfl⟩ : ∃ p, q = p + 1 := ⟨q - 1, by omega⟩
 simp [Builtin.clear_, run_underlying ht, hzv, hst]
theorem cl {α : Type} {R : Rep α} {e by_ B c k q m : Nat} {A : Option Addr} {l : List α} {z : Value} (ht : P.underlying t = some (.slice e)) (hi : (P.info? e).map (λ i => (i.zero, i.size, i.bytes)) = some (some z, m, by_)) (hm : R.size = m) (h0 : 0 < m) (hz : z.cells.size = m) (hz1 : z.cells.toList.all (·.oneCell') = true)
  (hr : ∀ (j : Nat) u, z.cells[j]? = some u → R.raw j u) (h : R.SOwn e by_ w B (Rep.blkOf A) A c l) (hR : R.Bare) (hk : k ≤ l.length) (hq : 0 < q) (hkq : k + q ≤ c) (hA : ∃ b, A = some ⟨b, 0, none⟩) (hx : ev E x = some (.slice (sA A c k m) q (c - k)))
  (hK : ∀ w1, Mod (Rep.blkOf A) w w1 → R.SOwn e by_ w1 B (Rep.blkOf A) A c (l.take k) → WL P n ops Q rest E w1) :
  WL P n ops Q (⟨none, .call { callee := .builtin .clear, args := #[x], argTypes := #[t] }, ty, pos, af, none⟩ :: rest) E w := by
 obtain ⟨b, rfl⟩ := hA
 obtain ⟨w1, hmod, hS, hrun⟩ := run_clear_own (ty := ty) ht hi hm h0 hz hz1 hr h hR hk hq hkq
 have hsA : sA (some ⟨b, 0, none⟩) c k m = some ⟨b, k * m, none⟩ := by
  unfold sA; rw [if_neg (by omega)]; simp [Addr.add]; try omega
 rw [hsA] at hx
 refine uv (v := .tuple #[]) (w' := w1) (bi (vs := [.slice (some ⟨b, k * m, none⟩) q (c - k)]) (by simp only [evs, hx]) λ cs => ?_) (hK w1 hmod hS)
 simp only [builtin, Sem.run_bind, hrun, Result.andThen_ok, Sem.run_pure]
theorem intDiv_quo {k : IntKind} {i j : Int} (h0 : 0 ≤ i) (h1 : 0 < j) (hw : k.wrap (i / j) = i / j) : Op.intDiv .quo k i j = pure (.int k (i / j)) := by
 unfold Op.intDiv
 have e : i.tdiv j = i / j := Int.tdiv_eq_ediv_of_nonneg h0
 rw [if_neg (by omega)]
 simp only [e, hw]
theorem intDiv_rem {k : IntKind} {i j : Int} (h0 : 0 ≤ i) (h1 : 0 < j) : Op.intDiv .rem k i j = pure (.int k (i % j)) := by
 unfold Op.intDiv
 have e : i.tmod j = i % j := Int.tmod_eq_emod_of_nonneg h0
 rw [if_neg (by omega)]
 simp only [e]
section
variable {k : IntKind} {i j : Int} {u : TypeId}
theorem bqu (hx : ev E x = some (.int k i)) (hy : ev E y = some (.int k j)) (h0 : 0 ≤ i) (h1 : 0 < j) (hw : k.wrap (i / j) = i / j) : Runs P E ⟨d, .binOp .quo t x y u, ty, pos, af, g⟩ w (.int k (i / j)) w := run_bin hx hy (binOp_quo t k i j) (by rw [intDiv_quo h0 h1 hw]; rfl)
theorem bre (hx : ev E x = some (.int k i)) (hy : ev E y = some (.int k j)) (h0 : 0 ≤ i) (h1 : 0 < j) : Runs P E ⟨d, .binOp .rem t x y u, ty, pos, af, g⟩ w (.int k (i % j)) w := run_bin hx hy (binOp_rem t k i j) (by rw [intDiv_rem h0 h1]; rfl)
theorem quI {i j : Int} (h0 : 0 ≤ i) (h1 : 0 < j) (h2 : i ≤ 9223372036854775807) : IntKind.i64.wrap (i / j) = i / j := by
 have e1 : 0 ≤ i / j := Int.ediv_nonneg h0 (by omega)
 have e2 : i / j ≤ i := Int.ediv_le_self _ h0
 exact inI ⟨by omega, by omega⟩
end
end
end
end Go.Proofs.Ytccankldeogdlaa
