import Derived.Test.YtifffjhhammeiaaGol
import Derived.Test.YtifffjhhammeiaaBas
import Derived.Test.YtifffjhhammeiaaProg
import Derived.WalkKit
import Derived.Lib.BitFns
import Derived.RangeFuncNested
import Derived.RangeFuncLeaves
import Derived.OrdersIn
import Derived.TacticsIn
import Derived.LoopNIn
import Derived.Laws.IdiomCopy
set_option linter.unusedVariables false
set_option linter.unusedSimpArgs false
set_option maxRecDepth 100000
set_option maxHeartbeats 4000000
namespace Go.Proofs.Ytifffjhhammeiaa
section
open Go.RowKit
theorem fk1 {B : List Nat} {b n : Nat} (u : ∀ q ∈ B, q < n) (h : n ≤ b) : ∀ q ∈ B, q ∈ [b] → False := fun q hq hb => by have := u q hq; have := List.mem_singleton.1 hb; omega
theorem fk2 {B : List Nat} {b n : Nat} (u : ∀ q ∈ B, n ≤ q) (h : b < n) : ∀ q ∈ B, q ∈ [b] → False := fun q hq hb => by have := u q hq; have := List.mem_singleton.1 hb; omega
theorem nm1 {a b : Nat} (h : a ≠ b) : a ∉ [b] := fun e => h (List.mem_singleton.1 e)
section
variable {P : Program} {n : Nat} {ops : Array Oper} {Q : Exit → Act → World → Prop} {E : List (Nat × Value)} {w w' w0 : World} {v : Value} {ty : TypeId} {pos : String} {af : Array Edge} {x : Operand} {rest : List Oper} {d i : Nat} {τ : List Nat} {kd : Nat → Nat}
theorem nK {y : Code} (h : W P n y Q E w) : WL P n ops (Th P y Q) [] E w := nl (nT h)
theorem sg {id : Nat} {l : List Oper} {y : Code} (h : WL P n l.toArray (Th P y Q) l E w) : W P n (.seq (.region id l.toArray false) y) Q E w := sq (rg h)
theorem sK {y : Code} (h : W P n y Q E w) : W P n .skip (Th P y Q) E w := sk (nT h)
theorem vL {op : Op} (hr : Runs P E ⟨some d, op, ty, pos, af, none⟩ w v w') (h : WL P n ops Q rest ((d, v) :: E) w') (hd : Nat.blt d n = true := by rfl) : WL P n ops Q (⟨some d, op, ty, pos, af, none⟩ :: rest) E w := vl hr hd h
theorem vm (hx : ev E x = some v) (h : WL P n ops Q rest ((d, v) :: E) w) (hd : Nat.blt d n = true := by rfl) : WL P n ops Q (⟨some d, .move x, ty, pos, af, none⟩ :: rest) E w := vl (mv hx) hd h
theorem va (hx : ev E x = some v) (h : WL P n ops Q rest ((d, v) :: E) w) (hd : Nat.blt d n = true := by rfl) : WL P n ops Q (⟨some d, .assign x, ty, pos, af, none⟩ :: rest) E w := vl (as_ hx) hd h
theorem fw1 {op : Op} (hi : ops[i]? = some ⟨some d, op, ty, pos, af, none⟩) (hr : ∀ w, Runs P E ⟨some d, op, ty, pos, af, none⟩ w v w) (h : FL P n ops Q kd τ ((d, v) :: E) w0) (hk : kd i = 1 := by rfl) (hd : Nat.blt d n = true := by rfl) : FL P n ops Q kd (i :: τ) E w0 := fw hi hk hr hd h
theorem fq1 {op : Op} (hi : ops[i]? = some ⟨some d, op, ty, pos, af, none⟩) (hr : ∀ w, Ext w0 w → Runs P E ⟨some d, op, ty, pos, af, none⟩ w v w) (h : FL P n ops Q kd τ ((d, v) :: E) w0) (hk : kd i = 0 := by rfl) (hd : Nat.blt d n = true := by rfl) : FL P n ops Q kd (i :: τ) E w0 := fq hi hk hr hd h
end
theorem sba : ∀ {E' E : List (Nat × Value)}, E'.map (fun p => look E p.1) = E'.map (fun p => some p.2) → Sub E' E
 | [], _, _ => Sub.nil
 | (k, v) :: r, E, h => have h' : look E k :: r.map (fun p => look E p.1) = some v :: r.map (fun p => some p.2) := h
  Sub.cons (List.cons.inj h').1 (sba (List.cons.inj h').2)
theorem bS : (∀ (a b : Bool), ((a || b) = true) ↔ (a = true ∨ b = true)) ∧ (∀ (a b : Bool), ((a || b) = false) ↔ (a = false ∧ b = false)) ∧ (∀ (a b : Bool), ((a && b) = true) ↔ (a = true ∧ b = true)) ∧ (∀ (a b : Bool), ((a && b) = false) ↔ (a = false ∨ b = false)) ∧ (∀ (p : Prop) [Decidable p], (decide p = true) ↔ p) ∧ (∀ (p : Prop) [Decidable p], (decide p = false) ↔ ¬ p) ∧ (∀ (α : Type) [BEq α] [LawfulBEq α] (a b : α), ((a == b) = true) ↔ (a = b)) ∧ (∀ (α : Type) [BEq α] [LawfulBEq α] (a b : α), ((a != b) = true) ↔ (a ≠ b)) ∧ (∀ (α : Type) [BEq α] [LawfulBEq α] (a b : α), ((a == b) = false) ↔ (a ≠ b)) ∧ (∀ (α : Type) [BEq α] [LawfulBEq α] (a b : α), ((a != b) = false) ↔ (a = b)) ∧ (∀ b : Bool, ((!b) = true) ↔ (b = false)) ∧ (∀ b : Bool, ((!b) = false) ↔ (b = true)) ∧ (∀ b : Bool, (¬ (b = true)) ↔ (b = false)) ∧ (∀ b : Bool, (¬ (b = false)) ↔ (b = true)) ∧ (∀ a b : Int, (¬ a < b) ↔ b ≤ a) ∧ (∀ a b : Int, (¬ a ≤ b) ↔ b < a) ∧ (∀ a b : Nat, (¬ a < b) ↔ b ≤ a) ∧ (∀ a b : Nat, (¬ a ≤ b) ↔ b < a) ∧ (∀ (α : Type) (a b : α), (a ≠ b) ↔ ¬ (a = b)) ∧ (∀ p : Prop, (¬ ¬ p) ↔ p) :=
 ⟨fun a b => by cases a <;> cases b <;> simp, fun a b => by cases a <;> cases b <;> simp, fun a b => by cases a <;> cases b <;> simp, fun a b => by cases a <;> cases b <;> simp, fun p _ => by simp, fun p _ => by simp, fun α _ _ a b => by simp, fun α _ _ a b => by simp, fun α _ _ a b => by simp, fun α _ _ a b => by simp, fun b => by simp, fun b => by simp, fun b => by simp, fun b => by simp, fun _ _ => Int.not_lt, fun _ _ => Int.not_le, fun _ _ => Nat.not_lt, fun _ _ => Nat.not_le, fun _ _ _ => Iff.rfl, fun _ => Classical.not_not⟩
theorem zl (j : Nat) {n : Nat} (h : j < n) : 0 < n := Nat.zero_lt_of_lt h
theorem eT {a b c : World} (h : Ext a b) (k : Ext b c) : Ext a c := Ext.tr h k
theorem ge1 {b n : Nat} (h : n ≤ b) : ∀ q ∈ [b], n ≤ q := fun q hq => by rw [List.mem_singleton.1 hq]; exact h
theorem eF0 : Sz Try.prog 69 6 := fun _ => by kernel_rfl
theorem eF1 : Zv Try.prog 52 (.agg #[.int .i64 0, .int .i64 0, .int .i64 0]) := fun _ => by kernel_rfl
theorem eF2 : Enters Try.prog 50 := en Try.func50 (by kernel_rfl) (by kernel_rfl)
theorem eF3 : Fd Try.prog 52 0 0 := fun _ _ _ => by kernel_rfl
theorem eF4 : Ag Try.prog 3 false := fun _ => by kernel_rfl
theorem eF5 : Ag Try.prog 52 true := fun _ => by kernel_rfl
theorem eF6 : Sz Try.prog 52 3 := fun _ => by kernel_rfl
theorem eF7 : Sz Try.prog 3 1 := fun _ => by kernel_rfl
theorem eF8 : Fd Try.prog 52 1 1 := fun _ _ _ => by kernel_rfl
theorem eF9 : Fd Try.prog 52 2 2 := fun _ _ _ => by kernel_rfl
theorem eF10 : Fd Try.prog 69 0 0 := fun _ _ _ => by kernel_rfl
theorem eF11 : Ag Try.prog 69 true := fun _ => by kernel_rfl
theorem eF12 : Enters Try.prog 94 := en Try.func94 (by kernel_rfl) (by kernel_rfl)
theorem eF13 : Fd Try.prog 98 0 0 := fun _ _ _ => by kernel_rfl
theorem eF14 : Fd Try.prog 62 1 1 := fun _ _ _ => by kernel_rfl
theorem eF15 : Ag Try.prog 60 false := fun _ => by kernel_rfl
theorem eF16 : Enters Try.prog 93 := en Try.func93 (by kernel_rfl) (by kernel_rfl)
theorem eF17 : Enters Try.prog 95 := en Try.func95 (by kernel_rfl) (by kernel_rfl)
theorem eF18 : Sz Try.prog 60 1 := fun _ => by kernel_rfl
theorem eF19 : Enters Try.prog 33 := en Try.func33 (by kernel_rfl) (by kernel_rfl)
theorem eF20 : Fd Try.prog 62 0 0 := fun _ _ _ => by kernel_rfl
theorem eF21 : Ag Try.prog 59 false := fun _ => by kernel_rfl
theorem eF22 : Fd Try.prog 72 2 2 := fun _ _ _ => by kernel_rfl
theorem eF23 : Enters Try.prog 68 := en Try.func68 (by kernel_rfl) (by kernel_rfl)
theorem eF24 : Fd Try.prog 72 1 1 := fun _ _ _ => by kernel_rfl
theorem eF25 : Fd Try.prog 72 0 0 := fun _ _ _ => by kernel_rfl
theorem eF26 : Enters Try.prog 26 := en Try.func26 (by kernel_rfl) (by kernel_rfl)
theorem eF27 : Fd Try.prog 69 1 1 := fun _ _ _ => by kernel_rfl
theorem eF28 : Ag Try.prog 67 false := fun _ => by kernel_rfl
theorem eF29 : Sz Try.prog 67 1 := fun _ => by kernel_rfl
theorem eF30 : Fd Try.prog 69 2 2 := fun _ _ _ => by kernel_rfl
theorem eF31 : Sz Try.prog 59 1 := fun _ => by kernel_rfl
theorem eF32 : Fd Try.prog 69 3 3 := fun _ _ _ => by kernel_rfl
theorem eF33 : Ag Try.prog 4 false := fun _ => by kernel_rfl
theorem eF34 : Enters Try.prog 69 := en Try.func69 (by kernel_rfl) (by kernel_rfl)
theorem eF35 : Fd Try.prog 72 3 3 := fun _ _ _ => by kernel_rfl
theorem eF36 : Enters Try.prog 70 := en Try.func70 (by kernel_rfl) (by kernel_rfl)
theorem eF37 : Sz Try.prog 4 1 := fun _ => by kernel_rfl
theorem eF38 : Fd Try.prog 69 4 4 := fun _ _ _ => by kernel_rfl
theorem eF39 : Enters Try.prog 27 := en Try.func27 (by kernel_rfl) (by kernel_rfl)
theorem eF40 : Fd Try.prog 69 5 5 := fun _ _ _ => by kernel_rfl
theorem eF41 : Sz Try.prog 72 4 := fun _ => by kernel_rfl
theorem eF42 : Ag Try.prog 72 true := fun _ => by kernel_rfl
theorem eF43 : Enters Try.prog 53 := en Try.func53 (by kernel_rfl) (by kernel_rfl)
theorem eF44 : Zv Try.prog 62 (.agg #[.slice none 0 0, .slice none 0 0]) := fun _ => by kernel_rfl
theorem eF45 : Sz Try.prog 62 2 := fun _ => by kernel_rfl
theorem eF46 : Ag Try.prog 62 true := fun _ => by kernel_rfl
theorem eF47 : Enters Try.prog 51 := en Try.func51 (by kernel_rfl) (by kernel_rfl)
theorem eF48 : Enters Try.prog 31 := en Try.func31 (by kernel_rfl) (by kernel_rfl)
theorem eF49 : Zv Try.prog 98 (.agg #[.slice none 0 0, .slice none 0 0]) := fun _ => by kernel_rfl
theorem eF50 : Sz Try.prog 98 2 := fun _ => by kernel_rfl
theorem eF51 : Zv Try.prog 72 (.agg #[.int .i64 0, .int .i64 0, .int .i64 0, .int .i64 0]) := fun _ => by kernel_rfl
theorem eF52 : Enters Try.prog 52 := en Try.func52 (by kernel_rfl) (by kernel_rfl)
theorem eF53 : Zv Try.prog 69 (.agg #[.int .i64 0, .int .u32 0, .slice none 0 0, .bool false, .int .i64 0, .int .u32 0]) := fun _ => by kernel_rfl
theorem eF54 : Enters Try.prog 49 := en Try.func49 (by kernel_rfl) (by kernel_rfl)
theorem eF55 : Enters Try.prog 29 := en Try.func29 (by kernel_rfl) (by kernel_rfl)
theorem eF56 : Enters Try.prog 30 := en Try.func30 (by kernel_rfl) (by kernel_rfl)
theorem eF57 : Enters Try.prog 40 := en Try.func40 (by kernel_rfl) (by kernel_rfl)
theorem eF58 : Enters Try.prog 35 := en Try.func35 (by kernel_rfl) (by kernel_rfl)
theorem eF59 : Enters Try.prog 25 := en Try.func25 (by kernel_rfl) (by kernel_rfl)
theorem eF60 : Enters Try.prog 34 := en Try.func34 (by kernel_rfl) (by kernel_rfl)
end
section
open Go.RowKit
structure Vow where
 promised : Int
 ballot : Int
 value : Int
 deriving DecidableEq, Inhabited
namespace Vow
def cells (a : Vow) : List Value := [.int .i64 (a.promised), .int .i64 (a.ballot), .int .i64 (a.value)]
def ok (a : Vow) : Prop := (Lit.int .i64 a.promised).wf = true ∧ (Lit.int .i64 a.ballot).wf = true ∧ (Lit.int .i64 a.value).wf = true
def raw (j : Nat) (u : Value) : Prop := match j with
 | 0 => ∃ n : Int, u = .int .i64 n
 | 1 => ∃ n : Int, u = .int .i64 n
 | 2 => ∃ n : Int, u = .int .i64 n
 | _ => True
theorem cells_raw (a : Vow) : ∀ (j : Nat) u, a.cells[j]? = some u → raw j u := by
 intro j u hu
 match j, hu with
 | 0, hu => exact ⟨_, (Option.some.inj hu).symm⟩
 | 1, hu => exact ⟨_, (Option.some.inj hu).symm⟩
 | 2, hu => exact ⟨_, (Option.some.inj hu).symm⟩
 | j + 3, hu => exact trivial
theorem cells_one (a : Vow) : ∀ u ∈ a.cells, u.oneCell' = true := by
 intro u hu
 unfold cells at hu
 simp only [List.mem_cons, List.not_mem_nil, or_false] at hu
 rcases hu with rfl | rfl | rfl <;> rfl
def rep : Rep Vow := Rep.flat 3 cells ok raw (λ _ => rfl) cells_one cells_raw
theorem plain : rep.Plain := Rep.flat_plain
def zero : Value := .agg #[.int .i64 0, .int .i64 0, .int .i64 0]
theorem zero_raw : ∀ (j : Nat) u, zero.cells[j]? = some u → rep.raw j u := by
 intro j u hu
 have hu : (#[(.int .i64 0 : Value), (.int .i64 0 : Value), (.int .i64 0 : Value)] : Array Value)[j]? = some u := hu
 match j, hu with
 | 0, hu => exact ⟨_, (Option.some.inj hu).symm⟩
 | 1, hu => exact ⟨_, (Option.some.inj hu).symm⟩
 | 2, hu => exact ⟨_, (Option.some.inj hu).symm⟩
 | j + 3, hu => cases hu
theorem info : (Try.prog.info? 52).map (λ i => (i.zero, i.size, i.bytes)) = some (some zero, 3, 24) := by kernel_rfl
theorem all_ok {by_ : Nat} {w : World} {A : Option Addr} {c : Nat} {l : List Vow} (h : rep.SHas by_ w A c l) : ∀ a ∈ l, a.ok := Rep.SHas.all_ (R := rep) (Q := ok) (fun {w cs a} (h : rep.has w cs a) => (show cs = a.cells ∧ a.ok from h).2) h
theorem blk {w : World} {g : Nat} {t : TypeId} {fr : Nat × Nat} {a : Vow} (h : Blk w g a.cells t fr) : w.cell? ⟨g, 0, none⟩ = some (.int .i64 (a.promised)) ∧ w.cell? ⟨g, 1, none⟩ = some (.int .i64 (a.ballot)) ∧ w.cell? ⟨g, 2, none⟩ = some (.int .i64 (a.value)) :=
 ⟨h.cell 0, h.cell 1, h.cell 2⟩
def sh : Sh := (.cons (.int .i64) (.cons (.int .i64) (.cons (.int .i64) .nil)))
theorem opens (w : World) (cs : List Value) (h : sh.Ok w cs) : ∃ a, rep.has w cs a := by
 obtain ⟨_, _, rfl, _, _, ⟨x0, rfl, k0⟩, ⟨_, _, rfl, _, _, ⟨x1, rfl, k1⟩, ⟨_, _, rfl, _, _, ⟨x2, rfl, k2⟩, rfl⟩⟩⟩ := h
 exact ⟨⟨x0, x1, x2⟩, rfl, k0, k1, k2⟩
end Vow
end
section
open Go.RowKit
structure Sst where
 kind : Int
 who : Int
 ballot : Int
 value : Int
 deriving DecidableEq, Inhabited
namespace Sst
def cells (a : Sst) : List Value := [.int .i64 (a.kind), .int .i64 (a.who), .int .i64 (a.ballot), .int .i64 (a.value)]
def ok (a : Sst) : Prop := (Lit.int .i64 a.kind).wf = true ∧ (Lit.int .i64 a.who).wf = true ∧ (Lit.int .i64 a.ballot).wf = true ∧ (Lit.int .i64 a.value).wf = true
def raw (j : Nat) (u : Value) : Prop := match j with
 | 0 => ∃ n : Int, u = .int .i64 n
 | 1 => ∃ n : Int, u = .int .i64 n
 | 2 => ∃ n : Int, u = .int .i64 n
 | 3 => ∃ n : Int, u = .int .i64 n
 | _ => True
theorem cells_raw (a : Sst) : ∀ (j : Nat) u, a.cells[j]? = some u → raw j u := by
 intro j u hu
 match j, hu with
 | 0, hu => exact ⟨_, (Option.some.inj hu).symm⟩
 | 1, hu => exact ⟨_, (Option.some.inj hu).symm⟩
 | 2, hu => exact ⟨_, (Option.some.inj hu).symm⟩
 | 3, hu => exact ⟨_, (Option.some.inj hu).symm⟩
 | j + 4, hu => exact trivial
theorem cells_one (a : Sst) : ∀ u ∈ a.cells, u.oneCell' = true := by
 intro u hu
 unfold cells at hu
 simp only [List.mem_cons, List.not_mem_nil, or_false] at hu
 rcases hu with rfl | rfl | rfl | rfl <;> rfl
def rep : Rep Sst := Rep.flat 4 cells ok raw (λ _ => rfl) cells_one cells_raw
theorem plain : rep.Plain := Rep.flat_plain
def zero : Value := .agg #[.int .i64 0, .int .i64 0, .int .i64 0, .int .i64 0]
theorem zero_raw : ∀ (j : Nat) u, zero.cells[j]? = some u → rep.raw j u := by
 intro j u hu
 have hu : (#[(.int .i64 0 : Value), (.int .i64 0 : Value), (.int .i64 0 : Value), (.int .i64 0 : Value)] : Array Value)[j]? = some u := hu
 match j, hu with
 | 0, hu => exact ⟨_, (Option.some.inj hu).symm⟩
 | 1, hu => exact ⟨_, (Option.some.inj hu).symm⟩
 | 2, hu => exact ⟨_, (Option.some.inj hu).symm⟩
 | 3, hu => exact ⟨_, (Option.some.inj hu).symm⟩
 | j + 4, hu => cases hu
theorem info : (Try.prog.info? 72).map (λ i => (i.zero, i.size, i.bytes)) = some (some zero, 4, 32) := by kernel_rfl
theorem all_ok {by_ : Nat} {w : World} {A : Option Addr} {c : Nat} {l : List Sst} (h : rep.SHas by_ w A c l) : ∀ a ∈ l, a.ok := Rep.SHas.all_ (R := rep) (Q := ok) (fun {w cs a} (h : rep.has w cs a) => (show cs = a.cells ∧ a.ok from h).2) h
theorem blk {w : World} {g : Nat} {t : TypeId} {fr : Nat × Nat} {a : Sst} (h : Blk w g a.cells t fr) : w.cell? ⟨g, 0, none⟩ = some (.int .i64 (a.kind)) ∧ w.cell? ⟨g, 1, none⟩ = some (.int .i64 (a.who)) ∧ w.cell? ⟨g, 2, none⟩ = some (.int .i64 (a.ballot)) ∧ w.cell? ⟨g, 3, none⟩ = some (.int .i64 (a.value)) :=
 ⟨h.cell 0, h.cell 1, h.cell 2, h.cell 3⟩
def sh : Sh := (.cons (.int .i64) (.cons (.int .i64) (.cons (.int .i64) (.cons (.int .i64) .nil))))
theorem opens (w : World) (cs : List Value) (h : sh.Ok w cs) : ∃ a, rep.has w cs a := by
 obtain ⟨_, _, rfl, _, _, ⟨x0, rfl, k0⟩, ⟨_, _, rfl, _, _, ⟨x1, rfl, k1⟩, ⟨_, _, rfl, _, _, ⟨x2, rfl, k2⟩, ⟨_, _, rfl, _, _, ⟨x3, rfl, k3⟩, rfl⟩⟩⟩⟩ := h
 exact ⟨⟨x0, x1, x2, x3⟩, rfl, k0, k1, k2, k3⟩
end Sst
end
section
open Go.RowKit
structure Rv where
 b : Int
 p : Nat
 ha : Option Addr
 hn : Nat
 hc : Nat
 asked : Bool
 v : Int
 q : Nat
 deriving DecidableEq
instance : Inhabited Rv := ⟨⟨0, 0, none, 0, 0, false, 0, 0⟩⟩
namespace Rv
def cells (a : Rv) : List Value := [.int .i64 a.b, .int .u32 (a.p : Int), .slice a.ha a.hn a.hc, .bool a.asked, .int .i64 a.v, .int .u32 (a.q : Int)]
def ok (a : Rv) : Prop := okI a.b ∧ okI a.v ∧ a.p < 4294967296 ∧ a.q < 4294967296
def raw (j : Nat) (u : Value) : Prop := match j with
 | 0 => ∃ n : Int, u = .int .i64 n
 | 1 => ∃ n : Int, u = .int .u32 n
 | 2 => ∃ a n c, u = .slice a n c
 | 3 => ∃ b : Bool, u = .bool b
 | 4 => ∃ n : Int, u = .int .i64 n
 | 5 => ∃ n : Int, u = .int .u32 n
 | _ => True
theorem cells_raw (a : Rv) : ∀ (j : Nat) u, a.cells[j]? = some u → raw j u := by
 intro j u hu
 match j, hu with
 | 0, hu => exact ⟨_, (Option.some.inj hu).symm⟩
 | 1, hu => exact ⟨_, (Option.some.inj hu).symm⟩
 | 2, hu => exact ⟨_, _, _, (Option.some.inj hu).symm⟩
 | 3, hu => exact ⟨_, (Option.some.inj hu).symm⟩
 | 4, hu => exact ⟨_, (Option.some.inj hu).symm⟩
 | 5, hu => exact ⟨_, (Option.some.inj hu).symm⟩
 | j + 6, hu => exact trivial
theorem cells_one (a : Rv) : ∀ u ∈ a.cells, u.oneCell' = true := by
 intro u hu
 unfold cells at hu
 simp only [List.mem_cons, List.not_mem_nil, or_false] at hu
 rcases hu with rfl | rfl | rfl | rfl | rfl | rfl <;> rfl
def rep : Rep Rv := Rep.flat 6 cells ok raw (λ _ => rfl) cells_one cells_raw
theorem plain : rep.Plain := Rep.flat_plain
def zero : Value := .agg #[.int .i64 0, .int .u32 0, .slice none 0 0, .bool false, .int .i64 0, .int .u32 0]
theorem zero_raw : ∀ (j : Nat) u, zero.cells[j]? = some u → rep.raw j u := by
 intro j u hu
 have e : zero.cells = (Rv.mk 0 0 none 0 0 false 0 0).cells.toArray := rfl
 rw [e, List.getElem?_toArray] at hu
 exact cells_raw _ j u hu
theorem info : (Try.prog.info? 69).map (λ i => (i.zero, i.size, i.bytes)) = some (some zero, 6, 64) := by kernel_rfl
end Rv
theorem hcRv {w : World} {cs : List Value} {a : Rv} (h : Rv.rep.has w cs a) : cs = a.cells := And.left (show cs = a.cells ∧ a.ok from h)
theorem Rv.all_ok {by_ : Nat} {w : World} {A : Option Addr} {c : Nat} {l : List Rv} (h : Rv.rep.SHas by_ w A c l) : ∀ a ∈ l, a.ok := Rep.SHas.all_ (R := Rv.rep) (Q := Rv.ok) (fun {w cs a} (h : Rv.rep.has w cs a) => (show cs = a.cells ∧ a.ok from h).2) h
end
end Go.Proofs.Ytifffjhhammeiaa
set_option linter.unusedVariables false
set_option linter.unusedSimpArgs false
namespace Go.Proofs.Ytifffjhhammeiaa.Vote

theorem and2 (a b : Nat) : (a &&& b) % 2 = a % 2 &&& b % 2 := by
 have := @Nat.and_mod_two_pow a b 1
 simpa using this
theorem or2 (a b : Nat) : (a ||| b) % 2 = a % 2 ||| b % 2 := by
 have := @Nat.or_mod_two_pow a b 1
 simpa using this
theorem div2 {a b c : Nat} (h : a &&& b = c) : a / 2 &&& b / 2 = c / 2 := by rw [← h, Nat.and_div_two]
def cnt : Nat → Nat → Nat
 | 0, _ => 0
 | f + 1, x => x % 2 + cnt f (x / 2)
theorem cnt_add (f g x : Nat) : cnt (f + g) x = cnt f x + cnt g (x / 2 ^ f) := by
 induction f generalizing x with
 | zero => simp [cnt]
 | succ f ih =>
  rw [Nat.succ_add, cnt, cnt, ih, Nat.div_div_eq_div_mul, Nat.pow_succ, Nat.mul_comm 2]
  omega
theorem cnt_mod (f x : Nat) : cnt f (x % 2 ^ f) = cnt f x := by
 induction f generalizing x with
 | zero => rfl
 | succ f ih =>
  rw [cnt, cnt, Nat.pow_succ]
  have h1 : x % (2 ^ f * 2) % 2 = x % 2 := Nat.mod_mod_of_dvd _ ⟨2 ^ f, Nat.mul_comm _ _⟩
  have h2 : x % (2 ^ f * 2) / 2 = x / 2 % 2 ^ f := by rw [Nat.mul_comm, Nat.mod_mul_right_div_self]
  rw [h1, h2, ih]
theorem cnt_le (f x : Nat) : cnt f x ≤ f := by
 induction f generalizing x with
 | zero => exact Nat.le_refl _
 | succ f ih => have := ih (x / 2); rw [cnt]; omega
def size (x : Nat) : Nat := cnt 32 x
theorem size_bytes (x : Nat) (h : x < 4294967296) : size x = cnt 8 (x / 16777216) + cnt 8 (x / 65536 % 256) + cnt 8 (x / 256 % 256) + cnt 8 (x % 256) := by
 unfold size
 rw [show (32 : Nat) = 8 + (8 + (8 + 8)) from rfl, cnt_add, cnt_add, cnt_add, Nat.div_div_eq_div_mul, Nat.div_div_eq_div_mul]
 rw [show (256 : Nat) = 2 ^ 8 from rfl, cnt_mod, cnt_mod, cnt_mod]
 simp only [Nat.reducePow, Nat.reduceMul]
 omega
theorem cnt_disj (f a b : Nat) (h : a &&& b = 0) : cnt f (a ||| b) = cnt f a + cnt f b := by
 induction f generalizing a b with
 | zero => rfl
 | succ f ih =>
  have h2 : a / 2 &&& b / 2 = 0 := div2 h
  have h1 : a % 2 &&& b % 2 = 0 := by rw [← and2, h]
  rw [cnt, cnt, cnt, Nat.or_div_two, ih _ _ h2]
  have e : (a ||| b) % 2 = a % 2 + b % 2 := by
   rw [or2]
   rcases Nat.mod_two_eq_zero_or_one a with ha | ha <;> rcases Nat.mod_two_eq_zero_or_one b with hm | hm
   all_goals rw [ha, hm] at h1 ⊢
   all_goals first | rfl | (simp at h1)
  omega
theorem cnt_sub (f a m : Nat) (h : a &&& m = a) : cnt f a ≤ cnt f m := by
 induction f generalizing a m with
 | zero => exact Nat.le_refl _
 | succ f ih =>
  have h2 : a / 2 &&& m / 2 = a / 2 := div2 h
  have h1 : a % 2 &&& m % 2 = a % 2 := by rw [← and2, h]
  have := ih _ _ h2
  rw [cnt, cnt]
  rcases Nat.mod_two_eq_zero_or_one a with ha | ha <;> rcases Nat.mod_two_eq_zero_or_one m with hm | hm
  all_goals rw [ha, hm] at h1 ⊢
  all_goals first | omega | (simp at h1)
theorem pop8_cnt (n : Nat) (h : n < 256) : Lib.pop8 (n : Int) = (cnt 8 n : Int) := by
 have e := Lib.pop8_eq ⟨n, h⟩
 have e2 : ∀ m : Fin 256, Lib.onesCount m.val = cnt 8 m.val := by decide +kernel
 rw [e2 ⟨n, h⟩] at e
 exact e
end Go.Proofs.Ytifffjhhammeiaa.Vote
namespace Go.Proofs.Ytifffjhhammeiaa
section
open Go.RowKit
structure Rnd where
 b : Int
 p : Nat
 h : List Vow
 asked : Bool
 v : Int
 q : Nat
 deriving DecidableEq, Inhabited
structure Cou where
 vows : List Vow
 rounds : List Rnd
 deriving DecidableEq
def balB (n : Int) : Bool := decide (1 ≤ n) && decide (n ≤ 1000000)
def prepK (v : Vow) (n : Int) : Bool := !(!balB n || decide (n ≤ v.promised))
def prepV (v : Vow) (n : Int) : Vow := if prepK v n = true then ⟨n, v.ballot, v.value⟩ else v
def accK (v : Vow) (n : Int) : Bool := !(!balB n || decide (n < v.promised))
def accV (v : Vow) (n x : Int) : Vow := if accK v n = true then ⟨n, n, x⟩ else v
def betV (b v : Vow) : Vow := if b.ballot < v.ballot then v else b
def bestV (l : List Vow) : Vow := l.foldl betV (l.getD 0 default)
def chooseV (l : List Vow) (x : Int) : Int := if l.length = 0 then x else if (bestV l).ballot = 0 then x else (bestV l).value
def binR (l : List Rnd) (n : Int) : Nat := l.countP λ y => decide (y.b < n)
theorem binR_le (l : List Rnd) (n : Int) : binR l n ≤ l.length := List.countP_le_length
def hasR (l : List Rnd) (n : Int) : Bool := l.any λ y => y.b == n
def newR (n : Int) : Rnd := ⟨n, 0, [], false, 0, 0⟩
def insL {α : Type} (l : List α) (i : Nat) (x : α) : List α := l.take i ++ x :: l.drop i
theorem insL_len {α : Type} {l : List α} {i : Nat} {x : α} (h : i ≤ l.length) : (insL l i x).length = l.length + 1 := by unfold insL; rw [List.length_append, List.length_cons, List.length_take, List.length_drop]; omega
theorem insL_at {α : Type} {l : List α} {i : Nat} {x : α} (h : i ≤ l.length) : (insL l i x)[i]? = some x := by
 unfold insL; rw [List.getElem?_append_right (by rw [List.length_take]; omega), List.length_take, Nat.min_eq_left h, Nat.sub_self]; rfl
theorem insL_lo {α : Type} {l : List α} {i j : Nat} {x : α} (h : i ≤ l.length) (hj : j < i) : (insL l i x)[j]? = l[j]? := by
 unfold insL; rw [List.getElem?_append_left (by rw [List.length_take]; omega), List.getElem?_take, if_pos hj]
theorem insL_hi {α : Type} {l : List α} {i j : Nat} {x : α} (h : i ≤ l.length) (hj : i < j) : (insL l i x)[j]? = l[j - 1]? := by
 unfold insL; rw [List.getElem?_append_right (by rw [List.length_take]; omega), List.length_take, Nat.min_eq_left h]
 obtain ⟨k, rfl⟩ : ∃ k, j = i + 1 + k := ⟨j - i - 1, by omega⟩
 rw [show i + 1 + k - i = k + 1 by omega, List.getElem?_cons_succ, List.getElem?_drop, show i + 1 + k - 1 = i + k by omega]
theorem insL_mem {α : Type} {l : List α} {i : Nat} {x y : α} : y ∈ insL l i x ↔ y = x ∨ y ∈ l := by
 unfold insL; rw [List.mem_append, List.mem_cons]
 constructor
 ·rintro (h | h | h)
  ·exact .inr (List.mem_of_mem_take h)
  ·exact .inl h
  ·exact .inr (List.mem_of_mem_drop h)
 ·rintro (h | h)
  ·exact .inr (.inl h)
  ·rw [← List.take_append_drop i l] at h
   rcases List.mem_append.1 h with h | h
   ·exact .inl h
   ·exact .inr (.inr h)
def ensR (l : List Rnd) (n : Int) : List Rnd := if hasR l n = true then l else insL l (binR l n) (newR n)
def Cou.ens (C : Cou) (n : Int) : Cou := ⟨C.vows, ensR C.rounds n⟩
def RSort (l : List Rnd) : Prop := l.Pairwise λ x y => x.b < y.b
theorem binR_spec : ∀ {l : List Rnd} {n : Int}, RSort l → (∀ (j : Nat) (x : Rnd), l[j]? = some x → (j < binR l n ↔ x.b < n))
 | [], _, _, j, x, h => by cases h
 | y :: l, n, hs, j, x, h => by
  obtain ⟨h1, h2⟩ := List.pairwise_cons.1 hs
  have ih := binR_spec (n := n) h2
  unfold binR at *
  rw [List.countP_cons]
  by_cases hy : y.b < n
  ·rw [decide_eq_true hy]
   cases j with
   | zero => obtain rfl := Option.some.inj h; simp; exact hy
   | succ j => have := ih j x h; simp at this ⊢; exact this
  ·rw [decide_eq_false hy]
   have h0 : l.countP (λ y => decide (y.b < n)) = 0 := List.countP_eq_zero.2 λ z hz => by have := h1 z hz; simp; omega
   rw [h0]
   have hx : y.b ≤ x.b := by
    cases j with
    | zero => obtain rfl := Option.some.inj h; exact Int.le_refl _
    | succ j => exact Int.le_of_lt (h1 x (List.mem_of_getElem? h))
   constructor
   ·intro hj; simp at hj
   ·intro hx'; omega
theorem hasR_at {l : List Rnd} {n : Int} (hs : RSort l) : hasR l n = true ↔ ∃ x, l[binR l n]? = some x ∧ x.b = n := by
 unfold hasR; rw [List.any_eq_true]
 constructor
 ·rintro ⟨x, hx, he⟩
  have he : x.b = n := by simpa using he
  obtain ⟨j, hj⟩ := List.mem_iff_getElem?.1 hx
  have h1 := binR_spec (n := n) hs j x hj
  have h2 : binR l n = j := by
   have hb := binR_le l n
   rcases Nat.lt_trichotomy (binR l n) j with h | h | h
   ·have hl : binR l n < l.length := by have := (List.getElem?_eq_some_iff.1 hj).1; omega
    have h3 := binR_spec (n := n) hs _ _ (List.getElem?_eq_getElem hl)
    obtain ⟨hjl, hjx⟩ := List.getElem?_eq_some_iff.1 hj
    have h4 := List.pairwise_iff_getElem.1 hs _ _ hl hjl h
    rw [hjx] at h4; omega
   ·exact h
   ·have := h1.1 h; omega
  rw [h2]; exact ⟨x, hj, he⟩
 ·rintro ⟨x, hx, he⟩; exact ⟨x, List.mem_of_getElem? hx, by simp [he]⟩
theorem ensR_at {l : List Rnd} {n : Int} (hs : RSort l) : ∃ x, (ensR l n)[binR l n]? = some x ∧ x.b = n ∧ (x = newR n ∨ l[binR l n]? = some x) := by
 unfold ensR
 split
 ·rename_i h
  obtain ⟨x, h1, h2⟩ := (hasR_at hs).1 h
  exact ⟨x, h1, h2, .inr h1⟩
 ·exact ⟨newR n, insL_at (binR_le _ _), rfl, .inl rfl⟩
def Cou.step (C : Cou) (x : Sst) : Cou :=
 let R := ensR C.rounds x.ballot
 let i := binR C.rounds x.ballot
 let r := R.getD i default
 let v := C.vows.getD x.who.toNat default
 if x.kind = 1 then
  (if prepK v x.ballot = true then ⟨C.vows.set x.who.toNat (prepV v x.ballot), R.set i { r with p := r.p ||| 2 ^ x.who.toNat, h := r.h ++ [v] }⟩ else ⟨C.vows, R⟩)
 else if x.kind = 2 then
  (if r.asked = false ∧ C.vows.length < 2 * Vote.size r.p then ⟨C.vows, R.set i { r with asked := true, v := chooseV r.h x.value }⟩ else ⟨C.vows, R⟩)
 else if x.kind = 3 then
  (if r.asked = true ∧ accK v x.ballot = true then ⟨C.vows.set x.who.toNat (accV v x.ballot r.v), R.set i { r with q := r.q ||| 2 ^ x.who.toNat }⟩ else ⟨C.vows, R⟩)
 else ⟨C.vows, R⟩
def badS (n : Int) (x : Sst) : Bool := decide (x.kind < 1) || decide (3 < x.kind) || decide (x.who < 0) || decide (n ≤ x.who) || decide (x.ballot < 1) || decide (50 < x.ballot)
def cou0 (n : Nat) : Cou := ⟨List.replicate n ⟨0, 0, 0⟩, []⟩
def syE (n : Int) (l : List Sst) : Int := if n < 1 ∨ 15 < n then 1 else if 500 < l.length then 2 else if l.any (badS n) = true then 1 else 0
def syR (n : Int) (l : List Sst) : Cou := if syE n l = 0 then l.foldl Cou.step (cou0 n.toNat) else ⟨[], []⟩
def chosB (n : Nat) (r : Rnd) : Bool := r.asked && decide (n < 2 * Vote.size r.q)
def Cou.chosen (C : Cou) : List Int := (C.rounds.filter (chosB C.vows.length)).map (·.v)
def above (Z : Nat) (w : World) : List Nat := (List.range w.heap.size).filter λ q => decide (Z ≤ q)
theorem in_above {Z q : Nat} {w : World} (h : Z ≤ q) : q ∈ above Z w ∨ w.heap.size ≤ q := by
 by_cases hq : q < w.heap.size
 ·exact .inl (List.mem_filter.2 ⟨List.mem_range.2 hq, decide_eq_true h⟩)
 ·exact .inr (by omega)
theorem above_le {Z q : Nat} {w : World} (h : q ∈ above Z w) : Z ≤ q := of_decide_eq_true (List.mem_filter.1 h).2
def mkRv (x : Rnd) (A : Option Addr) (c : Nat) : Rv := ⟨x.b, x.p, A, x.h.length, c, x.asked, x.v, x.q⟩
def hOwn (w : World) (Z : Nat) (A : Option Addr) (c : Nat) (h : List Vow) : Prop := Vow.rep.SOwn 52 24 w Z (Rep.blkOf A) A c h
structure Hd (X : Nat → Prop) (w : World) (Z : Nat) (T : List Rv) (L : List Rnd) : Prop where
 len : T.length = L.length
 own : ∀ (j : Nat) (x : Rnd), ¬ X j → L[j]? = some x → ∃ A c, T[j]? = some (mkRv x A c) ∧ hOwn w Z A c x.h
 dis : ∀ (i j : Nat) (s t : Rv), i ≠ j → T[i]? = some s → T[j]? = some t → ∀ q ∈ Rep.blkOf s.ha, q ∈ Rep.blkOf t.ha → False
section
variable {X : Nat → Prop} {w w' : World} {Z i : Nat} {T : List Rv} {L : List Rnd} {S : List Nat} {x x' : Rnd} {A A' : Option Addr} {c c' : Nat}
theorem Hd.later (h : Hd X w Z T L) (e : Ext w w') : Hd X w' Z T L := ⟨h.len, λ j x hX hj => by obtain ⟨A, c, h1, h2⟩ := h.own j x hX hj; exact ⟨A, c, h1, Rep.SOwn.later h2 e⟩, h.dis⟩
theorem Hd.mod (h : Hd X w Z T L) (m : Mod S w w') (hS : ∀ (j : Nat) (t : Rv), ¬ X j → T[j]? = some t → ∀ q ∈ Rep.blkOf t.ha, q ∉ S) : Hd X w' Z T L :=
 ⟨h.len, λ j x hX hj => by obtain ⟨A, c, h1, h2⟩ := h.own j x hX hj; exact ⟨A, c, h1, Rep.SOwn.mod h2 m λ q hq => hS j _ hX h1 q hq⟩, h.dis⟩
theorem Hd.out (h : Hd (λ _ => False) w Z T L) (hi : L[i]? = some x) : ∃ A c, T[i]? = some (mkRv x A c) ∧ hOwn w Z A c x.h ∧ Hd (· = i) w Z T L := by
 obtain ⟨A, c, h1, h2⟩ := h.own i x id hi
 exact ⟨A, c, h1, h2, h.len, λ j y _ hj => h.own j y id hj, h.dis⟩
theorem Hd.back (h : Hd (· = i) w Z T L) (hi : T[i]? = some (mkRv x A c)) (ho : hOwn w Z A' c' x'.h) (hd : ∀ (j : Nat) (t : Rv), j ≠ i → T[j]? = some t → ∀ q ∈ Rep.blkOf t.ha, q ∈ Rep.blkOf A' → False) : Hd (λ _ => False) w Z (T.set i (mkRv x' A' c')) (L.set i x') := by
 have hil := (List.getElem?_eq_some_iff.1 hi).1
 refine ⟨by rw [List.length_set, List.length_set]; exact h.len, λ j y _ hj => ?_, λ j k s t hjk hs ht => ?_⟩
 ·by_cases e : i = j
  ·subst e
   rw [List.getElem?_set_self (by rw [← h.len]; exact hil)] at hj
   obtain rfl := Option.some.inj hj
   exact ⟨A', c', List.getElem?_set_self hil, ho⟩
  ·rw [List.getElem?_set_ne e] at hj
   obtain ⟨A, c, h1, h2⟩ := h.own j y (λ h => e h.symm) hj
   exact ⟨A, c, by rw [List.getElem?_set_ne e]; exact h1, h2⟩
 ·by_cases e : i = j
  ·subst e
   rw [List.getElem?_set_self hil] at hs
   obtain rfl := Option.some.inj hs
   rw [List.getElem?_set_ne hjk] at ht
   exact λ q h1 h2 => hd k t (λ h => hjk h.symm) ht q h2 h1
  ·rw [List.getElem?_set_ne e] at hs
   by_cases e' : i = k
   ·subst e'
    rw [List.getElem?_set_self hil] at ht
    obtain rfl := Option.some.inj ht
    exact hd j s (λ h => e h.symm) hs
   ·rw [List.getElem?_set_ne e'] at ht
    exact h.dis j k s t hjk hs ht
theorem Hd.ins (h : Hd (λ _ => False) w Z T L) (hi : i ≤ L.length) (n : Int) : Hd (λ _ => False) w Z (insL T i (mkRv (newR n) none 0)) (insL L i (newR n)) := by
 have hiT : i ≤ T.length := by rw [h.len]; exact hi
 refine ⟨by rw [insL_len hiT, insL_len hi, h.len], λ j x _ hj => ?_, λ j k s t hjk hs ht q hq hq' => ?_⟩
 ·rcases Nat.lt_trichotomy j i with e | e | e
  ·rw [insL_lo hi e] at hj; rw [insL_lo hiT e]; exact h.own j x id hj
  ·subst e; rw [insL_at hi] at hj; obtain rfl := Option.some.inj hj
   exact ⟨none, 0, insL_at hiT, Rep.SOwn.nil _⟩
  ·rw [insL_hi hi e] at hj; rw [insL_hi hiT e]; exact h.own _ x id hj
 ·have key : ∀ {j s}, (insL T i (mkRv (newR n) none 0))[j]? = some s → ∀ {q}, q ∈ Rep.blkOf s.ha → j ≠ i ∧ T[if j < i then j else j - 1]? = some s := by
   intro j s hs q hq
   rcases Nat.lt_trichotomy j i with e | e | e
   ·rw [insL_lo hiT e] at hs; rw [if_pos e]; exact ⟨by omega, hs⟩
   ·subst e; rw [insL_at hiT] at hs; obtain rfl := Option.some.inj hs; simp [mkRv, Rep.blkOf] at hq
   ·rw [insL_hi hiT e] at hs; rw [if_neg (by omega)]; exact ⟨by omega, hs⟩
  obtain ⟨a1, a2⟩ := key hs hq
  obtain ⟨b1, b2⟩ := key ht hq'
  refine h.dis _ _ s t ?_ a2 b2 q hq hq'
  split <;> split <;> omega
end
structure SyAt where
 V : Option Addr
 v : Nat
 R : Option Addr
 r : Nat
 T : List Rv
def syC (a : SyAt) (C : Cou) : List Value := [.slice a.V C.vows.length a.v, .slice a.R a.T.length a.r]
structure SySt (w : World) (Z b : Nat) (a : SyAt) (C : Cou) : Prop where
 blk : Blk w b (syC a C) 98 (0, 0)
 le : Z ≤ b
 V : Vow.rep.SOwn 52 24 w Z (Rep.blkOf a.V) a.V a.v C.vows
 R : Rv.rep.SOwn 69 64 w Z (Rep.blkOf a.R) a.R a.r a.T
 H : Hd (λ _ => False) w Z a.T C.rounds
 bV : ∀ q ∈ Rep.blkOf a.V, q = b → False
 bR : ∀ q ∈ Rep.blkOf a.R, q = b → False
 VR : ∀ q ∈ Rep.blkOf a.R, q ∈ Rep.blkOf a.V → False
 hb : ∀ t ∈ a.T, ∀ q ∈ Rep.blkOf t.ha, q ≠ b ∧ q ∉ Rep.blkOf a.V ∧ q ∉ Rep.blkOf a.R
end
end Go.Proofs.Ytifffjhhammeiaa
set_option linter.unusedVariables false
set_option linter.unusedSimpArgs false
namespace Go.Proofs.Ytifffjhhammeiaa
open Go.RowKit

namespace Rep
variable {α : Type} {R : Rep α}
theorem flatten_set {β : Type} {size : Nat} {X : List (List β)} {i : Nat} {es : List β} (hX : ∀ x ∈ X, x.length = size) (hi : i < X.length) : (X.set i es).flatten = X.flatten.take (i * size) ++ es ++ X.flatten.drop (i * size + size) := by
 rw [List.set_eq_take_append_cons_drop, if_pos hi, List.flatten_append, List.flatten_cons, flatten_take i hX, flatten_drop (i + 1) hX, Nat.succ_mul, List.append_assoc]
theorem take_mid {β : Type} {cur es : List β} {p n k : Nat} (hk : es.length = k) (h1 : p + k ≤ n) (h2 : n ≤ cur.length) : (cur.take p ++ es ++ cur.drop (p + k)).take n = (cur.take n).take p ++ es ++ (cur.take n).drop (p + k) := by
 apply List.ext_getElem?
 intro j
 subst hk
 simp only [List.getElem?_take, List.getElem?_append, List.length_append, List.length_take, List.getElem?_drop]
 grind
theorem SOwn.setE {E by_ B c i g : Nat} {f : List Nat} {l : List α} {w : World} {q' : α} {es : List Value} {cur : Array Value} (h : R.SOwn E by_ w B f (some ⟨g, 0, none⟩) c l) (hp : R.Bare) (hi : i < l.length) (hq : ∀ w, R.has w es q') (hcur : w.heap[g]? = some (.cells cur E (0, 0))) :
  R.SOwn E by_ (w.setRow g (cur.toList.take (i * R.size) ++ es ++ cur.toList.drop (i * R.size + es.length)).toArray) B f (some ⟨g, 0, none⟩) c (l.set i q') ∧ i * R.size + es.length ≤ cur.toList.length := by
 obtain ⟨hb, ps, rfl, hn, ho, hall⟩ := h
 have hel : es.length = R.size := R.len (hq w)
 have hl := olens hall
 have hpl : ps.length = l.length := hall.length
 obtain ⟨hx1, hx2⟩ := ho
 obtain ⟨g', cap, cur', hv, hBg, hh, hnc, hcm, hsz, htk, hG⟩ := hx2.resolve_left (λ hz => nomatch hz.1)
 injection hv with hv1 hv2 hv3
 injection hv1 with hv1
 injection hv1 with hv1 hv4 hv5
 subst hv1 hv3
 rw [hh] at hcur
 injection hcur with hcur
 injection hcur with hcur
 subst hcur
 have hle : i * R.size + R.size ≤ l.length * R.size := by rw [← Nat.succ_mul]; exact Nat.mul_le_mul_right _ hi
 have hle2 : l.length * R.size ≤ c * R.size := Nat.mul_le_mul_right _ hnc
 have hsl : cur'.toList.length = c * R.size := by rw [Array.length_toList, hsz]
 obtain ⟨x, hx, hxo⟩ := hall.at_ (get_d (l := l) (u := q') hi)
 have hx0 : x.1 = [] := hp.2 hxo
 have hdiff : ∀ y ∈ ps, ∀ q ∈ y.1, q ≠ g := λ y hy q hq e => by
  obtain ⟨b, hb'⟩ := hall.left y hy
  rw [hp.2 hb'] at hq
  simp at hq
 have e1 : (ps.set i (x.1, es)).map (·.1) = ps.map (·.1) := by
  rw [List.map_set]
  have : (ps.map (·.1))[i]? = some x.1 := by rw [List.getElem?_map, hx]; rfl
  obtain ⟨h2, h3⟩ := List.getElem?_eq_some_iff.1 this
  conv => lhs; rw [← h3]
  exact List.set_getElem_self _
 have e2 : (ps.set i (x.1, es)).map (·.2) = (ps.map (·.2)).set i es := by rw [List.map_set]
 have hfs := flatten_set (es := es) hl (by rw [List.length_map]; omega : i < (ps.map (·.2)).length)
 rw [hel]
 refine ⟨⟨by rw [List.length_set]; exact hb, ps.set i (x.1, es), by rw [e1], hn, ⟨?_, .inr ⟨g, c, (cur'.toList.take (i * R.size) ++ es ++ cur'.toList.drop (i * R.size + R.size)).toArray, by rw [List.length_set], hBg, ?_, by rw [List.length_set]; exact hnc, hcm, ?_, ?_, ?_⟩⟩, ?_⟩, by omega⟩
 ·rw [e2, hfs, List.length_set]
  simp only [List.length_append, List.length_take, List.length_drop, hx1, hel]
  omega
 ·exact Blk.setRow (cur := cur'.toList) (by simpa [Blk] using hh) _
 ·rw [List.size_toArray]
  simp only [List.length_append, List.length_take, List.length_drop, hsl, hel]
  omega
 ·rw [List.length_set, e2, hfs, ← htk]
  exact take_mid hel hle (by omega)
 ·intro j u hu
  rw [List.getElem?_toArray] at hu
  by_cases h1 : j < i * R.size
  ·refine hG j u ?_
   rw [List.append_assoc, List.getElem?_append_left (by rw [List.length_take]; omega), List.getElem?_take, if_pos h1] at hu
   rw [← Array.getElem?_toList]; exact hu
  ·by_cases h2 : j < i * R.size + R.size
   ·rw [List.append_assoc, List.getElem?_append_right (by rw [List.length_take]; omega), List.getElem?_append_left (by rw [List.length_take]; omega), List.length_take] at hu
    have hj : j % R.size = j - i * R.size := by
     have h3 : j = R.size * i + (j - i * R.size) := by rw [Nat.mul_comm]; omega
     have h5 : (j - i * R.size) % R.size = j - i * R.size := Nat.mod_eq_of_lt (by omega)
     conv => lhs; rw [h3, Nat.mul_add_mod, h5]
    rw [hj]
    exact R.raw_ (hq w) _ u (by rw [Nat.min_eq_left (by omega)] at hu; exact hu)
   ·refine hG j u ?_
    rw [List.getElem?_append_right (by simp only [List.length_append, List.length_take]; omega), List.getElem?_drop] at hu
    rw [← Array.getElem?_toList]
    rw [show i * R.size + R.size + (j - (List.take (i * R.size) cur'.toList ++ es).length) = j from by simp only [List.length_append, List.length_take]; omega] at hu
    exact hu
 ·have hall2 : All2 (λ x a => R.own (w.setRow g (cur'.toList.take (i * R.size) ++ es ++ cur'.toList.drop (i * R.size + R.size)).toArray) B x.1 x.2 a) ps l := hall.imp λ y a hy hyo => R.okeep hyo λ q hq => (Mod.setRow w g _).block q (R.olt hyo q hq).2 (by simpa using hdiff y hy q hq)
  exact hall2.set_ (P := λ (x : List Nat × List Value) a => R.own _ B x.1 x.2 a) (by rw [hx0]; exact hp.1 (hq _))
end Rep
section
variable {P : Program} {n : Nat} {E E' : List (Nat × Value)} {a : Act} {w w' w0 w1 : World} {Q : Exit → Act → World → Prop} {ops : Array Oper} {v : Value}
variable {d : Option Nat} {ty : TypeId} {pos : String} {af : Array Edge} {g : Option (Nat × Bool)} {x y z : Operand} {t : TypeId} {rest : List Oper}
theorem soE {α : Type} {R : Rep α} {e by_ B i : Nat} {A : Option Addr} {c : Nat} {l : List α} {q' : α} {p : Addr} {es : List Value} (h : R.SOwn e by_ w B (Rep.blkOf A) A c l) (hR : R.Bare) (hi : i < l.length) (hx : ev E x = some (.pointer (some p))) (hp : p = ⟨bA A, oA A + i * R.size, none⟩) (hy : ev E y = some v) (hc : v.cells = es.toArray)
  (hq : ∀ w, R.has w es q') (hs : Sz P t es.length)
  (hk : ∀ w1, Mod (Rep.blkOf A) w w1 → R.SOwn e by_ w1 B (Rep.blkOf A) A c (l.set i q') → WL P n ops Q rest E w1) : WL P n ops Q (⟨none, .store t x y, ty, pos, af, none⟩ :: rest) E w := by
 obtain ⟨b, rfl⟩ := h.block (by omega)
 have hp' : p = ⟨b, i * R.size, none⟩ := by rw [hp]; simp [bA, oA]
 subst hp'
 obtain ⟨_, ps, _, _, ho, _⟩ := id h
 obtain ⟨cur, hcur, _, _⟩ := ho.cells_at
 obtain ⟨hset, hle⟩ := Rep.SOwn.setE (q' := q') h hR hi hq hcur
 have hst := run_storeVar (P := P) (w := w) (b := b) (p := i * R.size) (cur := cur.toList) (e := e) (by simpa [Blk] using hcur) hc hs (List.all_eq_true.2 (R.one (hq w))) hle
 refine us (λ n a ha => ?_) (hk _ (Mod.setRow w b _) hset)
 simp only [execOp, ha.ev hx, ha.ev hy, Instr.storeAt, Instr.sureAddr, Sem.run_bind, Sem.run_pure, Result.andThen_ok, hst]
def pfx (A : Option Addr) (_hi : Nat) : Option Addr := A
end
theorem Rep.SHas.pre {α : Type} {R : Rep α} {by_ c : Nat} {A : Option Addr} {l : List α} {w : World} (h : R.SHas by_ w A c l) (k : Nat) : R.SHas by_ w (pfx A k) c (l.take k) := h.take_ k
end Go.Proofs.Ytifffjhhammeiaa
namespace Go.Proofs.Ytifffjhhammeiaa
open Go.RowKit
section
variable {P : Program} {n : Nat} {E : List (Nat × Value)} {w : World} {Q : Exit → Act → World → Prop} {ops : Array Oper} {kd : Nat → Nat}
def AQ2 (P : Program) (ops : Array Oper) (Q : Exit → Act → World → Prop) (kd : Nat → Nat) (τ1 τ2 : List Nat) : Exit → Act → World → Prop :=
 nrm (λ a w => wpFlow P ops (nrm (Q .normal)) kd τ1 a w ∧ wpFlow P ops (nrm (Q .normal)) kd τ2 a w)
end
end Go.Proofs.Ytifffjhhammeiaa
namespace Go.Proofs.Ytifffjhhammeiaa
section
open Go.RowKit
def fen (ro : Option Nat) : Fence := { Fence.wide with round := ro }
section
variable {P : Program} {ro : Option Nat} {m : Nat} {ops : Array Oper} {Q : Exit → Act → World → Prop} {w : World}
theorem calls_fen {f : FuncId} {args : Array Value} {R : Ending → World → Prop} (h : Calls P f args w R) : CallsIn (fen ro) m P f args w R := (callsIn_wide (n := m)).2 h
theorem rows_fen {row : String} {args : Array Value} {R : Value → World → Prop} (h : Rows P row args w R) : RowsIn (fen ro) m P row args w R := λ c cs _ =>
 let ⟨v, w', r, s⟩ := h c cs; ⟨v, w', r, stepsIn_wide.2 s⟩
def noDefer (o : Oper) : Bool := match o.op with
 | .defer _ => false
 | _ => true
theorem op_in {o : Oper} {a : Act} {K : Act → World → Prop} (hd : noDefer o = true) (h : o.wp P a w K Q) : o.wpIn (fen ro) m P a w K Q := by
 refine ⟨λ _ _ => trivial, ?_⟩
 have hs : o.semAt (fen ro).round a.eval = execOp a.eval o := Oper.semAt_eq _ _ _ (λ c e => by simp [noDefer, e] at hd)
 rw [hs]
 unfold Oper.wp at h
 generalize (execOp a.eval o).run P w = r at *
 cases r with
 | ok x w' =>
  cases x <;> simp only [Oper.upon] at h <;> simp only [Oper.uponIn] <;>
   first
    | exact h
    | exact h.elim
    | exact ⟨λ h => by simp [fen, Fence.wide] at h, calls_fen h⟩
    | exact ⟨λ h => by simp [fen, Fence.wide] at h, rows_fen h⟩
 | halt x w' => cases x <;> simp only [Oper.upon] at h <;> simp only [Oper.uponIn] <;> first | exact h | exact h.elim
theorem list_in : ∀ (l : List Oper) {a : Act} {w : World}, l.all noDefer = true → wpList P ops Q l a w → (∀ c a w, ¬ Q (.panic c) a w) → ¬ LetsOut Q → wpListIn (fen ro) m P ops Q l a w
 | [], a, w, _, h, _, _ => by unfold wpList at h; unfold wpListIn; exact h
 | o :: rest, a, w, hd, h, hp, ho => by
  rw [List.all_cons, Bool.and_eq_true] at hd
  unfold wpList at h
  unfold wpListIn
  split at h
  ·rename_i hw
   rw [if_pos hw]
   rcases h with h | ⟨h, x⟩
   ·exact Oper.wpIn_mono (λ a w h => list_in rest hd.2 h hp ho) (op_in hd.1 h)
   ·exact (ho x).elim
  ·rename_i hw
   rw [if_neg hw]
   exact ⟨λ _ _ => trivial, list_in rest hd.2 h hp ho⟩
theorem wop_in {i : Nat} {K : Act → World → Prop} {a : Act} {w : World} (hd : ops.toList.all noDefer = true) (ho : ¬ LetsOut Q) (h : wpOp P ops Q i K a w) : wpOpIn (fen ro) m P ops Q i K a w := by
 unfold wpOp at h
 unfold wpOpIn
 split at h
 ·rename_i hi; simp only [hi]; exact h
 ·rename_i o hi
  simp only [hi]
  have hdo : noDefer o = true := List.all_eq_true.1 hd o (by rw [Array.mem_toList_iff]; exact Array.mem_of_getElem? hi)
  split at h
  ·rename_i hw
   rw [if_pos hw]
   rcases h with h | ⟨h, x⟩
   ·exact op_in hdo h
   ·exact (ho x).elim
  ·rename_i hw
   rw [if_neg hw]
   exact ⟨λ _ _ => trivial, h⟩
theorem any_in (hd : ops.toList.all noDefer = true) (ho : ¬ LetsOut Q) : ∀ (f : Nat) (l : Array Bool) {a : Act} {w : World}, wpAny P .any ops Q f l a w → wpAnyIn (fen ro) m P .any ops Q f l a w
 | 0, l, a, w, h => h
 | f + 1, l, a, w, h => ⟨h.1, λ i hi => wpOpIn_mono (λ a w h => any_in hd ho f _ h) (wop_in hd ho (h.2 i hi))⟩
end
theorem nrm_np {K : Act → World → Prop} : ∀ c a w, ¬ nrm K (.panic c) a w := λ _ _ _ h => h
theorem nrm_no {K : Act → World → Prop} : ¬ LetsOut (nrm K) := λ ⟨_, _, h⟩ => h
theorem nrm_mono {K : Exit → Act → World → Prop} : ∀ e a w, nrm (K .normal) e a w → K e a w := λ e a w h => by cases e <;> first | exact h | exact h.elim
namespace Rd
section
variable {P : Program} {ro : Option Nat} {m n : Nat} {ops : Array Oper} {Q : Exit → Act → World → Prop} {w w0 : World} {E E' : List (Nat × Value)} {id id' : Nat} {c : Operand} {x y : Code} {i j : Int} {τ : List Nat} {v : Value}
def W (ro : Option Nat) (m : Nat) (P : Program) (n : Nat) (c : Code) (Q : Exit → Act → World → Prop) (E : List (Nat × Value)) (w : World) : Prop := ∀ a, Agr n E a → c.wpIn (fen ro) m P Q a w
abbrev M (n : Nat) (Q : Exit → Act → World → Prop) (E : List (Nat × Value)) (w : World) : Prop := N n (nrm (Q .normal)) E w
abbrev Th (ro : Option Nat) (m : Nat) (P : Program) (y : Code) (Q : Exit → Act → World → Prop) : Exit → Act → World → Prop := Exit.then (λ a w => y.wpIn (fen ro) m P Q a w) Q
theorem sq (h : W ro m P n x (Th ro m P y Q) E w) : W ro m P n (.seq x y) Q E w := λ a ha => wpIn_seq (h a ha)
theorem sk (h : M n Q E w) : W ro m P n .skip Q E w := λ a ha => wpIn_skip (h a ha)
theorem rt (h : T n Q E w) : W ro m P n .ret Q E w := λ a ha => wpIn_ret (h a ha)
theorem xt (h : X n Q id E w) : W ro m P n (.exit id) Q E w := λ a ha => wpIn_exit (h a ha)
theorem bk (h : W ro m P n x (Exit.inBlock id Q) E w) : W ro m P n (.block id x) Q E w := λ a ha => wpIn_block (h a ha)
theorem rg {l : List Oper} (h : WL P n l.toArray (nrm (Q .normal)) l E w) (hd : l.all noDefer = true := by kernel_rfl) : W ro m P n (.region id l.toArray false) Q E w := λ a ha => Go.wpIn_mono (wpIn_region_lit (list_in l hd (h a ha) nrm_np nrm_no)) nrm_mono
theorem cT (hc : ev E c = some (.bool true)) (h : W ro m P n x Q E w) : W ro m P n (.cond c x y) Q E w := λ a ha => wpIn_cond_true (ha.ev hc) (h a ha)
theorem cF (hc : ev E c = some (.bool false)) (h : W ro m P n y Q E w) : W ro m P n (.cond c x y) Q E w := λ a ha => wpIn_cond_false (ha.ev hc) (h a ha)
theorem cb {b : Bool} (hc : ev E c = some (.bool b)) (h1 : b = true → W ro m P n x Q E w) (h2 : b = false → W ro m P n y Q E w) : W ro m P n (.cond c x y) Q E w :=
 λ a ha => wpIn_cond_split (ha.ev hc) (λ h => h1 h a ha) (λ h => h2 h a ha)
theorem clt (hc : ev E c = some (.bool (decide (i < j)))) (h1 : i < j → W ro m P n x Q E w) (h2 : ¬ i < j → W ro m P n y Q E w) : W ro m P n (.cond c x y) Q E w := cb hc (λ h => h1 (of_decide_eq_true h)) (λ h => h2 (of_decide_eq_false h))
theorem ceq (hc : ev E c = some (.bool (i == j))) (h1 : i = j → W ro m P n x Q E w) (h2 : ¬ i = j → W ro m P n y Q E w) : W ro m P n (.cond c x y) Q E w := cb hc (λ h => h1 (by simpa using h)) (λ h => h2 (by simpa using h))
theorem nT (h : W ro m P n y Q E w) : M n (Th ro m P y Q) E w := h
theorem ne {fn : Func} {R : Ending → World → Prop} (h : T n (bodyPost P fn R) E w) : M n (bodyPost P fn R) E w := λ a ha => h a ha
theorem nB (h : M n Q E w) : M n (Exit.inBlock id Q) E w := h
theorem xT (h : X n Q id E w) : X n (Th ro m P y Q) id E w := h
theorem xB (h : M n Q E w) : X n (Exit.inBlock id Q) id E w := λ a ha => by simp only [Exit.inBlock, if_true]; exact h a ha
theorem tT (h : T n Q E w) : T n (Th ro m P y Q) E w := h
theorem lp {c : Code} (I : Nat → List (Nat × Value) → World → Prop) (k : Nat) (E' : List (Nat × Value)) (h0 : I k E' w) (hs : Sub E' E)
  (round : ∀ k E w, I k E w → W ro m P n c (Exit.then (LI n I k) Q) E w) : W ro m P n (.loop c) Q E w := λ a ha => by
 intro b kk cs hro hb hr
 have key : ∀ k a w, (∃ E, I k E w ∧ Agr n E a) → ∃ e a' w', Q e a' w' ∧ ArrivesIn (Machine.fenced P (fen ro)) P (lone (b.atR a (.code c :: .inLoop c :: kk)) cs w) b kk cs e a' w' := by
  intro k
  induction k using Nat.strongRecOn with
  | _ k ih =>
   intro a w ⟨E, hI, ha⟩
   obtain ⟨e, a1, w1, hq, harr⟩ := round k E w hI a ha b (.inLoop c :: kk) cs hro hb hr
   cases e with
   | normal =>
    obtain ⟨m', hlt, hI1⟩ := hq
    obtain ⟨e2, a2, w2, hq2, harr2⟩ := ih m' hlt a1 w1 hI1
    exact ⟨e2, a2, w2, hq2, .of_steps (StepsIn.trans harr (.one (fenced_calm hb hr rfl) stepR_inLoop)) harr2⟩
   | exit id => exact ⟨_, a1, w1, hq, .pass (x := .inLoop c) rfl (λ _ _ => .inl (by simp)) harr⟩
   | goto l => exact ⟨_, a1, w1, hq, .pass (x := .inLoop c) rfl (λ _ _ => .inl (by simp)) harr⟩
   | ret => exact ⟨_, a1, w1, hq, .pass (x := .inLoop c) rfl (λ _ _ => .inl (by simp)) harr⟩
   | panic ch => exact ⟨_, a1, w1, hq, .pass (x := .inLoop c) rfl (λ _ _ => .inl (by simp)) harr⟩
   | outgrown => exact ⟨_, a1, w1, hq, .pass (x := .inLoop c) rfl (λ _ _ => .inl (by simp)) harr⟩
 obtain ⟨e, a', w', hq, harr⟩ := key k a w ⟨E', h0, ha.sub hs⟩
 exact ⟨e, a', w', hq, .of_steps (.one (fenced_calm hb hr rfl) stepR_loop) harr⟩
theorem nI {I : Nat → List (Nat × Value) → World → Prop} {k : Nat} (k' : Nat) (E' : List (Nat × Value)) (h : I k' E' w) (hm : k' < k) (hs : Sub E' E) : M n (Exit.then (LI n I k) Q) E w :=
 λ a ha => ⟨k', hm, E', h, ha.sub hs⟩
theorem rd (ks : List (Nat × Nat)) (τ : List Nat) (hm : P.follows .mixedOrders = true) (hB : (Region.noSelect ops && (τ.length == ops.size) && flowB ops (kds ks) τ (Array.replicate ops.size false)) = true)
  (h : FL P n ops (nrm (Q .normal)) (kds ks) τ E w) (hd : ops.toList.all noDefer = true := by kernel_rfl) : W ro m P n (.region id ops true) Q E w := λ a ha => by
 simp only [Bool.and_eq_true, beq_iff_eq] at hB
 obtain ⟨⟨hs, hl⟩, hB⟩ := hB
 refine Go.wpIn_mono (wpIn_region_any hm (Q := nrm (Q .normal)) (any_in hd nrm_no _ _ ?_)) nrm_mono
 have := any_of_flow (P := P) hs (Q := nrm (Q .normal)) nrm_np τ (Array.replicate ops.size false) a w (by simp) hB (h a ha)
 rw [hl] at this
 exact any_of_F _ _ _ _ this _ (Below.refl _ w).drew
theorem agr0 {l : List Value} (hl : Nat.ble l.length n = true) : Agr n (argEnv 0 l) { tmps := l.toArray ++ Array.replicate (n - l.toArray.size) undef, defers := [] } := by
 refine ⟨rfl, ?_, λ t v hv => ?_⟩
 ·have := Nat.le_of_ble_eq_true hl
  simp only [Array.size_append, Array.size_replicate, List.size_toArray]; omega
 ·obtain ⟨j, e, hj⟩ := argEnv_look l 0 t v hv
  have hlt := (List.getElem?_eq_some_iff.1 hj).1
  rw [Array.getElem?_append_left (by simp; omega)]
  simpa [show t = j by omega] using hj
theorem calls_W {f : FuncId} {fn : Func} {c : Code} {l : List Value} {R : Ending → World → Prop} (hf : P.funcs[f]? = some fn) (hb : fn.body = some c) (hn : fn.ntmps = n) (hl : Nat.ble l.length n = true)
  (h : W none m P n c (bodyPostM (fen none) m P fn R) (argEnv 0 l) w) : Calls P f l.toArray w R := by
 have h1 : CallsIn (fen none) m P f l.toArray w R := callsIn_of_wp_marks hf hb trivial (by rw [hn]; exact h _ (agr0 hl)) rfl
 exact (callsIn_wide (n := m)).1 h1
theorem tR {fn : Func} {R : Ending → World → Prop} {vs : List Value} (h : Res P E w fn.results.toList vs) (hR : R (.returned (tup vs)) w) : T n (bodyPostM (fen none) m P fn R) E w :=
 λ a ha => by
  show LeavesInM _ _ _ _ _ _ a.defers _ _
  rw [ha.d]
  exact ⟨_, run_results h ha, hR⟩
end
end Rd
namespace Ri
section
variable {P : Program} {ro : Option Nat} {m n : Nat} {ops : Array Oper} {Q : Exit → Act → World → Prop} {w w' w0 : World} {E E' : List (Nat × Value)} {id : Nat} {v : Value}
variable {d : Option Nat} {ty : TypeId} {pos : String} {af : Array Edge} {g : Option (Nat × Bool)} {x y z : Operand} {t : TypeId} {rest : List Oper}
def WL (ro : Option Nat) (m : Nat) (P : Program) (n : Nat) (ops : Array Oper) (Q : Exit → Act → World → Prop) (l : List Oper) (E : List (Nat × Value)) (w : World) : Prop := ∀ a, Agr n E a → wpListIn (fen ro) m P ops Q l a w
theorem rg {l : List Oper} (h : WL ro m P n l.toArray Q l E w) : Rd.W ro m P n (.region id l.toArray false) Q E w := λ a ha => wpIn_region_lit (h a ha)
theorem nl (h : Rd.M n Q E w) : WL ro m P n ops Q [] E w := h
theorem vl {d : Nat} {op : Op} (hr : Runs P E ⟨some d, op, ty, pos, af, none⟩ w v w') (hd : Nat.blt d n = true) (h : WL ro m P n ops Q rest ((d, v) :: E) w') : WL ro m P n ops Q (⟨some d, op, ty, pos, af, none⟩ :: rest) E w := λ a ha => by
 have hrun := hr n a ha
 unfold wpListIn
 rw [if_pos (by simp [Region.wanted])]
 refine ⟨λ _ _ => trivial, ?_⟩
 have hs : (⟨some d, op, ty, pos, af, none⟩ : Oper).semAt (fen ro).round a.eval = execOp a.eval ⟨some d, op, ty, pos, af, none⟩ := Oper.semAt_eq _ _ _ (λ c e => by
  have e : op = .defer c := e
  subst e
  simp only [execOp, Sem.run_bind, Sem.run_pure] at hrun
  revert hrun
  generalize (resolve a.eval c ty).run P w = r
  cases r <;> simp [Result.andThen])
 rw [hs, hrun]
 exact h _ (ha.put hd v)
end
end Ri
def mark (D : Nat) : List Deferred := [{ target := .collected D, args := #[] }]
def wd (ds : List Deferred) (a : Act) : Act := { a with defers := ds }
theorem wd_put (ds : List Deferred) (a : Act) (d : Option Nat) (v : Value) : (wd ds a).put d v = wd ds (a.put d v) := by cases d <;> rfl
theorem wd_eval (ds : List Deferred) (a : Act) : (wd ds a).eval = a.eval := by funext x; cases x <;> rfl
def DMark (w : World) (D : Nat) : Prop := w.heap[D]? = some (.deferred (some []))
theorem DMark.lt {D : Nat} {w : World} (h : DMark w D) : D < w.heap.size := (Array.getElem?_eq_some_iff.1 h).1
theorem DMark.later {D : Nat} {w w' : World} (h : DMark w D) (x : Ext w w') : DMark w' D := (x.block D h.lt).trans h
theorem DMark.mod {D : Nat} {w w' : World} {S : List Nat} (h : DMark w D) (m : Mod S w w') (hs : D ∉ S) : DMark w' D := (m.block D h.lt hs).trans h
def unmark (w : World) (D : Nat) : World := w.putObj D (.deferred none)
namespace Rt
section
variable {P : Program} {ds : List Deferred} {m n : Nat} {ops : Array Oper} {Q : Exit → Act → World → Prop} {w w' w0 : World} {E E' : List (Nat × Value)} {id : Nat} {v : Value}
variable {d : Option Nat} {ty : TypeId} {pos : String} {af : Array Edge} {g : Option (Nat × Bool)} {x y z : Operand} {t : TypeId} {rest : List Oper} {c : Operand} {cx cy : Code} {i j : Int}
def W (ds : List Deferred) (m : Nat) (P : Program) (n : Nat) (c : Code) (Q : Exit → Act → World → Prop) (E : List (Nat × Value)) (w : World) : Prop := ∀ a, Agr n E a → c.wpIn (fen none) m P Q (wd ds a) w
def N (ds : List Deferred) (n : Nat) (Q : Exit → Act → World → Prop) (E : List (Nat × Value)) (w : World) : Prop := ∀ a, Agr n E a → Q .normal (wd ds a) w
def T (ds : List Deferred) (n : Nat) (Q : Exit → Act → World → Prop) (E : List (Nat × Value)) (w : World) : Prop := ∀ a, Agr n E a → Q .ret (wd ds a) w
def WL (ds : List Deferred) (m : Nat) (P : Program) (n : Nat) (ops : Array Oper) (Q : Exit → Act → World → Prop) (l : List Oper) (E : List (Nat × Value)) (w : World) : Prop := ∀ a, Agr n E a → wpListIn (fen none) m P ops Q l (wd ds a) w
theorem sq (h : W ds m P n cx (Rd.Th none m P cy Q) E w) : W ds m P n (.seq cx cy) Q E w := λ a ha => wpIn_seq (h a ha)
theorem sk (h : N ds n Q E w) : W ds m P n .skip Q E w := λ a ha => wpIn_skip (h a ha)
theorem rt (h : T ds n Q E w) : W ds m P n .ret Q E w := λ a ha => wpIn_ret (h a ha)
theorem rg {l : List Oper} (h : WL ds m P n l.toArray Q l E w) : W ds m P n (.region id l.toArray false) Q E w := λ a ha => wpIn_region_lit (h a ha)
theorem nl (h : N ds n Q E w) : WL ds m P n ops Q [] E w := h
theorem nT (h : W ds m P n cy Q E w) : N ds n (Rd.Th none m P cy Q) E w := h
theorem nB (h : N ds n Q E w) : N ds n (Exit.inBlock id Q) E w := h
theorem tT (h : T ds n Q E w) : T ds n (Rd.Th none m P cy Q) E w := h
theorem tB (h : T ds n Q E w) : T ds n (Exit.inBlock id Q) E w := h
theorem cT (hc : ev E c = some (.bool true)) (h : W ds m P n cx Q E w) : W ds m P n (.cond c cx cy) Q E w := λ a ha => wpIn_cond_true (by rw [wd_eval]; exact ha.ev hc) (h a ha)
theorem cF (hc : ev E c = some (.bool false)) (h : W ds m P n cy Q E w) : W ds m P n (.cond c cx cy) Q E w := λ a ha => wpIn_cond_false (by rw [wd_eval]; exact ha.ev hc) (h a ha)
theorem cb {b : Bool} (hc : ev E c = some (.bool b)) (h1 : b = true → W ds m P n cx Q E w) (h2 : b = false → W ds m P n cy Q E w) : W ds m P n (.cond c cx cy) Q E w :=
 λ a ha => wpIn_cond_split (by rw [wd_eval]; exact ha.ev hc) (λ h => h1 h a ha) (λ h => h2 h a ha)
theorem ceq (hc : ev E c = some (.bool (i == j))) (h1 : i = j → W ds m P n cx Q E w) (h2 : ¬ i = j → W ds m P n cy Q E w) : W ds m P n (.cond c cx cy) Q E w := cb hc (λ h => h1 (by simpa using h)) (λ h => h2 (by simpa using h))
theorem nodef_of_value {o : Oper} {a : Act} {v : Value} (h : (execOp a.eval o).run P w = .ok (.value v) w') : ∀ c, o.op ≠ .defer c := λ c e => by
 unfold execOp at h
 rw [e] at h
 simp only [Sem.run_bind, Sem.run_pure] at h
 revert h
 generalize (resolve a.eval c o.type).run P w = r
 cases r <;> simp [Result.andThen]
theorem vl {d : Nat} {op : Op} (hr : Runs P E ⟨some d, op, ty, pos, af, none⟩ w v w') (hd : Nat.blt d n = true) (h : WL ds m P n ops Q rest ((d, v) :: E) w') : WL ds m P n ops Q (⟨some d, op, ty, pos, af, none⟩ :: rest) E w := λ a ha => by
 have hrun := hr n a ha
 unfold wpListIn
 rw [if_pos (by simp [Region.wanted])]
 refine ⟨λ _ _ => trivial, ?_⟩
 rw [wd_eval, Oper.semAt_eq _ _ _ (nodef_of_value hrun), hrun]
 show wpListIn _ _ _ _ _ _ _ _
 rw [wd_put]
 exact h _ (ha.put hd v)
theorem ca {d : Nat} {f : FuncId} (hf : Enters P f) {xs : Array Operand} {ts : Array TypeId} {args : List Value} (he : evs E xs.toList = some args) (hd : Nat.blt d n = true)
  (h : Calls P f args.toArray w λ e w' => ∃ v, e = .returned v ∧ WL ds m P n ops Q rest ((d, v) :: E) w') : WL ds m P n ops Q (⟨some d, .call { callee := .value (.func f), args := xs, argTypes := ts }, ty, pos, af, none⟩ :: rest) E w := λ a ha => by
 unfold wpListIn
 rw [if_pos (by simp [Region.wanted])]
 refine ⟨λ _ _ => trivial, ?_⟩
 rw [wd_eval, Oper.semAt_eq _ _ _ (λ c e => by cases e), run_call hf ha he]
 refine ⟨λ h => by simp [fen, Fence.wide] at h, CallsIn.mono (calls_fen h) λ e w' hh => ?_⟩
 obtain ⟨v, rfl, h⟩ := hh
 show wpListIn _ _ _ _ _ _ _ _
 rw [wd_put]
 exact h _ (ha.put hd v)
theorem tR {D : Nat} {fn : Func} {R : Ending → World → Prop} {vs : List Value} (hK : DMark w D) (h : Res P E (unmark w D) fn.results.toList vs) (hR : R (.returned (tup vs)) (unmark w D)) : T (mark D) n (bodyPostM (fen none) m P fn R) E w :=
 λ a ha => by
  have hr := run_results (a := a) h ha
  exact ⟨by simp, .inl ⟨D, _, rfl, run_takeDeferred hK, _, hr, hR⟩⟩
end
end Rt
def Keep2 (b c : Nat) (W W' : World) : Prop := W'.heap[b]? = W.heap[b]? ∧ W'.heap[c]? = W.heap[c]?
theorem Keep2.tr {b c : Nat} {X Y Z : World} (h : Keep2 b c X Y) (k : Keep2 b c Y Z) : Keep2 b c X Z := ⟨k.1.trans h.1, k.2.trans h.2⟩
theorem Mod.keepsFrom {S : List Nat} {W W' : World} {B : Nat} (h : Mod S W W') (hS : ∀ q ∈ S, q < W.heap.size → ∃ cur e fr, W.heap[q]? = some (.cells cur e fr)) : KeepsFrom B W W' :=
 ⟨h.size, λ k o _ hk ho => by
  by_cases hm : k ∈ S
  ·obtain ⟨cur, e, fr, hc⟩ := hS k hm (Array.getElem?_eq_some_iff.1 hk).1
   rw [hc] at hk
   injection hk with hk
   subst hk
   exact nomatch ho
  ·exact (h.block k (Array.getElem?_eq_some_iff.1 hk).1 hm).trans hk⟩
def KF (B : Nat) (w0 w : World) : Prop := KeepsFrom B w0 w
theorem KF.rf (B : Nat) (w : World) : KF B w w := KeepsFrom.refl B w
theorem KF.later {B : Nat} {w0 w w' : World} (h : KF B w0 w) (x : Ext w w') : KF B w0 w' := KeepsFrom.trans h ((Mod.of_ext (S := []) x).keepsFrom λ q hq => nomatch hq)
theorem KF.mod {B : Nat} {w0 w w' : World} {S : List Nat} (h : KF B w0 w) (m : Mod S w w') (hS : ∀ q ∈ S, ∃ cur e fr, w.heap[q]? = some (.cells cur e fr)) : KF B w0 w' := KeepsFrom.trans h (m.keepsFrom λ q hq _ => hS q hq)
structure JAt {α : Type} (B : Nat) (J : List α → World → Prop) (pre : List α) (w : World) : Prop where
 ab : AbidesFrom B J
 at_ : J pre w
theorem JAt.later {α : Type} {B : Nat} {J : List α → World → Prop} {pre : List α} {w w' : World} (h : JAt B J pre w) (x : Ext w w') : JAt B J pre w' :=
 ⟨h.ab, h.ab _ _ _ none h.at_ ⟨x.os, x.tape, x.output, x.size, λ k hk _ => x.block k hk⟩ λ r e => nomatch e⟩
section
variable {P : Program} {n : Nat} {E E' : List (Nat × Value)} {w : World} {d : Option Nat} {ty : TypeId} {pos : String} {af : Array Edge} {g : Option (Nat × Bool)} {x y z u : Operand} {t : TypeId}
end
namespace Rd
theorem rf {α : Type} {P : Program} {m n : Nat} {Q : Exit → Act → World → Prop} {w w0 : World} {E : List (Nat × Value)} {tt p : Nat} {ty : TypeId} {pos : String} {af : Array Edge} {id : Nat} {body : Code} {g : Operand} {gf : Nat} {lb : List Value} {enc : α → Value} {b2 b3 : Nat} {S Sp : List α → Prop} {N0 : Nat}
  (hg : ev E g = some (.func (.func gf) #[] lb.toArray)) (hf : Enters P gf) (hseq : SeqStopsK (fen none) (m - 1) P gf lb.toArray (λ x => #[enc x]) (Keep2 b2 b3) S Sp N0 w0) (hb2 : b2 < w.heap.size) (hb3 : b3 < w.heap.size) (hb0 : Ext w0 w) (h1 : 1 ≤ m) (hp : Nat.blt p n = true) (ht : Nat.blt tt n = true)
  (I : List α → World → Prop) (hI : ∀ s W W' S, I s W → Mod S W W' → (∀ q ∈ S, w.heap.size ≤ q ∧ ∀ cur e fr, W.heap[q]? ≠ some (.cells cur e fr)) → I s W') (h0 : I [] w)
  (hbody : ∀ (l : Nat) (pre : List α) (x : α) (W' : World), I pre W' → pre.length < N0 → W (some l) (m - 1 - 1) P n body (ownPostG w.heap.size (Keep2 b2 b3) I (λ _ _ _ => False) (pre ++ [x]) W') ((tt, enc x) :: (p, enc x) :: E) W')
  (hdone : ∀ (D : Nat) (xs : List α) (W' : World), w.heap.size ≤ D → S xs → I xs W' → DMark W' D → Rt.N (mark D) n Q E W') :
  W none m P n (.rangeFunc g #[p] (.region id #[⟨some tt, .assign (.tmp p), ty, pos, af, none⟩] false) body) Q E w := λ a ha => by
 have hOf : ∀ {β : Type} (J : β → World → Prop), (∀ s W W' S, J s W → Mod S W W' → (∀ q ∈ S, w.heap.size ≤ q ∧ ∀ cur e fr, W.heap[q]? ≠ some (.cells cur e fr)) → J s W') → OwnFrom w.heap.size J := λ J hJ s X Y row hs hgr hr =>
  hJ s X Y row.toList hs (Mod.grown hgr) λ q hq => by
   cases row with
   | none => exact nomatch hq
   | some r =>
    obtain rfl := List.mem_singleton.1 hq
    obtain ⟨hB, o, ho, hc⟩ := hr _ rfl
    exact ⟨hB, λ cur e fr h => by rw [h] at ho; injection ho with ho; subst ho; exact nomatch hc⟩
 obtain ⟨fn, hf1, hf2, hf3⟩ := hf
 obtain ⟨bc, hbc⟩ : ∃ c, fn.body = some c := by
  cases h : fn.body with
  | none => rw [h] at hf3; simp at hf3
  | some c => exact ⟨c, rfl⟩
 refine wpIn_rangeFunc_ownH (F := fen none) rfl h1 (gf := gf) (lb := lb.toArray) (ha.ev hg) trivial (enters_of hf1 hf2 hbc) hseq (λ h k => h.tr k) ?_ hb0 (λ x => rfl) I (λ _ _ _ => False) (hOf I hI) (λ c s A B row hs hg hr => hs.elim) h0
  (λ x a' _ => Agr n ((tt, enc x) :: (p, enc x) :: E) a') (λ x a' s A B row hs hg hr => hs) ?_ ?_ ?_ ?_
 ·intro W' l o o' hl hW _ _
  have hm := Mod.grown (grownBy_putObj' W' l o')
  exact ⟨hm.block b2 (by have := (Array.getElem?_eq_some_iff.1 hW).1; omega) (by simp; omega), hm.block b3 (by have := (Array.getElem?_eq_some_iff.1 hW).1; omega) (by simp; omega)⟩
 ·intro l pre x W' K hi hK
  have hA : Agr n ((p, enc x) :: E) { tmps := (#[p].zip #[enc x]).foldl (λ t (p, v) => t.setIfInBounds p v) a.tmps, defers := [] } := by
   have := ha.put hp (enc x)
   have e : ({ tmps := (#[p].zip #[enc x]).foldl (λ t (p, v) => t.setIfInBounds p v) a.tmps, defers := [] } : Act) = a.put (some p) (enc x) := by
    simp [Act.put, ha.d]
   rw [e]; exact this
  have h2 : W (some l) (m - 1 - 1) P n (.region id [(⟨some tt, .assign (.tmp p), ty, pos, af, none⟩ : Oper)].toArray false) (Exit.then K (λ _ _ _ => False)) ((p, enc x) :: E) W' := by
   refine Ri.rg (Ri.vl (v := enc x) (w' := W') (as_ ?_) ht (Ri.nl λ a' ha' => hK a' W' (KeepsFrom.refl _ _) ⟨rfl, rfl⟩ hi ha'))
   show look ((p, enc x) :: E) p = _
   simp [look]
  exact h2 _ hA
 ·intro l pre x a' W' _ _ hi hx hlen
  exact hbody l pre x W' hi hlen a' hx
 ·intro D xs W' hD hS hi hK
  have := hdone D xs W' hD hS hi hK a ha
  have e : ({ a with defers := { target := .collected D, args := #[] } :: a.defers } : Act) = wd (mark D) a := by simp [wd, mark, ha.d]
  rw [e]; exact this
 ·intro D c pre W' _ _ h _
  exact h.elim
end Rd
end
section
open Go.RowKit
namespace Rep
variable {α : Type} {R : Rep α}
theorem SOwn.fsts {E by_ B c : Nat} {A : Option Addr} {l : List α} {w : World} {ps : List (List Nat × List Value)} (hp : R.Bare) (hall : All2 (λ x a => R.own w B x.1 x.2 a) ps l) : ∀ y ∈ ps, y.1 = [] := λ y hy => by
 obtain ⟨b, hb⟩ := hall.left y hy
 exact hp.2 hb
theorem fst_flat {ps : List (List Nat × List Value)} (h : ∀ y ∈ ps, y.1 = []) : (ps.map (·.1)).flatten = [] := by
 rw [List.flatten_eq_nil_iff]
 intro x hx
 obtain ⟨y, hy, rfl⟩ := List.mem_map.1 hx
 exact h y hy
theorem SOwn.cut {E by_ B c : Nat} {A : Option Addr} {l : List α} {w : World} (h : R.SOwn E by_ w B (blkOf A) A c l) (hp : R.Bare) (k : Nat) (hk : k ≤ l.length) : R.SOwn E by_ w B (blkOf A) A c (l.take k) := by
 obtain ⟨hb, ps, hf, hn, ho, hall⟩ := h
 have hl := olens hall
 have hpl : ps.length = l.length := hall.length
 have h1 := SOwn.fsts (E := E) (by_ := by_) (c := c) (A := A) hp hall
 have hlen : (l.take k).length = k := by rw [List.length_take]; omega
 have hm := Nat.mul_le_mul_right by_ hk
 refine ⟨by rw [hlen]; omega, ps.take k, ?_, hn, ?_, hall.take_ k⟩
 ·rw [fst_flat λ y hy => h1 y (List.mem_of_mem_take hy), List.append_nil]
 ·rw [hlen, List.map_take, flatten_take k hl]
  obtain ⟨hx1, hx2⟩ := ho
  have hle : k * R.size ≤ l.length * R.size := Nat.mul_le_mul_right _ hk
  refine ⟨by rw [List.length_take, hx1]; omega, ?_⟩
  rcases hx2 with ⟨hx2, hx3⟩ | ⟨g, cap, cur, hv, hB, hh, hnc, hcm, hs, ht, hG⟩
  ·injection hx2 with e1 e2 e3
   subst e1 e3
   have : k = 0 := by omega
   subst this
   exact .inl ⟨rfl, rfl⟩
  ·injection hv with e1 e2 e3
   subst e1 e3
   exact .inr ⟨g, c, cur, rfl, hB, hh, by omega, hcm, hs, by rw [← ht, List.take_take, Nat.min_eq_left hle], hG⟩
theorem Mod.setCells (g : Nat) : ∀ (zs : List Value) (o : Nat) (w : World), Mod [g] w (w.setCells g o zs)
 | [], _, w => Mod.of_ext (Ext.rf w)
 | v :: r, o, w => by
  rw [World.setCells]
  exact (Mod.setCell w ⟨g, o, none⟩ v).trans (Mod.setCells g r (o + 1) _)
end Rep
section
variable {P : Program} {n : Nat} {E E' : List (Nat × Value)} {a : Act} {w w' w0 w1 : World} {Q : Exit → Act → World → Prop} {ops : Array Oper} {v : Value}
variable {d : Option Nat} {ty : TypeId} {pos : String} {af : Array Edge} {g : Option (Nat × Bool)} {x y z : Operand} {t : TypeId} {rest : List Oper}
theorem sT {A : Option Addr} {len cap e s : Nat} {k : IntKind} (lo : Nat) {i : Int} (ht : P.underlying t = some (.slice e)) (hs : Sz P e s) (hx : ev E x = some (.slice A len cap)) (hy : ev E y = some (.int k i)) (hi : i = (lo : Int)) (h1 : lo ≤ len) :
  Runs P E ⟨d, .slice t x (some y) none none, ty, pos, af, g⟩ w (.slice (sA A cap lo s) (len - lo) (cap - lo)) w := λ n a ha => by
 subst hi
 have q1 : P.underlying t = some (.slice (P.elem t)) := by simp [Program.elem, ht]
 have q2 : P.elem t = e := by simp [Program.elem, ht]
 have h3 := run_slice_l (P := P) (w := w) t A len cap q1 k (lo : Int) (by omega) (by omega)
 have h4 := run_sliceAt_slice (P := P) (w := w) t (.slice A len cap) (some (.int k (lo : Int))) none none q1
 rw [q2, hs w] at h3
 simp only [execOp, ha.ev hx, ha.ev hy, Option.map, h4, h3, Sem.run_bind, Result.andThen_ok, Sem.run_pure, sliced, Int.toNat_natCast, sA]
theorem s3 {A : Option Addr} {len cap e s : Nat} {k k' k2 : IntKind} {x1 x2 x3 : Operand} (lo hi mx : Nat) {i j m : Int} (ht : P.underlying t = some (.slice e)) (hs : Sz P e s) (hx : ev E x = some (.slice A len cap)) (hy : ev E x1 = some (.int k i)) (hz : ev E x2 = some (.int k' j)) (hu : ev E x3 = some (.int k2 m)) (hi1 : i = (lo : Int)) (hi2 : j = (hi : Int)) (hi3 : m = (mx : Int)) (h1 : lo ≤ hi) (h2 : hi ≤ mx) (h3 : mx ≤ cap) :
  Runs P E ⟨d, .slice t x (some x1) (some x2) (some x3), ty, pos, af, g⟩ w (sliced A lo hi mx s) w := λ n a ha => by
 subst hi1; subst hi2; subst hi3
 have q1 : P.underlying t = some (.slice (P.elem t)) := by simp [Program.elem, ht]
 have q2 : P.elem t = e := by simp [Program.elem, ht]
 have h3 := run_slice_lhm (P := P) (w := w) t A len cap q1 k k' k2 (lo : Int) (hi : Int) (mx : Int) (by omega) (by omega) (by omega) (by omega)
 have h4 := run_sliceAt_slice (P := P) (w := w) t (.slice A len cap) (some (.int k (lo : Int))) (some (.int k' (hi : Int))) (some (.int k2 (mx : Int))) q1
 rw [q2, hs w] at h3
 simp only [execOp, ha.ev hx, ha.ev hy, ha.ev hz, ha.ev hu, Option.map, h4, h3, Sem.run_bind, Result.andThen_ok, Sem.run_pure, Int.toNat_natCast]
theorem intDiv_quo {k : IntKind} {i j : Int} (h0 : 0 ≤ i) (h1 : 0 < j) (hw : k.wrap (i / j) = i / j) : Op.intDiv .quo k i j = pure (.int k (i / j)) := by
 unfold Op.intDiv
 have e : i.tdiv j = i / j := Int.tdiv_eq_ediv_of_nonneg h0
 rw [if_neg (by omega)]
 simp only [e, hw]
theorem intDiv_rem {k : IntKind} {i j : Int} (h0 : 0 ≤ i) (h1 : 0 < j) : Op.intDiv .rem k i j = pure (.int k (i % j)) := by
 unfold Op.intDiv
 have e : i.tmod j = i % j := Int.tmod_eq_emod_of_nonneg h0
 rw [if_neg (by omega)]
 simp only [e]
section
variable {k : IntKind} {i j : Int} {u : TypeId}
theorem bqu (hx : ev E x = some (.int k i)) (hy : ev E y = some (.int k j)) (h0 : 0 ≤ i) (h1 : 0 < j) (hw : k.wrap (i / j) = i / j) : Runs P E ⟨d, .binOp .quo t x y u, ty, pos, af, g⟩ w (.int k (i / j)) w := run_bin hx hy (binOp_quo t k i j) (by rw [intDiv_quo h0 h1 hw]; rfl)
theorem bre (hx : ev E x = some (.int k i)) (hy : ev E y = some (.int k j)) (h0 : 0 ≤ i) (h1 : 0 < j) : Runs P E ⟨d, .binOp .rem t x y u, ty, pos, af, g⟩ w (.int k (i % j)) w := run_bin hx hy (binOp_rem t k i j) (by rw [intDiv_rem h0 h1]; rfl)
theorem quI {i j : Int} (h0 : 0 ≤ i) (h1 : 0 < j) (h2 : i ≤ 9223372036854775807) : IntKind.i64.wrap (i / j) = i / j := by
 have e1 : 0 ≤ i / j := Int.ediv_nonneg h0 (by omega)
 have e2 : i / j ≤ i := Int.ediv_le_self _ h0
 exact inI ⟨by omega, by omega⟩
end
end
end
end Go.Proofs.Ytifffjhhammeiaa
