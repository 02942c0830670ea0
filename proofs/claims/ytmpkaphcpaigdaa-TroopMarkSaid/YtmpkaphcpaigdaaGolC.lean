import Derived.Test.YtmpkaphcpaigdaaGol
import Derived.RangeFuncNested
import Derived.RangeFuncLeaves
import Derived.OrdersIn
import Derived.TacticsIn
import Derived.LoopNIn
import Derived.Laws.IdiomCopy
set_option linter.unusedVariables false
set_option linter.unusedSimpArgs false
set_option maxRecDepth 100000
set_option maxHeartbeats 4000000
namespace Go.Proofs.Ytmpkaphcpaigdaa
section
open Go.RowKit
theorem fk1 {B : List Nat} {b n : Nat} (u : ∀ q ∈ B, q < n) (h : n ≤ b) : ∀ q ∈ B, q ∈ [b] → False := fun q hq hb => by have := u q hq; have := List.mem_singleton.1 hb; omega
theorem fk2 {B : List Nat} {b n : Nat} (u : ∀ q ∈ B, n ≤ q) (h : b < n) : ∀ q ∈ B, q ∈ [b] → False := fun q hq hb => by have := u q hq; have := List.mem_singleton.1 hb; omega
theorem nm1 {a b : Nat} (h : a ≠ b) : a ∉ [b] := fun e => h (List.mem_singleton.1 e)
section
variable {P : Program} {n : Nat} {ops : Array Oper} {Q : Exit → Act → World → Prop} {E : List (Nat × Value)} {w w' w0 : World} {v : Value} {ty : TypeId} {pos : String} {af : Array Edge} {x : Operand} {rest : List Oper} {d i : Nat} {τ : List Nat} {kd : Nat → Nat}
theorem nK {y : Code} (h : W P n y Q E w) : WL P n ops (Th P y Q) [] E w := nl (nT h)
theorem sg {id : Nat} {l : List Oper} {y : Code} (h : WL P n l.toArray (Th P y Q) l E w) : W P n (.seq (.region id l.toArray false) y) Q E w := sq (rg h)
theorem sK {y : Code} (h : W P n y Q E w) : W P n .skip (Th P y Q) E w := sk (nT h)
theorem vL {op : Op} (hr : Runs P E ⟨some d, op, ty, pos, af, none⟩ w v w') (h : WL P n ops Q rest ((d, v) :: E) w') (hd : Nat.blt d n = true := by rfl) : WL P n ops Q (⟨some d, op, ty, pos, af, none⟩ :: rest) E w := vl hr hd h
theorem vm (hx : ev E x = some v) (h : WL P n ops Q rest ((d, v) :: E) w) (hd : Nat.blt d n = true := by rfl) : WL P n ops Q (⟨some d, .move x, ty, pos, af, none⟩ :: rest) E w := vl (mv hx) hd h
theorem va (hx : ev E x = some v) (h : WL P n ops Q rest ((d, v) :: E) w) (hd : Nat.blt d n = true := by rfl) : WL P n ops Q (⟨some d, .assign x, ty, pos, af, none⟩ :: rest) E w := vl (as_ hx) hd h
theorem fw1 {op : Op} (hi : ops[i]? = some ⟨some d, op, ty, pos, af, none⟩) (hr : ∀ w, Runs P E ⟨some d, op, ty, pos, af, none⟩ w v w) (h : FL P n ops Q kd τ ((d, v) :: E) w0) (hk : kd i = 1 := by rfl) (hd : Nat.blt d n = true := by rfl) : FL P n ops Q kd (i :: τ) E w0 := fw hi hk hr hd h
theorem fq1 {op : Op} (hi : ops[i]? = some ⟨some d, op, ty, pos, af, none⟩) (hr : ∀ w, Ext w0 w → Runs P E ⟨some d, op, ty, pos, af, none⟩ w v w) (h : FL P n ops Q kd τ ((d, v) :: E) w0) (hk : kd i = 0 := by rfl) (hd : Nat.blt d n = true := by rfl) : FL P n ops Q kd (i :: τ) E w0 := fq hi hk hr hd h
end
theorem sba : ∀ {E' E : List (Nat × Value)}, E'.map (fun p => look E p.1) = E'.map (fun p => some p.2) → Sub E' E
 | [], _, _ => Sub.nil
 | (k, v) :: r, E, h => have h' : look E k :: r.map (fun p => look E p.1) = some v :: r.map (fun p => some p.2) := h
  Sub.cons (List.cons.inj h').1 (sba (List.cons.inj h').2)
theorem bS : (∀ (a b : Bool), ((a || b) = true) ↔ (a = true ∨ b = true)) ∧ (∀ (a b : Bool), ((a || b) = false) ↔ (a = false ∧ b = false)) ∧ (∀ (a b : Bool), ((a && b) = true) ↔ (a = true ∧ b = true)) ∧ (∀ (a b : Bool), ((a && b) = false) ↔ (a = false ∨ b = false)) ∧ (∀ (p : Prop) [Decidable p], (decide p = true) ↔ p) ∧ (∀ (p : Prop) [Decidable p], (decide p = false) ↔ ¬ p) ∧ (∀ (α : Type) [BEq α] [LawfulBEq α] (a b : α), ((a == b) = true) ↔ (a = b)) ∧ (∀ (α : Type) [BEq α] [LawfulBEq α] (a b : α), ((a != b) = true) ↔ (a ≠ b)) ∧ (∀ (α : Type) [BEq α] [LawfulBEq α] (a b : α), ((a == b) = false) ↔ (a ≠ b)) ∧ (∀ (α : Type) [BEq α] [LawfulBEq α] (a b : α), ((a != b) = false) ↔ (a = b)) ∧ (∀ b : Bool, ((!b) = true) ↔ (b = false)) ∧ (∀ b : Bool, ((!b) = false) ↔ (b = true)) ∧ (∀ b : Bool, (¬ (b = true)) ↔ (b = false)) ∧ (∀ b : Bool, (¬ (b = false)) ↔ (b = true)) ∧ (∀ a b : Int, (¬ a < b) ↔ b ≤ a) ∧ (∀ a b : Int, (¬ a ≤ b) ↔ b < a) ∧ (∀ a b : Nat, (¬ a < b) ↔ b ≤ a) ∧ (∀ a b : Nat, (¬ a ≤ b) ↔ b < a) ∧ (∀ (α : Type) (a b : α), (a ≠ b) ↔ ¬ (a = b)) ∧ (∀ p : Prop, (¬ ¬ p) ↔ p) :=
 ⟨fun a b => by cases a <;> cases b <;> simp, fun a b => by cases a <;> cases b <;> simp, fun a b => by cases a <;> cases b <;> simp, fun a b => by cases a <;> cases b <;> simp, fun p _ => by simp, fun p _ => by simp, fun α _ _ a b => by simp, fun α _ _ a b => by simp, fun α _ _ a b => by simp, fun α _ _ a b => by simp, fun b => by simp, fun b => by simp, fun b => by simp, fun b => by simp, fun _ _ => Int.not_lt, fun _ _ => Int.not_le, fun _ _ => Nat.not_lt, fun _ _ => Nat.not_le, fun _ _ _ => Iff.rfl, fun _ => Classical.not_not⟩
theorem ge1 {b n : Nat} (h : n ≤ b) : ∀ q ∈ [b], n ≤ q := fun q hq => by rw [List.mem_singleton.1 hq]; exact h
theorem eF0 : Enters Try.prog 48 := en Try.func48 (by kernel_rfl) (by kernel_rfl)
theorem eF1 : Enters Try.prog 49 := en Try.func49 (by kernel_rfl) (by kernel_rfl)
theorem eF2 : Ag Try.prog 28 true := fun _ => by kernel_rfl
theorem eF3 : Sz Try.prog 28 9 := fun _ => by kernel_rfl
theorem eF4 : Enters Try.prog 22 := en Try.func22 (by kernel_rfl) (by kernel_rfl)
theorem eF5 : Fd Try.prog 28 0 0 := fun _ _ _ => by kernel_rfl
theorem eF6 : Fd Try.prog 24 0 0 := fun _ _ _ => by kernel_rfl
theorem eF7 : Ag Try.prog 3 false := fun _ => by kernel_rfl
theorem eF8 : Fd Try.prog 24 1 1 := fun _ _ _ => by kernel_rfl
theorem eF9 : Fd Try.prog 28 5 7 := fun _ _ _ => by kernel_rfl
theorem eF10 : Fd Try.prog 28 6 8 := fun _ _ _ => by kernel_rfl
theorem eF11 : Fd Try.prog 24 2 2 := fun _ _ _ => by kernel_rfl
theorem eF12 : Ag Try.prog 22 false := fun _ => by kernel_rfl
theorem eF13 : Enters Try.prog 23 := en Try.func23 (by kernel_rfl) (by kernel_rfl)
theorem eF14 : Fd Try.prog 28 1 3 := fun _ _ _ => by kernel_rfl
theorem eF15 : Ag Try.prog 25 false := fun _ => by kernel_rfl
theorem eF16 : Sz Try.prog 35 2 := fun _ => by kernel_rfl
theorem eF17 : Ag Try.prog 35 true := fun _ => by kernel_rfl
theorem eF18 : Zv Try.prog 35 (.agg #[.int .i64 0, .int .i64 0]) := fun _ => by kernel_rfl
theorem eF19 : Fd Try.prog 35 0 0 := fun _ _ _ => by kernel_rfl
theorem eF20 : Fd Try.prog 35 1 1 := fun _ _ _ => by kernel_rfl
theorem eF21 : Fd Try.prog 28 2 4 := fun _ _ _ => by kernel_rfl
theorem eF22 : Sz Try.prog 3 1 := fun _ => by kernel_rfl
theorem eF23 : Fd Try.prog 28 3 5 := fun _ _ _ => by kernel_rfl
theorem eF24 : Fd Try.prog 28 4 6 := fun _ _ _ => by kernel_rfl
theorem eF25 : Ag Try.prog 26 false := fun _ => by kernel_rfl
theorem eF26 : Sz Try.prog 37 7 := fun _ => by kernel_rfl
theorem eF27 : Ag Try.prog 37 true := fun _ => by kernel_rfl
theorem eF28 : Zv Try.prog 37 (.agg #[.int .i64 0, .int .i64 0, .int .i64 0, .int .i64 0, .int .i64 0, .int .i64 0, .int .i64 0]) := fun _ => by kernel_rfl
theorem eF29 : Fd Try.prog 37 0 0 := fun _ _ _ => by kernel_rfl
theorem eF30 : Fd Try.prog 37 1 1 := fun _ _ _ => by kernel_rfl
theorem eF31 : Fd Try.prog 37 2 2 := fun _ _ _ => by kernel_rfl
theorem eF32 : Fd Try.prog 37 3 3 := fun _ _ _ => by kernel_rfl
theorem eF33 : Fd Try.prog 37 4 5 := fun _ _ _ => by kernel_rfl
theorem eF34 : Fd Try.prog 37 5 6 := fun _ _ _ => by kernel_rfl
theorem eF35 : Enters Try.prog 24 := en Try.func24 (by kernel_rfl) (by kernel_rfl)
theorem eF36 : Sz Try.prog 5 1 := fun _ => by kernel_rfl
theorem eF37 : Enters Try.prog 79 := en Try.func79 (by kernel_rfl) (by kernel_rfl)
theorem eF38 : Enters Try.prog 56 := en Try.func56 (by kernel_rfl) (by kernel_rfl)
theorem eF39 : Enters Try.prog 57 := en Try.func57 (by kernel_rfl) (by kernel_rfl)
theorem eF40 : Enters Try.prog 30 := en Try.func30 (by kernel_rfl) (by kernel_rfl)
theorem eF41 : Enters Try.prog 12 := en Try.func12 (by kernel_rfl) (by kernel_rfl)
theorem eF42 : Ag Try.prog 5 false := fun _ => by kernel_rfl
theorem eF43 : Enters Try.prog 31 := en Try.func31 (by kernel_rfl) (by kernel_rfl)
theorem eF44 : Enters Try.prog 32 := en Try.func32 (by kernel_rfl) (by kernel_rfl)
theorem eF45 : Enters Try.prog 8 := en Try.func8 (by kernel_rfl) (by kernel_rfl)
theorem eF46 : Enters Try.prog 9 := en Try.func9 (by kernel_rfl) (by kernel_rfl)
theorem eF47 : Zv Try.prog 28 (.agg #[.int .i64 0, .int .i64 0, .slice none 0 0, .slice none 0 0, .slice none 0 0, .slice none 0 0, .slice none 0 0, .int .i64 0, .int .i64 0]) := fun _ => by kernel_rfl
theorem eF48 : Enters Try.prog 11 := en Try.func11 (by kernel_rfl) (by kernel_rfl)
theorem eF49 : Enters Try.prog 10 := en Try.func10 (by kernel_rfl) (by kernel_rfl)
theorem eF50 : Sz Try.prog 26 1 := fun _ => by kernel_rfl
theorem eF51 : Enters Try.prog 13 := en Try.func13 (by kernel_rfl) (by kernel_rfl)
end
end Go.Proofs.Ytmpkaphcpaigdaa
set_option linter.unusedVariables false
set_option linter.unusedSimpArgs false
namespace Go.Proofs.Ytmpkaphcpaigdaa
open Go.RowKit

namespace Rep
variable {α : Type} {R : Rep α}
end Rep
section
variable {P : Program} {n : Nat} {E E' : List (Nat × Value)} {a : Act} {w w' w0 w1 : World} {Q : Exit → Act → World → Prop} {ops : Array Oper} {v : Value}
variable {d : Option Nat} {ty : TypeId} {pos : String} {af : Array Edge} {g : Option (Nat × Bool)} {x y z : Operand} {t : TypeId} {rest : List Oper}
def pfx (A : Option Addr) (_hi : Nat) : Option Addr := A
theorem sP {A : Option Addr} {len cap e s : Nat} {k : IntKind} (hi m : Nat) {i : Int} (ht : P.underlying t = some (.slice e)) (hs : Sz P e s) (hx : ev E x = some (.slice A len cap)) (hy : ev E y = some (.int k i)) (h1 : i = (hi : Int)) (h2 : hi ≤ cap) (hm : m = hi) : Runs P E ⟨d, .slice t x none (some y) none, ty, pos, af, g⟩ w (.slice (pfx A hi) m cap) w := λ n a ha => by
 subst h1; subst hm
 have h1 : P.underlying t = some (.slice (P.elem t)) := by simp [Program.elem, ht]
 have q2 : P.elem t = e := by simp [Program.elem, ht]
 have h3 := run_slice_h (P := P) (w := w) t A len cap h1 k (m : Int) (by omega) (by omega)
 have h4 := run_sliceAt_slice (P := P) (w := w) t (.slice A len cap) none (some (.int k (m : Int))) none h1
 rw [q2, hs w] at h3
 simp only [execOp, ha.ev hx, ha.ev hy, Option.map, h4, h3, Sem.run_bind, Result.andThen_ok, Sem.run_pure, sliced, Int.toNat_natCast, Nat.sub_zero]
 unfold pfx
 cases A with
 | none => simp
 | some a => simp [Addr.add]
end
theorem Rep.SHas.pre {α : Type} {R : Rep α} {by_ c : Nat} {A : Option Addr} {l : List α} {w : World} (h : R.SHas by_ w A c l) (k : Nat) : R.SHas by_ w (pfx A k) c (l.take k) := h.take_ k
end Go.Proofs.Ytmpkaphcpaigdaa
namespace Go.Proofs.Ytmpkaphcpaigdaa
open Go.RowKit
section
variable {P : Program} {n : Nat} {E : List (Nat × Value)} {w : World} {Q : Exit → Act → World → Prop} {ops : Array Oper} {kd : Nat → Nat}
def AQ2 (P : Program) (ops : Array Oper) (Q : Exit → Act → World → Prop) (kd : Nat → Nat) (τ1 τ2 : List Nat) : Exit → Act → World → Prop :=
 nrm (λ a w => wpFlow P ops (nrm (Q .normal)) kd τ1 a w ∧ wpFlow P ops (nrm (Q .normal)) kd τ2 a w)
end
end Go.Proofs.Ytmpkaphcpaigdaa
namespace Go.Proofs.Ytmpkaphcpaigdaa
section
open Go.RowKit
def fen (ro : Option Nat) : Fence := { Fence.wide with round := ro }
section
variable {P : Program} {ro : Option Nat} {m : Nat} {ops : Array Oper} {Q : Exit → Act → World → Prop} {w : World}
theorem calls_fen {f : FuncId} {args : Array Value} {R : Ending → World → Prop} (h : Calls P f args w R) : CallsIn (fen ro) m P f args w R := (callsIn_wide (n := m)).2 h
theorem rows_fen {row : String} {args : Array Value} {R : Value → World → Prop} (h : Rows P row args w R) : RowsIn (fen ro) m P row args w R := λ c cs _ =>
 let ⟨v, w', r, s⟩ := h c cs; ⟨v, w', r, stepsIn_wide.2 s⟩
def noDefer (o : Oper) : Bool := match o.op with
 | .defer _ => false
 | _ => true
theorem op_in {o : Oper} {a : Act} {K : Act → World → Prop} (hd : noDefer o = true) (h : o.wp P a w K Q) : o.wpIn (fen ro) m P a w K Q := by
 refine ⟨λ _ _ => trivial, ?_⟩
 have hs : o.semAt (fen ro).round a.eval = execOp a.eval o := Oper.semAt_eq _ _ _ (λ c e => by simp [noDefer, e] at hd)
 rw [hs]
 unfold Oper.wp at h
 generalize (execOp a.eval o).run P w = r at *
 cases r with
 | ok x w' =>
  cases x <;> simp only [Oper.upon] at h <;> simp only [Oper.uponIn] <;>
   first
    | exact h
    | exact h.elim
    | exact ⟨λ h => by simp [fen, Fence.wide] at h, calls_fen h⟩
    | exact ⟨λ h => by simp [fen, Fence.wide] at h, rows_fen h⟩
 | halt x w' => cases x <;> simp only [Oper.upon] at h <;> simp only [Oper.uponIn] <;> first | exact h | exact h.elim
theorem list_in : ∀ (l : List Oper) {a : Act} {w : World}, l.all noDefer = true → wpList P ops Q l a w → (∀ c a w, ¬ Q (.panic c) a w) → ¬ LetsOut Q → wpListIn (fen ro) m P ops Q l a w
 | [], a, w, _, h, _, _ => by unfold wpList at h; unfold wpListIn; exact h
 | o :: rest, a, w, hd, h, hp, ho => by
  rw [List.all_cons, Bool.and_eq_true] at hd
  unfold wpList at h
  unfold wpListIn
  split at h
  ·rename_i hw
   rw [if_pos hw]
   rcases h with h | ⟨h, x⟩
   ·exact Oper.wpIn_mono (λ a w h => list_in rest hd.2 h hp ho) (op_in hd.1 h)
   ·exact (ho x).elim
  ·rename_i hw
   rw [if_neg hw]
   exact ⟨λ _ _ => trivial, list_in rest hd.2 h hp ho⟩
theorem wop_in {i : Nat} {K : Act → World → Prop} {a : Act} {w : World} (hd : ops.toList.all noDefer = true) (ho : ¬ LetsOut Q) (h : wpOp P ops Q i K a w) : wpOpIn (fen ro) m P ops Q i K a w := by
 unfold wpOp at h
 unfold wpOpIn
 split at h
 ·rename_i hi; simp only [hi]; exact h
 ·rename_i o hi
  simp only [hi]
  have hdo : noDefer o = true := List.all_eq_true.1 hd o (by rw [Array.mem_toList_iff]; exact Array.mem_of_getElem? hi)
  split at h
  ·rename_i hw
   rw [if_pos hw]
   rcases h with h | ⟨h, x⟩
   ·exact op_in hdo h
   ·exact (ho x).elim
  ·rename_i hw
   rw [if_neg hw]
   exact ⟨λ _ _ => trivial, h⟩
theorem any_in (hd : ops.toList.all noDefer = true) (ho : ¬ LetsOut Q) : ∀ (f : Nat) (l : Array Bool) {a : Act} {w : World}, wpAny P .any ops Q f l a w → wpAnyIn (fen ro) m P .any ops Q f l a w
 | 0, l, a, w, h => h
 | f + 1, l, a, w, h => ⟨h.1, λ i hi => wpOpIn_mono (λ a w h => any_in hd ho f _ h) (wop_in hd ho (h.2 i hi))⟩
end
theorem nrm_np {K : Act → World → Prop} : ∀ c a w, ¬ nrm K (.panic c) a w := λ _ _ _ h => h
theorem nrm_no {K : Act → World → Prop} : ¬ LetsOut (nrm K) := λ ⟨_, _, h⟩ => h
theorem nrm_mono {K : Exit → Act → World → Prop} : ∀ e a w, nrm (K .normal) e a w → K e a w := λ e a w h => by cases e <;> first | exact h | exact h.elim
namespace Rd
section
variable {P : Program} {ro : Option Nat} {m n : Nat} {ops : Array Oper} {Q : Exit → Act → World → Prop} {w w0 : World} {E E' : List (Nat × Value)} {id id' : Nat} {c : Operand} {x y : Code} {i j : Int} {τ : List Nat} {v : Value}
def W (ro : Option Nat) (m : Nat) (P : Program) (n : Nat) (c : Code) (Q : Exit → Act → World → Prop) (E : List (Nat × Value)) (w : World) : Prop := ∀ a, Agr n E a → c.wpIn (fen ro) m P Q a w
abbrev M (n : Nat) (Q : Exit → Act → World → Prop) (E : List (Nat × Value)) (w : World) : Prop := N n (nrm (Q .normal)) E w
abbrev Th (ro : Option Nat) (m : Nat) (P : Program) (y : Code) (Q : Exit → Act → World → Prop) : Exit → Act → World → Prop := Exit.then (λ a w => y.wpIn (fen ro) m P Q a w) Q
theorem sq (h : W ro m P n x (Th ro m P y Q) E w) : W ro m P n (.seq x y) Q E w := λ a ha => wpIn_seq (h a ha)
theorem sk (h : M n Q E w) : W ro m P n .skip Q E w := λ a ha => wpIn_skip (h a ha)
theorem rt (h : T n Q E w) : W ro m P n .ret Q E w := λ a ha => wpIn_ret (h a ha)
theorem xt (h : X n Q id E w) : W ro m P n (.exit id) Q E w := λ a ha => wpIn_exit (h a ha)
theorem bk (h : W ro m P n x (Exit.inBlock id Q) E w) : W ro m P n (.block id x) Q E w := λ a ha => wpIn_block (h a ha)
theorem rg {l : List Oper} (h : WL P n l.toArray (nrm (Q .normal)) l E w) (hd : l.all noDefer = true := by kernel_rfl) : W ro m P n (.region id l.toArray false) Q E w := λ a ha => Go.wpIn_mono (wpIn_region_lit (list_in l hd (h a ha) nrm_np nrm_no)) nrm_mono
theorem cT (hc : ev E c = some (.bool true)) (h : W ro m P n x Q E w) : W ro m P n (.cond c x y) Q E w := λ a ha => wpIn_cond_true (ha.ev hc) (h a ha)
theorem cF (hc : ev E c = some (.bool false)) (h : W ro m P n y Q E w) : W ro m P n (.cond c x y) Q E w := λ a ha => wpIn_cond_false (ha.ev hc) (h a ha)
theorem cb {b : Bool} (hc : ev E c = some (.bool b)) (h1 : b = true → W ro m P n x Q E w) (h2 : b = false → W ro m P n y Q E w) : W ro m P n (.cond c x y) Q E w :=
 λ a ha => wpIn_cond_split (ha.ev hc) (λ h => h1 h a ha) (λ h => h2 h a ha)
theorem clt (hc : ev E c = some (.bool (decide (i < j)))) (h1 : i < j → W ro m P n x Q E w) (h2 : ¬ i < j → W ro m P n y Q E w) : W ro m P n (.cond c x y) Q E w := cb hc (λ h => h1 (of_decide_eq_true h)) (λ h => h2 (of_decide_eq_false h))
theorem cle (hc : ev E c = some (.bool (decide (i ≤ j)))) (h1 : i ≤ j → W ro m P n x Q E w) (h2 : ¬ i ≤ j → W ro m P n y Q E w) : W ro m P n (.cond c x y) Q E w := cb hc (λ h => h1 (of_decide_eq_true h)) (λ h => h2 (of_decide_eq_false h))
theorem cne (hc : ev E c = some (.bool (i != j))) (h1 : ¬ i = j → W ro m P n x Q E w) (h2 : i = j → W ro m P n y Q E w) : W ro m P n (.cond c x y) Q E w := cb hc (λ h => h1 (by simpa using h)) (λ h => h2 (by simpa using h))
theorem nT (h : W ro m P n y Q E w) : M n (Th ro m P y Q) E w := h
theorem nB (h : M n Q E w) : M n (Exit.inBlock id Q) E w := h
theorem xT (h : X n Q id E w) : X n (Th ro m P y Q) id E w := h
theorem xB (h : M n Q E w) : X n (Exit.inBlock id Q) id E w := λ a ha => by simp only [Exit.inBlock, if_true]; exact h a ha
theorem tT (h : T n Q E w) : T n (Th ro m P y Q) E w := h
theorem lp {c : Code} (I : Nat → List (Nat × Value) → World → Prop) (k : Nat) (E' : List (Nat × Value)) (h0 : I k E' w) (hs : Sub E' E)
  (round : ∀ k E w, I k E w → W ro m P n c (Exit.then (LI n I k) Q) E w) : W ro m P n (.loop c) Q E w := λ a ha => by
 intro b kk cs hro hb hr
 have key : ∀ k a w, (∃ E, I k E w ∧ Agr n E a) → ∃ e a' w', Q e a' w' ∧ ArrivesIn (Machine.fenced P (fen ro)) P (lone (b.atR a (.code c :: .inLoop c :: kk)) cs w) b kk cs e a' w' := by
  intro k
  induction k using Nat.strongRecOn with
  | _ k ih =>
   intro a w ⟨E, hI, ha⟩
   obtain ⟨e, a1, w1, hq, harr⟩ := round k E w hI a ha b (.inLoop c :: kk) cs hro hb hr
   cases e with
   | normal =>
    obtain ⟨m', hlt, hI1⟩ := hq
    obtain ⟨e2, a2, w2, hq2, harr2⟩ := ih m' hlt a1 w1 hI1
    exact ⟨e2, a2, w2, hq2, .of_steps (StepsIn.trans harr (.one (fenced_calm hb hr rfl) stepR_inLoop)) harr2⟩
   | exit id => exact ⟨_, a1, w1, hq, .pass (x := .inLoop c) rfl (λ _ _ => .inl (by simp)) harr⟩
   | goto l => exact ⟨_, a1, w1, hq, .pass (x := .inLoop c) rfl (λ _ _ => .inl (by simp)) harr⟩
   | ret => exact ⟨_, a1, w1, hq, .pass (x := .inLoop c) rfl (λ _ _ => .inl (by simp)) harr⟩
   | panic ch => exact ⟨_, a1, w1, hq, .pass (x := .inLoop c) rfl (λ _ _ => .inl (by simp)) harr⟩
   | outgrown => exact ⟨_, a1, w1, hq, .pass (x := .inLoop c) rfl (λ _ _ => .inl (by simp)) harr⟩
 obtain ⟨e, a', w', hq, harr⟩ := key k a w ⟨E', h0, ha.sub hs⟩
 exact ⟨e, a', w', hq, .of_steps (.one (fenced_calm hb hr rfl) stepR_loop) harr⟩
theorem nI {I : Nat → List (Nat × Value) → World → Prop} {k : Nat} (k' : Nat) (E' : List (Nat × Value)) (h : I k' E' w) (hm : k' < k) (hs : Sub E' E) : M n (Exit.then (LI n I k) Q) E w :=
 λ a ha => ⟨k', hm, E', h, ha.sub hs⟩
theorem rd (ks : List (Nat × Nat)) (τ : List Nat) (hm : P.follows .mixedOrders = true) (hB : (Region.noSelect ops && (τ.length == ops.size) && flowB ops (kds ks) τ (Array.replicate ops.size false)) = true)
  (h : FL P n ops (nrm (Q .normal)) (kds ks) τ E w) (hd : ops.toList.all noDefer = true := by kernel_rfl) : W ro m P n (.region id ops true) Q E w := λ a ha => by
 simp only [Bool.and_eq_true, beq_iff_eq] at hB
 obtain ⟨⟨hs, hl⟩, hB⟩ := hB
 refine Go.wpIn_mono (wpIn_region_any hm (Q := nrm (Q .normal)) (any_in hd nrm_no _ _ ?_)) nrm_mono
 have := any_of_flow (P := P) hs (Q := nrm (Q .normal)) nrm_np τ (Array.replicate ops.size false) a w (by simp) hB (h a ha)
 rw [hl] at this
 exact any_of_F _ _ _ _ this _ (Below.refl _ w).drew
theorem agr0 {l : List Value} (hl : Nat.ble l.length n = true) : Agr n (argEnv 0 l) { tmps := l.toArray ++ Array.replicate (n - l.toArray.size) undef, defers := [] } := by
 refine ⟨rfl, ?_, λ t v hv => ?_⟩
 ·have := Nat.le_of_ble_eq_true hl
  simp only [Array.size_append, Array.size_replicate, List.size_toArray]; omega
 ·obtain ⟨j, e, hj⟩ := argEnv_look l 0 t v hv
  have hlt := (List.getElem?_eq_some_iff.1 hj).1
  rw [Array.getElem?_append_left (by simp; omega)]
  simpa [show t = j by omega] using hj
theorem calls_W {f : FuncId} {fn : Func} {c : Code} {l : List Value} {R : Ending → World → Prop} (hf : P.funcs[f]? = some fn) (hb : fn.body = some c) (hn : fn.ntmps = n) (hl : Nat.ble l.length n = true)
  (h : W none m P n c (bodyPostM (fen none) m P fn R) (argEnv 0 l) w) : Calls P f l.toArray w R := by
 have h1 : CallsIn (fen none) m P f l.toArray w R := callsIn_of_wp_marks hf hb trivial (by rw [hn]; exact h _ (agr0 hl)) rfl
 exact (callsIn_wide (n := m)).1 h1
theorem tR {fn : Func} {R : Ending → World → Prop} {vs : List Value} (h : Res P E w fn.results.toList vs) (hR : R (.returned (tup vs)) w) : T n (bodyPostM (fen none) m P fn R) E w :=
 λ a ha => by
  show LeavesInM _ _ _ _ _ _ a.defers _ _
  rw [ha.d]
  exact ⟨_, run_results h ha, hR⟩
end
end Rd
namespace Ri
section
variable {P : Program} {ro : Option Nat} {m n : Nat} {ops : Array Oper} {Q : Exit → Act → World → Prop} {w w' w0 : World} {E E' : List (Nat × Value)} {id : Nat} {v : Value}
variable {d : Option Nat} {ty : TypeId} {pos : String} {af : Array Edge} {g : Option (Nat × Bool)} {x y z : Operand} {t : TypeId} {rest : List Oper}
def WL (ro : Option Nat) (m : Nat) (P : Program) (n : Nat) (ops : Array Oper) (Q : Exit → Act → World → Prop) (l : List Oper) (E : List (Nat × Value)) (w : World) : Prop := ∀ a, Agr n E a → wpListIn (fen ro) m P ops Q l a w
theorem rg {l : List Oper} (h : WL ro m P n l.toArray Q l E w) : Rd.W ro m P n (.region id l.toArray false) Q E w := λ a ha => wpIn_region_lit (h a ha)
theorem nl (h : Rd.M n Q E w) : WL ro m P n ops Q [] E w := h
theorem vl {d : Nat} {op : Op} (hr : Runs P E ⟨some d, op, ty, pos, af, none⟩ w v w') (hd : Nat.blt d n = true) (h : WL ro m P n ops Q rest ((d, v) :: E) w') : WL ro m P n ops Q (⟨some d, op, ty, pos, af, none⟩ :: rest) E w := λ a ha => by
 have hrun := hr n a ha
 unfold wpListIn
 rw [if_pos (by simp [Region.wanted])]
 refine ⟨λ _ _ => trivial, ?_⟩
 have hs : (⟨some d, op, ty, pos, af, none⟩ : Oper).semAt (fen ro).round a.eval = execOp a.eval ⟨some d, op, ty, pos, af, none⟩ := Oper.semAt_eq _ _ _ (λ c e => by
  have e : op = .defer c := e
  subst e
  simp only [execOp, Sem.run_bind, Sem.run_pure] at hrun
  revert hrun
  generalize (resolve a.eval c ty).run P w = r
  cases r <;> simp [Result.andThen])
 rw [hs, hrun]
 exact h _ (ha.put hd v)
end
end Ri
def mark (D : Nat) : List Deferred := [{ target := .collected D, args := #[] }]
def wd (ds : List Deferred) (a : Act) : Act := { a with defers := ds }
theorem wd_put (ds : List Deferred) (a : Act) (d : Option Nat) (v : Value) : (wd ds a).put d v = wd ds (a.put d v) := by cases d <;> rfl
theorem wd_eval (ds : List Deferred) (a : Act) : (wd ds a).eval = a.eval := by funext x; cases x <;> rfl
def DMark (w : World) (D : Nat) : Prop := w.heap[D]? = some (.deferred (some []))
theorem DMark.lt {D : Nat} {w : World} (h : DMark w D) : D < w.heap.size := (Array.getElem?_eq_some_iff.1 h).1
theorem DMark.later {D : Nat} {w w' : World} (h : DMark w D) (x : Ext w w') : DMark w' D := (x.block D h.lt).trans h
theorem DMark.mod {D : Nat} {w w' : World} {S : List Nat} (h : DMark w D) (m : Mod S w w') (hs : D ∉ S) : DMark w' D := (m.block D h.lt hs).trans h
def unmark (w : World) (D : Nat) : World := w.putObj D (.deferred none)
namespace Rt
section
variable {P : Program} {ds : List Deferred} {m n : Nat} {ops : Array Oper} {Q : Exit → Act → World → Prop} {w w' w0 : World} {E E' : List (Nat × Value)} {id : Nat} {v : Value}
variable {d : Option Nat} {ty : TypeId} {pos : String} {af : Array Edge} {g : Option (Nat × Bool)} {x y z : Operand} {t : TypeId} {rest : List Oper} {c : Operand} {cx cy : Code} {i j : Int}
def W (ds : List Deferred) (m : Nat) (P : Program) (n : Nat) (c : Code) (Q : Exit → Act → World → Prop) (E : List (Nat × Value)) (w : World) : Prop := ∀ a, Agr n E a → c.wpIn (fen none) m P Q (wd ds a) w
def N (ds : List Deferred) (n : Nat) (Q : Exit → Act → World → Prop) (E : List (Nat × Value)) (w : World) : Prop := ∀ a, Agr n E a → Q .normal (wd ds a) w
def T (ds : List Deferred) (n : Nat) (Q : Exit → Act → World → Prop) (E : List (Nat × Value)) (w : World) : Prop := ∀ a, Agr n E a → Q .ret (wd ds a) w
def WL (ds : List Deferred) (m : Nat) (P : Program) (n : Nat) (ops : Array Oper) (Q : Exit → Act → World → Prop) (l : List Oper) (E : List (Nat × Value)) (w : World) : Prop := ∀ a, Agr n E a → wpListIn (fen none) m P ops Q l (wd ds a) w
theorem sq (h : W ds m P n cx (Rd.Th none m P cy Q) E w) : W ds m P n (.seq cx cy) Q E w := λ a ha => wpIn_seq (h a ha)
theorem sk (h : N ds n Q E w) : W ds m P n .skip Q E w := λ a ha => wpIn_skip (h a ha)
theorem rt (h : T ds n Q E w) : W ds m P n .ret Q E w := λ a ha => wpIn_ret (h a ha)
theorem rg {l : List Oper} (h : WL ds m P n l.toArray Q l E w) : W ds m P n (.region id l.toArray false) Q E w := λ a ha => wpIn_region_lit (h a ha)
theorem nl (h : N ds n Q E w) : WL ds m P n ops Q [] E w := h
theorem nT (h : W ds m P n cy Q E w) : N ds n (Rd.Th none m P cy Q) E w := h
theorem nB (h : N ds n Q E w) : N ds n (Exit.inBlock id Q) E w := h
theorem tT (h : T ds n Q E w) : T ds n (Rd.Th none m P cy Q) E w := h
theorem cT (hc : ev E c = some (.bool true)) (h : W ds m P n cx Q E w) : W ds m P n (.cond c cx cy) Q E w := λ a ha => wpIn_cond_true (by rw [wd_eval]; exact ha.ev hc) (h a ha)
theorem cF (hc : ev E c = some (.bool false)) (h : W ds m P n cy Q E w) : W ds m P n (.cond c cx cy) Q E w := λ a ha => wpIn_cond_false (by rw [wd_eval]; exact ha.ev hc) (h a ha)
theorem cb {b : Bool} (hc : ev E c = some (.bool b)) (h1 : b = true → W ds m P n cx Q E w) (h2 : b = false → W ds m P n cy Q E w) : W ds m P n (.cond c cx cy) Q E w :=
 λ a ha => wpIn_cond_split (by rw [wd_eval]; exact ha.ev hc) (λ h => h1 h a ha) (λ h => h2 h a ha)
theorem cne (hc : ev E c = some (.bool (i != j))) (h1 : ¬ i = j → W ds m P n cx Q E w) (h2 : i = j → W ds m P n cy Q E w) : W ds m P n (.cond c cx cy) Q E w := cb hc (λ h => h1 (by simpa using h)) (λ h => h2 (by simpa using h))
theorem nodef_of_value {o : Oper} {a : Act} {v : Value} (h : (execOp a.eval o).run P w = .ok (.value v) w') : ∀ c, o.op ≠ .defer c := λ c e => by
 unfold execOp at h
 rw [e] at h
 simp only [Sem.run_bind, Sem.run_pure] at h
 revert h
 generalize (resolve a.eval c o.type).run P w = r
 cases r <;> simp [Result.andThen]
theorem vl {d : Nat} {op : Op} (hr : Runs P E ⟨some d, op, ty, pos, af, none⟩ w v w') (hd : Nat.blt d n = true) (h : WL ds m P n ops Q rest ((d, v) :: E) w') : WL ds m P n ops Q (⟨some d, op, ty, pos, af, none⟩ :: rest) E w := λ a ha => by
 have hrun := hr n a ha
 unfold wpListIn
 rw [if_pos (by simp [Region.wanted])]
 refine ⟨λ _ _ => trivial, ?_⟩
 rw [wd_eval, Oper.semAt_eq _ _ _ (nodef_of_value hrun), hrun]
 show wpListIn _ _ _ _ _ _ _ _
 rw [wd_put]
 exact h _ (ha.put hd v)
theorem ca {d : Nat} {f : FuncId} (hf : Enters P f) {xs : Array Operand} {ts : Array TypeId} {args : List Value} (he : evs E xs.toList = some args) (hd : Nat.blt d n = true)
  (h : Calls P f args.toArray w λ e w' => ∃ v, e = .returned v ∧ WL ds m P n ops Q rest ((d, v) :: E) w') : WL ds m P n ops Q (⟨some d, .call { callee := .value (.func f), args := xs, argTypes := ts }, ty, pos, af, none⟩ :: rest) E w := λ a ha => by
 unfold wpListIn
 rw [if_pos (by simp [Region.wanted])]
 refine ⟨λ _ _ => trivial, ?_⟩
 rw [wd_eval, Oper.semAt_eq _ _ _ (λ c e => by cases e), run_call hf ha he]
 refine ⟨λ h => by simp [fen, Fence.wide] at h, CallsIn.mono (calls_fen h) λ e w' hh => ?_⟩
 obtain ⟨v, rfl, h⟩ := hh
 show wpListIn _ _ _ _ _ _ _ _
 rw [wd_put]
 exact h _ (ha.put hd v)
theorem tR {D : Nat} {fn : Func} {R : Ending → World → Prop} {vs : List Value} (hK : DMark w D) (h : Res P E (unmark w D) fn.results.toList vs) (hR : R (.returned (tup vs)) (unmark w D)) : T (mark D) n (bodyPostM (fen none) m P fn R) E w :=
 λ a ha => by
  have hr := run_results (a := a) h ha
  exact ⟨by simp, .inl ⟨D, _, rfl, run_takeDeferred hK, _, hr, hR⟩⟩
end
end Rt
def Keep2 (b c : Nat) (W W' : World) : Prop := W'.heap[b]? = W.heap[b]? ∧ W'.heap[c]? = W.heap[c]?
theorem Keep2.tr {b c : Nat} {X Y Z : World} (h : Keep2 b c X Y) (k : Keep2 b c Y Z) : Keep2 b c X Z := ⟨k.1.trans h.1, k.2.trans h.2⟩
theorem Mod.keepsFrom {S : List Nat} {W W' : World} {B : Nat} (h : Mod S W W') (hS : ∀ q ∈ S, q < W.heap.size → ∃ cur e fr, W.heap[q]? = some (.cells cur e fr)) : KeepsFrom B W W' :=
 ⟨h.size, λ k o _ hk ho => by
  by_cases hm : k ∈ S
  ·obtain ⟨cur, e, fr, hc⟩ := hS k hm (Array.getElem?_eq_some_iff.1 hk).1
   rw [hc] at hk
   injection hk with hk
   subst hk
   exact nomatch ho
  ·exact (h.block k (Array.getElem?_eq_some_iff.1 hk).1 hm).trans hk⟩
def KF (B : Nat) (w0 w : World) : Prop := KeepsFrom B w0 w
theorem KF.rf (B : Nat) (w : World) : KF B w w := KeepsFrom.refl B w
theorem KF.later {B : Nat} {w0 w w' : World} (h : KF B w0 w) (x : Ext w w') : KF B w0 w' := KeepsFrom.trans h ((Mod.of_ext (S := []) x).keepsFrom λ q hq => nomatch hq)
theorem KF.mod {B : Nat} {w0 w w' : World} {S : List Nat} (h : KF B w0 w) (m : Mod S w w') (hS : ∀ q ∈ S, ∃ cur e fr, w.heap[q]? = some (.cells cur e fr)) : KF B w0 w' := KeepsFrom.trans h (m.keepsFrom λ q hq _ => hS q hq)
structure JAt {α : Type} (B : Nat) (J : List α → World → Prop) (pre : List α) (w : World) : Prop where
 ab : AbidesFrom B J
 at_ : J pre w
theorem JAt.later {α : Type} {B : Nat} {J : List α → World → Prop} {pre : List α} {w w' : World} (h : JAt B J pre w) (x : Ext w w') : JAt B J pre w' :=
 ⟨h.ab, h.ab _ _ _ none h.at_ ⟨x.os, x.tape, x.output, x.size, λ k hk _ => x.block k hk⟩ λ r e => nomatch e⟩
section
variable {P : Program} {n : Nat} {E E' : List (Nat × Value)} {w : World} {d : Option Nat} {ty : TypeId} {pos : String} {af : Array Edge} {g : Option (Nat × Bool)} {x y z u : Operand} {t : TypeId}
end
namespace Rd
theorem rf {α : Type} {P : Program} {m n : Nat} {Q : Exit → Act → World → Prop} {w w0 : World} {E : List (Nat × Value)} {tt p : Nat} {ty : TypeId} {pos : String} {af : Array Edge} {id : Nat} {body : Code} {g : Operand} {gf : Nat} {lb : List Value} {enc : α → Value} {b2 b3 : Nat} {S Sp : List α → Prop} {N0 : Nat}
  (hg : ev E g = some (.func (.func gf) #[] lb.toArray)) (hf : Enters P gf) (hseq : SeqStopsK (fen none) (m - 1) P gf lb.toArray (λ x => #[enc x]) (Keep2 b2 b3) S Sp N0 w0) (hb2 : b2 < w.heap.size) (hb3 : b3 < w.heap.size) (hb0 : Ext w0 w) (h1 : 1 ≤ m) (hp : Nat.blt p n = true) (ht : Nat.blt tt n = true)
  (I : List α → World → Prop) (hI : ∀ s W W' S, I s W → Mod S W W' → (∀ q ∈ S, w.heap.size ≤ q ∧ ∀ cur e fr, W.heap[q]? ≠ some (.cells cur e fr)) → I s W') (h0 : I [] w)
  (hbody : ∀ (l : Nat) (pre : List α) (x : α) (W' : World), I pre W' → pre.length < N0 → W (some l) (m - 1 - 1) P n body (ownPostG w.heap.size (Keep2 b2 b3) I (λ _ _ _ => False) (pre ++ [x]) W') ((tt, enc x) :: (p, enc x) :: E) W')
  (hdone : ∀ (D : Nat) (xs : List α) (W' : World), w.heap.size ≤ D → S xs → I xs W' → DMark W' D → Rt.N (mark D) n Q E W') :
  W none m P n (.rangeFunc g #[p] (.region id #[⟨some tt, .assign (.tmp p), ty, pos, af, none⟩] false) body) Q E w := λ a ha => by
 have hOf : ∀ {β : Type} (J : β → World → Prop), (∀ s W W' S, J s W → Mod S W W' → (∀ q ∈ S, w.heap.size ≤ q ∧ ∀ cur e fr, W.heap[q]? ≠ some (.cells cur e fr)) → J s W') → OwnFrom w.heap.size J := λ J hJ s X Y row hs hgr hr =>
  hJ s X Y row.toList hs (Mod.grown hgr) λ q hq => by
   cases row with
   | none => exact nomatch hq
   | some r =>
    obtain rfl := List.mem_singleton.1 hq
    obtain ⟨hB, o, ho, hc⟩ := hr _ rfl
    exact ⟨hB, λ cur e fr h => by rw [h] at ho; injection ho with ho; subst ho; exact nomatch hc⟩
 obtain ⟨fn, hf1, hf2, hf3⟩ := hf
 obtain ⟨bc, hbc⟩ : ∃ c, fn.body = some c := by
  cases h : fn.body with
  | none => rw [h] at hf3; simp at hf3
  | some c => exact ⟨c, rfl⟩
 refine wpIn_rangeFunc_ownH (F := fen none) rfl h1 (gf := gf) (lb := lb.toArray) (ha.ev hg) trivial (enters_of hf1 hf2 hbc) hseq (λ h k => h.tr k) ?_ hb0 (λ x => rfl) I (λ _ _ _ => False) (hOf I hI) (λ c s A B row hs hg hr => hs.elim) h0
  (λ x a' _ => Agr n ((tt, enc x) :: (p, enc x) :: E) a') (λ x a' s A B row hs hg hr => hs) ?_ ?_ ?_ ?_
 ·intro W' l o o' hl hW _ _
  have hm := Mod.grown (grownBy_putObj' W' l o')
  exact ⟨hm.block b2 (by have := (Array.getElem?_eq_some_iff.1 hW).1; omega) (by simp; omega), hm.block b3 (by have := (Array.getElem?_eq_some_iff.1 hW).1; omega) (by simp; omega)⟩
 ·intro l pre x W' K hi hK
  have hA : Agr n ((p, enc x) :: E) { tmps := (#[p].zip #[enc x]).foldl (λ t (p, v) => t.setIfInBounds p v) a.tmps, defers := [] } := by
   have := ha.put hp (enc x)
   have e : ({ tmps := (#[p].zip #[enc x]).foldl (λ t (p, v) => t.setIfInBounds p v) a.tmps, defers := [] } : Act) = a.put (some p) (enc x) := by
    simp [Act.put, ha.d]
   rw [e]; exact this
  have h2 : W (some l) (m - 1 - 1) P n (.region id [(⟨some tt, .assign (.tmp p), ty, pos, af, none⟩ : Oper)].toArray false) (Exit.then K (λ _ _ _ => False)) ((p, enc x) :: E) W' := by
   refine Ri.rg (Ri.vl (v := enc x) (w' := W') (as_ ?_) ht (Ri.nl λ a' ha' => hK a' W' (KeepsFrom.refl _ _) ⟨rfl, rfl⟩ hi ha'))
   show look ((p, enc x) :: E) p = _
   simp [look]
  exact h2 _ hA
 ·intro l pre x a' W' _ _ hi hx hlen
  exact hbody l pre x W' hi hlen a' hx
 ·intro D xs W' hD hS hi hK
  have := hdone D xs W' hD hS hi hK a ha
  have e : ({ a with defers := { target := .collected D, args := #[] } :: a.defers } : Act) = wd (mark D) a := by simp [wd, mark, ha.d]
  rw [e]; exact this
 ·intro D c pre W' _ _ h _
  exact h.elim
end Rd
end
section
open Go.RowKit
namespace Rep
variable {α : Type} {R : Rep α}
theorem SOwn.fsts {E by_ B c : Nat} {A : Option Addr} {l : List α} {w : World} {ps : List (List Nat × List Value)} (hp : R.Bare) (hall : All2 (λ x a => R.own w B x.1 x.2 a) ps l) : ∀ y ∈ ps, y.1 = [] := λ y hy => by
 obtain ⟨b, hb⟩ := hall.left y hy
 exact hp.2 hb
theorem fst_flat {ps : List (List Nat × List Value)} (h : ∀ y ∈ ps, y.1 = []) : (ps.map (·.1)).flatten = [] := by
 rw [List.flatten_eq_nil_iff]
 intro x hx
 obtain ⟨y, hy, rfl⟩ := List.mem_map.1 hx
 exact h y hy
theorem SOwn.cut {E by_ B c : Nat} {A : Option Addr} {l : List α} {w : World} (h : R.SOwn E by_ w B (blkOf A) A c l) (hp : R.Bare) (k : Nat) (hk : k ≤ l.length) : R.SOwn E by_ w B (blkOf A) A c (l.take k) := by
 obtain ⟨hb, ps, hf, hn, ho, hall⟩ := h
 have hl := olens hall
 have hpl : ps.length = l.length := hall.length
 have h1 := SOwn.fsts (E := E) (by_ := by_) (c := c) (A := A) hp hall
 have hlen : (l.take k).length = k := by rw [List.length_take]; omega
 have hm := Nat.mul_le_mul_right by_ hk
 refine ⟨by rw [hlen]; omega, ps.take k, ?_, hn, ?_, hall.take_ k⟩
 ·rw [fst_flat λ y hy => h1 y (List.mem_of_mem_take hy), List.append_nil]
 ·rw [hlen, List.map_take, flatten_take k hl]
  obtain ⟨hx1, hx2⟩ := ho
  have hle : k * R.size ≤ l.length * R.size := Nat.mul_le_mul_right _ hk
  refine ⟨by rw [List.length_take, hx1]; omega, ?_⟩
  rcases hx2 with ⟨hx2, hx3⟩ | ⟨g, cap, cur, hv, hB, hh, hnc, hcm, hs, ht, hG⟩
  ·injection hx2 with e1 e2 e3
   subst e1 e3
   have : k = 0 := by omega
   subst this
   exact .inl ⟨rfl, rfl⟩
  ·injection hv with e1 e2 e3
   subst e1 e3
   exact .inr ⟨g, c, cur, rfl, hB, hh, by omega, hcm, hs, by rw [← ht, List.take_take, Nat.min_eq_left hle], hG⟩
theorem Own.setCells_at {base e size n g c : Nat} {G : Nat → Value → Prop} {xs : List Value} : ∀ (zs : List Value) (o : Nat) (w : World), n * size ≤ o → Own w base e size G (.slice (some ⟨g, 0, none⟩) n c) n xs → (∀ (j : Nat) u, zs[j]? = some u → G ((o + j) % size) u) →
  Own (w.setCells g o zs) base e size G (.slice (some ⟨g, 0, none⟩) n c) n xs
 | [], _, _, _, h, _ => h
 | v :: r, o, w, ho, h, hG => by
  rw [World.setCells]
  have h1 := h.stored o v (hG 0 v rfl)
  rw [List.set_eq_of_length_le (by rw [h.1]; exact ho)] at h1
  refine Own.setCells_at r (o + 1) _ (by omega) h1 λ j u hu => ?_
  have := hG (j + 1) u hu
  rwa [show o + 1 + j = o + (j + 1) from by omega]
theorem Mod.setCells (g : Nat) : ∀ (zs : List Value) (o : Nat) (w : World), Mod [g] w (w.setCells g o zs)
 | [], _, w => Mod.of_ext (Ext.rf w)
 | v :: r, o, w => by
  rw [World.setCells]
  exact (Mod.setCell w ⟨g, o, none⟩ v).trans (Mod.setCells g r (o + 1) _)
theorem SOwn.setTail {E by_ B c g : Nat} {l : List α} {w : World} (h : R.SOwn E by_ w B (blkOf (some ⟨g, 0, none⟩)) (some ⟨g, 0, none⟩) c l) (hp : R.Bare) (k : Nat) (hk : k ≤ l.length) (zs : List Value) (hz : ∀ (j : Nat) u, zs[j]? = some u → R.raw (j % R.size) u) :
  R.SOwn E by_ (w.setCells g (k * R.size) zs) B (blkOf (some ⟨g, 0, none⟩)) (some ⟨g, 0, none⟩) c (l.take k) := by
 obtain ⟨hb, ps, hf, hn, ho, hall⟩ := h.cut hp k hk
 have h1 := SOwn.fsts (E := E) (by_ := by_) (c := c) (A := some ⟨g, 0, none⟩) hp hall
 have hlen : (l.take k).length = k := by rw [List.length_take]; omega
 refine ⟨hb, ps, hf, hn, ?_, hall.imp λ y a hy hyo => R.okeep hyo λ q hq => ?_⟩
 ·refine Own.setCells_at zs _ w (by rw [hlen]; exact Nat.le_refl _) ho λ j u hu => ?_
  rw [Nat.mul_comm, Nat.mul_add_mod]
  exact hz j u hu
 ·rw [h1 y hy] at hq; simp at hq
end Rep
section
variable {P : Program} {n : Nat} {E E' : List (Nat × Value)} {a : Act} {w w' w0 w1 : World} {Q : Exit → Act → World → Prop} {ops : Array Oper} {v : Value}
variable {d : Option Nat} {ty : TypeId} {pos : String} {af : Array Edge} {g : Option (Nat × Bool)} {x y z : Operand} {t : TypeId} {rest : List Oper}
theorem zeroCells_get {zs : Array Value} {m j : Nat} {u : Value} (hu : (Builtin.zeroCells zs m).toList[j]? = some u) : ∃ i : Nat, i = j % zs.size ∧ (0 < zs.size → zs[i]? = some u) := by
 rw [Array.getElem?_toList] at hu
 obtain ⟨h, hv⟩ := Array.getElem?_eq_some_iff.1 hu
 simp only [Builtin.zeroCells, Array.getElem_map, Array.getElem_range] at hv
 refine ⟨_, rfl, λ h0 => ?_⟩
 have hr : j % zs.size < zs.size := Nat.mod_lt _ h0
 rw [Array.getElem?_eq_getElem hr, ← hv]
 rw [getElem!_pos zs (j % zs.size) hr]
theorem sT {A : Option Addr} {len cap e s : Nat} {k : IntKind} (lo : Nat) {i : Int} (ht : P.underlying t = some (.slice e)) (hs : Sz P e s) (hx : ev E x = some (.slice A len cap)) (hy : ev E y = some (.int k i)) (hi : i = (lo : Int)) (h1 : lo ≤ len) :
  Runs P E ⟨d, .slice t x (some y) none none, ty, pos, af, g⟩ w (.slice (sA A cap lo s) (len - lo) (cap - lo)) w := λ n a ha => by
 subst hi
 have q1 : P.underlying t = some (.slice (P.elem t)) := by simp [Program.elem, ht]
 have q2 : P.elem t = e := by simp [Program.elem, ht]
 have h3 := run_slice_l (P := P) (w := w) t A len cap q1 k (lo : Int) (by omega) (by omega)
 have h4 := run_sliceAt_slice (P := P) (w := w) t (.slice A len cap) (some (.int k (lo : Int))) none none q1
 rw [q2, hs w] at h3
 simp only [execOp, ha.ev hx, ha.ev hy, Option.map, h4, h3, Sem.run_bind, Result.andThen_ok, Sem.run_pure, sliced, Int.toNat_natCast, sA]
theorem uv {op : Op} (hr : Runs P E ⟨none, op, ty, pos, af, none⟩ w v w') (h : WL P n ops Q rest E w') : WL P n ops Q (⟨none, op, ty, pos, af, none⟩ :: rest) E w := λ a ha => by
 refine WL_one rfl ?_
 unfold Oper.wp
 rw [hr n a ha]
 exact h _ ha
theorem run_clear_own {α : Type} {R : Rep α} {e by_ B c k q g m : Nat} {l : List α} {z : Value} (ht : P.underlying t = some (.slice e)) (hi : (P.info? e).map (λ i => (i.zero, i.size, i.bytes)) = some (some z, m, by_)) (hm : R.size = m) (h0 : 0 < m) (hz : z.cells.size = m) (hz1 : z.cells.toList.all (·.oneCell') = true)
  (hr : ∀ (j : Nat) u, z.cells[j]? = some u → R.raw j u) (h : R.SOwn e by_ w B (Rep.blkOf (some ⟨g, 0, none⟩)) (some ⟨g, 0, none⟩) c l) (hR : R.Bare) (hk : k ≤ l.length) (hq : 0 < q) (hkq : k + q ≤ c) :
  ∃ w1, Mod [g] w w1 ∧ R.SOwn e by_ w1 B (Rep.blkOf (some ⟨g, 0, none⟩)) (some ⟨g, 0, none⟩) c (l.take k) ∧ (Builtin.clear_ #[t] ty #[.slice (some ⟨g, k * m, none⟩) q (c - k)]).run P w = .ok (.tuple #[]) w1 := by
 subst hm
 have hlen : (Builtin.zeroCells z.cells q).toList.length = q * R.size := by rw [Array.length_toList]; simp [Builtin.zeroCells, hz]
 obtain ⟨hle, ps, hf, hn, ho, hall⟩ := id h
 have hin : ∀ j, j < q * R.size → k * R.size + j < c * R.size := λ j hj => by
  have e1 : k * R.size + q * R.size = (k + q) * R.size := by rw [← Nat.add_mul]
  have e2 := Nat.mul_le_mul_right R.size hkq
  omega
 have hz3 : ∀ (j : Nat) u, (Builtin.zeroCells z.cells q).toList[j]? = some u → u.oneCell' = true ∧ R.raw (j % R.size) u := λ j u hu => by
  obtain ⟨i, hi, hg⟩ := zeroCells_get hu
  have hg := hg (by omega)
  rw [hz] at hi; subst hi
  refine ⟨?_, hr _ u hg⟩
  have := List.all_eq_true.1 hz1 u (by rw [Array.mem_toList_iff]; exact Array.mem_of_getElem? hg)
  exact this
 have hst := run_storeCells_cells (P := P) g (k * R.size) (Builtin.zeroCells z.cells q).toList 0 w (λ j hj => by
   rw [hlen] at hj
   obtain ⟨u, hu, _⟩ := ho.some_ (k * R.size + 0 + j) (hin j hj)
   rw [hu]; rfl) (λ j _ => ho.free _) (λ v hv => by
   obtain ⟨j, hj⟩ := List.mem_iff_getElem?.1 hv
   exact (hz3 j v hj).1)
 rw [Nat.add_zero] at hst
 refine ⟨_, Rep.Mod.setCells g _ _ w, h.setTail hR k (by omega) _ (λ j u hu => (hz3 j u hu).2), ?_⟩
 have hzv : ∀ w, (zeroValue e).run P w = .ok z w := λ w => by
  cases hq : P.info? e with
  | none => rw [hq] at hi; cases hi
  | some i =>
   rw [hq] at hi
   simp only [Option.map_some, Option.some.injEq, Prod.mk.injEq] at hi
   simp [zeroValue, typeInfo, hq, hi.1]
 obtain ⟨p, rfl⟩ : ∃ p, q = p + 1 := ⟨q - 1, by omega⟩
 simp [Builtin.clear_, run_underlying ht, hzv, hst]
theorem cl {α : Type} {R : Rep α} {e by_ B c k q m : Nat} {A : Option Addr} {l : List α} {z : Value} (ht : P.underlying t = some (.slice e)) (hi : (P.info? e).map (λ i => (i.zero, i.size, i.bytes)) = some (some z, m, by_)) (hm : R.size = m) (h0 : 0 < m) (hz : z.cells.size = m) (hz1 : z.cells.toList.all (·.oneCell') = true)
  (hr : ∀ (j : Nat) u, z.cells[j]? = some u → R.raw j u) (h : R.SOwn e by_ w B (Rep.blkOf A) A c l) (hR : R.Bare) (hk : k ≤ l.length) (hq : 0 < q) (hkq : k + q ≤ c) (hA : ∃ b, A = some ⟨b, 0, none⟩) (hx : ev E x = some (.slice (sA A c k m) q (c - k)))
  (hK : ∀ w1, Mod (Rep.blkOf A) w w1 → R.SOwn e by_ w1 B (Rep.blkOf A) A c (l.take k) → WL P n ops Q rest E w1) :
  WL P n ops Q (⟨none, .call { callee := .builtin .clear, args := #[x], argTypes := #[t] }, ty, pos, af, none⟩ :: rest) E w := by
 obtain ⟨b, rfl⟩ := hA
 obtain ⟨w1, hmod, hS, hrun⟩ := run_clear_own (ty := ty) ht hi hm h0 hz hz1 hr h hR hk hq hkq
 have hsA : sA (some ⟨b, 0, none⟩) c k m = some ⟨b, k * m, none⟩ := by
  unfold sA; rw [if_neg (by omega)]; simp [Addr.add]; try omega
 rw [hsA] at hx
 refine uv (v := .tuple #[]) (w' := w1) (bi (vs := [.slice (some ⟨b, k * m, none⟩) q (c - k)]) (by simp only [evs, hx]) λ cs => ?_) (hK w1 hmod hS)
 simp only [builtin, Sem.run_bind, hrun, Result.andThen_ok, Sem.run_pure]
theorem s3 {A : Option Addr} {len cap e s : Nat} {k k' k2 : IntKind} {x1 x2 x3 : Operand} (lo hi mx : Nat) {i j m : Int} (ht : P.underlying t = some (.slice e)) (hs : Sz P e s) (hx : ev E x = some (.slice A len cap)) (hy : ev E x1 = some (.int k i)) (hz : ev E x2 = some (.int k' j)) (hu : ev E x3 = some (.int k2 m)) (hi1 : i = (lo : Int)) (hi2 : j = (hi : Int)) (hi3 : m = (mx : Int)) (h1 : lo ≤ hi) (h2 : hi ≤ mx) (h3 : mx ≤ cap) :
  Runs P E ⟨d, .slice t x (some x1) (some x2) (some x3), ty, pos, af, g⟩ w (sliced A lo hi mx s) w := λ n a ha => by
 subst hi1; subst hi2; subst hi3
 have q1 : P.underlying t = some (.slice (P.elem t)) := by simp [Program.elem, ht]
 have q2 : P.elem t = e := by simp [Program.elem, ht]
 have h3 := run_slice_lhm (P := P) (w := w) t A len cap q1 k k' k2 (lo : Int) (hi : Int) (mx : Int) (by omega) (by omega) (by omega) (by omega)
 have h4 := run_sliceAt_slice (P := P) (w := w) t (.slice A len cap) (some (.int k (lo : Int))) (some (.int k' (hi : Int))) (some (.int k2 (mx : Int))) q1
 rw [q2, hs w] at h3
 simp only [execOp, ha.ev hx, ha.ev hy, ha.ev hz, ha.ev hu, Option.map, h4, h3, Sem.run_bind, Result.andThen_ok, Sem.run_pure, Int.toNat_natCast]
theorem run_append_fit {α : Type} {R : Rep α} {e by_ base gb c c2 : Nat} {a2 : Addr} {l k : List α} (hE : ElT P R t e by_) (hR : R.Bare) (h : R.SOwn e by_ w base (Rep.blkOf (some ⟨gb, 0, none⟩)) (some ⟨gb, 0, none⟩) c l) (h2 : R.SHas by_ w (some a2) c2 k)
  (hfit : l.length + k.length ≤ c) (hbytes : (l.length + k.length) * by_ ≤ 140737488355328) (hbase : base ≤ w.heap.size) :
  ∃ w1, (Builtin.append_ #[t, t] ty #[.slice (some ⟨gb, 0, none⟩) l.length c, .slice (some a2) k.length c2]).run P w = .ok (.slice (some ⟨gb, 0, none⟩) (l.length + k.length) c) w1 ∧ R.SOwn e by_ w1 base (Rep.blkOf (some ⟨gb, 0, none⟩)) (some ⟨gb, 0, none⟩) c (l ++ k) ∧ Mod [gb] w w1 := by
 obtain ⟨i, z, e1, e2, e3, e4, e5, e6, e7, e8⟩ := hE
 obtain ⟨s1, s2, s3, s4, ess, s5, s6⟩ := h2
 obtain ⟨hb, ps, hf, hn, ho, hall⟩ := id h
 have hcm : c ≤ 9223372036854775807 := h.has.2.1
 have p0 := Rep.SOwn.fsts (E := e) (by_ := by_) (c := c) (A := some ⟨gb, 0, none⟩) hR hall
 have hone : ∀ u ∈ ess.flatten, u.oneCell' = true := λ u hu => by
  obtain ⟨es, hes, hu⟩ := List.mem_flatten.1 hu
  obtain ⟨b, hb⟩ := s5.left es hes
  exact R.one hb u hu
 obtain ⟨v', w1, hrun, hO, hg, _, _⟩ := run_append_all (P := P) w base t ty e i z R.size by_ e1 e2 e3 e4 e5 e6 e7 R.raw e8 _ l.length _ ho (some a2) k.length c2 ess.flatten s6 hone (λ j u hu => flat_raw s5 e7 hu) (by simp only [maxLen]; omega) hbytes hbase
 obtain ⟨hx1, hx2⟩ := ho
 have hnews : ess.flatten.length = k.length * R.size := s6.1
 rcases hx2 with ⟨hx2, _⟩ | ⟨g2, cap, cur, hv, hB, hh, hnc, hcm2, hcs, ht2, hG⟩
 ·exact nomatch hx2
 ·injection hv with e1' e2' e3'
  injection e1' with e1'
  injection e1' with e1'
  subst e1' e3'
  have hroom := run_append_room (P := P) w t ty e i e1 e2 gb l.length c cur hh a2 k.length c2 ess.flatten (by rw [hnews, e4]) (λ j u hu => by
   rcases Nat.eq_zero_or_pos k.length with h0 | h0
   ·have : ess.flatten = [] := List.eq_nil_of_length_eq_zero (by rw [hnews, h0, Nat.zero_mul])
    rw [this] at hu; simp at hu
   ·obtain ⟨b, o, h, hc⟩ := s6.2 h0
    injection h with h
    subst h
    rw [addAt]
    exact hc j u hu) hone hfit (by rw [hnews, hcs, e4, ← Nat.add_mul]; exact Nat.mul_le_mul_right _ hfit)
  rw [hroom] at hrun
  injection hrun with hv2 hw2
  subst hv2
  have hm : Mod [gb] w w1 := by
   have := Mod.grown hg
   exact this
  refine ⟨w1, by rw [hroom, hw2], ?_, hm⟩
  obtain ⟨p1, p2⟩ := Rep.plain_map ess
  have hl2 : (l ++ k).length = l.length + k.length := List.length_append
  refine ⟨by rw [hl2]; exact hbytes, ps ++ ess.map λ es => (([] : List Nat), es), ?_, hn, ?_, ?_⟩
  ·rw [List.map_append, List.flatten_append, p1, List.append_nil]; exact hf
  ·rw [hl2, List.map_append, List.flatten_append, p2]; exact hO
  ·refine All2.app (hall.imp λ y a hy hyo => R.okeep hyo λ q hq => ?_) ?_
   ·rw [p0 y hy] at hq; simp at hq
   ·exact (Rep.All2.plain (w := w) (B := base) hR.1 s5).imp λ y a hy hyo => R.okeep hyo λ q hq => by rw [hR.2 hyo] at hq; simp at hq
theorem apf {α : Type} {R : Rep α} {e by_ base c c2 : Nat} {A : Option Addr} {A2 : Option Addr} {dd : Nat} {l k : List α} (hE : ElT P R t e by_) (hR : R.Bare) (h : R.SOwn e by_ w base (Rep.blkOf A) A c l) (hA : ∃ b, A = some ⟨b, 0, none⟩) (h2 : R.SHas by_ w A2 c2 k) (hA2 : ∃ a, A2 = some a)
  (hs : ev E x = some (.slice A l.length c)) (hx : ev E y = some (.slice A2 k.length c2)) (hfit : l.length + k.length ≤ c) (hbytes : (l.length + k.length) * by_ ≤ 140737488355328) (hbase : base ≤ w.heap.size) (hd : Nat.blt dd n = true)
  (hk : ∀ w1, Mod (Rep.blkOf A) w w1 → R.SOwn e by_ w1 base (Rep.blkOf A) A c (l ++ k) → WL P n ops Q rest ((dd, .slice A (l.length + k.length) c) :: E) w1) :
  WL P n ops Q (⟨some dd, .call { callee := .builtin .append, args := #[x, y], argTypes := #[t, t] }, ty, pos, af, none⟩ :: rest) E w := by
 obtain ⟨b, rfl⟩ := hA
 obtain ⟨a2, rfl⟩ := hA2
 obtain ⟨w1, hrun, hO, hm⟩ := run_append_fit (ty := ty) hE hR h h2 hfit hbytes hbase
 exact vl (w' := w1) (bi (vs := [.slice (some ⟨b, 0, none⟩) l.length c, .slice (some a2) k.length c2]) (by simp only [evs, hs, hx]) λ cs => by simp only [builtin, Sem.run_bind, hrun, Result.andThen_ok, Sem.run_pure]) hd (hk w1 hm hO)
theorem intDiv_rem {k : IntKind} {i j : Int} (h0 : 0 ≤ i) (h1 : 0 < j) : Op.intDiv .rem k i j = pure (.int k (i % j)) := by
 unfold Op.intDiv
 have e : i.tmod j = i % j := Int.tmod_eq_emod_of_nonneg h0
 rw [if_neg (by omega)]
 simp only [e]
section
variable {k : IntKind} {i j : Int} {u : TypeId}
theorem bre (hx : ev E x = some (.int k i)) (hy : ev E y = some (.int k j)) (h0 : 0 ≤ i) (h1 : 0 < j) : Runs P E ⟨d, .binOp .rem t x y u, ty, pos, af, g⟩ w (.int k (i % j)) w := run_bin hx hy (binOp_rem t k i j) (by rw [intDiv_rem h0 h1]; rfl)
end
end
end
end Go.Proofs.Ytmpkaphcpaigdaa
