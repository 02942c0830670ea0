/-
  The walk over slots, go on: regions that draw, stores, builtins, slices.
-/
import Derived.Test.YticfnngppcmidaaLog
import Derived.Test.YticfnngppcmidaaRepC
import Derived.Test.YticfnngppcmidaaNum
import Derived.Laws.CopyRow
set_option linter.unusedVariables false
namespace Go.Proofs.Yticfnngppcmidaa
open Go.RowKit

section
variable {P : Program} {n : Nat} {E E' : List (Nat × Value)} {a : Act} {w w' w0 w1 : World} {Q : Exit → Act → World → Prop} {ops : Array Oper} {v : Value} {kd : Nat → Nat}
variable {d : Option Nat} {ty : TypeId} {pos : String} {af : Array Edge} {g : Option (Nat × Bool)} {x y z : Operand} {t : TypeId} {rest : List Oper} {τ : List Nat} {i : Nat}
/-! ### Regions that draw -/
def FL (P : Program) (n : Nat) (ops : Array Oper) (Q : Exit → Act → World → Prop) (kd : Nat → Nat) (τ : List Nat) (E : List (Nat × Value)) (w0 : World) : Prop := ∀ a, Agr n E a → wpFlow P ops (nrm (Q .normal)) kd τ a w0
/-- The kinds that are said; all else worldless. -/
def kds (l : List (Nat × Nat)) (i : Nat) : Nat := match l with
  | [] => 1
  | (j, k) :: r => match Nat.beq j i with | true => k | false => kds r i
theorem rd {id : Nat} (ks : List (Nat × Nat)) (τ : List Nat) (hm : P.follows .mixedOrders = true) (hB : (Region.noSelect ops && (τ.length == ops.size) && flowB ops (kds ks) τ (Array.replicate ops.size false)) = true)
    (h : FL P n ops Q (kds ks) τ E w) : W P n (.region id ops true) Q E w := fun a ha => region_flow τ hm hB (h a ha)
theorem fn (h : ∀ w, Ext w0 w → N n Q E w) : FL P n ops Q kd [] E w0 := fun a ha w hw => h w hw a ha
theorem wanted_none {o : Oper} (hg : o.guard = none) : Region.wanted o (yielded ops a.tmps) = true := by simp [Region.wanted, hg]
/-- Quiet. -/
theorem fq {d : Nat} {op : Op} (hi : ops[i]? = some ⟨some d, op, ty, pos, af, none⟩) (hk : kd i = 0) (hr : ∀ w, Ext w0 w → Runs P E ⟨some d, op, ty, pos, af, none⟩ w v w) (hd : Nat.blt d n = true)
    (h : FL P n ops Q kd τ ((d, v) :: E) w0) : FL P n ops Q kd (i :: τ) E w0 := fun a ha =>
  ⟨_, hi, .inl ⟨hk, v, .inl ⟨wanted_none rfl, fun w hw => by rw [hr w hw n a ha]; exact ⟨rfl, rfl⟩⟩, h _ (ha.put hd v)⟩⟩
/-- Worldless. -/
theorem fw {d : Nat} {op : Op} (hi : ops[i]? = some ⟨some d, op, ty, pos, af, none⟩) (hk : kd i = 1) (hr : ∀ w, Runs P E ⟨some d, op, ty, pos, af, none⟩ w v w) (hd : Nat.blt d n = true)
    (h : FL P n ops Q kd τ ((d, v) :: E) w0) : FL P n ops Q kd (i :: τ) E w0 := fun a ha =>
  ⟨_, hi, .inr (.inl ⟨hk, v, .inl ⟨wanted_none rfl, fun w => hr w n a ha⟩, h _ (ha.put hd v)⟩)⟩
/-- A quiet call. -/
theorem fc {d : Nat} {f : FuncId} {xs : Array Operand} {ts : Array TypeId} {args : List Value} (hi : ops[i]? = some ⟨some d, .call { callee := .value (.func f), args := xs, argTypes := ts }, ty, pos, af, none⟩) (hk : kd i = 0) (hf : Enters P f) (he : evs E xs.toList = some args)
    (hr : ∀ w, Ext w0 w → Calls P f args.toArray w fun e w' => e = .returned v ∧ Ext w w') (hd : Nat.blt d n = true)
    (h : FL P n ops Q kd τ ((d, v) :: E) w0) : FL P n ops Q kd (i :: τ) E w0 := fun a ha =>
  ⟨_, hi, .inl ⟨hk, v, .inl ⟨wanted_none rfl, fun w hw => by rw [run_call hf ha he]; exact ⟨rfl, hr w hw⟩⟩, h _ (ha.put hd v)⟩⟩
/-- Under a guard: the slot of the guard holds 'b', and 'b' is wanted to be 'q'. -/
theorem wanted_some {o : Oper} {j : Nat} {q b : Bool} {oj : Oper} {dj : Nat} (hg : o.guard = some (j, q)) (hj : ops[j]? = some oj) (hdj : oj.dst = some dj) (hb : look E dj = some (.bool b)) (ha : Agr n E a) : Region.wanted o (yielded ops a.tmps) = (b == q) := by
  have := ha.g _ _ hb
  cases b <;> cases q <;> simp [Region.wanted, hg, yielded, hj, hdj, this]
theorem fQ {d : Nat} {op : Op} {j : Nat} {q b c : Bool} {oj : Oper} {dj : Nat} (hi : ops[i]? = some ⟨some d, op, ty, pos, af, some (j, q)⟩) (hk : kd i = 0) (hj : ops[j]? = some oj) (hdj : oj.dst = some dj) (hb : look E dj = some (.bool b)) (hc : (b == q) = c)
    (hr : c = true → ∀ w, Ext w0 w → Runs P E ⟨some d, op, ty, pos, af, some (j, q)⟩ w v w) (hd : Nat.blt d n = true)
    (h : FL P n ops Q kd τ ((d, gv c v) :: E) w0) : FL P n ops Q kd (i :: τ) E w0 := fun a ha => by
  have hw := wanted_some (o := ⟨some d, op, ty, pos, af, some (j, q)⟩) rfl hj hdj hb ha
  rw [hc] at hw
  refine ⟨_, hi, .inl ⟨hk, gv c v, ?_, h _ (ha.put hd _)⟩⟩
  cases c with
  | true => exact .inl ⟨hw, fun w hx => by rw [hr rfl w hx n a ha]; exact ⟨rfl, rfl⟩⟩
  | false => exact .inr ⟨hw, rfl⟩
theorem fW {d : Nat} {op : Op} {j : Nat} {q b c : Bool} {oj : Oper} {dj : Nat} (hi : ops[i]? = some ⟨some d, op, ty, pos, af, some (j, q)⟩) (hk : kd i = 1) (hj : ops[j]? = some oj) (hdj : oj.dst = some dj) (hb : look E dj = some (.bool b)) (hc : (b == q) = c)
    (hr : c = true → ∀ w, Runs P E ⟨some d, op, ty, pos, af, some (j, q)⟩ w v w) (hd : Nat.blt d n = true)
    (h : FL P n ops Q kd τ ((d, gv c v) :: E) w0) : FL P n ops Q kd (i :: τ) E w0 := fun a ha => by
  have hw := wanted_some (o := ⟨some d, op, ty, pos, af, some (j, q)⟩) rfl hj hdj hb ha
  rw [hc] at hw
  refine ⟨_, hi, .inr (.inl ⟨hk, gv c v, ?_, h _ (ha.put hd _)⟩)⟩
  cases c with
  | true => exact .inl ⟨hw, fun w => hr rfl w n a ha⟩
  | false => exact .inr ⟨hw, rfl⟩
theorem fC {d : Nat} {f : FuncId} {xs : Array Operand} {ts : Array TypeId} {args : List Value} {j : Nat} {q b c : Bool} {oj : Oper} {dj : Nat} (hi : ops[i]? = some ⟨some d, .call { callee := .value (.func f), args := xs, argTypes := ts }, ty, pos, af, some (j, q)⟩) (hk : kd i = 0) (hj : ops[j]? = some oj) (hdj : oj.dst = some dj) (hb : look E dj = some (.bool b)) (hc : (b == q) = c)
    (hf : Enters P f) (he : c = true → evs E xs.toList = some args)
    (hr : c = true → ∀ w, Ext w0 w → Calls P f args.toArray w fun e w' => e = .returned v ∧ Ext w w') (hd : Nat.blt d n = true)
    (h : FL P n ops Q kd τ ((d, gv c v) :: E) w0) : FL P n ops Q kd (i :: τ) E w0 := fun a ha => by
  have hw := wanted_some (o := ⟨some d, .call { callee := .value (.func f), args := xs, argTypes := ts }, ty, pos, af, some (j, q)⟩) rfl hj hdj hb ha
  rw [hc] at hw
  refine ⟨_, hi, .inl ⟨hk, gv c v, ?_, h _ (ha.put hd _)⟩⟩
  cases c with
  | true => exact .inl ⟨hw, fun w hx => by rw [run_call hf ha (he rfl)]; exact ⟨rfl, hr rfl w hx⟩⟩
  | false => exact .inr ⟨hw, rfl⟩
/-- An allocation or a writer, from the walk of one operation: 'WL' over the operation alone. -/
def Stp (P : Program) (n : Nat) (ops : Array Oper) (o : Oper) (E : List (Nat × Value)) (w : World) (K : List (Nat × Value) → World → Prop) : Prop :=
  ∀ (Q : Exit → Act → World → Prop), (∀ E' w', K E' w' → WL P n ops Q [] E' w') → WL P n ops Q [o] E w
theorem wp_Q {Q1 Q2 : Exit → Act → World → Prop} {o : Oper} {K : Act → World → Prop} (hp : ∀ c a w, ¬ Q1 (.panic c) a w) (ho : ¬ LetsOut Q1) (h : o.wp P a w K Q1) : o.wp P a w K Q2 := by
  unfold Oper.wp at *
  generalize (execOp a.eval o).run P w = r at *
  cases r with
  | ok m w' =>
    cases m <;> simp only [Oper.upon] at h ⊢ <;>
      first
        | exact h
        | exact Calls.mono h (fun e w'' he => by cases e <;> first | exact he | exact (hp _ _ _ he).elim | exact (ho he).elim)
  | halt x w' => cases x <;> simp only [Oper.upon] at h ⊢ <;> first | exact h | exact (hp _ _ _ h).elim
theorem stp_op {o : Oper} (hg : o.guard = none) (hi : ops[i]? = some o) {K : Act → World → Prop} {E : List (Nat × Value)} {w : World} {K' : List (Nat × Value) → World → Prop} (h : Stp P n ops o E w K') (hK : ∀ E' w' a', K' E' w' → Agr n E' a' → K a' w') (ha : Agr n E a) :
    wpOp P ops (nrm (Q .normal)) i K a w := by
  have := h (nrm K) (fun E' w' hk a' ha' => hK E' w' a' hk ha') a ha
  unfold wpList at this
  unfold wpOp
  simp only [hi]
  rw [if_pos (wanted_none hg)] at this ⊢
  rcases this with h | ⟨h, a, w, h2⟩
  · exact .inl (wp_Q (fun _ _ _ h => h) (fun ⟨_, _, h⟩ => h) h)
  · exact h2.elim
theorem fx {o : Oper} (hg : o.guard = none) (hi : ops[i]? = some o) (hk : kd i = 2) (h : ∀ w, Ext w0 w → Stp P n ops o E w fun E' w' => Ext w0 w' ∧ FL P n ops Q kd τ E' w') : FL P n ops Q kd (i :: τ) E w0 := fun a ha =>
  ⟨_, hi, .inr (.inr ⟨by omega, fun w hw => stp_op hg hi (h w hw) (fun E' w' a' hk ha' => ⟨fun _ => hk.1, hk.2 a' ha'⟩) ha⟩)⟩
theorem fb {o : Oper} (hg : o.guard = none) (hi : ops[i]? = some o) (hk : kd i = 3) (h : ∀ w, Ext w0 w → Stp P n ops o E w fun E' w' => FL P n ops Q kd τ E' w') : FL P n ops Q kd (i :: τ) E w0 := fun a ha =>
  ⟨_, hi, .inr (.inr ⟨by omega, fun w hw => stp_op hg hi (h w hw) (fun E' w' a' hk ha' => ⟨fun h2 => by omega, hk a' ha'⟩) ha⟩)⟩
end
end Go.Proofs.Yticfnngppcmidaa
