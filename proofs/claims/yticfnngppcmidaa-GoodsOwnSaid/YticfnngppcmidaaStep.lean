/-
  A call of a Go function as one step of a region that draws its order, its callee's number said outright.
-/
import Derived.Test.YticfnngppcmidaaBase
import Derived.Handy
import Derived.Deep.RegionLaw
import Derived.Deep.QuietTactic
import Derived.BigQuiet
set_option linter.unusedVariables false
namespace Go.Proofs.Yticfnngppcmidaa
open Go.RowKit

theorem run_enter {P : Program} {w : World} {o : Oper} {a : Act} (f : FuncId) (fn : Func) (hf : P.funcs[f]? = some fn) (hn : (fn.name == "runtime.NumGoroutine") = false) (hb : fn.body.isNone = false)
    (xs : Array Operand) (ts : Array TypeId) (hop : o.op = Op.call { callee := Callee.value (Operand.func f), args := xs, argTypes := ts }) (args : Array Value) (hargs : xs.map a.eval = args) :
    (execOp a.eval o).run P w = .ok (.enter f args) w := by
  unfold execOp
  have he : a.eval (.func f) = .func (.func f) #[] #[] := rfl
  have hp : Sem.run P program w = .ok P w := rfl
  simp only [hop, resolve, invoke, Deferred.ofValue, he, callFunc, Sem.run_bind, Sem.run_pure, Result.andThen_ok, hargs, hp, hf, hn, hb, Array.empty_append, Array.append_empty, Bool.false_eq_true, if_false]
theorem step_call {P : Program} {ops : Array Oper} {o : Oper} {a : Act} {w : World} {K : Act → World → Prop} {Q : Exit → Act → World → Prop} {E : Prop}
    (hg : o.guard = none) (f : FuncId) (fn : Func) (hf : P.funcs[f]? = some fn) (hn : (fn.name == "runtime.NumGoroutine") = false) (hb : fn.body.isNone = false)
    (xs : Array Operand) (ts : Array TypeId) (hop : o.op = Op.call { callee := Callee.value (Operand.func f), args := xs, argTypes := ts }) (args : Array Value) (hargs : xs.map a.eval = args)
    (hc : Calls P f args w fun e w' => ∃ v, e = .returned v ∧ K (a.put o.dst v) w') :
    if Region.wanted o (yielded ops a.tmps) = true then Oper.wp P o a w K Q else E := by
  have hw : Region.wanted o (yielded ops a.tmps) = true := by simp [Region.wanted, hg]
  rw [if_pos hw]
  unfold Oper.wp
  rw [run_enter f fn hf hn hb xs ts hop args hargs, Oper.upon_enter]
  refine hc.mono fun e w'' hh => ?_
  obtain ⟨v, rfl, h⟩ := hh
  exact h
/-- One step further: behind a draw. -/
theorem below_on {wr w1 w' : World} (h : Below wr.heap.size wr w1) (h2 : Below w1.heap.size w1 w') : Below wr.heap.size wr w' := h.trans (h2.mono h.size)
theorem below_onD {wr w1 w' : World} (h : Below wr.heap.size wr w1) (h2 : Below w1.drew.heap.size w1.drew w') : Below wr.heap.size wr w' := h.drew.trans (h2.mono h.size)
theorem below_onN {wr w1 w' : World} {n : Nat} (h : Below wr.heap.size wr w1) (h2 : Below (w1.drewN n).heap.size (w1.drewN n) w') : Below wr.heap.size wr w' := (below_drewN h n).trans (h2.mono h.size)
/-- A region that draws its order and holds loads, guards and calls that make memory: ONE walk, in the text's order; what it loads is below the heap's size. -/
theorem wp_region_below {P : Program} {id : Nat} {Q : Exit → Act → World → Prop} {a : Act} {w : World} {l : List Oper} (hm : P.follows .mixedOrders = true) (hB : Region.lexB .any l.toArray = true)
    (h : wpQuiet P l.toArray (fun w' => Below w.heap.size w w') (fun a' => ∀ w', Below w.heap.size w w' → Q .normal a' w') l a) : (Code.region id l.toArray true).wp P Q a w :=
  wp_region_quiet (C := fun w' => Below w.heap.size w w') hm hB (below_drewN (Below.refl _ w) 1) (by simpa using h)
theorem quiet_val {P : Program} {o : Oper} {a : Act} {C : World → Prop} {w : World} {v : Value} (h : (execOp a.eval o).run P w = .ok (.value v) w) : o.quietAt P a C w v := by
  unfold Oper.quietAt
  rw [h]
  exact ⟨rfl, rfl⟩
theorem quiet_call {P : Program} {o : Oper} {a : Act} {C : World → Prop} {w : World} {v : Value} {f : FuncId} {args : Array Value} (h : (execOp a.eval o).run P w = .ok (.enter f args) w) (hc : Calls P f args w fun e w'' => e = .returned v ∧ C w'') : o.quietAt P a C w v := by
  unfold Oper.quietAt
  rw [h]
  exact ⟨rfl, hc⟩
theorem quiet_val2 {P : Program} {o : Oper} {a : Act} {C : World → Prop} {w : World} {v : Value} {r : Result Next} (h : (execOp a.eval o).run P w = r) (hr : r = .ok (.value v) w) : o.quietAt P a C w v := quiet_val (h.trans hr)
theorem quiet_call2 {P : Program} {o : Oper} {a : Act} {C : World → Prop} {w : World} {v : Value} {f : FuncId} {args : Array Value} {r : Result Next} (h : (execOp a.eval o).run P w = r) (hr : r = .ok (.enter f args) w) (hc : Calls P f args w fun e w'' => e = .returned v ∧ C w'') : o.quietAt P a C w v := quiet_call (h.trans hr) hc
end Go.Proofs.Yticfnngppcmidaa
