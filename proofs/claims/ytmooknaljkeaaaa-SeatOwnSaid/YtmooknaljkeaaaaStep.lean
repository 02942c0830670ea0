/-
  A call of a Go function as one step of a region that draws its order, its callee's number said outright.
-/
import Derived.Test.YtmooknaljkeaaaaBase
import Derived.Handy
import Derived.Deep.RegionLaw
set_option linter.unusedVariables false
namespace Go.Proofs.Ytmooknaljkeaaaa
open Go.RowKit

theorem run_enter {P : Program} {w : World} {o : Oper} {a : Act} (f : FuncId) (fn : Func) (hf : P.funcs[f]? = some fn) (hn : (fn.name == "runtime.NumGoroutine") = false) (hb : fn.body.isNone = false)
    (xs : Array Operand) (ts : Array TypeId) (hop : o.op = Op.call { callee := Callee.value (Operand.func f), args := xs, argTypes := ts }) (args : Array Value) (hargs : xs.map a.eval = args) :
    (execOp a.eval o).run P w = .ok (.enter f args) w := by
  unfold execOp
  have he : a.eval (.func f) = .func (.func f) #[] #[] := rfl
  have hp : Sem.run P program w = .ok P w := rfl
  simp only [hop, resolve, invoke, Deferred.ofValue, he, callFunc, Sem.run_bind, Sem.run_pure, Result.andThen_ok, hargs, hp, hf, hn, hb, Array.empty_append, Array.append_empty, Bool.false_eq_true, if_false]
theorem step_call {P : Program} {ops : Array Oper} {o : Oper} {a : Act} {w : World} {K : Act → World → Prop} {Q : Exit → Act → World → Prop} {E : Prop}
    (hg : o.guard = none) (f : FuncId) (fn : Func) (hf : P.funcs[f]? = some fn) (hn : (fn.name == "runtime.NumGoroutine") = false) (hb : fn.body.isNone = false)
    (xs : Array Operand) (ts : Array TypeId) (hop : o.op = Op.call { callee := Callee.value (Operand.func f), args := xs, argTypes := ts }) (args : Array Value) (hargs : xs.map a.eval = args)
    (hc : Calls P f args w fun e w' => ∃ v, e = .returned v ∧ K (a.put o.dst v) w') :
    if Region.wanted o (yielded ops a.tmps) = true then Oper.wp P o a w K Q else E := by
  have hw : Region.wanted o (yielded ops a.tmps) = true := by simp [Region.wanted, hg]
  rw [if_pos hw]
  unfold Oper.wp
  rw [run_enter f fn hf hn hb xs ts hop args hargs, Oper.upon_enter]
  refine hc.mono fun e w'' hh => ?_
  obtain ⟨v, rfl, h⟩ := hh
  exact h
end Go.Proofs.Ytmooknaljkeaaaa
