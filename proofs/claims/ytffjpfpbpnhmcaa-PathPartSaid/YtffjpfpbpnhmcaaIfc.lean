/-
  Values of interface types: made, asserted; their methods called.
-/
import Derived.Test.YtffjpfpbpnhmcaaGol
set_option linter.unusedVariables false
set_option linter.unusedSimpArgs false
namespace Go.Proofs.Ytffjpfpbpnhmcaa
open Go.RowKit

section
variable {P : Program} {n : Nat} {E : List (Nat × Value)} {w w' : World} {Q : Exit → Act → World → Prop} {ops : Array Oper} {ty : TypeId} {pos : String} {af : Array Edge} {rest : List Oper} {x y z : Operand} {t u : TypeId} {v rv : Value} {d : Option Nat} {g : Option (Nat × Bool)}
/-- Which function a method is, and what it is called at. -/
def Meth (P : Program) (w : World) (t : TypeId) (v : Value) (name : String) (f : FuncId) (rv : Value) : Prop := (Go.method (P.types.size + Made.depth) t v name).run P w = .ok (f, rv) w
theorem run_inv {f : FuncId} {name : String} (hf : Enters P f) {xs : Array Operand} {ts : Array TypeId} {args : List Value} {a : Act} (ha : Agr n E a) (hr : ev E x = some (.iface t v)) (he : evs E xs.toList = some args) (hm : Meth P w t v name f rv) :
    (execOp a.eval ⟨d, .call { callee := .invoke x name, args := xs, argTypes := ts }, ty, pos, af, g⟩).run P w = .ok (.enter f (rv :: args).toArray) w := by
  obtain ⟨fn, h1, h2, h3⟩ := hf
  have hx : xs.map a.eval = args.toArray := by rw [← ha.evs he]; apply Array.ext'; simp
  unfold Meth at hm
  have e0 : (#[(Value.iface t v)] ++ args.toArray)[0]? = some (.iface t v) := by simp
  have e1 : (#[(Value.iface t v)] ++ args.toArray).extract 1 (#[(Value.iface t v)] ++ args.toArray).size = args.toArray := by simp
  have e2 : #[rv] ++ args.toArray = (rv :: args).toArray := by simp
  have hp : Sem.run P program w = .ok P w := rfl
  simp only [execOp, resolve, hx, ha.ev hr, Sem.run_bind, Sem.run_pure, Result.andThen_ok, invoke, e0, e1, callMethod, callFunc, hp, hm, h1, h2, h3, e2, Bool.false_eq_true, if_false]
/-- A method called. -/
theorem iv {d : Nat} {f : FuncId} {name : String} (hf : Enters P f) {xs : Array Operand} {ts : Array TypeId} {args : List Value} (hr : ev E x = some (.iface t v)) (he : evs E xs.toList = some args) (hm : Meth P w t v name f rv) (hd : Nat.blt d n = true)
    (h : Calls P f (rv :: args).toArray w fun e w' => ∃ v, e = .returned v ∧ WL P n ops Q rest ((d, v) :: E) w') : WL P n ops Q (⟨some d, .call { callee := .invoke x name, args := xs, argTypes := ts }, ty, pos, af, none⟩ :: rest) E w := fun a ha => by
  refine WL_one rfl ?_
  unfold Oper.wp
  rw [run_inv hf ha hr he hm]
  refine Calls.mono h fun e w' hh => ?_
  obtain ⟨v, rfl, h⟩ := hh
  exact h _ (ha.put hd v)
/-- .. under a guard. -/
theorem ivC {d : Nat} {f : FuncId} {name : String} {xs : Array Operand} {ts : Array TypeId} {args : List Value} {j : Nat} {q b c : Bool} {oj : Oper} {dj : Nat} {v0 : Value} (hj : ops[j]? = some oj) (hdj : oj.dst = some dj) (hb : look E dj = some (.bool b)) (hc : (b == q) = c)
    (hf : Enters P f) (hx : c = true → ev E x = some (.iface t v0)) (he : c = true → evs E xs.toList = some args) (hm : Meth P w t v0 name f rv) (hr : c = true → Calls P f (rv :: args).toArray w fun e w' => e = .returned v ∧ Ext w w') (hd : Nat.blt d n = true)
    (h : ∀ w', Ext w w' → WL P n ops Q rest ((d, gv c v) :: E) w') : WL P n ops Q (⟨some d, .call { callee := .invoke x name, args := xs, argTypes := ts }, ty, pos, af, some (j, q)⟩ :: rest) E w :=
  wl_if (c := c) (fun a ha => by rw [wanted_some (o := ⟨some d, _, ty, pos, af, some (j, q)⟩) rfl hj hdj hb ha, hc])
    (fun hc a ha => by unfold Oper.wp; rw [run_inv hf ha (hx hc) (he hc) hm]; exact (hr hc).mono fun e w' ⟨h1, hxx⟩ => by subst h1; subst hc; exact h w' hxx _ (ha.put hd v)) (fun hc a ha => by subst hc; exact h w (Ext.rf w) _ (ha.put hd undef))
theorem mkI (hr : ∀ w, (Instr.makeInterface t v).run P w = .ok (.iface t v) w) (hx : ev E x = some v) : Runs P E ⟨d, .makeInterface t x, ty, pos, af, g⟩ w (.iface t v) w := fun n a ha => by
  simp only [execOp, ha.ev hx, Sem.run_bind, hr w, Result.andThen_ok, Sem.run_pure]
theorem tyA {t' : TypeId} (hr : ∀ w, (Instr.typeAssert (.iface t v) t' t false).run P w = .ok v w) (hx : ev E x = some (.iface t v)) : Runs P E ⟨d, .typeAssert x t' t false, ty, pos, af, g⟩ w v w := fun n a ha => by
  simp only [execOp, ha.ev hx, Sem.run_bind, hr w, Result.andThen_ok, Sem.run_pure]
theorem meth_val {e : TypeId} {p : Addr} {name : String} {f : FuncId} (h : (Go.method (P.types.size + Made.depth) t (.pointer (some p)) name).run P w = (loadVar e p >>= fun x => pure (f, x)).run P w) (hl : Lds P w e p v) : Meth P w t (.pointer (some p)) name f v := by
  unfold Meth
  unfold Lds at hl
  rw [h]
  simp only [Sem.run_bind, hl, Result.andThen_ok, Sem.run_pure]
end
end Go.Proofs.Ytffjpfpbpnhmcaa
