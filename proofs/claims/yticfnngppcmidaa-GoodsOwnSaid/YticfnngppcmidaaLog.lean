/-
  A walk over slots that are known by a list: one lemma an operation, no simplifier.
  The walk over slots, go on: regions that draw, stores, builtins, slices.
  The walk over slots: what of memory has turned; stores; builtins; slices of flat things.
-/
import Derived.Test.YticfnngppcmidaaFlow
import Derived.Test.YticfnngppcmidaaStep
import Derived.Test.YticfnngppcmidaaRep
import Derived.Laws.Cells
import Derived.Laws.Entries
import Derived.Laws.NewFold
import Derived.Test.YticfnngppcmidaaRepC
import Derived.Test.YticfnngppcmidaaNum
import Derived.Laws.CopyRow
set_option linter.unusedVariables false
namespace Go.Proofs.Yticfnngppcmidaa
open Go.RowKit

abbrev Env := List (Nat × Value)
def look : List (Nat × Value) → Nat → Option Value
  | [], _ => none
  | (k, v) :: r, t => match Nat.beq k t with | true => some v | false => look r t
structure Agr (n : Nat) (E : List (Nat × Value)) (a : Act) : Prop where
  d : a.defers = []
  s : a.tmps.size = n
  g : ∀ t v, look E t = some v → a.tmps[t]? = some v
def ev (E : List (Nat × Value)) : Operand → Option Value
  | .tmp t => look E t
  | .const v => some v
  | .global g => some (.pointer (some ⟨g, 0, none⟩))
  | .func f => some (.func (.func f) #[] #[])
def evs (E : List (Nat × Value)) : List Operand → Option (List Value)
  | [] => some []
  | x :: r => match ev E x with
    | some v => match evs E r with
      | some l => some (v :: l)
      | none => none
    | none => none
section
variable {P : Program} {n : Nat} {E E' : List (Nat × Value)} {a : Act} {w w' w1 : World} {Q : Exit → Act → World → Prop} {ops : Array Oper} {v : Value}
theorem Agr.ev {x : Operand} (h : Agr n E a) (hx : ev E x = some v) : a.eval x = v := by
  cases x with
  | tmp t => have := h.g t v hx; simp [Act.eval, this]
  | const u => exact Option.some.inj hx
  | global g => exact Option.some.inj hx
  | func f => exact Option.some.inj hx
theorem Agr.evs (h : Agr n E a) : ∀ {l : List Operand} {vs : List Value}, evs E l = some vs → l.map a.eval = vs
  | [], _, e => by simp only [Proofs.Yticfnngppcmidaa.evs] at e; exact Option.some.inj e
  | x :: r, vs, e => by
    simp only [Proofs.Yticfnngppcmidaa.evs] at e
    cases hx : Proofs.Yticfnngppcmidaa.ev E x with
    | none => rw [hx] at e; cases e
    | some v =>
      rw [hx] at e
      simp only at e
      cases hr : Proofs.Yticfnngppcmidaa.evs E r with
      | none => rw [hr] at e; cases e
      | some l =>
        rw [hr] at e
        simp only at e
        obtain rfl := Option.some.inj e
        rw [List.map_cons, h.ev hx, Agr.evs h hr]
theorem Agr.put {d : Nat} (h : Agr n E a) (hd : Nat.blt d n = true) (v : Value) : Agr n ((d, v) :: E) (a.put (some d) v) := by
  rw [Nat.blt_eq] at hd
  refine ⟨h.d, by simp [Act.put, h.s], fun t u hu => ?_⟩
  simp only [look] at hu
  cases hb : Nat.beq d t with
  | true =>
    rw [hb] at hu
    obtain rfl : d = t := Nat.eq_of_beq_eq_true hb
    obtain rfl := Option.some.inj hu
    simp [Act.put, h.s, hd]
  | false =>
    rw [hb] at hu
    have hne : d ≠ t := Nat.ne_of_beq_eq_false hb
    simp only [Act.put]
    rw [Array.getElem?_setIfInBounds_ne hne]
    exact h.g t u hu
theorem Agr.none (h : Agr n E a) (v : Value) : Agr n E (a.put none v) := h
/-- What one list tells, another one tells too. -/
def Sub (E' E : List (Nat × Value)) : Prop := ∀ t v, look E' t = some v → look E t = some v
theorem Sub.nil : Sub [] E := fun t v h => by simp [look] at h
theorem Sub.cons {k : Nat} (h : look E k = some v) (hs : Sub E' E) : Sub ((k, v) :: E') E := fun t u hu => by
  simp only [look] at hu
  cases hb : Nat.beq k t with
  | true => rw [hb] at hu; obtain rfl : k = t := Nat.eq_of_beq_eq_true hb; obtain rfl := Option.some.inj hu; exact h
  | false => rw [hb] at hu; exact hs t u hu
theorem Agr.sub (h : Agr n E a) (hs : Sub E' E) : Agr n E' a := ⟨h.d, h.s, fun t v hv => h.g t v (hs t v hv)⟩
/-! ### Code -/
def W (P : Program) (n : Nat) (c : Code) (Q : Exit → Act → World → Prop) (E : List (Nat × Value)) (w : World) : Prop := ∀ a, Agr n E a → c.wp P Q a w
def N (n : Nat) (Q : Exit → Act → World → Prop) (E : List (Nat × Value)) (w : World) : Prop := ∀ a, Agr n E a → Q .normal a w
def X (n : Nat) (Q : Exit → Act → World → Prop) (id : Nat) (E : List (Nat × Value)) (w : World) : Prop := ∀ a, Agr n E a → Q (.exit id) a w
def T (n : Nat) (Q : Exit → Act → World → Prop) (E : List (Nat × Value)) (w : World) : Prop := ∀ a, Agr n E a → Q .ret a w
def WL (P : Program) (n : Nat) (ops : Array Oper) (Q : Exit → Act → World → Prop) (l : List Oper) (E : List (Nat × Value)) (w : World) : Prop := ∀ a, Agr n E a → wpList P ops Q l a w
/-- The code behind. -/
abbrev Th (P : Program) (y : Code) (Q : Exit → Act → World → Prop) : Exit → Act → World → Prop := Exit.then (fun a w => y.wp P Q a w) Q
theorem sq {x y : Code} (h : W P n x (Th P y Q) E w) : W P n (.seq x y) Q E w := fun a ha => wp_seq (h a ha)
theorem sk (h : N n Q E w) : W P n .skip Q E w := fun a ha => wp_skip (h a ha)
theorem rt (h : T n Q E w) : W P n .ret Q E w := fun a ha => wp_ret (h a ha)
theorem xt {id : Nat} (h : X n Q id E w) : W P n (.exit id) Q E w := fun a ha => wp_exit (h a ha)
theorem bk {id : Nat} {c : Code} (h : W P n c (Exit.inBlock id Q) E w) : W P n (.block id c) Q E w := fun a ha => wp_block (h a ha)
theorem rg {id : Nat} {l : List Oper} (h : WL P n l.toArray Q l E w) : W P n (.region id l.toArray false) Q E w := fun a ha => wp_region_lit (h a ha)
theorem cT {c : Operand} {x y : Code} (hc : ev E c = some (.bool true)) (h : W P n x Q E w) : W P n (.cond c x y) Q E w := fun a ha => wp_cond_true (ha.ev hc) (h a ha)
theorem cF {c : Operand} {x y : Code} (hc : ev E c = some (.bool false)) (h : W P n y Q E w) : W P n (.cond c x y) Q E w := fun a ha => wp_cond_false (ha.ev hc) (h a ha)
theorem cB {c : Operand} {x y : Code} (b : Bool) (hc : ev E c = some (.bool b)) (h1 : b = true → W P n x Q E w) (h2 : b = false → W P n y Q E w) : W P n (.cond c x y) Q E w :=
  fun a ha => wp_cond_split (ha.ev hc) (fun h => h1 h a ha) (fun h => h2 h a ha)
theorem cb {c : Operand} {x y : Code} {b : Bool} (hc : ev E c = some (.bool b)) (h1 : b = true → W P n x Q E w) (h2 : b = false → W P n y Q E w) : W P n (.cond c x y) Q E w := cB b hc h1 h2
/-- Forget slots. -/
theorem fg {c : Code} (hs : Sub E' E) (h : W P n c Q E' w) : W P n c Q E w := fun a ha => h a (ha.sub hs)
theorem fgL {l : List Oper} (hs : Sub E' E) (h : WL P n ops Q l E' w) : WL P n ops Q l E w := fun a ha => h a (ha.sub hs)
theorem nl (h : N n Q E w) : WL P n ops Q [] E w := h
theorem nT {y : Code} (h : W P n y Q E w) : N n (Th P y Q) E w := h
theorem nB {id : Nat} (h : N n Q E w) : N n (Exit.inBlock id Q) E w := h
theorem xT {y : Code} {id : Nat} (h : X n Q id E w) : X n (Th P y Q) id E w := h
theorem xK {K : Act → World → Prop} {id : Nat} (h : X n Q id E w) : X n (Exit.then K Q) id E w := h
theorem xB {id : Nat} (h : N n Q E w) : X n (Exit.inBlock id Q) id E w := fun a ha => by simp only [Exit.inBlock, if_true]; exact h a ha
theorem xN {id id' : Nat} (hne : Nat.beq id' id = false) (h : X n Q id' E w) : X n (Exit.inBlock id Q) id' E w := fun a ha => by simp only [Exit.inBlock, if_neg (Nat.ne_of_beq_eq_false hne)]; exact h a ha
theorem tT {y : Code} (h : T n Q E w) : T n (Th P y Q) E w := h
theorem tK {K : Act → World → Prop} (h : T n Q E w) : T n (Exit.then K Q) E w := h
theorem tB {id : Nat} (h : T n Q E w) : T n (Exit.inBlock id Q) E w := h
/-! ### Entry and return -/
def argEnv : Nat → List Value → List (Nat × Value)
  | _, [] => []
  | i, v :: r => (i, v) :: argEnv (i + 1) r
theorem argEnv_look : ∀ (l : List Value) (i t : Nat) (v : Value), look (argEnv i l) t = some v → ∃ j, t = i + j ∧ l[j]? = some v
  | [], _, _, _, h => by simp [argEnv, look] at h
  | u :: r, i, t, v, h => by
    simp only [argEnv, look] at h
    cases hb : Nat.beq i t with
    | true => rw [hb] at h; exact ⟨0, by have := Nat.eq_of_beq_eq_true hb; omega, by simpa using h⟩
    | false =>
      rw [hb] at h
      obtain ⟨j, e, hj⟩ := argEnv_look r (i + 1) t v h
      exact ⟨j + 1, by omega, by simpa using hj⟩
theorem calls_W {f : FuncId} {fn : Func} {c : Code} {l : List Value} {R : Ending → World → Prop} (hf : P.funcs[f]? = some fn) (hb : fn.body = some c) (hn : fn.ntmps = n) (hl : Nat.ble l.length n = true)
    (h : W P n c (bodyPost P fn R) (argEnv 0 l) w) : Calls P f l.toArray w R := by
  refine calls_of_wp hf hb (h _ ⟨rfl, ?_, fun t v hv => ?_⟩)
  · have := Nat.le_of_ble_eq_true hl
    simp only [Array.size_append, Array.size_replicate, hn, List.size_toArray]; omega
  · obtain ⟨j, e, hj⟩ := argEnv_look l 0 t v hv
    have hlt := (List.getElem?_eq_some_iff.1 hj).1
    rw [Array.getElem?_append_left (by simp; omega)]
    simpa [show t = j by omega] using hj
inductive Res (P : Program) (E : List (Nat × Value)) (w : World) : List ResultVar → List Value → Prop
  | nil : Res P E w [] []
  | tmp {t : Nat} {v : Value} {r : List ResultVar} {vs : List Value} (h : look E t = some v) (hr : Res P E w r vs) : Res P E w (.tmp t :: r) (v :: vs)
  | cell {t : Nat} {ty : TypeId} {p : Addr} {v : Value} {r : List ResultVar} {vs : List Value} (h : look E t = some (.pointer (some p))) (hl : (loadVar ty p).run P w = .ok v w) (hr : Res P E w r vs) : Res P E w (.cell t ty :: r) (v :: vs)
def tup : List Value → Value
  | [v] => v
  | vs => .tuple vs.toArray
theorem Res.run {l : List ResultVar} {vs : List Value} (h : Res P E w l vs) (ha : Agr n E a) (f : ResultVar → Sem Value) (f1 : ∀ t, f (.tmp t) = pure (a.tmps.getD t undef)) (f2 : ∀ c t, f (.cell c t) = (asAddr (a.tmps.getD c undef) >>= fun p => loadVar t p)) :
    (l.mapM f).run P w = .ok vs w := by
  induction h with
  | nil => rfl
  | @tmp t v r vs h hr ih =>
    have h2 : a.tmps.getD t undef = v := by rw [Array.getD_eq_getD_getElem?, ha.g _ _ h]; rfl
    simp only [List.mapM_cons, Sem.run_bind, f1, h2, Sem.run_pure, Result.andThen_ok, ih]
  | @cell t ty p v r vs h hl hr ih =>
    have h2 : a.tmps.getD t undef = .pointer (some p) := by rw [Array.getD_eq_getD_getElem?, ha.g _ _ h]; rfl
    simp only [List.mapM_cons, Sem.run_bind, f2, h2, asAddr, Sem.run_pure, Result.andThen_ok, hl, ih]
theorem run_results {fn : Func} {vs : List Value} (h : Res P E w fn.results.toList vs) (ha : Agr n E a) : (results fn a.tmps).run P w = .ok (tup vs) w := by
  unfold results
  rw [Array.mapM_eq_mapM_toList]
  simp only [Sem.run_bind, Sem.run_map]
  rw [h.run ha _ (fun _ => rfl) (fun _ _ => rfl)]
  match vs with
  | [] => rfl
  | [v] => rfl
  | _ :: _ :: _ => simp [tup]
theorem tR {fn : Func} {R : Ending → World → Prop} {vs : List Value} (h : Res P E w fn.results.toList vs) (hR : R (.returned (tup vs)) w) : T n (bodyPost P fn R) E w :=
  fun a ha => ⟨ha.d, _, run_results h ha, hR⟩
/-! ### Loops -/
def LI (n : Nat) (I : Nat → List (Nat × Value) → World → Prop) (m : Nat) : Act → World → Prop := fun a w => ∃ m', m' < m ∧ ∃ E', I m' E' w ∧ Agr n E' a
theorem lp {c : Code} (I : Nat → List (Nat × Value) → World → Prop) (m : Nat) (E' : List (Nat × Value)) (h0 : I m E' w) (hs : Sub E' E)
    (round : ∀ m E w, I m E w → W P n c (Exit.then (LI n I m) Q) E w) : W P n (.loop c) Q E w := fun a ha => by
  intro b k cs
  have key : ∀ m a w, (∃ E, I m E w ∧ Agr n E a) → ∃ e a' w', Q e a' w' ∧ Arrives P (lone (b.at a (.code c :: .inLoop c :: k)) cs w) b k cs e a' w' := by
    intro m
    induction m using Nat.strongRecOn with
    | _ m ih =>
      intro a w ⟨E, hI, ha⟩
      obtain ⟨e, a1, w1, hq, harr⟩ := round m E w hI a ha b (.inLoop c :: k) cs
      cases e with
      | normal =>
        obtain ⟨m', hlt, hI1⟩ := hq
        obtain ⟨e2, a2, w2, hq2, harr2⟩ := ih m' hlt a1 w1 hI1
        exact ⟨e2, a2, w2, hq2, .of_steps (Steps.trans harr (.one step_inLoop)) harr2⟩
      | exit id => exact ⟨_, a1, w1, hq, .pass (x := .inLoop c) rfl (fun _ _ => .inl (by simp)) harr⟩
      | goto l => exact ⟨_, a1, w1, hq, .pass (x := .inLoop c) rfl (fun _ _ => .inl (by simp)) harr⟩
      | ret => exact ⟨_, a1, w1, hq, .pass (x := .inLoop c) rfl (fun _ _ => .inl (by simp)) harr⟩
      | panic ch => exact ⟨_, a1, w1, hq, .pass (x := .inLoop c) rfl (fun _ _ => .inl (by simp)) harr⟩
      | outgrown => exact ⟨_, a1, w1, hq, .pass (x := .inLoop c) rfl (fun _ _ => .inl (by simp)) harr⟩
  obtain ⟨e, a', w', hq, harr⟩ := key m a w ⟨E', h0, ha.sub hs⟩
  exact ⟨e, a', w', hq, .of_steps (.one step_loop) harr⟩
theorem nI {I : Nat → List (Nat × Value) → World → Prop} {m : Nat} (m' : Nat) (E' : List (Nat × Value)) (h : I m' E' w) (hm : m' < m) (hs : Sub E' E) : N n (Exit.then (LI n I m) Q) E w :=
  fun a ha => ⟨m', hm, E', h, ha.sub hs⟩
/-! ### Operations -/
variable {d : Option Nat} {ty : TypeId} {pos : String} {af : Array Edge} {g : Option (Nat × Bool)} {x y z : Operand} {t : TypeId} {rest : List Oper}
def Runs (P : Program) (E : List (Nat × Value)) (o : Oper) (w : World) (v : Value) (w' : World) : Prop := ∀ n a, Agr n E a → (execOp a.eval o).run P w = .ok (.value v) w'
def RunU (P : Program) (E : List (Nat × Value)) (o : Oper) (w w' : World) : Prop := ∀ n a, Agr n E a → (execOp a.eval o).run P w = .ok .skip w'
theorem WL_one {o : Oper} (hg : o.guard = none) {a : Act} (h : o.wp P a w (wpList P ops Q rest) Q) : wpList P ops Q (o :: rest) a w := by
  unfold wpList
  rw [if_pos (by simp [Region.wanted, hg])]
  exact .inl h
/-- A value. -/
theorem vl {d : Nat} {op : Op} (hr : Runs P E ⟨some d, op, ty, pos, af, none⟩ w v w') (hd : Nat.blt d n = true) (h : WL P n ops Q rest ((d, v) :: E) w') : WL P n ops Q (⟨some d, op, ty, pos, af, none⟩ :: rest) E w := fun a ha => by
  refine WL_one rfl ?_
  unfold Oper.wp
  rw [hr n a ha]
  exact h _ (ha.put hd v)
/-- A store. -/
theorem us {op : Op} (hr : RunU P E ⟨none, op, ty, pos, af, none⟩ w w') (h : WL P n ops Q rest E w') : WL P n ops Q (⟨none, op, ty, pos, af, none⟩ :: rest) E w := fun a ha => by
  refine WL_one rfl ?_
  unfold Oper.wp
  rw [hr n a ha]
  exact h _ ha
def Enters (P : Program) (f : FuncId) : Prop := ∃ fn, P.funcs[f]? = some fn ∧ (fn.name == "runtime.NumGoroutine") = false ∧ fn.body.isNone = false
theorem run_call {f : FuncId} (hf : Enters P f) {xs : Array Operand} {ts : Array TypeId} {args : List Value} {a : Act} (ha : Agr n E a) (he : evs E xs.toList = some args) :
    (execOp a.eval ⟨d, .call { callee := .value (.func f), args := xs, argTypes := ts }, ty, pos, af, g⟩).run P w = .ok (.enter f args.toArray) w := by
  obtain ⟨fn, h1, h2, h3⟩ := hf
  have hm : xs.map a.eval = args.toArray := by rw [← ha.evs he]; apply Array.ext'; simp
  exact run_enter f fn h1 h2 h3 xs ts rfl _ hm
/-- A call. -/
theorem ca {d : Nat} {f : FuncId} (hf : Enters P f) {xs : Array Operand} {ts : Array TypeId} {args : List Value} (he : evs E xs.toList = some args) (hd : Nat.blt d n = true)
    (h : Calls P f args.toArray w fun e w' => ∃ v, e = .returned v ∧ WL P n ops Q rest ((d, v) :: E) w') : WL P n ops Q (⟨some d, .call { callee := .value (.func f), args := xs, argTypes := ts }, ty, pos, af, none⟩ :: rest) E w := fun a ha => by
  refine WL_one rfl ?_
  unfold Oper.wp
  rw [run_call hf ha he]
  refine Calls.mono h fun e w' hh => ?_
  obtain ⟨v, rfl, h⟩ := hh
  exact h _ (ha.put hd v)
theorem mv (hx : ev E x = some v) : Runs P E ⟨d, .move x, ty, pos, af, g⟩ w v w := fun n a ha => by simp only [execOp, ha.ev hx]; rfl
theorem as_ (hx : ev E x = some v) : Runs P E ⟨d, .assign x, ty, pos, af, g⟩ w v w := fun n a ha => by simp only [execOp, ha.ev hx]; rfl
theorem ex {l : List Value} {k : Nat} (hx : ev E x = some (.tuple l.toArray)) (hk : l[k]? = some v) : Runs P E ⟨d, .extract x k, ty, pos, af, g⟩ w v w := fun n a ha => by
  simp only [execOp, ha.ev hx, Instr.extract, List.getElem?_toArray, hk]; rfl
theorem nc {p : Addr} (hx : ev E x = some (.pointer (some p))) : Runs P E ⟨d, .nilCheck x, ty, pos, af, g⟩ w (.pointer (some p)) w := fun n a ha => by simp only [execOp, ha.ev hx]; rfl
theorem nt {b : Bool} (hx : ev E x = some (.bool b)) : Runs P E ⟨d, .unOp .not t x, ty, pos, af, g⟩ w (.bool !b) w := fun n a ha => by
  simp only [execOp, ha.ev hx]; cases b <;> rfl
theorem pkT {v : Value} (hx : ev E x = some (.bool true)) (hy : ev E y = some v) : Runs P E ⟨d, .pick x y z, ty, pos, af, g⟩ w v w := fun n a ha => by
  simp only [execOp, ha.ev hx, ha.ev hy]; rfl
theorem pkF {v : Value} (hx : ev E x = some (.bool false)) (hz : ev E z = some v) : Runs P E ⟨d, .pick x y z, ty, pos, af, g⟩ w v w := fun n a ha => by
  simp only [execOp, ha.ev hx, ha.ev hz]; rfl
/-- A value that is there under a condition alone. -/
def gv (c : Bool) (v : Value) : Value := if c = true then v else undef
theorem gt {c : Bool} (hc : c = true) (h : ev E x = some (gv c v)) : ev E x = some v := by rw [h, hc]; rfl
/-- 'a || b': b under 'a is false'. -/
theorem pO {b c q : Bool} (hx : ev E x = some (.bool b)) (hy : ev E y = some (.bool true)) (hq : (b == false) = q) (hz : ev E z = some (gv q (.bool c))) : Runs P E ⟨d, .pick x y z, ty, pos, af, g⟩ w (.bool (b || c)) w := fun n a ha => by
  subst hq
  simp only [execOp, ha.ev hx, ha.ev hy, ha.ev hz]; cases b <;> rfl
/-- 'a && b': b under 'a is true'. -/
theorem pA {b c q : Bool} (hx : ev E x = some (.bool b)) (hz : ev E z = some (.bool false)) (hq : (b == true) = q) (hy : ev E y = some (gv q (.bool c))) : Runs P E ⟨d, .pick x y z, ty, pos, af, g⟩ w (.bool (b && c)) w := fun n a ha => by
  subst hq
  simp only [execOp, ha.ev hx, ha.ev hy, ha.ev hz]; cases b <;> rfl
/-! Numbers -/
section
variable {k k' : IntKind} {i j : Int} {u : TypeId}
theorem run_bin {op : BinOp} {s : Sem Value} (hx : ev E x = some (.int k i)) (hy : ev E y = some (.int k' j)) (h : binOp op t (.int k i) (.int k' j) = s) (hr : s.run P w = .ok v w) : Runs P E ⟨d, .binOp op t x y u, ty, pos, af, g⟩ w v w := fun n a ha => by
  simp only [execOp, ha.ev hx, ha.ev hy, eqGuard_at_int, h, Sem.run_bind, Sem.run_pure, Result.andThen_ok, hr]
theorem bad (hx : ev E x = some (.int k i)) (hy : ev E y = some (.int k j)) (h : k.wrap (i + j) = i + j) : Runs P E ⟨d, .binOp .add t x y u, ty, pos, af, g⟩ w (.int k (i + j)) w := run_bin hx hy (binOp_add t k i j) (by simp [Op.intArith, h])
theorem bsu (hx : ev E x = some (.int k i)) (hy : ev E y = some (.int k j)) (h : k.wrap (i - j) = i - j) : Runs P E ⟨d, .binOp .sub t x y u, ty, pos, af, g⟩ w (.int k (i - j)) w := run_bin hx hy (binOp_sub t k i j) (by simp [Op.intArith, h])
theorem bmu (hx : ev E x = some (.int k i)) (hy : ev E y = some (.int k j)) (h : k.wrap (i * j) = i * j) : Runs P E ⟨d, .binOp .mul t x y u, ty, pos, af, g⟩ w (.int k (i * j)) w := run_bin hx hy (binOp_mul t k i j) (by simp [Op.intArith, h])
theorem badW (hx : ev E x = some (.int k i)) (hy : ev E y = some (.int k j)) : Runs P E ⟨d, .binOp .add t x y u, ty, pos, af, g⟩ w (.int k (k.wrap (i + j))) w := run_bin hx hy (binOp_add t k i j) (by simp [Op.intArith])
theorem bsuW (hx : ev E x = some (.int k i)) (hy : ev E y = some (.int k j)) : Runs P E ⟨d, .binOp .sub t x y u, ty, pos, af, g⟩ w (.int k (k.wrap (i - j))) w := run_bin hx hy (binOp_sub t k i j) (by simp [Op.intArith])
theorem bmuW (hx : ev E x = some (.int k i)) (hy : ev E y = some (.int k j)) : Runs P E ⟨d, .binOp .mul t x y u, ty, pos, af, g⟩ w (.int k (k.wrap (i * j))) w := run_bin hx hy (binOp_mul t k i j) (by simp [Op.intArith])
theorem blt (hx : ev E x = some (.int k i)) (hy : ev E y = some (.int k j)) : Runs P E ⟨d, .binOp .lss t x y u, ty, pos, af, g⟩ w (.bool (decide (i < j))) w := run_bin hx hy (binOp_lss t k i j) rfl
theorem ble (hx : ev E x = some (.int k i)) (hy : ev E y = some (.int k j)) : Runs P E ⟨d, .binOp .leq t x y u, ty, pos, af, g⟩ w (.bool (decide (i ≤ j))) w := run_bin hx hy (binOp_leq t k i j) rfl
theorem bgt (hx : ev E x = some (.int k i)) (hy : ev E y = some (.int k j)) : Runs P E ⟨d, .binOp .gtr t x y u, ty, pos, af, g⟩ w (.bool (decide (j < i))) w := run_bin hx hy (binOp_gtr t k i j) rfl
theorem bge (hx : ev E x = some (.int k i)) (hy : ev E y = some (.int k j)) : Runs P E ⟨d, .binOp .geq t x y u, ty, pos, af, g⟩ w (.bool (decide (j ≤ i))) w := run_bin hx hy (binOp_geq t k i j) rfl
theorem beq (hx : ev E x = some (.int k i)) (hy : ev E y = some (.int k j)) : Runs P E ⟨d, .binOp .eql t x y u, ty, pos, af, g⟩ w (.bool (i == j)) w := run_bin hx hy (binOp_eql t k i j) rfl
theorem bne (hx : ev E x = some (.int k i)) (hy : ev E y = some (.int k j)) : Runs P E ⟨d, .binOp .neq t x y u, ty, pos, af, g⟩ w (.bool (i != j)) w := run_bin hx hy (binOp_neq t k i j) rfl
end
/-! Places -/
def Sz (P : Program) (t : TypeId) (k : Nat) : Prop := ∀ w, (sizeOf t).run P w = .ok k w
def Ag (P : Program) (t : TypeId) (b : Bool) : Prop := ∀ w, (isAgg t).run P w = .ok b w
def Zv (P : Program) (t : TypeId) (v : Value) : Prop := ∀ w, (zeroValue t).run P w = .ok v w
def Fd (P : Program) (t : TypeId) (i off : Nat) : Prop := ∀ w g o, (Instr.fieldAt t (.pointer (some ⟨g, o, none⟩)) i).run P w = .ok (.pointer (some ⟨g, o + off, none⟩)) w
section
variable {b o k : Nat} {cs : List Value}
theorem fa {i off : Nat} (hf : Fd P t i off) (hx : ev E x = some (.pointer (some ⟨b, o, none⟩))) : Runs P E ⟨d, .fieldAddr t x i, ty, pos, af, g⟩ w (.pointer (some ⟨b, o + off, none⟩)) w := fun n a ha => by
  simp only [execOp, ha.ev hx, Sem.run_bind, hf w b o, Result.andThen_ok, Sem.run_pure]
theorem ia {e : TypeId} {size len cap : Nat} {ik : IntKind} {i : Int} (j : Nat) (ht : P.underlying t = some (.slice e)) (hs : Sz P e size) (hx : ev E x = some (.slice (some ⟨b, o, none⟩) len cap)) (hi : ev E y = some (.int ik i)) (hj : i = (j : Int)) (hlt : j < len) :
    Runs P E ⟨d, .indexAddr t x y, ty, pos, af, g⟩ w (.pointer (some ⟨b, o + j * size, none⟩)) w := fun n a ha => by
  subst hj
  simp only [execOp, ha.ev hx, ha.ev hi, Instr.indexAt, asIntOf, Sem.run_bind, Sem.run_pure, Result.andThen_ok, run_underlying ht]
  rw [if_pos ⟨by omega, by omega⟩]
  simp only [Sem.run_bind, hs w, Result.andThen_ok, Sem.run_pure, Int.toNat_natCast, addAt]
def Lds (P : Program) (w : World) (t : TypeId) (p : Addr) (v : Value) : Prop := (loadVar t p).run P w = .ok v w
theorem Lds.one {p : Addr} (ht : Ag P t false) (h : w.cell? p = some v) : Lds P w t p v := by
  unfold Lds loadVar
  simp only [Sem.run_bind, ht w, Result.andThen_ok, Bool.false_eq_true, if_false, run_load, h]
theorem Lds.agg (ht : Ag P t true) (hs : Sz P t cs.length) (h : ∀ j v, cs[j]? = some v → w.cell? ⟨b, o + j, none⟩ = some v) : Lds P w t ⟨b, o, none⟩ (.agg cs.toArray) := by
  unfold Lds loadVar
  simp only [Sem.run_bind, ht w, Result.andThen_ok, if_true, hs w, run_loadCells_list w ⟨b, o, none⟩ cs (fun j v hj => by rw [addAt]; exact h j v hj), Sem.run_pure]
theorem ld {p : Addr} (hx : ev E x = some (.pointer (some p))) (h : Lds P w t p v) : Runs P E ⟨d, .load t x, ty, pos, af, g⟩ w v w := fun n a ha => by
  unfold Lds at h
  simp only [execOp, ha.ev hx, Instr.loadAt, Instr.sureAddr, Sem.run_bind, Sem.run_pure, Result.andThen_ok, h]
theorem Blk.one {p : Nat} {cur : List Value} {e : TypeId} {fr : Nat × Nat} (h : Blk w b cur e fr) (ht : Ag P t false) (hv : cur[p]? = some v) : Lds P w t ⟨b, p, none⟩ v := Lds.one ht (by rw [h.cell, hv])
theorem Blk.agg {p : Nat} {cur : List Value} {e : TypeId} {fr : Nat × Nat} (h : Blk w b cur e fr) (ht : Ag P t true) (hs : Sz P t cs.length) (hv : (cur.drop p).take cs.length = cs) : Lds P w t ⟨b, p, none⟩ (.agg cs.toArray) :=
  Lds.agg ht hs fun j v hj => by
    rw [h.cell, ← hj]
    have hl := (List.getElem?_eq_some_iff.1 hj).1
    conv => rhs; rw [← hv]
    rw [List.getElem?_take_of_lt hl, List.getElem?_drop]
/-! New blocks -/
theorem bx {op : Op} {d : Nat} {cs : List Value} (hop : op = .box t x) (hx : ev E x = some v) (hc : v.cells = cs.toArray) (hd : Nat.blt d n = true)
    (h : ∀ w1 b, Ext w w1 → w.heap.size ≤ b → Blk w1 b cs t (0, 0) → WL P n ops Q rest ((d, .pointer (some ⟨b, 0, none⟩)) :: E) w1) : WL P n ops Q (⟨some d, op, ty, pos, af, none⟩ :: rest) E w := by
  subst hop
  refine vl (w' := w.alloc (.cells v.cells t)) (v := .pointer (some ⟨w.heap.size, 0, none⟩)) (fun n a ha => ?_) hd (h _ _ ((Below.refl _ w).alloc (Nat.le_refl _) _) (Nat.le_refl _) (by rw [hc]; exact Blk.new w cs t (0, 0)))
  simp only [execOp, ha.ev hx, Instr.box, newVar, newRow, Sem.run_bind, run_newObj_alloc, Result.andThen_ok, Sem.run_pure]
theorem al {op : Op} {d : Nat} {cs : List Value} (hop : op = .alloc t) (hz : Zv P t v) (hc : v.cells = cs.toArray) (hd : Nat.blt d n = true)
    (h : ∀ w1 b, Ext w w1 → w.heap.size ≤ b → Blk w1 b cs t (0, 0) → WL P n ops Q rest ((d, .pointer (some ⟨b, 0, none⟩)) :: E) w1) : WL P n ops Q (⟨some d, op, ty, pos, af, none⟩ :: rest) E w := by
  subst hop
  refine vl (w' := w.alloc (.cells v.cells t)) (v := .pointer (some ⟨w.heap.size, 0, none⟩)) (fun n a ha => ?_) hd (h _ _ ((Below.refl _ w).alloc (Nat.le_refl _) _) (Nat.le_refl _) (by rw [hc]; exact Blk.new w cs t (0, 0)))
  simp only [execOp, Instr.alloc, Sem.run_bind, hz w, newVar, newRow, run_newObj_alloc, Result.andThen_ok, Sem.run_pure]
end
end
section
variable {P : Program} {n : Nat} {E E' : List (Nat × Value)} {a : Act} {w w' w0 w1 : World} {Q : Exit → Act → World → Prop} {ops : Array Oper} {v : Value} {kd : Nat → Nat}
variable {d : Option Nat} {ty : TypeId} {pos : String} {af : Array Edge} {g : Option (Nat × Bool)} {x y z : Operand} {t : TypeId} {rest : List Oper} {τ : List Nat} {i : Nat}
/-! ### Regions that draw -/
def FL (P : Program) (n : Nat) (ops : Array Oper) (Q : Exit → Act → World → Prop) (kd : Nat → Nat) (τ : List Nat) (E : List (Nat × Value)) (w0 : World) : Prop := ∀ a, Agr n E a → wpFlow P ops (nrm (Q .normal)) kd τ a w0
/-- The kinds that are said; all else worldless. -/
def kds (l : List (Nat × Nat)) (i : Nat) : Nat := match l with
  | [] => 1
  | (j, k) :: r => match Nat.beq j i with | true => k | false => kds r i
theorem rd {id : Nat} (ks : List (Nat × Nat)) (τ : List Nat) (hm : P.follows .mixedOrders = true) (hB : (Region.noSelect ops && (τ.length == ops.size) && flowB ops (kds ks) τ (Array.replicate ops.size false)) = true)
    (h : FL P n ops Q (kds ks) τ E w) : W P n (.region id ops true) Q E w := fun a ha => region_flow τ hm hB (h a ha)
theorem fn (h : ∀ w, Ext w0 w → N n Q E w) : FL P n ops Q kd [] E w0 := fun a ha w hw => h w hw a ha
theorem wanted_none {o : Oper} (hg : o.guard = none) : Region.wanted o (yielded ops a.tmps) = true := by simp [Region.wanted, hg]
/-- Quiet. -/
theorem fq {d : Nat} {op : Op} (hi : ops[i]? = some ⟨some d, op, ty, pos, af, none⟩) (hk : kd i = 0) (hr : ∀ w, Ext w0 w → Runs P E ⟨some d, op, ty, pos, af, none⟩ w v w) (hd : Nat.blt d n = true)
    (h : FL P n ops Q kd τ ((d, v) :: E) w0) : FL P n ops Q kd (i :: τ) E w0 := fun a ha =>
  ⟨_, hi, .inl ⟨hk, v, .inl ⟨wanted_none rfl, fun w hw => by rw [hr w hw n a ha]; exact ⟨rfl, rfl⟩⟩, h _ (ha.put hd v)⟩⟩
/-- Worldless. -/
theorem fw {d : Nat} {op : Op} (hi : ops[i]? = some ⟨some d, op, ty, pos, af, none⟩) (hk : kd i = 1) (hr : ∀ w, Runs P E ⟨some d, op, ty, pos, af, none⟩ w v w) (hd : Nat.blt d n = true)
    (h : FL P n ops Q kd τ ((d, v) :: E) w0) : FL P n ops Q kd (i :: τ) E w0 := fun a ha =>
  ⟨_, hi, .inr (.inl ⟨hk, v, .inl ⟨wanted_none rfl, fun w => hr w n a ha⟩, h _ (ha.put hd v)⟩)⟩
/-- A quiet call. -/
theorem fc {d : Nat} {f : FuncId} {xs : Array Operand} {ts : Array TypeId} {args : List Value} (hi : ops[i]? = some ⟨some d, .call { callee := .value (.func f), args := xs, argTypes := ts }, ty, pos, af, none⟩) (hk : kd i = 0) (hf : Enters P f) (he : evs E xs.toList = some args)
    (hr : ∀ w, Ext w0 w → Calls P f args.toArray w fun e w' => e = .returned v ∧ Ext w w') (hd : Nat.blt d n = true)
    (h : FL P n ops Q kd τ ((d, v) :: E) w0) : FL P n ops Q kd (i :: τ) E w0 := fun a ha =>
  ⟨_, hi, .inl ⟨hk, v, .inl ⟨wanted_none rfl, fun w hw => by rw [run_call hf ha he]; exact ⟨rfl, hr w hw⟩⟩, h _ (ha.put hd v)⟩⟩
/-- Under a guard: the slot of the guard holds 'b', and 'b' is wanted to be 'q'. -/
theorem wanted_some {o : Oper} {j : Nat} {q b : Bool} {oj : Oper} {dj : Nat} (hg : o.guard = some (j, q)) (hj : ops[j]? = some oj) (hdj : oj.dst = some dj) (hb : look E dj = some (.bool b)) (ha : Agr n E a) : Region.wanted o (yielded ops a.tmps) = (b == q) := by
  have := ha.g _ _ hb
  cases b <;> cases q <;> simp [Region.wanted, hg, yielded, hj, hdj, this]
theorem fQ {d : Nat} {op : Op} {j : Nat} {q b c : Bool} {oj : Oper} {dj : Nat} (hi : ops[i]? = some ⟨some d, op, ty, pos, af, some (j, q)⟩) (hk : kd i = 0) (hj : ops[j]? = some oj) (hdj : oj.dst = some dj) (hb : look E dj = some (.bool b)) (hc : (b == q) = c)
    (hr : c = true → ∀ w, Ext w0 w → Runs P E ⟨some d, op, ty, pos, af, some (j, q)⟩ w v w) (hd : Nat.blt d n = true)
    (h : FL P n ops Q kd τ ((d, gv c v) :: E) w0) : FL P n ops Q kd (i :: τ) E w0 := fun a ha => by
  have hw := wanted_some (o := ⟨some d, op, ty, pos, af, some (j, q)⟩) rfl hj hdj hb ha
  rw [hc] at hw
  refine ⟨_, hi, .inl ⟨hk, gv c v, ?_, h _ (ha.put hd _)⟩⟩
  cases c with
  | true => exact .inl ⟨hw, fun w hx => by rw [hr rfl w hx n a ha]; exact ⟨rfl, rfl⟩⟩
  | false => exact .inr ⟨hw, rfl⟩
theorem fW {d : Nat} {op : Op} {j : Nat} {q b c : Bool} {oj : Oper} {dj : Nat} (hi : ops[i]? = some ⟨some d, op, ty, pos, af, some (j, q)⟩) (hk : kd i = 1) (hj : ops[j]? = some oj) (hdj : oj.dst = some dj) (hb : look E dj = some (.bool b)) (hc : (b == q) = c)
    (hr : c = true → ∀ w, Runs P E ⟨some d, op, ty, pos, af, some (j, q)⟩ w v w) (hd : Nat.blt d n = true)
    (h : FL P n ops Q kd τ ((d, gv c v) :: E) w0) : FL P n ops Q kd (i :: τ) E w0 := fun a ha => by
  have hw := wanted_some (o := ⟨some d, op, ty, pos, af, some (j, q)⟩) rfl hj hdj hb ha
  rw [hc] at hw
  refine ⟨_, hi, .inr (.inl ⟨hk, gv c v, ?_, h _ (ha.put hd _)⟩)⟩
  cases c with
  | true => exact .inl ⟨hw, fun w => hr rfl w n a ha⟩
  | false => exact .inr ⟨hw, rfl⟩
theorem fC {d : Nat} {f : FuncId} {xs : Array Operand} {ts : Array TypeId} {args : List Value} {j : Nat} {q b c : Bool} {oj : Oper} {dj : Nat} (hi : ops[i]? = some ⟨some d, .call { callee := .value (.func f), args := xs, argTypes := ts }, ty, pos, af, some (j, q)⟩) (hk : kd i = 0) (hj : ops[j]? = some oj) (hdj : oj.dst = some dj) (hb : look E dj = some (.bool b)) (hc : (b == q) = c)
    (hf : Enters P f) (he : c = true → evs E xs.toList = some args)
    (hr : c = true → ∀ w, Ext w0 w → Calls P f args.toArray w fun e w' => e = .returned v ∧ Ext w w') (hd : Nat.blt d n = true)
    (h : FL P n ops Q kd τ ((d, gv c v) :: E) w0) : FL P n ops Q kd (i :: τ) E w0 := fun a ha => by
  have hw := wanted_some (o := ⟨some d, .call { callee := .value (.func f), args := xs, argTypes := ts }, ty, pos, af, some (j, q)⟩) rfl hj hdj hb ha
  rw [hc] at hw
  refine ⟨_, hi, .inl ⟨hk, gv c v, ?_, h _ (ha.put hd _)⟩⟩
  cases c with
  | true => exact .inl ⟨hw, fun w hx => by rw [run_call hf ha (he rfl)]; exact ⟨rfl, hr rfl w hx⟩⟩
  | false => exact .inr ⟨hw, rfl⟩
/-- An allocation or a writer, from the walk of one operation: 'WL' over the operation alone. -/
def Stp (P : Program) (n : Nat) (ops : Array Oper) (o : Oper) (E : List (Nat × Value)) (w : World) (K : List (Nat × Value) → World → Prop) : Prop :=
  ∀ (Q : Exit → Act → World → Prop), (∀ E' w', K E' w' → WL P n ops Q [] E' w') → WL P n ops Q [o] E w
theorem wp_Q {Q1 Q2 : Exit → Act → World → Prop} {o : Oper} {K : Act → World → Prop} (hp : ∀ c a w, ¬ Q1 (.panic c) a w) (ho : ¬ LetsOut Q1) (h : o.wp P a w K Q1) : o.wp P a w K Q2 := by
  unfold Oper.wp at *
  generalize (execOp a.eval o).run P w = r at *
  cases r with
  | ok m w' =>
    cases m <;> simp only [Oper.upon] at h ⊢ <;>
      first
        | exact h
        | exact Calls.mono h (fun e w'' he => by cases e <;> first | exact he | exact (hp _ _ _ he).elim | exact (ho he).elim)
  | halt x w' => cases x <;> simp only [Oper.upon] at h ⊢ <;> first | exact h | exact (hp _ _ _ h).elim
theorem stp_op {o : Oper} (hg : o.guard = none) (hi : ops[i]? = some o) {K : Act → World → Prop} {E : List (Nat × Value)} {w : World} {K' : List (Nat × Value) → World → Prop} (h : Stp P n ops o E w K') (hK : ∀ E' w' a', K' E' w' → Agr n E' a' → K a' w') (ha : Agr n E a) :
    wpOp P ops (nrm (Q .normal)) i K a w := by
  have := h (nrm K) (fun E' w' hk a' ha' => hK E' w' a' hk ha') a ha
  unfold wpList at this
  unfold wpOp
  simp only [hi]
  rw [if_pos (wanted_none hg)] at this ⊢
  rcases this with h | ⟨h, a, w, h2⟩
  · exact .inl (wp_Q (fun _ _ _ h => h) (fun ⟨_, _, h⟩ => h) h)
  · exact h2.elim
theorem fx {o : Oper} (hg : o.guard = none) (hi : ops[i]? = some o) (hk : kd i = 2) (h : ∀ w, Ext w0 w → Stp P n ops o E w fun E' w' => Ext w0 w' ∧ FL P n ops Q kd τ E' w') : FL P n ops Q kd (i :: τ) E w0 := fun a ha =>
  ⟨_, hi, .inr (.inr ⟨by omega, fun w hw => stp_op hg hi (h w hw) (fun E' w' a' hk ha' => ⟨fun _ => hk.1, hk.2 a' ha'⟩) ha⟩)⟩
theorem fb {o : Oper} (hg : o.guard = none) (hi : ops[i]? = some o) (hk : kd i = 3) (h : ∀ w, Ext w0 w → Stp P n ops o E w fun E' w' => FL P n ops Q kd τ E' w') : FL P n ops Q kd (i :: τ) E w0 := fun a ha =>
  ⟨_, hi, .inr (.inr ⟨by omega, fun w hw => stp_op hg hi (h w hw) (fun E' w' a' hk ha' => ⟨fun h2 => by omega, hk a' ha'⟩) ha⟩)⟩
end
/-- All blocks that were there are as they were, but those of S. -/
structure Mod (S : List Nat) (w w' : World) : Prop where
  os : w'.os = w.os
  tape : w'.tape = w.tape
  output : w'.output = w.output
  size : w.heap.size ≤ w'.heap.size
  block : ∀ k, k < w.heap.size → k ∉ S → w'.heap[k]? = w.heap[k]?
section
variable {S S' : List Nat} {w w' w0 w1 w2 : World} {B : Nat}
theorem Mod.of_ext (h : Ext w w') : Mod S w w' := ⟨h.os, h.tape, h.output, h.size, fun k hk _ => h.block k hk⟩
theorem Mod.ext (h : Mod [] w w') : Ext w w' := ⟨h.os, h.tape, h.output, h.size, fun k hk => h.block k hk (by simp)⟩
theorem Mod.below {Z : Nat} (h : Mod S w w') (hS : ∀ x ∈ S, Z ≤ x) (hZ : Z ≤ w.heap.size) : Below Z w w' :=
  ⟨h.os, h.tape, h.output, h.size, fun k hk => h.block k (by omega) fun hm => by have := hS k hm; omega⟩
/-- The call's own view: what was there at its begin is as it was. -/
theorem Ext.mod (h : Ext w0 w) (hm : Mod S w w') (hS : ∀ x ∈ S, w0.heap.size ≤ x) : Ext w0 w' := Below.trans h (hm.below hS h.size)
theorem Mod.rf (S : List Nat) (w : World) : Mod S w w := ⟨rfl, rfl, rfl, Nat.le_refl _, fun _ _ _ => rfl⟩
theorem Mod.md (h : Mod S w w1) (h' : Mod S' w1 w2) (hs : ∀ q ∈ S', q ∈ S ∨ w.heap.size ≤ q) : Mod S w w2 :=
  ⟨h'.os.trans h.os, h'.tape.trans h.tape, h'.output.trans h.output, Nat.le_trans h.size h'.size, fun k hk hn => (h'.block k (Nat.lt_of_lt_of_le hk h.size) fun hm => (hs k hm).elim hn (fun h => by omega)).trans (h.block k hk hn)⟩
theorem Mod.sub (h : Mod S w w') (hs : ∀ x ∈ S, x ∈ S') : Mod S' w w' := ⟨h.os, h.tape, h.output, h.size, fun k hk hn => h.block k hk fun hm => hn (hs k hm)⟩
theorem Mod.trans (h : Mod S w w1) (h' : Mod S w1 w2) : Mod S w w2 :=
  ⟨h'.os.trans h.os, h'.tape.trans h.tape, h'.output.trans h.output, Nat.le_trans h.size h'.size, fun k hk hn => (h'.block k (Nat.lt_of_lt_of_le hk h.size) hn).trans (h.block k hk hn)⟩
theorem Mod.grown {row : Option Nat} (h : w.grownBy w' row) : Mod row.toList w w' :=
  ⟨h.os, h.tape, h.output, h.size, fun k hk hn => h.block k hk fun e => hn (by rw [← e]; simp)⟩
theorem Mod.setRow (w : World) (b : Nat) (cs : Array Value) : Mod [b] w (w.setRow b cs) := by
  refine ⟨rfl, rfl, rfl, by simp [World.setRow], fun k hk hn => ?_⟩
  simp only [World.setRow, Array.getElem?_modify]
  rw [if_neg (by simp at hn; omega)]
theorem Mod.setCell (w : World) (p : Addr) (u : Value) : Mod [p.block] w (w.setCell p u) := by
  refine ⟨rfl, rfl, rfl, by simp [World.setCell], fun k hk hn => ?_⟩
  exact Below.heap_setCell _ _ _ _ (by simpa using hn)
theorem Blk.mod {g : Nat} {cur : List Value} {e : TypeId} {fr : Nat × Nat} (h : Blk w g cur e fr) (hm : Mod S w w') (hg : g ∉ S) : Blk w' g cur e fr := by
  unfold Blk at *
  rw [hm.block g (Array.getElem?_eq_some_iff.1 h).1 hg]; exact h
theorem Rep.SOwn.mod {α : Type} {R : Rep α} {E by_ : Nat} {f : List Nat} {A : Option Addr} {c : Nat} {l : List α} (h : R.SOwn E by_ w B f A c l) (hm : Mod S w w') (hd : ∀ x ∈ f, x ∉ S) : R.SOwn E by_ w' B f A c l :=
  h.keep fun g hg => hm.block g (h.lt g hg).2 (hd g hg)
end
section
variable {P : Program} {n : Nat} {E E' : List (Nat × Value)} {a : Act} {w w' w0 w1 : World} {Q : Exit → Act → World → Prop} {ops : Array Oper} {v : Value}
variable {d : Option Nat} {ty : TypeId} {pos : String} {af : Array Edge} {g : Option (Nat × Bool)} {x y z : Operand} {t : TypeId} {rest : List Oper}
theorem run_storeVar {b p : Nat} {cur cs : List Value} {e : TypeId} (hB : Blk w b cur e (0, 0)) (hc : v.cells = cs.toArray) (hs : Sz P t cs.length) (h1 : cs.all (·.oneCell') = true) (hl : p + cs.length ≤ cur.length) :
    (storeVar t ⟨b, p, none⟩ v).run P w = .ok () (w.setRow b (cur.take p ++ cs ++ cur.drop (p + cs.length)).toArray) := by
  unfold storeVar
  simp only [hc, Sem.run_bind, hs w, Result.andThen_ok, List.size_toArray, ne_eq, not_true_eq_false, if_false]
  have := run_storeCells_at P b p e cs 0 cur.toArray w hB (by simpa using hl) (fun v hv => List.all_eq_true.1 h1 v hv)
  simpa using this
/-- A store into a block that is known whole. -/
theorem st {b p : Nat} {cur cs new : List Value} {e : TypeId} (hx : ev E x = some (.pointer (some ⟨b, p, none⟩))) (hy : ev E y = some v) (hB : Blk w b cur e (0, 0)) (hc : v.cells = cs.toArray) (hs : Sz P t cs.length) (h1 : cs.all (·.oneCell') = true) (hl : Nat.ble (p + cs.length) cur.length = true)
    (hn : cur.take p ++ cs ++ cur.drop (p + cs.length) = new)
    (h : ∀ w1, Mod [b] w w1 → Blk w1 b new e (0, 0) → WL P n ops Q rest E w1) : WL P n ops Q (⟨none, .store t x y, ty, pos, af, none⟩ :: rest) E w := by
  refine us (w' := w.setRow b new.toArray) (fun n a ha => ?_) (h _ (Mod.setRow w b _) (by rw [← hn]; exact hB.setRow _))
  have := run_storeVar (P := P) hB hc hs h1 (Nat.le_of_ble_eq_true hl)
  rw [hn] at this
  simp only [execOp, ha.ev hx, ha.ev hy, Instr.storeAt, Instr.sureAddr, Sem.run_bind, Sem.run_pure, Result.andThen_ok, this]
/-! ### Builtins -/
theorem bi {bt : Builtin} {xs : Array Operand} {ts : Array TypeId} {vs : List Value} (he : evs E xs.toList = some vs) (h : ∀ cs, (builtin bt ts ty cs vs.toArray).run P w = .ok (.value v) w') :
    Runs P E ⟨d, .call { callee := .builtin bt, args := xs, argTypes := ts }, ty, pos, af, g⟩ w v w' := fun n a ha => by
  have hm : xs.map a.eval = vs.toArray := by rw [← ha.evs he]; apply Array.ext'; simp
  simp only [execOp, resolve, invoke, hm, Sem.run_bind, Sem.run_pure, Result.andThen_ok, h]
theorem ln {A : Option Addr} {len cap e : Nat} (ht : P.underlying t = some (.slice e)) (hx : ev E x = some (.slice A len cap)) : Runs P E ⟨d, .call { callee := .builtin .len, args := #[x], argTypes := #[t] }, ty, pos, af, g⟩ w (.int .i64 (len : Int)) w :=
  bi (vs := [.slice A len cap]) (by simp only [evs, hx]) fun cs => by
    have h1 : P.underlying t = some (.slice (P.elem t)) := by simp [Program.elem, ht]
    have := run_len_slice (P := P) w t ty A len cap h1
    simp only [builtin, Sem.run_bind, this, Result.andThen_ok, Sem.run_pure]; rfl
theorem en {f : FuncId} {fn : Func} (h : P.funcs[f]? = some fn) (h1 : (fn.name == "runtime.NumGoroutine") = false) (h2 : fn.body.isNone = false) : Enters P f := ⟨fn, h, h1, h2⟩
/-! ### Guarded, one behind the other -/
theorem wl_if {o : Oper} {c : Bool} (hw : ∀ a, Agr n E a → Region.wanted o (yielded ops a.tmps) = c) (h1 : c = true → ∀ a, Agr n E a → o.wp P a w (wpList P ops Q rest) Q) (h2 : c = false → ∀ a, Agr n E a → wpList P ops Q rest (a.put o.dst undef) w) : WL P n ops Q (o :: rest) E w := fun a ha => by
  unfold wpList
  rw [hw a ha]
  cases c with
  | true => rw [if_pos rfl]; exact .inl (h1 rfl a ha)
  | false => rw [if_neg (by decide)]; exact h2 rfl a ha
theorem vQ {d : Nat} {op : Op} {j : Nat} {q b c : Bool} {oj : Oper} {dj : Nat} (hj : ops[j]? = some oj) (hdj : oj.dst = some dj) (hb : look E dj = some (.bool b)) (hc : (b == q) = c)
    (hr : c = true → Runs P E ⟨some d, op, ty, pos, af, some (j, q)⟩ w v w) (hd : Nat.blt d n = true) (h : WL P n ops Q rest ((d, gv c v) :: E) w) : WL P n ops Q (⟨some d, op, ty, pos, af, some (j, q)⟩ :: rest) E w :=
  wl_if (c := c) (fun a ha => by rw [wanted_some (o := ⟨some d, op, ty, pos, af, some (j, q)⟩) rfl hj hdj hb ha, hc])
    (fun hc a ha => by unfold Oper.wp; rw [hr hc n a ha]; subst hc; exact h _ (ha.put hd v)) (fun hc a ha => by subst hc; exact h _ (ha.put hd undef))
theorem vC {d : Nat} {f : FuncId} {xs : Array Operand} {ts : Array TypeId} {args : List Value} {j : Nat} {q b c : Bool} {oj : Oper} {dj : Nat} (hj : ops[j]? = some oj) (hdj : oj.dst = some dj) (hb : look E dj = some (.bool b)) (hc : (b == q) = c)
    (hf : Enters P f) (he : c = true → evs E xs.toList = some args) (hr : c = true → Calls P f args.toArray w fun e w' => e = .returned v ∧ Ext w w') (hd : Nat.blt d n = true)
    (h : ∀ w', Ext w w' → WL P n ops Q rest ((d, gv c v) :: E) w') : WL P n ops Q (⟨some d, .call { callee := .value (.func f), args := xs, argTypes := ts }, ty, pos, af, some (j, q)⟩ :: rest) E w :=
  wl_if (c := c) (fun a ha => by rw [wanted_some (o := ⟨some d, _, ty, pos, af, some (j, q)⟩) rfl hj hdj hb ha, hc])
    (fun hc a ha => by unfold Oper.wp; rw [run_call hf ha (he hc)]; exact (hr hc).mono fun e w' ⟨h1, hx⟩ => by subst h1; subst hc; exact h w' hx _ (ha.put hd v)) (fun hc a ha => by subst hc; exact h w (Ext.rf w) _ (ha.put hd undef))
/-- A guard that is met. -/
theorem ug {d : Option Nat} {op : Op} {j : Nat} {q : Bool} {oj : Oper} {dj : Nat} (hj : ops[j]? = some oj) (hdj : oj.dst = some dj) (hb : look E dj = some (.bool q)) (h : WL P n ops Q (⟨d, op, ty, pos, af, none⟩ :: rest) E w) : WL P n ops Q (⟨d, op, ty, pos, af, some (j, q)⟩ :: rest) E w := fun a ha => by
  have h := h a ha
  have hw := wanted_some (o := ⟨d, op, ty, pos, af, some (j, q)⟩) (q := q) rfl hj hdj hb ha
  unfold wpList at h ⊢
  rw [if_pos (wanted_none rfl)] at h
  rw [hw, if_pos (by cases q <;> rfl)]
  exact h
theorem lkb {t : Nat} {b c : Bool} (h : look E t = some (.bool b)) (e : b = c) : look E t = some (.bool c) := by rw [h, e]
theorem evb {x : Operand} {b c : Bool} (h : ev E x = some (.bool b)) (e : b = c) : ev E x = some (.bool c) := by rw [h, e]
/-! ### Functions, structs, rows -/
theorem mf {fi : Fn} {fs cs : Array Operand} {l m : List Value} (h1 : evs E fs.toList = some l) (h2 : evs E cs.toList = some m) : Runs P E ⟨d, .makeFunc fi fs cs, ty, pos, af, g⟩ w (.func fi l.toArray m.toArray) w := fun n a ha => by
  have e1 : fs.map a.eval = l.toArray := by rw [← ha.evs h1]; apply Array.ext'; simp
  have e2 : cs.map a.eval = m.toArray := by rw [← ha.evs h2]; apply Array.ext'; simp
  simp only [execOp, e1, e2, Instr.makeFunc, Sem.run_bind, Sem.run_pure, Result.andThen_ok]
def evp (E : List (Nat × Value)) : List (Nat × Operand) → Option (List (Nat × Value))
  | [] => some []
  | (i, x) :: r => match ev E x with
    | some v => match evp E r with
      | some l => some ((i, v) :: l)
      | none => none
    | none => none
theorem Agr.evp (h : Agr n E a) : ∀ {l : List (Nat × Operand)} {vs : List (Nat × Value)}, evp E l = some vs → l.map (fun (i, x) => (i, a.eval x)) = vs
  | [], vs, e => by simp only [Proofs.Yticfnngppcmidaa.evp] at e; exact Option.some.inj e
  | (i, x) :: r, vs, e => by
    simp only [Proofs.Yticfnngppcmidaa.evp] at e
    cases hx : Proofs.Yticfnngppcmidaa.ev E x with
    | none => rw [hx] at e; cases e
    | some v =>
      rw [hx] at e
      simp only at e
      cases hr : Proofs.Yticfnngppcmidaa.evp E r with
      | none => rw [hr] at e; cases e
      | some l =>
        rw [hr] at e
        simp only at e
        obtain rfl := Option.some.inj e
        rw [List.map_cons, Agr.evp h hr]
        simp only [h.ev hx]
theorem bd {ps : Array (Nat × Operand)} {l : List (Nat × Value)} (he : evp E ps.toList = some l) (hr : (Instr.build t l.toArray).run P w = .ok v w) : Runs P E ⟨d, .build t ps, ty, pos, af, g⟩ w v w := fun n a ha => by
  have e1 : ps.map (fun (i, x) => (i, a.eval x)) = l.toArray := by rw [← ha.evp he]; apply Array.ext'; simp
  simp only [execOp, e1, Sem.run_bind, hr, Result.andThen_ok, Sem.run_pure]
theorem bs {ps : Array (Nat × Operand)} {l : List (Nat × Value)} {d k e : Nat} {cs : List Value} (he : evp E ps.toList = some l) (hr : ∀ w, (Instr.buildSlice t k l.toArray).run P w = .ok (.slice (some ⟨w.heap.size, 0, none⟩) k k) (w.alloc (.cells cs.toArray e))) (hd : Nat.blt d n = true)
    (h : ∀ w1 b, Ext w w1 → w.heap.size ≤ b → Blk w1 b cs e (0, 0) → WL P n ops Q rest ((d, .slice (some ⟨b, 0, none⟩) k k) :: E) w1) : WL P n ops Q (⟨some d, .buildSlice t k ps, ty, pos, af, none⟩ :: rest) E w := by
  refine vl (w' := w.alloc (.cells cs.toArray e)) (v := .slice (some ⟨w.heap.size, 0, none⟩) k k) (fun n a ha => ?_) hd (h _ _ ((Below.refl _ w).alloc (Nat.le_refl _) _) (Nat.le_refl _) (Blk.new w cs e (0, 0)))
  have e1 : ps.map (fun (i, x) => (i, a.eval x)) = l.toArray := by rw [← ha.evp he]; apply Array.ext'; simp
  simp only [execOp, e1, Sem.run_bind, hr, Result.andThen_ok, Sem.run_pure]
/-! ### Slices -/
def bA (A : Option Addr) : Nat := match A with | some a => a.block | none => 0
def oA (A : Option Addr) : Nat := match A with | some a => a.off | none => 0
theorem Rep.SHas.adr {α : Type} {R : Rep α} {by_ c : Nat} {A : Option Addr} {l : List α} (h : R.SHas by_ w A c l) (h0 : 0 < l.length) : A = some ⟨bA A, oA A, none⟩ := by
  obtain ⟨b, o, rfl, _⟩ := h.at_ h0; rfl
theorem Rep.SHas.adh {α : Type} {R : Rep α} {by_ c : Nat} {A : Option Addr} {l : List α} (h : R.SHas by_ w A c l) (h0 : 0 < l.length) : R.SHas by_ w (some ⟨bA A, oA A, none⟩) c l := by
  rw [← h.adr h0]; exact h
theorem iA {e : TypeId} {size len cap b o : Nat} {ik : IntKind} {i : Int} {A : Option Addr} (j : Nat) (ht : P.underlying t = some (.slice e)) (hs : Sz P e size) (hx : ev E x = some (.slice A len cap)) (hi : ev E y = some (.int ik i)) (hA : A = some ⟨b, o, none⟩) (hj : i = (j : Int)) (hlt : j < len) :
    Runs P E ⟨d, .indexAddr t x y, ty, pos, af, g⟩ w (.pointer (some ⟨b, o + j * size, none⟩)) w := by subst hA; exact ia j ht hs hx hi hj hlt
theorem get_d {α : Type} {l : List α} {j : Nat} {u : α} (h : j < l.length) : l[j]? = some (l.getD j u) := by rw [List.getD_eq_getElem?_getD, List.getElem?_eq_getElem h]; rfl
section
variable {α : Type} {R : Rep α} {by_ c b o j : Nat} {l : List α} {cells : α → List Value} {q u : α}
theorem Rep.SHas.fld (hc : ∀ {w cs a}, R.has w cs a → cs = cells a) (h : R.SHas by_ w (some ⟨b, o, none⟩) c l) (k : Nat) (hj : l[j]? = some q) (hu : (cells q)[k]? = some v) (ht : Ag P t false) : Lds P w t ⟨b, o + j * R.size + k, none⟩ v := by
  obtain ⟨b', o', e, hall⟩ := h.at_ (by have := (List.getElem?_eq_some_iff.1 hj).1; omega)
  injection e with e; injection e with e1 e2; subst e1; subst e2
  obtain ⟨es, h1, h2⟩ := hall j q hj
  rw [hc h1] at h2
  exact Lds.one ht (by rw [Nat.add_assoc]; exact h2 k v hu)
theorem Rep.SHas.one' (hc : ∀ {w cs a}, R.has w cs a → cs = cells a) (h : R.SHas by_ w (some ⟨b, o, none⟩) c l) (hj : l[j]? = some q) (hu : (cells q)[0]? = some v) (ht : Ag P t false) : Lds P w t ⟨b, o + j * R.size, none⟩ v := h.fld hc 0 hj hu ht
theorem Rep.SHas.elt (hc : ∀ {w cs a}, R.has w cs a → cs = cells a) (h : R.SHas by_ w (some ⟨b, o, none⟩) c l) (hj : l[j]? = some q) (ht : Ag P t true) (hs : Sz P t (cells q).length) : Lds P w t ⟨b, o + j * R.size, none⟩ (.agg (cells q).toArray) := by
  obtain ⟨b', o', e, hall⟩ := h.at_ (by have := (List.getElem?_eq_some_iff.1 hj).1; omega)
  injection e with e; injection e with e1 e2; subst e1; subst e2
  obtain ⟨es, h1, h2⟩ := hall j q hj
  rw [hc h1] at h2
  exact Lds.agg ht hs fun k v hk => by rw [Nat.add_assoc]; exact h2 k v hk
/-- A part of an element: the cells from k on. -/
theorem Rep.SHas.part (hc : ∀ {w cs a}, R.has w cs a → cs = cells a) (h : R.SHas by_ w (some ⟨b, o, none⟩) c l) (k : Nat) {ds : List Value} (hj : l[j]? = some q) (hd : ((cells q).drop k).take ds.length = ds) (ht : Ag P t true) (hs : Sz P t ds.length) : Lds P w t ⟨b, o + j * R.size + k, none⟩ (.agg ds.toArray) := by
  obtain ⟨b', o', e, hall⟩ := h.at_ (by have := (List.getElem?_eq_some_iff.1 hj).1; omega)
  injection e with e; injection e with e1 e2; subst e1; subst e2
  obtain ⟨es, h1, h2⟩ := hall j q hj
  rw [hc h1] at h2
  refine Lds.agg ht hs fun i v hi => ?_
  rw [Nat.add_assoc, Nat.add_assoc]
  refine h2 _ v ?_
  rw [← hd] at hi
  have hl := (List.getElem?_eq_some_iff.1 hi).1
  rw [List.length_take] at hl
  rwa [List.getElem?_take_of_lt (by omega), List.getElem?_drop] at hi
end
theorem Blk.all {b : Nat} {cur : List Value} {e : TypeId} {fr : Nat × Nat} (h : Blk w b cur e fr) (ht : Ag P t true) (hs : Sz P t cur.length) : Lds P w t ⟨b, 0, none⟩ (.agg cur.toArray) :=
  Lds.agg ht hs fun j v hj => by rw [h.cell, Nat.zero_add, hj]
theorem Blk.par {b p : Nat} {cur : List Value} {e : TypeId} {fr : Nat × Nat} (h : Blk w b cur e fr) (cs : List Value) (ht : Ag P t true) (hs : Sz P t cs.length) (hv : (cur.drop p).take cs.length = cs) : Lds P w t ⟨b, p, none⟩ (.agg cs.toArray) := h.agg ht hs hv
end
end Go.Proofs.Yticfnngppcmidaa
