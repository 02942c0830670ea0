/-
  The walk over slots within a range over a function: the same words, in a round's frame and out of it, whatever is deferred.
-/
import Derived.Test.YtffjpfpbpnhmcaaGolB
import Derived.RangeFuncNested
import Derived.RangeFuncLeaves
import Derived.OrdersIn
import Derived.TacticsIn
import Derived.LoopNIn
set_option linter.unusedVariables false
set_option linter.unusedSimpArgs false
namespace Go.Proofs.Ytffjpfpbpnhmcaa
open Go.RowKit

/-- The wide fence; in a round, or not. -/
def fen (ro : Option Nat) : Fence := { Fence.wide with round := ro }
section
variable {P : Program} {ro : Option Nat} {m : Nat} {ops : Array Oper} {Q : Exit → Act → World → Prop} {w : World}
theorem calls_fen {f : FuncId} {args : Array Value} {R : Ending → World → Prop} (h : Calls P f args w R) : CallsIn (fen ro) m P f args w R := (callsIn_wide (n := m)).2 h
theorem rows_fen {row : String} {args : Array Value} {R : Value → World → Prop} (h : Rows P row args w R) : RowsIn (fen ro) m P row args w R := fun c cs _ =>
  let ⟨v, w', r, s⟩ := h c cs; ⟨v, w', r, stepsIn_wide.2 s⟩
def noDefer (o : Oper) : Bool := match o.op with
  | .defer _ => false
  | _ => true
theorem op_in {o : Oper} {a : Act} {K : Act → World → Prop} (hd : noDefer o = true) (h : o.wp P a w K Q) : o.wpIn (fen ro) m P a w K Q := by
  refine ⟨fun _ _ => trivial, ?_⟩
  have hs : o.semAt (fen ro).round a.eval = execOp a.eval o := Oper.semAt_eq _ _ _ (fun c e => by simp [noDefer, e] at hd)
  rw [hs]
  unfold Oper.wp at h
  generalize (execOp a.eval o).run P w = r at *
  cases r with
  | ok x w' =>
    cases x <;> simp only [Oper.upon] at h <;> simp only [Oper.uponIn] <;>
      first
        | exact h
        | exact h.elim
        | exact ⟨fun h => by simp [fen, Fence.wide] at h, calls_fen h⟩
        | exact ⟨fun h => by simp [fen, Fence.wide] at h, rows_fen h⟩
  | halt x w' => cases x <;> simp only [Oper.upon] at h <;> simp only [Oper.uponIn] <;> first | exact h | exact h.elim
theorem list_in : ∀ (l : List Oper) {a : Act} {w : World}, l.all noDefer = true → wpList P ops Q l a w → (∀ c a w, ¬ Q (.panic c) a w) → ¬ LetsOut Q → wpListIn (fen ro) m P ops Q l a w
  | [], a, w, _, h, _, _ => by unfold wpList at h; unfold wpListIn; exact h
  | o :: rest, a, w, hd, h, hp, ho => by
    rw [List.all_cons, Bool.and_eq_true] at hd
    unfold wpList at h
    unfold wpListIn
    split at h
    · rename_i hw
      rw [if_pos hw]
      rcases h with h | ⟨h, x⟩
      · exact Oper.wpIn_mono (fun a w h => list_in rest hd.2 h hp ho) (op_in hd.1 h)
      · exact (ho x).elim
    · rename_i hw
      rw [if_neg hw]
      exact ⟨fun _ _ => trivial, list_in rest hd.2 h hp ho⟩
theorem wop_in {i : Nat} {K : Act → World → Prop} {a : Act} {w : World} (hd : ops.toList.all noDefer = true) (ho : ¬ LetsOut Q) (h : wpOp P ops Q i K a w) : wpOpIn (fen ro) m P ops Q i K a w := by
  unfold wpOp at h
  unfold wpOpIn
  split at h
  · rename_i hi; simp only [hi]; exact h
  · rename_i o hi
    simp only [hi]
    have hdo : noDefer o = true := List.all_eq_true.1 hd o (by rw [Array.mem_toList_iff]; exact Array.mem_of_getElem? hi)
    split at h
    · rename_i hw
      rw [if_pos hw]
      rcases h with h | ⟨h, x⟩
      · exact op_in hdo h
      · exact (ho x).elim
    · rename_i hw
      rw [if_neg hw]
      exact ⟨fun _ _ => trivial, h⟩
theorem any_in (hd : ops.toList.all noDefer = true) (ho : ¬ LetsOut Q) : ∀ (f : Nat) (l : Array Bool) {a : Act} {w : World}, wpAny P .any ops Q f l a w → wpAnyIn (fen ro) m P .any ops Q f l a w
  | 0, l, a, w, h => h
  | f + 1, l, a, w, h => ⟨h.1, fun i hi => wpOpIn_mono (fun a w h => any_in hd ho f _ h) (wop_in hd ho (h.2 i hi))⟩
end
theorem nrm_np {K : Act → World → Prop} : ∀ c a w, ¬ nrm K (.panic c) a w := fun _ _ _ h => h
theorem nrm_no {K : Act → World → Prop} : ¬ LetsOut (nrm K) := fun ⟨_, _, h⟩ => h
theorem nrm_mono {K : Exit → Act → World → Prop} : ∀ e a w, nrm (K .normal) e a w → K e a w := fun e a w h => by cases e <;> first | exact h | exact h.elim
namespace Rd
section
variable {P : Program} {ro : Option Nat} {m n : Nat} {ops : Array Oper} {Q : Exit → Act → World → Prop} {w w0 : World} {E E' : List (Nat × Value)} {id id' : Nat} {c : Operand} {x y : Code} {i j : Int} {τ : List Nat} {v : Value}
def W (ro : Option Nat) (m : Nat) (P : Program) (n : Nat) (c : Code) (Q : Exit → Act → World → Prop) (E : List (Nat × Value)) (w : World) : Prop := ∀ a, Agr n E a → c.wpIn (fen ro) m P Q a w
abbrev M (n : Nat) (Q : Exit → Act → World → Prop) (E : List (Nat × Value)) (w : World) : Prop := N n (nrm (Q .normal)) E w
abbrev Th (ro : Option Nat) (m : Nat) (P : Program) (y : Code) (Q : Exit → Act → World → Prop) : Exit → Act → World → Prop := Exit.then (fun a w => y.wpIn (fen ro) m P Q a w) Q
theorem sq (h : W ro m P n x (Th ro m P y Q) E w) : W ro m P n (.seq x y) Q E w := fun a ha => wpIn_seq (h a ha)
theorem sk (h : M n Q E w) : W ro m P n .skip Q E w := fun a ha => wpIn_skip (h a ha)
theorem rt (h : T n Q E w) : W ro m P n .ret Q E w := fun a ha => wpIn_ret (h a ha)
theorem xt (h : X n Q id E w) : W ro m P n (.exit id) Q E w := fun a ha => wpIn_exit (h a ha)
theorem bk (h : W ro m P n x (Exit.inBlock id Q) E w) : W ro m P n (.block id x) Q E w := fun a ha => wpIn_block (h a ha)
theorem rg {l : List Oper} (h : WL P n l.toArray (nrm (Q .normal)) l E w) (hd : l.all noDefer = true := by kernel_rfl) : W ro m P n (.region id l.toArray false) Q E w := fun a ha => Go.wpIn_mono (wpIn_region_lit (list_in l hd (h a ha) nrm_np nrm_no)) nrm_mono
theorem cT (hc : ev E c = some (.bool true)) (h : W ro m P n x Q E w) : W ro m P n (.cond c x y) Q E w := fun a ha => wpIn_cond_true (ha.ev hc) (h a ha)
theorem cF (hc : ev E c = some (.bool false)) (h : W ro m P n y Q E w) : W ro m P n (.cond c x y) Q E w := fun a ha => wpIn_cond_false (ha.ev hc) (h a ha)
theorem cb {b : Bool} (hc : ev E c = some (.bool b)) (h1 : b = true → W ro m P n x Q E w) (h2 : b = false → W ro m P n y Q E w) : W ro m P n (.cond c x y) Q E w :=
  fun a ha => wpIn_cond_split (ha.ev hc) (fun h => h1 h a ha) (fun h => h2 h a ha)
theorem clt (hc : ev E c = some (.bool (decide (i < j)))) (h1 : i < j → W ro m P n x Q E w) (h2 : ¬ i < j → W ro m P n y Q E w) : W ro m P n (.cond c x y) Q E w := cb hc (fun h => h1 (of_decide_eq_true h)) (fun h => h2 (of_decide_eq_false h))
theorem cle (hc : ev E c = some (.bool (decide (i ≤ j)))) (h1 : i ≤ j → W ro m P n x Q E w) (h2 : ¬ i ≤ j → W ro m P n y Q E w) : W ro m P n (.cond c x y) Q E w := cb hc (fun h => h1 (of_decide_eq_true h)) (fun h => h2 (of_decide_eq_false h))
theorem ceq (hc : ev E c = some (.bool (i == j))) (h1 : i = j → W ro m P n x Q E w) (h2 : ¬ i = j → W ro m P n y Q E w) : W ro m P n (.cond c x y) Q E w := cb hc (fun h => h1 (by simpa using h)) (fun h => h2 (by simpa using h))
theorem cne (hc : ev E c = some (.bool (i != j))) (h1 : ¬ i = j → W ro m P n x Q E w) (h2 : i = j → W ro m P n y Q E w) : W ro m P n (.cond c x y) Q E w := cb hc (fun h => h1 (by simpa using h)) (fun h => h2 (by simpa using h))
theorem nT (h : W ro m P n y Q E w) : M n (Th ro m P y Q) E w := h
theorem ne {fn : Func} {R : Ending → World → Prop} (h : T n (bodyPost P fn R) E w) : M n (bodyPost P fn R) E w := fun a ha => h a ha
theorem nB (h : M n Q E w) : M n (Exit.inBlock id Q) E w := h
theorem xT (h : X n Q id E w) : X n (Th ro m P y Q) id E w := h
theorem xB (h : M n Q E w) : X n (Exit.inBlock id Q) id E w := fun a ha => by simp only [Exit.inBlock, if_true]; exact h a ha
theorem tT (h : T n Q E w) : T n (Th ro m P y Q) E w := h
theorem lp {c : Code} (I : Nat → List (Nat × Value) → World → Prop) (k : Nat) (E' : List (Nat × Value)) (h0 : I k E' w) (hs : Sub E' E)
    (round : ∀ k E w, I k E w → W ro m P n c (Exit.then (LI n I k) Q) E w) : W ro m P n (.loop c) Q E w := fun a ha => by
  intro b kk cs hro hb hr
  have key : ∀ k a w, (∃ E, I k E w ∧ Agr n E a) → ∃ e a' w', Q e a' w' ∧ ArrivesIn (Machine.fenced P (fen ro)) P (lone (b.atR a (.code c :: .inLoop c :: kk)) cs w) b kk cs e a' w' := by
    intro k
    induction k using Nat.strongRecOn with
    | _ k ih =>
      intro a w ⟨E, hI, ha⟩
      obtain ⟨e, a1, w1, hq, harr⟩ := round k E w hI a ha b (.inLoop c :: kk) cs hro hb hr
      cases e with
      | normal =>
        obtain ⟨m', hlt, hI1⟩ := hq
        obtain ⟨e2, a2, w2, hq2, harr2⟩ := ih m' hlt a1 w1 hI1
        exact ⟨e2, a2, w2, hq2, .of_steps (StepsIn.trans harr (.one (fenced_calm hb hr rfl) stepR_inLoop)) harr2⟩
      | exit id => exact ⟨_, a1, w1, hq, .pass (x := .inLoop c) rfl (fun _ _ => .inl (by simp)) harr⟩
      | goto l => exact ⟨_, a1, w1, hq, .pass (x := .inLoop c) rfl (fun _ _ => .inl (by simp)) harr⟩
      | ret => exact ⟨_, a1, w1, hq, .pass (x := .inLoop c) rfl (fun _ _ => .inl (by simp)) harr⟩
      | panic ch => exact ⟨_, a1, w1, hq, .pass (x := .inLoop c) rfl (fun _ _ => .inl (by simp)) harr⟩
      | outgrown => exact ⟨_, a1, w1, hq, .pass (x := .inLoop c) rfl (fun _ _ => .inl (by simp)) harr⟩
  obtain ⟨e, a', w', hq, harr⟩ := key k a w ⟨E', h0, ha.sub hs⟩
  exact ⟨e, a', w', hq, .of_steps (.one (fenced_calm hb hr rfl) stepR_loop) harr⟩
theorem nI {I : Nat → List (Nat × Value) → World → Prop} {k : Nat} (k' : Nat) (E' : List (Nat × Value)) (h : I k' E' w) (hm : k' < k) (hs : Sub E' E) : M n (Exit.then (LI n I k) Q) E w :=
  fun a ha => ⟨k', hm, E', h, ha.sub hs⟩
theorem rd (ks : List (Nat × Nat)) (τ : List Nat) (hm : P.follows .mixedOrders = true) (hB : (Region.noSelect ops && (τ.length == ops.size) && flowB ops (kds ks) τ (Array.replicate ops.size false)) = true)
    (h : FL P n ops (nrm (Q .normal)) (kds ks) τ E w) (hd : ops.toList.all noDefer = true := by kernel_rfl) : W ro m P n (.region id ops true) Q E w := fun a ha => by
  simp only [Bool.and_eq_true, beq_iff_eq] at hB
  obtain ⟨⟨hs, hl⟩, hB⟩ := hB
  refine Go.wpIn_mono (wpIn_region_any hm (Q := nrm (Q .normal)) (any_in hd nrm_no _ _ ?_)) nrm_mono
  have := any_of_flow (P := P) hs (Q := nrm (Q .normal)) nrm_np τ (Array.replicate ops.size false) a w (by simp) hB (h a ha)
  rw [hl] at this
  exact any_of_F _ _ _ _ this _ (Below.refl _ w).drew
theorem agr0 {l : List Value} (hl : Nat.ble l.length n = true) : Agr n (argEnv 0 l) { tmps := l.toArray ++ Array.replicate (n - l.toArray.size) undef, defers := [] } := by
  refine ⟨rfl, ?_, fun t v hv => ?_⟩
  · have := Nat.le_of_ble_eq_true hl
    simp only [Array.size_append, Array.size_replicate, List.size_toArray]; omega
  · obtain ⟨j, e, hj⟩ := argEnv_look l 0 t v hv
    have hlt := (List.getElem?_eq_some_iff.1 hj).1
    rw [Array.getElem?_append_left (by simp; omega)]
    simpa [show t = j by omega] using hj
/-- A function that holds a range over a function. -/
theorem calls_W {f : FuncId} {fn : Func} {c : Code} {l : List Value} {R : Ending → World → Prop} (hf : P.funcs[f]? = some fn) (hb : fn.body = some c) (hn : fn.ntmps = n) (hl : Nat.ble l.length n = true)
    (h : W none m P n c (bodyPostM (fen none) m P fn R) (argEnv 0 l) w) : Calls P f l.toArray w R := by
  have h1 : CallsIn (fen none) m P f l.toArray w R := callsIn_of_wp_marks hf hb trivial (by rw [hn]; exact h _ (agr0 hl)) rfl
  exact (callsIn_wide (n := m)).1 h1
/-- A function that doesn't. -/
theorem calls_I {f : FuncId} {fn : Func} {c : Code} {l : List Value} {R : Ending → World → Prop} (hf : P.funcs[f]? = some fn) (hb : fn.body = some c) (hn : fn.ntmps = n) (hl : Nat.ble l.length n = true)
    (h : W none m P n c (bodyPost P fn R) (argEnv 0 l) w) : CallsIn (fen none) m P f l.toArray w R :=
  callsIn_of_wp hf hb trivial (by rw [hn]; exact h _ (agr0 hl)) rfl
theorem tR {fn : Func} {R : Ending → World → Prop} {vs : List Value} (h : Res P E w fn.results.toList vs) (hR : R (.returned (tup vs)) w) : T n (bodyPostM (fen none) m P fn R) E w :=
  fun a ha => by
    show LeavesInM _ _ _ _ _ _ a.defers _ _
    rw [ha.d]
    exact ⟨_, run_results h ha, hR⟩
end
end Rd
/-! A region in which a round is begun. -/
namespace Ri
section
variable {P : Program} {ro : Option Nat} {m n : Nat} {ops : Array Oper} {Q : Exit → Act → World → Prop} {w w' w0 : World} {E E' : List (Nat × Value)} {id : Nat} {v : Value}
variable {d : Option Nat} {ty : TypeId} {pos : String} {af : Array Edge} {g : Option (Nat × Bool)} {x y z : Operand} {t : TypeId} {rest : List Oper}
def WL (ro : Option Nat) (m : Nat) (P : Program) (n : Nat) (ops : Array Oper) (Q : Exit → Act → World → Prop) (l : List Oper) (E : List (Nat × Value)) (w : World) : Prop := ∀ a, Agr n E a → wpListIn (fen ro) m P ops Q l a w
theorem rg {l : List Oper} (h : WL ro m P n l.toArray Q l E w) : Rd.W ro m P n (.region id l.toArray false) Q E w := fun a ha => wpIn_region_lit (h a ha)
theorem nl (h : Rd.M n Q E w) : WL ro m P n ops Q [] E w := h
theorem vl {d : Nat} {op : Op} (hr : Runs P E ⟨some d, op, ty, pos, af, none⟩ w v w') (hd : Nat.blt d n = true) (h : WL ro m P n ops Q rest ((d, v) :: E) w') : WL ro m P n ops Q (⟨some d, op, ty, pos, af, none⟩ :: rest) E w := fun a ha => by
  have hrun := hr n a ha
  unfold wpListIn
  rw [if_pos (by simp [Region.wanted])]
  refine ⟨fun _ _ => trivial, ?_⟩
  have hs : (⟨some d, op, ty, pos, af, none⟩ : Oper).semAt (fen ro).round a.eval = execOp a.eval ⟨some d, op, ty, pos, af, none⟩ := Oper.semAt_eq _ _ _ (fun c e => by
    have e : op = .defer c := e
    subst e
    simp only [execOp, Sem.run_bind, Sem.run_pure] at hrun
    revert hrun
    generalize (resolve a.eval c ty).run P w = r
    cases r <;> simp [Result.andThen])
  rw [hs, hrun]
  exact h _ (ha.put hd v)
/-- The next round. -/
theorem yd {d : Nat} {l : Nat} {xs : Array Operand} {ts : Array TypeId} {args : List Value} (hx : ev E x = some (.func (.yield l) #[] #[])) (he : evs E xs.toList = some args) (hd : Nat.blt d n = true)
    (h : YieldAt (fen ro) (m - 1) P l args.toArray w fun e w' => ∃ v, e = .returned v ∧ WL ro m P n ops Q rest ((d, v) :: E) w') : WL ro m P n ops Q (⟨some d, .call { callee := .value x, args := xs, argTypes := ts }, ty, pos, af, none⟩ :: rest) E w := fun a ha => by
  obtain ⟨fn, tmps, assign, body, hy, hR⟩ := h
  unfold wpListIn
  rw [if_pos (by simp [Region.wanted])]
  refine ⟨fun _ _ => trivial, ?_⟩
  have hs : (⟨some d, .call { callee := .value x, args := xs, argTypes := ts }, ty, pos, af, none⟩ : Oper).semAt (fen ro).round a.eval = execOp a.eval ⟨some d, .call { callee := .value x, args := xs, argTypes := ts }, ty, pos, af, none⟩ := Oper.semAt_eq _ _ _ (fun c e => by cases e)
  have hm : xs.map a.eval = args.toArray := by rw [← ha.evs he]; apply Array.ext'; simp
  have hrun : (execOp a.eval ⟨some d, .call { callee := .value x, args := xs, argTypes := ts }, ty, pos, af, none⟩).run P w = .ok (.round l fn tmps assign body) w := by
    unfold execOp
    simp only [resolve, invoke, Deferred.ofValue, ha.ev hx, callFunc, Sem.run_bind, Sem.run_pure, Result.andThen_ok, hm, Array.empty_append]
    first
      | exact hy
      | simpa using hy
  rw [hs, hrun]
  refine ⟨fun h => by simp [fen, Fence.wide] at h, hR.mono fun e w' he => ?_⟩
  obtain ⟨v, rfl, h⟩ := he
  exact h _ (ha.put hd v)
end
end Ri
/-! Behind a range over a function: a mark is deferred. -/
def mark (D : Nat) : List Deferred := [{ target := .collected D, args := #[] }]
def wd (ds : List Deferred) (a : Act) : Act := { a with defers := ds }
theorem wd_put (ds : List Deferred) (a : Act) (d : Option Nat) (v : Value) : (wd ds a).put d v = wd ds (a.put d v) := by cases d <;> rfl
theorem wd_eval (ds : List Deferred) (a : Act) : (wd ds a).eval = a.eval := by funext x; cases x <;> rfl
/-- The rounds' deferred calls: none. -/
def DMark (w : World) (D : Nat) : Prop := w.heap[D]? = some (.deferred (some []))
theorem DMark.lt {D : Nat} {w : World} (h : DMark w D) : D < w.heap.size := (Array.getElem?_eq_some_iff.1 h).1
theorem DMark.later {D : Nat} {w w' : World} (h : DMark w D) (x : Ext w w') : DMark w' D := (x.block D h.lt).trans h
theorem DMark.mod {D : Nat} {w w' : World} {S : List Nat} (h : DMark w D) (m : Mod S w w') (hs : D ∉ S) : DMark w' D := (m.block D h.lt hs).trans h
def unmark (w : World) (D : Nat) : World := w.putObj D (.deferred none)
theorem DMark.un {D : Nat} {w : World} (h : DMark w D) : Mod [D] w (unmark w D) := by
  have := Mod.grown (grownBy_putObj' w D (.deferred none))
  exact this
namespace Rt
section
variable {P : Program} {ds : List Deferred} {m n : Nat} {ops : Array Oper} {Q : Exit → Act → World → Prop} {w w' w0 : World} {E E' : List (Nat × Value)} {id : Nat} {v : Value}
variable {d : Option Nat} {ty : TypeId} {pos : String} {af : Array Edge} {g : Option (Nat × Bool)} {x y z : Operand} {t : TypeId} {rest : List Oper} {c : Operand} {cx cy : Code} {i j : Int}
def W (ds : List Deferred) (m : Nat) (P : Program) (n : Nat) (c : Code) (Q : Exit → Act → World → Prop) (E : List (Nat × Value)) (w : World) : Prop := ∀ a, Agr n E a → c.wpIn (fen none) m P Q (wd ds a) w
def N (ds : List Deferred) (n : Nat) (Q : Exit → Act → World → Prop) (E : List (Nat × Value)) (w : World) : Prop := ∀ a, Agr n E a → Q .normal (wd ds a) w
def T (ds : List Deferred) (n : Nat) (Q : Exit → Act → World → Prop) (E : List (Nat × Value)) (w : World) : Prop := ∀ a, Agr n E a → Q .ret (wd ds a) w
def WL (ds : List Deferred) (m : Nat) (P : Program) (n : Nat) (ops : Array Oper) (Q : Exit → Act → World → Prop) (l : List Oper) (E : List (Nat × Value)) (w : World) : Prop := ∀ a, Agr n E a → wpListIn (fen none) m P ops Q l (wd ds a) w
theorem sq (h : W ds m P n cx (Rd.Th none m P cy Q) E w) : W ds m P n (.seq cx cy) Q E w := fun a ha => wpIn_seq (h a ha)
theorem sk (h : N ds n Q E w) : W ds m P n .skip Q E w := fun a ha => wpIn_skip (h a ha)
theorem rt (h : T ds n Q E w) : W ds m P n .ret Q E w := fun a ha => wpIn_ret (h a ha)
theorem rg {l : List Oper} (h : WL ds m P n l.toArray Q l E w) : W ds m P n (.region id l.toArray false) Q E w := fun a ha => wpIn_region_lit (h a ha)
theorem nl (h : N ds n Q E w) : WL ds m P n ops Q [] E w := h
theorem nT (h : W ds m P n cy Q E w) : N ds n (Rd.Th none m P cy Q) E w := h
theorem nB (h : N ds n Q E w) : N ds n (Exit.inBlock id Q) E w := h
theorem tT (h : T ds n Q E w) : T ds n (Rd.Th none m P cy Q) E w := h
theorem tB (h : T ds n Q E w) : T ds n (Exit.inBlock id Q) E w := h
theorem cT (hc : ev E c = some (.bool true)) (h : W ds m P n cx Q E w) : W ds m P n (.cond c cx cy) Q E w := fun a ha => wpIn_cond_true (by rw [wd_eval]; exact ha.ev hc) (h a ha)
theorem cF (hc : ev E c = some (.bool false)) (h : W ds m P n cy Q E w) : W ds m P n (.cond c cx cy) Q E w := fun a ha => wpIn_cond_false (by rw [wd_eval]; exact ha.ev hc) (h a ha)
theorem cb {b : Bool} (hc : ev E c = some (.bool b)) (h1 : b = true → W ds m P n cx Q E w) (h2 : b = false → W ds m P n cy Q E w) : W ds m P n (.cond c cx cy) Q E w :=
  fun a ha => wpIn_cond_split (by rw [wd_eval]; exact ha.ev hc) (fun h => h1 h a ha) (fun h => h2 h a ha)
theorem cne (hc : ev E c = some (.bool (i != j))) (h1 : ¬ i = j → W ds m P n cx Q E w) (h2 : i = j → W ds m P n cy Q E w) : W ds m P n (.cond c cx cy) Q E w := cb hc (fun h => h1 (by simpa using h)) (fun h => h2 (by simpa using h))
theorem ceq (hc : ev E c = some (.bool (i == j))) (h1 : i = j → W ds m P n cx Q E w) (h2 : ¬ i = j → W ds m P n cy Q E w) : W ds m P n (.cond c cx cy) Q E w := cb hc (fun h => h1 (by simpa using h)) (fun h => h2 (by simpa using h))
theorem nodef_of_value {o : Oper} {a : Act} {v : Value} (h : (execOp a.eval o).run P w = .ok (.value v) w') : ∀ c, o.op ≠ .defer c := fun c e => by
  unfold execOp at h
  rw [e] at h
  simp only [Sem.run_bind, Sem.run_pure] at h
  revert h
  generalize (resolve a.eval c o.type).run P w = r
  cases r <;> simp [Result.andThen]
theorem vl {d : Nat} {op : Op} (hr : Runs P E ⟨some d, op, ty, pos, af, none⟩ w v w') (hd : Nat.blt d n = true) (h : WL ds m P n ops Q rest ((d, v) :: E) w') : WL ds m P n ops Q (⟨some d, op, ty, pos, af, none⟩ :: rest) E w := fun a ha => by
  have hrun := hr n a ha
  unfold wpListIn
  rw [if_pos (by simp [Region.wanted])]
  refine ⟨fun _ _ => trivial, ?_⟩
  rw [wd_eval, Oper.semAt_eq _ _ _ (nodef_of_value hrun), hrun]
  show wpListIn _ _ _ _ _ _ _ _
  rw [wd_put]
  exact h _ (ha.put hd v)
theorem ca {d : Nat} {f : FuncId} (hf : Enters P f) {xs : Array Operand} {ts : Array TypeId} {args : List Value} (he : evs E xs.toList = some args) (hd : Nat.blt d n = true)
    (h : Calls P f args.toArray w fun e w' => ∃ v, e = .returned v ∧ WL ds m P n ops Q rest ((d, v) :: E) w') : WL ds m P n ops Q (⟨some d, .call { callee := .value (.func f), args := xs, argTypes := ts }, ty, pos, af, none⟩ :: rest) E w := fun a ha => by
  unfold wpListIn
  rw [if_pos (by simp [Region.wanted])]
  refine ⟨fun _ _ => trivial, ?_⟩
  rw [wd_eval, Oper.semAt_eq _ _ _ (fun c e => by cases e), run_call hf ha he]
  refine ⟨fun h => by simp [fen, Fence.wide] at h, CallsIn.mono (calls_fen h) fun e w' hh => ?_⟩
  obtain ⟨v, rfl, h⟩ := hh
  show wpListIn _ _ _ _ _ _ _ _
  rw [wd_put]
  exact h _ (ha.put hd v)
theorem tR {D : Nat} {fn : Func} {R : Ending → World → Prop} {vs : List Value} (hK : DMark w D) (h : Res P E (unmark w D) fn.results.toList vs) (hR : R (.returned (tup vs)) (unmark w D)) : T (mark D) n (bodyPostM (fen none) m P fn R) E w :=
  fun a ha => by
    have hr := run_results (a := a) h ha
    exact ⟨by simp, .inl ⟨D, _, rfl, run_takeDeferred hK, _, hr, hR⟩⟩
end
end Rt
/-- Two blocks lie as they lay. -/
def Keep2 (b c : Nat) (W W' : World) : Prop := W'.heap[b]? = W.heap[b]? ∧ W'.heap[c]? = W.heap[c]?
theorem Keep2.tr {b c : Nat} {X Y Z : World} (h : Keep2 b c X Y) (k : Keep2 b c Y Z) : Keep2 b c X Z := ⟨k.1.trans h.1, k.2.trans h.2⟩
theorem Mod.keepsFrom {S : List Nat} {W W' : World} {B : Nat} (h : Mod S W W') (hS : ∀ q ∈ S, q < W.heap.size → ∃ cur e fr, W.heap[q]? = some (.cells cur e fr)) : KeepsFrom B W W' :=
  ⟨h.size, fun k o _ hk ho => by
    by_cases hm : k ∈ S
    · obtain ⟨cur, e, fr, hc⟩ := hS k hm (Array.getElem?_eq_some_iff.1 hk).1
      rw [hc] at hk
      injection hk with hk
      subst hk
      exact nomatch ho
    · exact (h.block k (Array.getElem?_eq_some_iff.1 hk).1 hm).trans hk⟩
theorem Mod.keep22 {S : List Nat} {W X Y : World} {b c : Nat} (h : Mod S W X) (k : Mod S W Y) (hb : b < W.heap.size ∧ c < W.heap.size) (h1 : b ∉ S) (h2 : c ∉ S) : Keep2 b c X Y :=
  ⟨(k.block b hb.1 h1).trans (h.block b hb.1 h1).symm, (k.block c hb.2 h2).trans (h.block c hb.2 h2).symm⟩
/-- What is no cells lies as it lay. -/
def KF (B : Nat) (w0 w : World) : Prop := KeepsFrom B w0 w
theorem KF.rf (B : Nat) (w : World) : KF B w w := KeepsFrom.refl B w
theorem KF.later {B : Nat} {w0 w w' : World} (h : KF B w0 w) (x : Ext w w') : KF B w0 w' := KeepsFrom.trans h ((Mod.of_ext (S := []) x).keepsFrom fun q hq => nomatch hq)
theorem KF.mod {B : Nat} {w0 w w' : World} {S : List Nat} (h : KF B w0 w) (m : Mod S w w') (hS : ∀ q ∈ S, ∃ cur e fr, w.heap[q]? = some (.cells cur e fr)) : KF B w0 w' := KeepsFrom.trans h (m.keepsFrom fun q hq _ => hS q hq)
theorem Rep.SOwn.cellsAt {α : Type} {R : Rep α} {e by_ B c : Nat} {A : Option Addr} {l : List α} {w : World} (h : R.SOwn e by_ w B (Rep.blkOf A) A c l) : ∀ q ∈ Rep.blkOf A, ∃ cur e fr, w.heap[q]? = some (.cells cur e fr) := by
  obtain ⟨_, ps, _, _, ⟨_, ho⟩, _⟩ := h
  rcases ho with ⟨h1, _⟩ | ⟨g, cap, cur, h1, _, h2, _⟩
  · injection h1 with h1; subst h1; intro q hq; exact nomatch hq
  · injection h1 with h1; subst h1; intro q hq
    obtain rfl := List.mem_singleton.1 hq
    exact ⟨_, _, _, h2⟩
/-- What an iterator is given to keep. -/
structure JAt {α : Type} (B : Nat) (J : List α → World → Prop) (pre : List α) (w : World) : Prop where
  ab : AbidesFrom B J
  at_ : J pre w
theorem JAt.later {α : Type} {B : Nat} {J : List α → World → Prop} {pre : List α} {w w' : World} (h : JAt B J pre w) (x : Ext w w') : JAt B J pre w' :=
  ⟨h.ab, h.ab _ _ _ none h.at_ ⟨x.os, x.tape, x.output, x.size, fun k hk _ => x.block k hk⟩ fun r e => nomatch e⟩
theorem Blk.keepc {b : Nat} {cs : List Value} {e : TypeId} {fr : Nat × Nat} {w w' : World} (h : Blk w b cs e fr) (k : w'.heap[b]? = w.heap[b]?) : Blk w' b cs e fr := k.trans h
theorem ymono {F : Fence} {m : Nat} {P : Program} {l : Nat} {args : Array Value} {W : World} {R R' : Ending → World → Prop} (h : YieldAt F m P l args W R) (hr : ∀ e w, R e w → R' e w) : YieldAt F m P l args W R' := by
  obtain ⟨fn, tmps, assign, body, hy, hR⟩ := h
  exact ⟨fn, tmps, assign, body, hy, hR.mono hr⟩
theorem yres {P Q : Prop} {e : Ending} (h : (e = .returned (.bool true) ∧ P) ∨ (e = .returned (.bool false) ∧ Q)) : ∃ b, e = .returned (.bool b) ∧ (b = true → P) ∧ (b = false → Q) := by
  rcases h with ⟨h, p⟩ | ⟨h, q⟩
  · exact ⟨true, h, fun _ => p, (fun h => nomatch h)⟩
  · exact ⟨false, h, (fun h => nomatch h), fun _ => q⟩
theorem fin_take {q k : Nat} (hk : k < q) : (List.finRange q).take k ++ [⟨k, hk⟩] = (List.finRange q).take (k + 1) := by
  rw [List.take_succ_eq_append_getElem (by simpa using hk)]
  simp
section
variable {P : Program} {n : Nat} {E E' : List (Nat × Value)} {w : World} {d : Option Nat} {ty : TypeId} {pos : String} {af : Array Edge} {g : Option (Nat × Bool)} {x y z u : Operand} {t : TypeId}
theorem sL {A : Option Addr} {len cap e s : Nat} {k : IntKind} (lo : Nat) {i : Int} (ht : P.underlying t = some (.slice e)) (hs : Sz P e s) (hx : ev E x = some (.slice A len cap)) (hy : ev E y = some (.int k i)) (h1 : i = (lo : Int)) (h2 : lo ≤ len) :
    Runs P E ⟨d, .slice t x (some y) none none, ty, pos, af, g⟩ w (.slice (sA A cap lo s) (len - lo) (cap - lo)) w := fun n a ha => by
  subst h1
  have q1 : P.underlying t = some (.slice (P.elem t)) := by simp [Program.elem, ht]
  have q2 : P.elem t = e := by simp [Program.elem, ht]
  have h3 := run_slice_l (P := P) (w := w) t A len cap q1 k (lo : Int) (by omega) (by omega)
  have h4 := run_sliceAt_slice (P := P) (w := w) t (.slice A len cap) (some (.int k (lo : Int))) none none q1
  rw [q2, hs w] at h3
  simp only [execOp, ha.ev hx, ha.ev hy, Option.map, h4, h3, Sem.run_bind, Result.andThen_ok, Sem.run_pure, sliced, Int.toNat_natCast, sA]
theorem sJ {A : Option Addr} {len cap e s : Nat} {k k' k2 : IntKind} (lo hi n : Nat) {i j j2 : Int} (ht : P.underlying t = some (.slice e)) (hs : Sz P e s) (hx : ev E x = some (.slice A len cap)) (hy : ev E y = some (.int k i)) (hz : ev E z = some (.int k' j)) (hu : ev E u = some (.int k2 j2)) (hi1 : i = (lo : Int)) (hi2 : j = (hi : Int)) (hi3 : j2 = (hi : Int)) (h1 : lo ≤ hi) (h2 : hi ≤ cap) (hn : n = hi - lo) :
    Runs P E ⟨d, .slice t x (some y) (some z) (some u), ty, pos, af, g⟩ w (.slice (sA A hi lo s) n n) w := fun n' a ha => by
  subst hi1; subst hi2; subst hi3; subst hn
  have q1 : P.underlying t = some (.slice (P.elem t)) := by simp [Program.elem, ht]
  have q2 : P.elem t = e := by simp [Program.elem, ht]
  have h3 := run_slice_lhm (P := P) (w := w) t A len cap q1 k k' k2 (lo : Int) (hi : Int) (hi : Int) (by omega) (by omega) (by omega) (by omega)
  have h4 := run_sliceAt_slice (P := P) (w := w) t (.slice A len cap) (some (.int k (lo : Int))) (some (.int k' (hi : Int))) (some (.int k2 (hi : Int))) q1
  rw [q2, hs w] at h3
  simp only [execOp, ha.ev hx, ha.ev hy, ha.ev hz, ha.ev hu, Option.map, h4, h3, Sem.run_bind, Result.andThen_ok, Sem.run_pure, sliced, Int.toNat_natCast, sA]
end
theorem Rep.SHas.chunk {α : Type} {R : Rep α} {by_ c : Nat} {A : Option Addr} {l : List α} {w : World} (h : R.SHas by_ w A c l) (lo hi : Nat) (h1 : lo < hi) (h2 : hi ≤ l.length) : R.SHas by_ w (sA A hi lo R.size) (hi - lo) ((l.drop lo).take (hi - lo)) := by
  have hs := h.sub lo hi (by omega) h2
  have hc := h.1
  have hcm := h.2.1
  have e : sA A hi lo R.size = sA A c lo R.size := by unfold sA; rw [if_neg (by omega), if_neg (by omega)]
  rw [e]
  obtain ⟨g1, g2, g3, g4, g5⟩ := hs
  refine ⟨by rw [List.length_take]; omega, by omega, g3, fun hn => ?_, g5⟩
  have := g4 hn
  omega
namespace Rd
theorem rf {α : Type} {P : Program} {m n : Nat} {Q : Exit → Act → World → Prop} {w w0 : World} {E : List (Nat × Value)} {tt p : Nat} {ty : TypeId} {pos : String} {af : Array Edge} {id : Nat} {body : Code} {g : Operand} {gf : Nat} {lb : List Value} {enc : α → Value} {b2 b3 : Nat} {S Sp : List α → Prop} {N0 : Nat}
    (hg : ev E g = some (.func (.func gf) #[] lb.toArray)) (hf : Enters P gf) (hseq : SeqStopsK (fen none) (m - 1) P gf lb.toArray (fun x => #[enc x]) (Keep2 b2 b3) S Sp N0 w0) (hb2 : b2 < w.heap.size) (hb3 : b3 < w.heap.size) (hb0 : Ext w0 w) (h1 : 1 ≤ m) (hp : Nat.blt p n = true) (ht : Nat.blt tt n = true)
    (I : List α → World → Prop) (hI : ∀ s W W' S, I s W → Mod S W W' → (∀ q ∈ S, w.heap.size ≤ q ∧ ∀ cur e fr, W.heap[q]? ≠ some (.cells cur e fr)) → I s W') (h0 : I [] w)
    (hbody : ∀ (l : Nat) (pre : List α) (x : α) (W' : World), I pre W' → pre.length < N0 → W (some l) (m - 1 - 1) P n body (ownPostG w.heap.size (Keep2 b2 b3) I (fun _ _ _ => False) (pre ++ [x]) W') ((tt, enc x) :: (p, enc x) :: E) W')
    (hdone : ∀ (D : Nat) (xs : List α) (W' : World), w.heap.size ≤ D → S xs → I xs W' → DMark W' D → Rt.N (mark D) n Q E W') :
    W none m P n (.rangeFunc g #[p] (.region id #[⟨some tt, .assign (.tmp p), ty, pos, af, none⟩] false) body) Q E w := fun a ha => by
  have hOf : ∀ {β : Type} (J : β → World → Prop), (∀ s W W' S, J s W → Mod S W W' → (∀ q ∈ S, w.heap.size ≤ q ∧ ∀ cur e fr, W.heap[q]? ≠ some (.cells cur e fr)) → J s W') → OwnFrom w.heap.size J := fun J hJ s X Y row hs hgr hr =>
    hJ s X Y row.toList hs (Mod.grown hgr) fun q hq => by
      cases row with
      | none => exact nomatch hq
      | some r =>
        obtain rfl := List.mem_singleton.1 hq
        obtain ⟨hB, o, ho, hc⟩ := hr _ rfl
        exact ⟨hB, fun cur e fr h => by rw [h] at ho; injection ho with ho; subst ho; exact nomatch hc⟩
  obtain ⟨fn, hf1, hf2, hf3⟩ := hf
  obtain ⟨bc, hbc⟩ : ∃ c, fn.body = some c := by
    cases h : fn.body with
    | none => rw [h] at hf3; simp at hf3
    | some c => exact ⟨c, rfl⟩
  refine wpIn_rangeFunc_ownH (F := fen none) rfl h1 (gf := gf) (lb := lb.toArray) (ha.ev hg) trivial (enters_of hf1 hf2 hbc) hseq (fun h k => h.tr k) ?_ hb0 (fun x => rfl) I (fun _ _ _ => False) (hOf I hI) (fun c s A B row hs hg hr => hs.elim) h0
    (fun x a' _ => Agr n ((tt, enc x) :: (p, enc x) :: E) a') (fun x a' s A B row hs hg hr => hs) ?_ ?_ ?_ ?_
  · intro W' l o o' hl hW _ _
    have hm := Mod.grown (grownBy_putObj' W' l o')
    exact ⟨hm.block b2 (by have := (Array.getElem?_eq_some_iff.1 hW).1; omega) (by simp; omega), hm.block b3 (by have := (Array.getElem?_eq_some_iff.1 hW).1; omega) (by simp; omega)⟩
  · intro l pre x W' K hi hK
    have hA : Agr n ((p, enc x) :: E) { tmps := (#[p].zip #[enc x]).foldl (fun t (p, v) => t.setIfInBounds p v) a.tmps, defers := [] } := by
      have := ha.put hp (enc x)
      have e : ({ tmps := (#[p].zip #[enc x]).foldl (fun t (p, v) => t.setIfInBounds p v) a.tmps, defers := [] } : Act) = a.put (some p) (enc x) := by
        simp [Act.put, ha.d]
      rw [e]; exact this
    have h2 : W (some l) (m - 1 - 1) P n (.region id [(⟨some tt, .assign (.tmp p), ty, pos, af, none⟩ : Oper)].toArray false) (Exit.then K (fun _ _ _ => False)) ((p, enc x) :: E) W' := by
      refine Ri.rg (Ri.vl (v := enc x) (w' := W') (as_ ?_) ht (Ri.nl fun a' ha' => hK a' W' (KeepsFrom.refl _ _) ⟨rfl, rfl⟩ hi ha'))
      show look ((p, enc x) :: E) p = _
      simp [look]
    exact h2 _ hA
  · intro l pre x a' W' _ _ hi hx hlen
    exact hbody l pre x W' hi hlen a' hx
  · intro D xs W' hD hS hi hK
    have := hdone D xs W' hD hS hi hK a ha
    have e : ({ a with defers := { target := .collected D, args := #[] } :: a.defers } : Act) = wd (mark D) a := by simp [wd, mark, ha.d]
    rw [e]; exact this
  · intro D c pre W' _ _ h _
    exact h.elim
end Rd
end Go.Proofs.Ytffjpfpbpnhmcaa
