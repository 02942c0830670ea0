import Derived.Test.YtmpkaphcpaigdaaGolB
import Derived.RangeFuncNested
import Derived.RangeFuncLeaves
import Derived.OrdersIn
import Derived.TacticsIn
import Derived.LoopNIn
import Derived.Laws.IdiomCopy
import Derived.Test.YtmpkaphcpaigdaaGol
import Derived.Test.YtmpkaphcpaigdaaBas
import Derived.Test.YtmpkaphcpaigdaaProg
set_option linter.unusedVariables false
set_option linter.unusedSimpArgs false
set_option maxRecDepth 100000
set_option maxHeartbeats 4000000
namespace Go.Proofs.Ytmpkaphcpaigdaa
section
open Go.RowKit
def fen (ro : Option Nat) : Fence := { Fence.wide with round := ro }
section
variable {P : Program} {ro : Option Nat} {m : Nat} {ops : Array Oper} {Q : Exit → Act → World → Prop} {w : World}
theorem calls_fen {f : FuncId} {args : Array Value} {R : Ending → World → Prop} (h : Calls P f args w R) : CallsIn (fen ro) m P f args w R := (callsIn_wide (n := m)).2 h
theorem rows_fen {row : String} {args : Array Value} {R : Value → World → Prop} (h : Rows P row args w R) : RowsIn (fen ro) m P row args w R := fun c cs _ =>
 let ⟨v, w', r, s⟩ := h c cs; ⟨v, w', r, stepsIn_wide.2 s⟩
def noDefer (o : Oper) : Bool := match o.op with
 | .defer _ => false
 | _ => true
theorem op_in {o : Oper} {a : Act} {K : Act → World → Prop} (hd : noDefer o = true) (h : o.wp P a w K Q) : o.wpIn (fen ro) m P a w K Q := by
 refine ⟨fun _ _ => trivial, ?_⟩
 have hs : o.semAt (fen ro).round a.eval = execOp a.eval o := Oper.semAt_eq _ _ _ (fun c e => by simp [noDefer, e] at hd)
 rw [hs]
 unfold Oper.wp at h
 generalize (execOp a.eval o).run P w = r at *
 cases r with
 | ok x w' =>
  cases x <;> simp only [Oper.upon] at h <;> simp only [Oper.uponIn] <;>
   first
    | exact h
    | exact h.elim
    | exact ⟨fun h => by simp [fen, Fence.wide] at h, calls_fen h⟩
    | exact ⟨fun h => by simp [fen, Fence.wide] at h, rows_fen h⟩
 | halt x w' => cases x <;> simp only [Oper.upon] at h <;> simp only [Oper.uponIn] <;> first | exact h | exact h.elim
theorem list_in : ∀ (l : List Oper) {a : Act} {w : World}, l.all noDefer = true → wpList P ops Q l a w → (∀ c a w, ¬ Q (.panic c) a w) → ¬ LetsOut Q → wpListIn (fen ro) m P ops Q l a w
 | [], a, w, _, h, _, _ => by unfold wpList at h; unfold wpListIn; exact h
 | o :: rest, a, w, hd, h, hp, ho => by
  rw [List.all_cons, Bool.and_eq_true] at hd
  unfold wpList at h
  unfold wpListIn
  split at h
  ·rename_i hw
   rw [if_pos hw]
   rcases h with h | ⟨h, x⟩
   ·exact Oper.wpIn_mono (fun a w h => list_in rest hd.2 h hp ho) (op_in hd.1 h)
   ·exact (ho x).elim
  ·rename_i hw
   rw [if_neg hw]
   exact ⟨fun _ _ => trivial, list_in rest hd.2 h hp ho⟩
theorem wop_in {i : Nat} {K : Act → World → Prop} {a : Act} {w : World} (hd : ops.toList.all noDefer = true) (ho : ¬ LetsOut Q) (h : wpOp P ops Q i K a w) : wpOpIn (fen ro) m P ops Q i K a w := by
 unfold wpOp at h
 unfold wpOpIn
 split at h
 ·rename_i hi; simp only [hi]; exact h
 ·rename_i o hi
  simp only [hi]
  have hdo : noDefer o = true := List.all_eq_true.1 hd o (by rw [Array.mem_toList_iff]; exact Array.mem_of_getElem? hi)
  split at h
  ·rename_i hw
   rw [if_pos hw]
   rcases h with h | ⟨h, x⟩
   ·exact op_in hdo h
   ·exact (ho x).elim
  ·rename_i hw
   rw [if_neg hw]
   exact ⟨fun _ _ => trivial, h⟩
theorem any_in (hd : ops.toList.all noDefer = true) (ho : ¬ LetsOut Q) : ∀ (f : Nat) (l : Array Bool) {a : Act} {w : World}, wpAny P .any ops Q f l a w → wpAnyIn (fen ro) m P .any ops Q f l a w
 | 0, l, a, w, h => h
 | f + 1, l, a, w, h => ⟨h.1, fun i hi => wpOpIn_mono (fun a w h => any_in hd ho f _ h) (wop_in hd ho (h.2 i hi))⟩
end
theorem nrm_np {K : Act → World → Prop} : ∀ c a w, ¬ nrm K (.panic c) a w := fun _ _ _ h => h
theorem nrm_no {K : Act → World → Prop} : ¬ LetsOut (nrm K) := fun ⟨_, _, h⟩ => h
theorem nrm_mono {K : Exit → Act → World → Prop} : ∀ e a w, nrm (K .normal) e a w → K e a w := fun e a w h => by cases e <;> first | exact h | exact h.elim
namespace Rd
section
variable {P : Program} {ro : Option Nat} {m n : Nat} {ops : Array Oper} {Q : Exit → Act → World → Prop} {w w0 : World} {E E' : List (Nat × Value)} {id id' : Nat} {c : Operand} {x y : Code} {i j : Int} {τ : List Nat} {v : Value}
def W (ro : Option Nat) (m : Nat) (P : Program) (n : Nat) (c : Code) (Q : Exit → Act → World → Prop) (E : List (Nat × Value)) (w : World) : Prop := ∀ a, Agr n E a → c.wpIn (fen ro) m P Q a w
abbrev M (n : Nat) (Q : Exit → Act → World → Prop) (E : List (Nat × Value)) (w : World) : Prop := N n (nrm (Q .normal)) E w
abbrev Th (ro : Option Nat) (m : Nat) (P : Program) (y : Code) (Q : Exit → Act → World → Prop) : Exit → Act → World → Prop := Exit.then (fun a w => y.wpIn (fen ro) m P Q a w) Q
theorem sq (h : W ro m P n x (Th ro m P y Q) E w) : W ro m P n (.seq x y) Q E w := fun a ha => wpIn_seq (h a ha)
theorem sk (h : M n Q E w) : W ro m P n .skip Q E w := fun a ha => wpIn_skip (h a ha)
theorem rt (h : T n Q E w) : W ro m P n .ret Q E w := fun a ha => wpIn_ret (h a ha)
theorem xt (h : X n Q id E w) : W ro m P n (.exit id) Q E w := fun a ha => wpIn_exit (h a ha)
theorem bk (h : W ro m P n x (Exit.inBlock id Q) E w) : W ro m P n (.block id x) Q E w := fun a ha => wpIn_block (h a ha)
theorem rg {l : List Oper} (h : WL P n l.toArray (nrm (Q .normal)) l E w) (hd : l.all noDefer = true := by kernel_rfl) : W ro m P n (.region id l.toArray false) Q E w := fun a ha => Go.wpIn_mono (wpIn_region_lit (list_in l hd (h a ha) nrm_np nrm_no)) nrm_mono
theorem cT (hc : ev E c = some (.bool true)) (h : W ro m P n x Q E w) : W ro m P n (.cond c x y) Q E w := fun a ha => wpIn_cond_true (ha.ev hc) (h a ha)
theorem cF (hc : ev E c = some (.bool false)) (h : W ro m P n y Q E w) : W ro m P n (.cond c x y) Q E w := fun a ha => wpIn_cond_false (ha.ev hc) (h a ha)
theorem cb {b : Bool} (hc : ev E c = some (.bool b)) (h1 : b = true → W ro m P n x Q E w) (h2 : b = false → W ro m P n y Q E w) : W ro m P n (.cond c x y) Q E w :=
 fun a ha => wpIn_cond_split (ha.ev hc) (fun h => h1 h a ha) (fun h => h2 h a ha)
theorem clt (hc : ev E c = some (.bool (decide (i < j)))) (h1 : i < j → W ro m P n x Q E w) (h2 : ¬ i < j → W ro m P n y Q E w) : W ro m P n (.cond c x y) Q E w := cb hc (fun h => h1 (of_decide_eq_true h)) (fun h => h2 (of_decide_eq_false h))
theorem cle (hc : ev E c = some (.bool (decide (i ≤ j)))) (h1 : i ≤ j → W ro m P n x Q E w) (h2 : ¬ i ≤ j → W ro m P n y Q E w) : W ro m P n (.cond c x y) Q E w := cb hc (fun h => h1 (of_decide_eq_true h)) (fun h => h2 (of_decide_eq_false h))
theorem ceq (hc : ev E c = some (.bool (i == j))) (h1 : i = j → W ro m P n x Q E w) (h2 : ¬ i = j → W ro m P n y Q E w) : W ro m P n (.cond c x y) Q E w := cb hc (fun h => h1 (by simpa using h)) (fun h => h2 (by simpa using h))
theorem cne (hc : ev E c = some (.bool (i != j))) (h1 : ¬ i = j → W ro m P n x Q E w) (h2 : i = j → W ro m P n y Q E w) : W ro m P n (.cond c x y) Q E w := cb hc (fun h => h1 (by simpa using h)) (fun h => h2 (by simpa using h))
theorem nT (h : W ro m P n y Q E w) : M n (Th ro m P y Q) E w := h
theorem ne {fn : Func} {R : Ending → World → Prop} (h : T n (bodyPost P fn R) E w) : M n (bodyPost P fn R) E w := fun a ha => h a ha
theorem nB (h : M n Q E w) : M n (Exit.inBlock id Q) E w := h
theorem xT (h : X n Q id E w) : X n (Th ro m P y Q) id E w := h
theorem xB (h : M n Q E w) : X n (Exit.inBlock id Q) id E w := fun a ha => by simp only [Exit.inBlock, if_true]; exact h a ha
theorem tT (h : T n Q E w) : T n (Th ro m P y Q) E w := h
theorem lp {c : Code} (I : Nat → List (Nat × Value) → World → Prop) (k : Nat) (E' : List (Nat × Value)) (h0 : I k E' w) (hs : Sub E' E)
  (round : ∀ k E w, I k E w → W ro m P n c (Exit.then (LI n I k) Q) E w) : W ro m P n (.loop c) Q E w := fun a ha => by
 intro b kk cs hro hb hr
 have key : ∀ k a w, (∃ E, I k E w ∧ Agr n E a) → ∃ e a' w', Q e a' w' ∧ ArrivesIn (Machine.fenced P (fen ro)) P (lone (b.atR a (.code c :: .inLoop c :: kk)) cs w) b kk cs e a' w' := by
  intro k
  induction k using Nat.strongRecOn with
  | _ k ih =>
   intro a w ⟨E, hI, ha⟩
   obtain ⟨e, a1, w1, hq, harr⟩ := round k E w hI a ha b (.inLoop c :: kk) cs hro hb hr
   cases e with
   | normal =>
    obtain ⟨m', hlt, hI1⟩ := hq
    obtain ⟨e2, a2, w2, hq2, harr2⟩ := ih m' hlt a1 w1 hI1
    exact ⟨e2, a2, w2, hq2, .of_steps (StepsIn.trans harr (.one (fenced_calm hb hr rfl) stepR_inLoop)) harr2⟩
   | exit id => exact ⟨_, a1, w1, hq, .pass (x := .inLoop c) rfl (fun _ _ => .inl (by simp)) harr⟩
   | goto l => exact ⟨_, a1, w1, hq, .pass (x := .inLoop c) rfl (fun _ _ => .inl (by simp)) harr⟩
   | ret => exact ⟨_, a1, w1, hq, .pass (x := .inLoop c) rfl (fun _ _ => .inl (by simp)) harr⟩
   | panic ch => exact ⟨_, a1, w1, hq, .pass (x := .inLoop c) rfl (fun _ _ => .inl (by simp)) harr⟩
   | outgrown => exact ⟨_, a1, w1, hq, .pass (x := .inLoop c) rfl (fun _ _ => .inl (by simp)) harr⟩
 obtain ⟨e, a', w', hq, harr⟩ := key k a w ⟨E', h0, ha.sub hs⟩
 exact ⟨e, a', w', hq, .of_steps (.one (fenced_calm hb hr rfl) stepR_loop) harr⟩
theorem nI {I : Nat → List (Nat × Value) → World → Prop} {k : Nat} (k' : Nat) (E' : List (Nat × Value)) (h : I k' E' w) (hm : k' < k) (hs : Sub E' E) : M n (Exit.then (LI n I k) Q) E w :=
 fun a ha => ⟨k', hm, E', h, ha.sub hs⟩
theorem rd (ks : List (Nat × Nat)) (τ : List Nat) (hm : P.follows .mixedOrders = true) (hB : (Region.noSelect ops && (τ.length == ops.size) && flowB ops (kds ks) τ (Array.replicate ops.size false)) = true)
  (h : FL P n ops (nrm (Q .normal)) (kds ks) τ E w) (hd : ops.toList.all noDefer = true := by kernel_rfl) : W ro m P n (.region id ops true) Q E w := fun a ha => by
 simp only [Bool.and_eq_true, beq_iff_eq] at hB
 obtain ⟨⟨hs, hl⟩, hB⟩ := hB
 refine Go.wpIn_mono (wpIn_region_any hm (Q := nrm (Q .normal)) (any_in hd nrm_no _ _ ?_)) nrm_mono
 have := any_of_flow (P := P) hs (Q := nrm (Q .normal)) nrm_np τ (Array.replicate ops.size false) a w (by simp) hB (h a ha)
 rw [hl] at this
 exact any_of_F _ _ _ _ this _ (Below.refl _ w).drew
theorem agr0 {l : List Value} (hl : Nat.ble l.length n = true) : Agr n (argEnv 0 l) { tmps := l.toArray ++ Array.replicate (n - l.toArray.size) undef, defers := [] } := by
 refine ⟨rfl, ?_, fun t v hv => ?_⟩
 ·have := Nat.le_of_ble_eq_true hl
  simp only [Array.size_append, Array.size_replicate, List.size_toArray]; omega
 ·obtain ⟨j, e, hj⟩ := argEnv_look l 0 t v hv
  have hlt := (List.getElem?_eq_some_iff.1 hj).1
  rw [Array.getElem?_append_left (by simp; omega)]
  simpa [show t = j by omega] using hj
theorem calls_W {f : FuncId} {fn : Func} {c : Code} {l : List Value} {R : Ending → World → Prop} (hf : P.funcs[f]? = some fn) (hb : fn.body = some c) (hn : fn.ntmps = n) (hl : Nat.ble l.length n = true)
  (h : W none m P n c (bodyPostM (fen none) m P fn R) (argEnv 0 l) w) : Calls P f l.toArray w R := by
 have h1 : CallsIn (fen none) m P f l.toArray w R := callsIn_of_wp_marks hf hb trivial (by rw [hn]; exact h _ (agr0 hl)) rfl
 exact (callsIn_wide (n := m)).1 h1
theorem calls_I {f : FuncId} {fn : Func} {c : Code} {l : List Value} {R : Ending → World → Prop} (hf : P.funcs[f]? = some fn) (hb : fn.body = some c) (hn : fn.ntmps = n) (hl : Nat.ble l.length n = true)
  (h : W none m P n c (bodyPost P fn R) (argEnv 0 l) w) : CallsIn (fen none) m P f l.toArray w R :=
 callsIn_of_wp hf hb trivial (by rw [hn]; exact h _ (agr0 hl)) rfl
theorem tR {fn : Func} {R : Ending → World → Prop} {vs : List Value} (h : Res P E w fn.results.toList vs) (hR : R (.returned (tup vs)) w) : T n (bodyPostM (fen none) m P fn R) E w :=
 fun a ha => by
  show LeavesInM _ _ _ _ _ _ a.defers _ _
  rw [ha.d]
  exact ⟨_, run_results h ha, hR⟩
end
end Rd
namespace Ri
section
variable {P : Program} {ro : Option Nat} {m n : Nat} {ops : Array Oper} {Q : Exit → Act → World → Prop} {w w' w0 : World} {E E' : List (Nat × Value)} {id : Nat} {v : Value}
variable {d : Option Nat} {ty : TypeId} {pos : String} {af : Array Edge} {g : Option (Nat × Bool)} {x y z : Operand} {t : TypeId} {rest : List Oper}
def WL (ro : Option Nat) (m : Nat) (P : Program) (n : Nat) (ops : Array Oper) (Q : Exit → Act → World → Prop) (l : List Oper) (E : List (Nat × Value)) (w : World) : Prop := ∀ a, Agr n E a → wpListIn (fen ro) m P ops Q l a w
theorem rg {l : List Oper} (h : WL ro m P n l.toArray Q l E w) : Rd.W ro m P n (.region id l.toArray false) Q E w := fun a ha => wpIn_region_lit (h a ha)
theorem nl (h : Rd.M n Q E w) : WL ro m P n ops Q [] E w := h
theorem vl {d : Nat} {op : Op} (hr : Runs P E ⟨some d, op, ty, pos, af, none⟩ w v w') (hd : Nat.blt d n = true) (h : WL ro m P n ops Q rest ((d, v) :: E) w') : WL ro m P n ops Q (⟨some d, op, ty, pos, af, none⟩ :: rest) E w := fun a ha => by
 have hrun := hr n a ha
 unfold wpListIn
 rw [if_pos (by simp [Region.wanted])]
 refine ⟨fun _ _ => trivial, ?_⟩
 have hs : (⟨some d, op, ty, pos, af, none⟩ : Oper).semAt (fen ro).round a.eval = execOp a.eval ⟨some d, op, ty, pos, af, none⟩ := Oper.semAt_eq _ _ _ (fun c e => by
  have e : op = .defer c := e
  subst e
  simp only [execOp, Sem.run_bind, Sem.run_pure] at hrun
  revert hrun
  generalize (resolve a.eval c ty).run P w = r
  cases r <;> simp [Result.andThen])
 rw [hs, hrun]
 exact h _ (ha.put hd v)
theorem yd {d : Nat} {l : Nat} {xs : Array Operand} {ts : Array TypeId} {args : List Value} (hx : ev E x = some (.func (.yield l) #[] #[])) (he : evs E xs.toList = some args) (hd : Nat.blt d n = true)
  (h : YieldAt (fen ro) (m - 1) P l args.toArray w fun e w' => ∃ v, e = .returned v ∧ WL ro m P n ops Q rest ((d, v) :: E) w') : WL ro m P n ops Q (⟨some d, .call { callee := .value x, args := xs, argTypes := ts }, ty, pos, af, none⟩ :: rest) E w := fun a ha => by
 obtain ⟨fn, tmps, assign, body, hy, hR⟩ := h
 unfold wpListIn
 rw [if_pos (by simp [Region.wanted])]
 refine ⟨fun _ _ => trivial, ?_⟩
 have hs : (⟨some d, .call { callee := .value x, args := xs, argTypes := ts }, ty, pos, af, none⟩ : Oper).semAt (fen ro).round a.eval = execOp a.eval ⟨some d, .call { callee := .value x, args := xs, argTypes := ts }, ty, pos, af, none⟩ := Oper.semAt_eq _ _ _ (fun c e => by cases e)
 have hm : xs.map a.eval = args.toArray := by rw [← ha.evs he]; apply Array.ext'; simp
 have hrun : (execOp a.eval ⟨some d, .call { callee := .value x, args := xs, argTypes := ts }, ty, pos, af, none⟩).run P w = .ok (.round l fn tmps assign body) w := by
  unfold execOp
  simp only [resolve, invoke, Deferred.ofValue, ha.ev hx, callFunc, Sem.run_bind, Sem.run_pure, Result.andThen_ok, hm, Array.empty_append]
  first
   | exact hy
   | simpa using hy
 rw [hs, hrun]
 refine ⟨fun h => by simp [fen, Fence.wide] at h, hR.mono fun e w' he => ?_⟩
 obtain ⟨v, rfl, h⟩ := he
 exact h _ (ha.put hd v)
end
end Ri
def mark (D : Nat) : List Deferred := [{ target := .collected D, args := #[] }]
def wd (ds : List Deferred) (a : Act) : Act := { a with defers := ds }
theorem wd_put (ds : List Deferred) (a : Act) (d : Option Nat) (v : Value) : (wd ds a).put d v = wd ds (a.put d v) := by cases d <;> rfl
theorem wd_eval (ds : List Deferred) (a : Act) : (wd ds a).eval = a.eval := by funext x; cases x <;> rfl
def DMark (w : World) (D : Nat) : Prop := w.heap[D]? = some (.deferred (some []))
theorem DMark.lt {D : Nat} {w : World} (h : DMark w D) : D < w.heap.size := (Array.getElem?_eq_some_iff.1 h).1
theorem DMark.later {D : Nat} {w w' : World} (h : DMark w D) (x : Ext w w') : DMark w' D := (x.block D h.lt).trans h
theorem DMark.mod {D : Nat} {w w' : World} {S : List Nat} (h : DMark w D) (m : Mod S w w') (hs : D ∉ S) : DMark w' D := (m.block D h.lt hs).trans h
def unmark (w : World) (D : Nat) : World := w.putObj D (.deferred none)
theorem DMark.un {D : Nat} {w : World} (h : DMark w D) : Mod [D] w (unmark w D) := by
 have := Mod.grown (grownBy_putObj' w D (.deferred none))
 exact this
namespace Rt
section
variable {P : Program} {ds : List Deferred} {m n : Nat} {ops : Array Oper} {Q : Exit → Act → World → Prop} {w w' w0 : World} {E E' : List (Nat × Value)} {id : Nat} {v : Value}
variable {d : Option Nat} {ty : TypeId} {pos : String} {af : Array Edge} {g : Option (Nat × Bool)} {x y z : Operand} {t : TypeId} {rest : List Oper} {c : Operand} {cx cy : Code} {i j : Int}
def W (ds : List Deferred) (m : Nat) (P : Program) (n : Nat) (c : Code) (Q : Exit → Act → World → Prop) (E : List (Nat × Value)) (w : World) : Prop := ∀ a, Agr n E a → c.wpIn (fen none) m P Q (wd ds a) w
def N (ds : List Deferred) (n : Nat) (Q : Exit → Act → World → Prop) (E : List (Nat × Value)) (w : World) : Prop := ∀ a, Agr n E a → Q .normal (wd ds a) w
def T (ds : List Deferred) (n : Nat) (Q : Exit → Act → World → Prop) (E : List (Nat × Value)) (w : World) : Prop := ∀ a, Agr n E a → Q .ret (wd ds a) w
def WL (ds : List Deferred) (m : Nat) (P : Program) (n : Nat) (ops : Array Oper) (Q : Exit → Act → World → Prop) (l : List Oper) (E : List (Nat × Value)) (w : World) : Prop := ∀ a, Agr n E a → wpListIn (fen none) m P ops Q l (wd ds a) w
theorem sq (h : W ds m P n cx (Rd.Th none m P cy Q) E w) : W ds m P n (.seq cx cy) Q E w := fun a ha => wpIn_seq (h a ha)
theorem sk (h : N ds n Q E w) : W ds m P n .skip Q E w := fun a ha => wpIn_skip (h a ha)
theorem rt (h : T ds n Q E w) : W ds m P n .ret Q E w := fun a ha => wpIn_ret (h a ha)
theorem rg {l : List Oper} (h : WL ds m P n l.toArray Q l E w) : W ds m P n (.region id l.toArray false) Q E w := fun a ha => wpIn_region_lit (h a ha)
theorem nl (h : N ds n Q E w) : WL ds m P n ops Q [] E w := h
theorem nT (h : W ds m P n cy Q E w) : N ds n (Rd.Th none m P cy Q) E w := h
theorem nB (h : N ds n Q E w) : N ds n (Exit.inBlock id Q) E w := h
theorem tT (h : T ds n Q E w) : T ds n (Rd.Th none m P cy Q) E w := h
theorem tB (h : T ds n Q E w) : T ds n (Exit.inBlock id Q) E w := h
theorem cT (hc : ev E c = some (.bool true)) (h : W ds m P n cx Q E w) : W ds m P n (.cond c cx cy) Q E w := fun a ha => wpIn_cond_true (by rw [wd_eval]; exact ha.ev hc) (h a ha)
theorem cF (hc : ev E c = some (.bool false)) (h : W ds m P n cy Q E w) : W ds m P n (.cond c cx cy) Q E w := fun a ha => wpIn_cond_false (by rw [wd_eval]; exact ha.ev hc) (h a ha)
theorem cb {b : Bool} (hc : ev E c = some (.bool b)) (h1 : b = true → W ds m P n cx Q E w) (h2 : b = false → W ds m P n cy Q E w) : W ds m P n (.cond c cx cy) Q E w :=
 fun a ha => wpIn_cond_split (by rw [wd_eval]; exact ha.ev hc) (fun h => h1 h a ha) (fun h => h2 h a ha)
theorem cne (hc : ev E c = some (.bool (i != j))) (h1 : ¬ i = j → W ds m P n cx Q E w) (h2 : i = j → W ds m P n cy Q E w) : W ds m P n (.cond c cx cy) Q E w := cb hc (fun h => h1 (by simpa using h)) (fun h => h2 (by simpa using h))
theorem ceq (hc : ev E c = some (.bool (i == j))) (h1 : i = j → W ds m P n cx Q E w) (h2 : ¬ i = j → W ds m P n cy Q E w) : W ds m P n (.cond c cx cy) Q E w := cb hc (fun h => h1 (by simpa using h)) (fun h => h2 (by simpa using h))
theorem nodef_of_value {o : Oper} {a : Act} {v : Value} (h : (execOp a.eval o).run P w = .ok (.value v) w') : ∀ c, o.op ≠ .defer c := fun c e => by
 unfold execOp at h
 rw [e] at h
 simp only [Sem.run_bind, Sem.run_pure] at h
 revert h
 generalize (resolve a.eval c o.type).run P w = r
 cases r <;> simp [Result.andThen]
theorem vl {d : Nat} {op : Op} (hr : Runs P E ⟨some d, op, ty, pos, af, none⟩ w v w') (hd : Nat.blt d n = true) (h : WL ds m P n ops Q rest ((d, v) :: E) w') : WL ds m P n ops Q (⟨some d, op, ty, pos, af, none⟩ :: rest) E w := fun a ha => by
 have hrun := hr n a ha
 unfold wpListIn
 rw [if_pos (by simp [Region.wanted])]
 refine ⟨fun _ _ => trivial, ?_⟩
 rw [wd_eval, Oper.semAt_eq _ _ _ (nodef_of_value hrun), hrun]
 show wpListIn _ _ _ _ _ _ _ _
 rw [wd_put]
 exact h _ (ha.put hd v)
theorem ca {d : Nat} {f : FuncId} (hf : Enters P f) {xs : Array Operand} {ts : Array TypeId} {args : List Value} (he : evs E xs.toList = some args) (hd : Nat.blt d n = true)
  (h : Calls P f args.toArray w fun e w' => ∃ v, e = .returned v ∧ WL ds m P n ops Q rest ((d, v) :: E) w') : WL ds m P n ops Q (⟨some d, .call { callee := .value (.func f), args := xs, argTypes := ts }, ty, pos, af, none⟩ :: rest) E w := fun a ha => by
 unfold wpListIn
 rw [if_pos (by simp [Region.wanted])]
 refine ⟨fun _ _ => trivial, ?_⟩
 rw [wd_eval, Oper.semAt_eq _ _ _ (fun c e => by cases e), run_call hf ha he]
 refine ⟨fun h => by simp [fen, Fence.wide] at h, CallsIn.mono (calls_fen h) fun e w' hh => ?_⟩
 obtain ⟨v, rfl, h⟩ := hh
 show wpListIn _ _ _ _ _ _ _ _
 rw [wd_put]
 exact h _ (ha.put hd v)
theorem tR {D : Nat} {fn : Func} {R : Ending → World → Prop} {vs : List Value} (hK : DMark w D) (h : Res P E (unmark w D) fn.results.toList vs) (hR : R (.returned (tup vs)) (unmark w D)) : T (mark D) n (bodyPostM (fen none) m P fn R) E w :=
 fun a ha => by
  have hr := run_results (a := a) h ha
  exact ⟨by simp, .inl ⟨D, _, rfl, run_takeDeferred hK, _, hr, hR⟩⟩
end
end Rt
def Keep2 (b c : Nat) (W W' : World) : Prop := W'.heap[b]? = W.heap[b]? ∧ W'.heap[c]? = W.heap[c]?
theorem Keep2.tr {b c : Nat} {X Y Z : World} (h : Keep2 b c X Y) (k : Keep2 b c Y Z) : Keep2 b c X Z := ⟨k.1.trans h.1, k.2.trans h.2⟩
theorem Mod.keepsFrom {S : List Nat} {W W' : World} {B : Nat} (h : Mod S W W') (hS : ∀ q ∈ S, q < W.heap.size → ∃ cur e fr, W.heap[q]? = some (.cells cur e fr)) : KeepsFrom B W W' :=
 ⟨h.size, fun k o _ hk ho => by
  by_cases hm : k ∈ S
  ·obtain ⟨cur, e, fr, hc⟩ := hS k hm (Array.getElem?_eq_some_iff.1 hk).1
   rw [hc] at hk
   injection hk with hk
   subst hk
   exact nomatch ho
  ·exact (h.block k (Array.getElem?_eq_some_iff.1 hk).1 hm).trans hk⟩
theorem Mod.keep22 {S : List Nat} {W X Y : World} {b c : Nat} (h : Mod S W X) (k : Mod S W Y) (hb : b < W.heap.size ∧ c < W.heap.size) (h1 : b ∉ S) (h2 : c ∉ S) : Keep2 b c X Y :=
 ⟨(k.block b hb.1 h1).trans (h.block b hb.1 h1).symm, (k.block c hb.2 h2).trans (h.block c hb.2 h2).symm⟩
def KF (B : Nat) (w0 w : World) : Prop := KeepsFrom B w0 w
theorem KF.rf (B : Nat) (w : World) : KF B w w := KeepsFrom.refl B w
theorem KF.later {B : Nat} {w0 w w' : World} (h : KF B w0 w) (x : Ext w w') : KF B w0 w' := KeepsFrom.trans h ((Mod.of_ext (S := []) x).keepsFrom fun q hq => nomatch hq)
theorem KF.mod {B : Nat} {w0 w w' : World} {S : List Nat} (h : KF B w0 w) (m : Mod S w w') (hS : ∀ q ∈ S, ∃ cur e fr, w.heap[q]? = some (.cells cur e fr)) : KF B w0 w' := KeepsFrom.trans h (m.keepsFrom fun q hq _ => hS q hq)
theorem Rep.SOwn.cellsAt {α : Type} {R : Rep α} {e by_ B c : Nat} {A : Option Addr} {l : List α} {w : World} (h : R.SOwn e by_ w B (Rep.blkOf A) A c l) : ∀ q ∈ Rep.blkOf A, ∃ cur e fr, w.heap[q]? = some (.cells cur e fr) := by
 obtain ⟨_, ps, _, _, ⟨_, ho⟩, _⟩ := h
 rcases ho with ⟨h1, _⟩ | ⟨g, cap, cur, h1, _, h2, _⟩
 ·injection h1 with h1; subst h1; intro q hq; exact nomatch hq
 ·injection h1 with h1; subst h1; intro q hq
  obtain rfl := List.mem_singleton.1 hq
  exact ⟨_, _, _, h2⟩
structure JAt {α : Type} (B : Nat) (J : List α → World → Prop) (pre : List α) (w : World) : Prop where
 ab : AbidesFrom B J
 at_ : J pre w
theorem JAt.later {α : Type} {B : Nat} {J : List α → World → Prop} {pre : List α} {w w' : World} (h : JAt B J pre w) (x : Ext w w') : JAt B J pre w' :=
 ⟨h.ab, h.ab _ _ _ none h.at_ ⟨x.os, x.tape, x.output, x.size, fun k hk _ => x.block k hk⟩ fun r e => nomatch e⟩
theorem Blk.keepc {b : Nat} {cs : List Value} {e : TypeId} {fr : Nat × Nat} {w w' : World} (h : Blk w b cs e fr) (k : w'.heap[b]? = w.heap[b]?) : Blk w' b cs e fr := k.trans h
theorem ymono {F : Fence} {m : Nat} {P : Program} {l : Nat} {args : Array Value} {W : World} {R R' : Ending → World → Prop} (h : YieldAt F m P l args W R) (hr : ∀ e w, R e w → R' e w) : YieldAt F m P l args W R' := by
 obtain ⟨fn, tmps, assign, body, hy, hR⟩ := h
 exact ⟨fn, tmps, assign, body, hy, hR.mono hr⟩
theorem yres {P Q : Prop} {e : Ending} (h : (e = .returned (.bool true) ∧ P) ∨ (e = .returned (.bool false) ∧ Q)) : ∃ b, e = .returned (.bool b) ∧ (b = true → P) ∧ (b = false → Q) := by
 rcases h with ⟨h, p⟩ | ⟨h, q⟩
 ·exact ⟨true, h, fun _ => p, (fun h => nomatch h)⟩
 ·exact ⟨false, h, (fun h => nomatch h), fun _ => q⟩
theorem fin_take {q k : Nat} (hk : k < q) : (List.finRange q).take k ++ [⟨k, hk⟩] = (List.finRange q).take (k + 1) := by
 rw [List.take_succ_eq_append_getElem (by simpa using hk)]
 simp
section
variable {P : Program} {n : Nat} {E E' : List (Nat × Value)} {w : World} {d : Option Nat} {ty : TypeId} {pos : String} {af : Array Edge} {g : Option (Nat × Bool)} {x y z u : Operand} {t : TypeId}
theorem sL {A : Option Addr} {len cap e s : Nat} {k : IntKind} (lo : Nat) {i : Int} (ht : P.underlying t = some (.slice e)) (hs : Sz P e s) (hx : ev E x = some (.slice A len cap)) (hy : ev E y = some (.int k i)) (h1 : i = (lo : Int)) (h2 : lo ≤ len) :
  Runs P E ⟨d, .slice t x (some y) none none, ty, pos, af, g⟩ w (.slice (sA A cap lo s) (len - lo) (cap - lo)) w := fun n a ha => by
 subst h1
 have q1 : P.underlying t = some (.slice (P.elem t)) := by simp [Program.elem, ht]
 have q2 : P.elem t = e := by simp [Program.elem, ht]
 have h3 := run_slice_l (P := P) (w := w) t A len cap q1 k (lo : Int) (by omega) (by omega)
 have h4 := run_sliceAt_slice (P := P) (w := w) t (.slice A len cap) (some (.int k (lo : Int))) none none q1
 rw [q2, hs w] at h3
 simp only [execOp, ha.ev hx, ha.ev hy, Option.map, h4, h3, Sem.run_bind, Result.andThen_ok, Sem.run_pure, sliced, Int.toNat_natCast, sA]
theorem sJ {A : Option Addr} {len cap e s : Nat} {k k' k2 : IntKind} (lo hi n : Nat) {i j j2 : Int} (ht : P.underlying t = some (.slice e)) (hs : Sz P e s) (hx : ev E x = some (.slice A len cap)) (hy : ev E y = some (.int k i)) (hz : ev E z = some (.int k' j)) (hu : ev E u = some (.int k2 j2)) (hi1 : i = (lo : Int)) (hi2 : j = (hi : Int)) (hi3 : j2 = (hi : Int)) (h1 : lo ≤ hi) (h2 : hi ≤ cap) (hn : n = hi - lo) :
  Runs P E ⟨d, .slice t x (some y) (some z) (some u), ty, pos, af, g⟩ w (.slice (sA A hi lo s) n n) w := fun n' a ha => by
 subst hi1; subst hi2; subst hi3; subst hn
 have q1 : P.underlying t = some (.slice (P.elem t)) := by simp [Program.elem, ht]
 have q2 : P.elem t = e := by simp [Program.elem, ht]
 have h3 := run_slice_lhm (P := P) (w := w) t A len cap q1 k k' k2 (lo : Int) (hi : Int) (hi : Int) (by omega) (by omega) (by omega) (by omega)
 have h4 := run_sliceAt_slice (P := P) (w := w) t (.slice A len cap) (some (.int k (lo : Int))) (some (.int k' (hi : Int))) (some (.int k2 (hi : Int))) q1
 rw [q2, hs w] at h3
 simp only [execOp, ha.ev hx, ha.ev hy, ha.ev hz, ha.ev hu, Option.map, h4, h3, Sem.run_bind, Result.andThen_ok, Sem.run_pure, sliced, Int.toNat_natCast, sA]
end
theorem Rep.SHas.chunk {α : Type} {R : Rep α} {by_ c : Nat} {A : Option Addr} {l : List α} {w : World} (h : R.SHas by_ w A c l) (lo hi : Nat) (h1 : lo < hi) (h2 : hi ≤ l.length) : R.SHas by_ w (sA A hi lo R.size) (hi - lo) ((l.drop lo).take (hi - lo)) := by
 have hs := h.sub lo hi (by omega) h2
 have hc := h.1
 have hcm := h.2.1
 have e : sA A hi lo R.size = sA A c lo R.size := by unfold sA; rw [if_neg (by omega), if_neg (by omega)]
 rw [e]
 obtain ⟨g1, g2, g3, g4, g5⟩ := hs
 refine ⟨by rw [List.length_take]; omega, by omega, g3, fun hn => ?_, g5⟩
 have := g4 hn
 omega
namespace Rd
theorem rf {α : Type} {P : Program} {m n : Nat} {Q : Exit → Act → World → Prop} {w w0 : World} {E : List (Nat × Value)} {tt p : Nat} {ty : TypeId} {pos : String} {af : Array Edge} {id : Nat} {body : Code} {g : Operand} {gf : Nat} {lb : List Value} {enc : α → Value} {b2 b3 : Nat} {S Sp : List α → Prop} {N0 : Nat}
  (hg : ev E g = some (.func (.func gf) #[] lb.toArray)) (hf : Enters P gf) (hseq : SeqStopsK (fen none) (m - 1) P gf lb.toArray (fun x => #[enc x]) (Keep2 b2 b3) S Sp N0 w0) (hb2 : b2 < w.heap.size) (hb3 : b3 < w.heap.size) (hb0 : Ext w0 w) (h1 : 1 ≤ m) (hp : Nat.blt p n = true) (ht : Nat.blt tt n = true)
  (I : List α → World → Prop) (hI : ∀ s W W' S, I s W → Mod S W W' → (∀ q ∈ S, w.heap.size ≤ q ∧ ∀ cur e fr, W.heap[q]? ≠ some (.cells cur e fr)) → I s W') (h0 : I [] w)
  (hbody : ∀ (l : Nat) (pre : List α) (x : α) (W' : World), I pre W' → pre.length < N0 → W (some l) (m - 1 - 1) P n body (ownPostG w.heap.size (Keep2 b2 b3) I (fun _ _ _ => False) (pre ++ [x]) W') ((tt, enc x) :: (p, enc x) :: E) W')
  (hdone : ∀ (D : Nat) (xs : List α) (W' : World), w.heap.size ≤ D → S xs → I xs W' → DMark W' D → Rt.N (mark D) n Q E W') :
  W none m P n (.rangeFunc g #[p] (.region id #[⟨some tt, .assign (.tmp p), ty, pos, af, none⟩] false) body) Q E w := fun a ha => by
 have hOf : ∀ {β : Type} (J : β → World → Prop), (∀ s W W' S, J s W → Mod S W W' → (∀ q ∈ S, w.heap.size ≤ q ∧ ∀ cur e fr, W.heap[q]? ≠ some (.cells cur e fr)) → J s W') → OwnFrom w.heap.size J := fun J hJ s X Y row hs hgr hr =>
  hJ s X Y row.toList hs (Mod.grown hgr) fun q hq => by
   cases row with
   | none => exact nomatch hq
   | some r =>
    obtain rfl := List.mem_singleton.1 hq
    obtain ⟨hB, o, ho, hc⟩ := hr _ rfl
    exact ⟨hB, fun cur e fr h => by rw [h] at ho; injection ho with ho; subst ho; exact nomatch hc⟩
 obtain ⟨fn, hf1, hf2, hf3⟩ := hf
 obtain ⟨bc, hbc⟩ : ∃ c, fn.body = some c := by
  cases h : fn.body with
  | none => rw [h] at hf3; simp at hf3
  | some c => exact ⟨c, rfl⟩
 refine wpIn_rangeFunc_ownH (F := fen none) rfl h1 (gf := gf) (lb := lb.toArray) (ha.ev hg) trivial (enters_of hf1 hf2 hbc) hseq (fun h k => h.tr k) ?_ hb0 (fun x => rfl) I (fun _ _ _ => False) (hOf I hI) (fun c s A B row hs hg hr => hs.elim) h0
  (fun x a' _ => Agr n ((tt, enc x) :: (p, enc x) :: E) a') (fun x a' s A B row hs hg hr => hs) ?_ ?_ ?_ ?_
 ·intro W' l o o' hl hW _ _
  have hm := Mod.grown (grownBy_putObj' W' l o')
  exact ⟨hm.block b2 (by have := (Array.getElem?_eq_some_iff.1 hW).1; omega) (by simp; omega), hm.block b3 (by have := (Array.getElem?_eq_some_iff.1 hW).1; omega) (by simp; omega)⟩
 ·intro l pre x W' K hi hK
  have hA : Agr n ((p, enc x) :: E) { tmps := (#[p].zip #[enc x]).foldl (fun t (p, v) => t.setIfInBounds p v) a.tmps, defers := [] } := by
   have := ha.put hp (enc x)
   have e : ({ tmps := (#[p].zip #[enc x]).foldl (fun t (p, v) => t.setIfInBounds p v) a.tmps, defers := [] } : Act) = a.put (some p) (enc x) := by
    simp [Act.put, ha.d]
   rw [e]; exact this
  have h2 : W (some l) (m - 1 - 1) P n (.region id [(⟨some tt, .assign (.tmp p), ty, pos, af, none⟩ : Oper)].toArray false) (Exit.then K (fun _ _ _ => False)) ((p, enc x) :: E) W' := by
   refine Ri.rg (Ri.vl (v := enc x) (w' := W') (as_ ?_) ht (Ri.nl fun a' ha' => hK a' W' (KeepsFrom.refl _ _) ⟨rfl, rfl⟩ hi ha'))
   show look ((p, enc x) :: E) p = _
   simp [look]
  exact h2 _ hA
 ·intro l pre x a' W' _ _ hi hx hlen
  exact hbody l pre x W' hi hlen a' hx
 ·intro D xs W' hD hS hi hK
  have := hdone D xs W' hD hS hi hK a ha
  have e : ({ a with defers := { target := .collected D, args := #[] } :: a.defers } : Act) = wd (mark D) a := by simp [wd, mark, ha.d]
  rw [e]; exact this
 ·intro D c pre W' _ _ h _
  exact h.elim
end Rd
end
section
open Go.RowKit
namespace Rep
variable {α : Type} {R : Rep α}
theorem SOwn.fsts {E by_ B c : Nat} {A : Option Addr} {l : List α} {w : World} {ps : List (List Nat × List Value)} (hp : R.Bare) (hall : All2 (fun x a => R.own w B x.1 x.2 a) ps l) : ∀ y ∈ ps, y.1 = [] := fun y hy => by
 obtain ⟨b, hb⟩ := hall.left y hy
 exact hp.2 hb
theorem fst_flat {ps : List (List Nat × List Value)} (h : ∀ y ∈ ps, y.1 = []) : (ps.map (·.1)).flatten = [] := by
 rw [List.flatten_eq_nil_iff]
 intro x hx
 obtain ⟨y, hy, rfl⟩ := List.mem_map.1 hx
 exact h y hy
theorem SOwn.cut {E by_ B c : Nat} {A : Option Addr} {l : List α} {w : World} (h : R.SOwn E by_ w B (blkOf A) A c l) (hp : R.Bare) (k : Nat) (hk : k ≤ l.length) : R.SOwn E by_ w B (blkOf A) A c (l.take k) := by
 obtain ⟨hb, ps, hf, hn, ho, hall⟩ := h
 have hl := olens hall
 have hpl : ps.length = l.length := hall.length
 have h1 := SOwn.fsts (E := E) (by_ := by_) (c := c) (A := A) hp hall
 have hlen : (l.take k).length = k := by rw [List.length_take]; omega
 have hm := Nat.mul_le_mul_right by_ hk
 refine ⟨by rw [hlen]; omega, ps.take k, ?_, hn, ?_, hall.take_ k⟩
 ·rw [fst_flat fun y hy => h1 y (List.mem_of_mem_take hy), List.append_nil]
 ·rw [hlen, List.map_take, flatten_take k hl]
  obtain ⟨hx1, hx2⟩ := ho
  have hle : k * R.size ≤ l.length * R.size := Nat.mul_le_mul_right _ hk
  refine ⟨by rw [List.length_take, hx1]; omega, ?_⟩
  rcases hx2 with ⟨hx2, hx3⟩ | ⟨g, cap, cur, hv, hB, hh, hnc, hcm, hs, ht, hG⟩
  ·injection hx2 with e1 e2 e3
   subst e1 e3
   have : k = 0 := by omega
   subst this
   exact .inl ⟨rfl, rfl⟩
  ·injection hv with e1 e2 e3
   subst e1 e3
   exact .inr ⟨g, c, cur, rfl, hB, hh, by omega, hcm, hs, by rw [← ht, List.take_take, Nat.min_eq_left hle], hG⟩
theorem Mod.setCells (g : Nat) : ∀ (zs : List Value) (o : Nat) (w : World), Mod [g] w (w.setCells g o zs)
 | [], _, w => Mod.of_ext (Ext.rf w)
 | v :: r, o, w => by
  rw [World.setCells]
  exact (Mod.setCell w ⟨g, o, none⟩ v).trans (Mod.setCells g r (o + 1) _)
end Rep
section
variable {P : Program} {n : Nat} {E E' : List (Nat × Value)} {a : Act} {w w' w0 w1 : World} {Q : Exit → Act → World → Prop} {ops : Array Oper} {v : Value}
variable {d : Option Nat} {ty : TypeId} {pos : String} {af : Array Edge} {g : Option (Nat × Bool)} {x y z : Operand} {t : TypeId} {rest : List Oper}
theorem sT {A : Option Addr} {len cap e s : Nat} {k : IntKind} (lo : Nat) {i : Int} (ht : P.underlying t = some (.slice e)) (hs : Sz P e s) (hx : ev E x = some (.slice A len cap)) (hy : ev E y = some (.int k i)) (hi : i = (lo : Int)) (h1 : lo ≤ len) :
  Runs P E ⟨d, .slice t x (some y) none none, ty, pos, af, g⟩ w (.slice (sA A cap lo s) (len - lo) (cap - lo)) w := fun n a ha => by
 subst hi
 have q1 : P.underlying t = some (.slice (P.elem t)) := by simp [Program.elem, ht]
 have q2 : P.elem t = e := by simp [Program.elem, ht]
 have h3 := run_slice_l (P := P) (w := w) t A len cap q1 k (lo : Int) (by omega) (by omega)
 have h4 := run_sliceAt_slice (P := P) (w := w) t (.slice A len cap) (some (.int k (lo : Int))) none none q1
 rw [q2, hs w] at h3
 simp only [execOp, ha.ev hx, ha.ev hy, Option.map, h4, h3, Sem.run_bind, Result.andThen_ok, Sem.run_pure, sliced, Int.toNat_natCast, sA]
theorem intDiv_quo {k : IntKind} {i j : Int} (h0 : 0 ≤ i) (h1 : 0 < j) (hw : k.wrap (i / j) = i / j) : Op.intDiv .quo k i j = pure (.int k (i / j)) := by
 unfold Op.intDiv
 have e : i.tdiv j = i / j := Int.tdiv_eq_ediv_of_nonneg h0
 rw [if_neg (by omega)]
 simp only [e, hw]
theorem intDiv_rem {k : IntKind} {i j : Int} (h0 : 0 ≤ i) (h1 : 0 < j) : Op.intDiv .rem k i j = pure (.int k (i % j)) := by
 unfold Op.intDiv
 have e : i.tmod j = i % j := Int.tmod_eq_emod_of_nonneg h0
 rw [if_neg (by omega)]
 simp only [e]
section
variable {k : IntKind} {i j : Int} {u : TypeId}
theorem bqu (hx : ev E x = some (.int k i)) (hy : ev E y = some (.int k j)) (h0 : 0 ≤ i) (h1 : 0 < j) (hw : k.wrap (i / j) = i / j) : Runs P E ⟨d, .binOp .quo t x y u, ty, pos, af, g⟩ w (.int k (i / j)) w := run_bin hx hy (binOp_quo t k i j) (by rw [intDiv_quo h0 h1 hw]; rfl)
theorem bre (hx : ev E x = some (.int k i)) (hy : ev E y = some (.int k j)) (h0 : 0 ≤ i) (h1 : 0 < j) : Runs P E ⟨d, .binOp .rem t x y u, ty, pos, af, g⟩ w (.int k (i % j)) w := run_bin hx hy (binOp_rem t k i j) (by rw [intDiv_rem h0 h1]; rfl)
theorem quI {i j : Int} (h0 : 0 ≤ i) (h1 : 0 < j) (h2 : i ≤ 9223372036854775807) : IntKind.i64.wrap (i / j) = i / j := by
 have e1 : 0 ≤ i / j := Int.ediv_nonneg h0 (by omega)
 have e2 : i / j ≤ i := Int.ediv_le_self _ h0
 exact inI ⟨by omega, by omega⟩
end
end
end
section
open Go.RowKit
section
variable {α : Type} {p : α → Bool} {l L : List α} {d : α} {i j k : Nat}
theorem mem_dd (h : k < l.length) : l.getD k d ∈ l := by rw [List.getD_eq_getElem?_getD, List.getElem?_eq_getElem h]; exact List.getElem_mem h
theorem getD_dd (h : k < l.length) : l.getD k d = l[k] := by rw [List.getD_eq_getElem?_getD, List.getElem?_eq_getElem h]; rfl
end
end
section
open Go.RowKit
def sgn (n : Int) : Int := if n < 0 then -1 else if 0 < n then 1 else 0
def sz (n : Int) : Int := if n < 0 then -n else if 0 < n then n else 0
theorem sz_bd (n : Int) : 0 ≤ sz n ∧ (-2000 ≤ n ∧ n ≤ 2000 → sz n ≤ 2000) ∧ (0 ≤ n → sz n = n) ∧ (n < 0 → sz n = -n) := by unfold sz; split <;> (try split) <;> omega
def far (a b : Cel) : Int := max (sz (b.x - a.x)) (sz (b.y - a.y))
def nar (a b : Cel) : Int := min (sz (b.x - a.x)) (sz (b.y - a.y))
def lstep (a b : Cel) (s : Int × Cel) : Int × Cel :=
  (if decide (far a b ≤ s.1 + 2 * nar a b) then s.1 + 2 * nar a b - 2 * far a b else s.1 + 2 * nar a b,
   ⟨if !decide (sz (b.x - a.x) < sz (b.y - a.y)) || decide (far a b ≤ s.1 + 2 * nar a b) then s.2.x + sgn (b.x - a.x) else s.2.x,
    if decide (sz (b.x - a.x) < sz (b.y - a.y)) || decide (far a b ≤ s.1 + 2 * nar a b) then s.2.y + sgn (b.y - a.y) else s.2.y⟩)
def lst (a b : Cel) : Nat → Int × Cel
  | 0 => (0, a)
  | k + 1 => lstep a b (lst a b k)
def pts (a b : Cel) (k : Nat) : List Cel := (List.range (k + 1)).map fun i => (lst a b i).2
def lineC (a b : Cel) : List Cel := pts a b (far a b).toNat
theorem near_in (c : Cel) (w : World) (h : -1000 ≤ c.x ∧ c.x ≤ 1000 ∧ -1000 ≤ c.y ∧ c.y ≤ 1000) :
    Calls Try.prog 96 #[.agg #[.int .i64 c.x, .int .i64 c.y]] w (fun e w' => e = .returned (.bool true) ∧ Ext w w') := by
  refine calls_W (n := 23) Try.func96 rfl rfl rfl ?_
  refine sq <| rg <| bx rfl rfl rfl rfl fun w_1 b_2 x_3 l_4 B_5 => ?_
  have q_6 := x_3.size
  have z_1 := Ext.tr (Ext.rf w) x_3
  have q_7 := B_5.lt
  refine vl (as_ rfl) rfl <| nl <| nT <| sq <| rg <| vl (fa eF0 rfl) rfl <| vl (ld rfl (B_5.one eF1 rfl)) rfl <| vl (fa eF0 rfl) rfl <| vl (ld rfl (B_5.one eF1 rfl)) rfl <| vl (ng rfl (inI (by omega))) rfl <| vl (fa eF2 rfl) rfl <| vl (ld rfl (B_5.one eF1 rfl)) rfl <| vl (fa eF2 rfl) rfl <| vl (ld rfl (B_5.one eF1 rfl)) rfl <| vl (ng rfl (inI (by omega))) rfl <| vl (mX rfl rfl rfl rfl) rfl <| vl (ble rfl rfl) rfl <| vl (mv rfl) rfl <| vQ rfl rfl rfl rfl (fun hc => fa eF0 rfl) rfl <| vQ rfl rfl rfl rfl (fun hc => ld (gt hc rfl) (B_5.one eF1 rfl)) rfl <| vQ rfl rfl rfl rfl (fun hc => fa eF2 rfl) rfl <| vQ rfl rfl rfl rfl (fun hc => ld (gt hc rfl) (B_5.one eF1 rfl)) rfl <| vQ rfl rfl rfl rfl (fun hc => mn (gt hc rfl) (gt hc rfl)) rfl <| vQ rfl rfl rfl rfl (fun hc => bge (gt hc rfl) rfl) rfl <| ?_
  refine vl (pA rfl rfl rfl rfl) rfl <| vl (as_ rfl) rfl <| nl <| nT <| rt <| tR (.tmp rfl .nil) <| ?_
  exact ⟨ret_true (by simp only [Bool.and_eq_true, decide_eq_true_eq]; omega), z_1⟩
theorem sign_in (n : Int) (w : World) (h : -2000 ≤ n ∧ n ≤ 2000) :
    Calls Try.prog 97 #[.int .i64 n] w (fun e w' => e = .returned (.tuple #[.int .i64 (sgn n), .int .i64 (sz n)]) ∧ Ext w w') := by
  refine calls_W (n := 13) Try.func97 rfl rfl rfl ?_
  refine sq <| rg <| vl (as_ rfl) rfl <| vl (as_ rfl) rfl <| nl <| nT <| sq <| bk <| sq <| rg <| vl (mv rfl) rfl <| vl (blt rfl rfl) rfl <| vl (as_ rfl) rfl <| nl <| nT <| ?_
  refine clt rfl (fun h_1 => ?_) (fun h_1 => ?_)
  · refine sq <| rg <| vl (mv rfl) rfl <| vl (ng rfl (inI (by omega))) rfl <| vl (as_ rfl) rfl <| vl (as_ rfl) rfl <| nl <| nT <| rt <| tB <| tT <| tR (.tmp rfl (.tmp rfl .nil)) <| ?_
    exact ⟨by unfold sgn sz; simp only [*, if_true, if_false]; try rfl, (Ext.rf w)⟩
  · refine sq <| rg <| vl (mv rfl) rfl <| vl (bgt rfl rfl) rfl <| vl (as_ rfl) rfl <| nl <| nT <| ?_
    refine clt rfl (fun h_2 => ?_) (fun h_2 => ?_)
    · refine sq <| rg <| vl (mv rfl) rfl <| vl (as_ rfl) rfl <| vl (as_ rfl) rfl <| nl <| nT <| rt <| tB <| tT <| tR (.tmp rfl (.tmp rfl .nil)) <| ?_
      exact ⟨by unfold sgn sz; simp only [*, if_true, if_false]; try rfl, (Ext.rf w)⟩
    · refine sk <| nB <| nT <| sq <| rg <| vl (as_ rfl) rfl <| vl (as_ rfl) rfl <| nl <| nT <| rt <| tR (.tmp rfl (.tmp rfl .nil)) <| ?_
      exact ⟨by unfold sgn sz; simp only [*, if_true, if_false]; try rfl, (Ext.rf w)⟩
theorem apart_in (a b : Cel) (w : World) (h : -1000 ≤ a.x ∧ a.x ≤ 1000 ∧ -1000 ≤ a.y ∧ a.y ≤ 1000) (h2 : -1000 ≤ b.x ∧ b.x ≤ 1000 ∧ -1000 ≤ b.y ∧ b.y ≤ 1000) :
    Calls Try.prog 87 #[.agg #[.int .i64 a.x, .int .i64 a.y], .agg #[.int .i64 b.x, .int .i64 b.y]] w (fun e w' => e = .returned (.tuple #[.int .i64 (far a b), .int .i64 (sz (b.x - a.x) + sz (b.y - a.y)), .int .i64 0]) ∧ Ext w w') := by
  refine calls_W (n := 43) Try.func87 rfl rfl rfl ?_
  refine sq <| rg <| bx rfl rfl rfl rfl fun w_1 b_2 x_3 l_4 B_5 => ?_
  have q_6 := x_3.size
  have z_1 := Ext.tr (Ext.rf w) x_3
  have q_7 := B_5.lt
  refine bx rfl rfl rfl rfl fun w_8 b_9 x_10 l_11 B_12 => ?_
  have q_13 := x_10.size
  have z_8 := Ext.tr z_1 x_10
  have q_14 := B_12.lt
  refine vl (as_ rfl) rfl <| vl (as_ rfl) rfl <| vl (as_ rfl) rfl <| nl <| nT <| sq <| sq <| rg <| ?_
  have B_5 := B_5.later x_10
  refine vl (ld rfl (B_5.all eF3 eF4)) rfl <| ca eF5 rfl rfl ((near_in a _ (by omega)).mono ?_)
  rintro e w_15 ⟨rfl, x_16⟩
  refine ⟨_, rfl, ?_⟩
  have q_17 := x_16.size
  have z_15 := Ext.tr z_8 x_16
  refine vl (nt rfl) rfl <| vl (mv rfl) rfl <| ug rfl rfl rfl <| ?_
  have B_12 := B_12.later x_16
  refine vl (ld rfl (B_12.all eF3 eF4)) rfl <| ug rfl rfl rfl <| ca eF5 rfl rfl ((near_in b _ (by omega)).mono ?_)
  rintro e w_18 ⟨rfl, x_19⟩
  refine ⟨_, rfl, ?_⟩
  have q_20 := x_19.size
  have z_18 := Ext.tr z_15 x_19
  refine ug rfl rfl rfl <| vl (nt rfl) rfl <| vl (pkF rfl rfl) rfl <| nl <| nT <| cF rfl <| sk <| nT <| sq <| rg <| vl (fa eF0 rfl) rfl <| ?_
  have B_12 := B_12.later x_19
  refine vl (ld rfl (B_12.one eF1 rfl)) rfl <| vl (fa eF0 rfl) rfl <| ?_
  have B_5 := B_5.later (Ext.tr x_16 x_19)
  refine vl (ld rfl (B_5.one eF1 rfl)) rfl <| vl (bsu rfl rfl (inI (by have := sz_bd (b.x - a.x); have := sz_bd (b.y - a.y); omega))) rfl <| ca eF6 rfl rfl ((sign_in (b.x - a.x) _ (by omega)).mono ?_)
  rintro e w_21 ⟨rfl, x_22⟩
  refine ⟨_, rfl, ?_⟩
  have q_23 := x_22.size
  have z_21 := Ext.tr z_18 x_22
  refine vl (mv rfl) rfl <| vl (ex rfl rfl) rfl <| vl (ex rfl rfl) rfl <| vl (as_ rfl) rfl <| vl (as_ rfl) rfl <| nl <| nT <| sq <| rg <| vl (fa eF2 rfl) rfl <| ?_
  have B_12 := B_12.later x_22
  refine vl (ld rfl (B_12.one eF1 rfl)) rfl <| vl (fa eF2 rfl) rfl <| ?_
  have B_5 := B_5.later x_22
  refine vl (ld rfl (B_5.one eF1 rfl)) rfl <| vl (bsu rfl rfl (inI (by have := sz_bd (b.x - a.x); have := sz_bd (b.y - a.y); omega))) rfl <| ca eF6 rfl rfl ((sign_in (b.y - a.y) _ (by omega)).mono ?_)
  rintro e w_24 ⟨rfl, x_25⟩
  refine ⟨_, rfl, ?_⟩
  have q_26 := x_25.size
  have z_24 := Ext.tr z_21 x_25
  refine vl (mv rfl) rfl <| vl (ex rfl rfl) rfl <| vl (ex rfl rfl) rfl <| vl (as_ rfl) rfl <| vl (as_ rfl) rfl <| nl <| nT <| sq <| rg <| vl (mv rfl) rfl <| vl (mv rfl) rfl <| vl (mx rfl rfl) rfl <| vl (mv rfl) rfl <| vl (mv rfl) rfl <| vl (bad rfl rfl (inI (by have := sz_bd (b.x - a.x); have := sz_bd (b.y - a.y); omega))) rfl <| vl (as_ rfl) rfl <| vl (as_ rfl) rfl <| vl (as_ rfl) rfl <| nl <| nT <| rt <| tR (.tmp rfl (.tmp rfl (.tmp rfl .nil))) <| ?_
  exact ⟨rfl, z_24⟩
end
section
open Go.RowKit
def costK (p : Int) : Int := if p = 0 ∨ p = 3 then 2 else if p = 2 then 3 else 0
def costE (p : Int) : Int := if p = 0 ∨ p = 3 then 0 else if p = 2 then 0 else if p = 1 then 9 else 1
def sidesC (c : Cel) : List Cel := [⟨c.x, c.y - 1⟩, ⟨c.x - 1, c.y⟩, ⟨c.x + 1, c.y⟩, ⟨c.x, c.y + 1⟩]
namespace Fld
section
variable {f : Fld} {c d x y b : Cel} {l far : List Int} {v : Int}
def kost (f : Fld) (c : Cel) : Int := if f.place c = 2 then 3 else 2
def adj (f : Fld) (c : Cel) : List Cel := (sidesC c).filter f.ground
def at_ (f : Fld) (c : Cel) : Nat := (c.y * f.wide + c.x).toNat
def fr (f : Fld) (far : List Int) (c : Cel) : Int := if f.isIn c then far.getD (f.at_ c) (-1) else -1
def est (b c : Cel) : Int := 2 * (sz (b.x - c.x) + sz (b.y - c.y))
theorem ground_place (h : f.ground c = true) : f.place c ≠ 1 := by unfold ground at h; rw [Bool.and_eq_true] at h; simpa using h.2
theorem ground_mk (h : f.isIn c = true) (h2 : f.place c ≠ 1) : f.ground c = true := by unfold ground; rw [h]; simpa using h2
theorem kost_bd : 2 ≤ f.kost c ∧ f.kost c ≤ 3 := by unfold kost; split <;> omega
theorem mem_adj : y ∈ f.adj x ↔ y ∈ sidesC x ∧ f.ground y = true := by unfold adj; rw [List.mem_filter]
theorem mem_sides : y ∈ sidesC x ↔ (y = ⟨x.x, x.y - 1⟩ ∨ y = ⟨x.x - 1, x.y⟩ ∨ y = ⟨x.x + 1, x.y⟩ ∨ y = ⟨x.x, x.y + 1⟩) := by unfold sidesC; simp
theorem sides_symm (h : y ∈ sidesC x) : x ∈ sidesC y := by
 rw [mem_sides] at h ⊢
 obtain ⟨a, b⟩ := x
 rcases h with rfl | rfl | rfl | rfl
 ·right; right; right; simp
 ·right; right; left; simp
 ·right; left; simp
 ·left; simp
theorem sides_ne (h : y ∈ sidesC x) : y ≠ x := by
 rw [mem_sides] at h
 obtain ⟨a, b⟩ := x
 rcases h with rfl | rfl | rfl | rfl <;> simp <;> omega
theorem est_step (b : Cel) (h : y ∈ sidesC x) : est b x ≤ 2 + est b y := by
 rw [mem_sides] at h
 obtain ⟨x1, x2⟩ := x
 have e : ∀ n : Int, sz n ≤ 1 + sz (n + 1) ∧ sz n ≤ 1 + sz (n - 1) := fun n => by
  have h1 := sz_bd n; have h2 := sz_bd (n + 1); have h3 := sz_bd (n - 1)
  rcases (show n < 0 ∨ 0 ≤ n by omega) with hn | hn
  ·have := h1.2.2.2 hn
   rcases (show n + 1 < 0 ∨ 0 ≤ n + 1 by omega) with hm | hm
   ·have := h2.2.2.2 hm; have := h3.2.2.2 (by omega); omega
   ·have := h2.2.2.1 hm; have := h3.2.2.2 (by omega); omega
  ·have := h1.2.2.1 hn
   have := h2.2.2.1 (by omega)
   rcases (show n - 1 < 0 ∨ 0 ≤ n - 1 by omega) with hm | hm
   ·have := h3.2.2.2 hm; omega
   ·have := h3.2.2.1 hm; omega
 unfold est
 rcases h with rfl | rfl | rfl | rfl <;> dsimp only
 ·have := (e (b.y - x2)).1; rw [show b.y - (x2 - 1) = b.y - x2 + 1 by omega]; omega
 ·have := (e (b.x - x1)).1; rw [show b.x - (x1 - 1) = b.x - x1 + 1 by omega]; omega
 ·have := (e (b.x - x1)).2; rw [show b.x - (x1 + 1) = b.x - x1 - 1 by omega]; omega
 ·have := (e (b.y - x2)).2; rw [show b.y - (x2 + 1) = b.y - x2 - 1 by omega]; omega
theorem est_nn (b c : Cel) : 0 ≤ est b c := by have := sz_bd (b.x - c.x); have := sz_bd (b.y - c.y); unfold est; omega
theorem est_self (b : Cel) : est b b = 0 := by unfold est; rw [Int.sub_self, Int.sub_self]; rfl
theorem okA (f : Fld) (b : Cel) : Gra.Ok f.adj f.kost (est b) := ⟨fun x y _ => by have := f.kost_bd (c := y); omega, est_nn b, fun x y hy => by
 have := est_step b (mem_adj.1 hy).1; have := f.kost_bd (c := y); omega⟩
theorem okZ (f : Fld) : Gra.Ok f.adj f.kost (fun _ => 0) := ⟨fun x y _ => by have := f.kost_bd (c := y); omega, fun _ => Int.le_refl 0, fun x y hy => by have := f.kost_bd (c := y); omega⟩
theorem at_inj (hf : f.chk = 0) (hc : f.isIn c = true) (hd : f.isIn d = true) (h : f.at_ c = f.at_ d) : c = d := by
 obtain ⟨a0, a1, a2, a3, a4, a5⟩ := idx hf hc
 obtain ⟨b0, b1, b2, b3, b4, b5⟩ := idx hf hd
 unfold at_ at h
 have e : c.y * f.wide + c.x = d.y * f.wide + d.x := by omega
 have e1 : (c.y * f.wide + c.x) % f.wide = c.x := by rw [Int.add_comm, Int.add_mul_emod_self_right, Int.emod_eq_of_lt a2 a3]
 have e2 : (d.y * f.wide + d.x) % f.wide = d.x := by rw [Int.add_comm, Int.add_mul_emod_self_right, Int.emod_eq_of_lt b2 b3]
 have ex : c.x = d.x := by rw [← e1, ← e2, e]
 have ey : c.y * f.wide = d.y * f.wide := by omega
 have ey : c.y = d.y := Int.eq_of_mul_eq_mul_right (by omega) ey
 cases c; cases d; simp at ex ey; rw [ex, ey]
theorem at_lt (hf : f.chk = 0) (hc : f.isIn c = true) : f.at_ c < f.places.length ∧ ((f.at_ c : Nat) : Int) = c.y * f.wide + c.x := by
 obtain ⟨a0, a1, _⟩ := idx hf hc
 unfold at_; omega
theorem fr_in (hc : f.isIn c = true) : f.fr far c = far.getD (f.at_ c) (-1) := by unfold fr; rw [if_pos hc]
theorem fr_out (hc : f.isIn c = false) : f.fr far c = -1 := by unfold fr; rw [if_neg (by rw [hc]; decide)]
theorem fr_isIn (h : 0 ≤ f.fr far c) : f.isIn c = true := by
 cases hc : f.isIn c with
 | true => rfl
 | false => rw [fr_out hc] at h; omega
theorem fr_set (hf : f.chk = 0) (hl : far.length = f.places.length) (hc : f.isIn c = true) : f.fr (far.set (f.at_ c) v) c = v := by
 rw [fr_in hc, List.getD_eq_getElem?_getD, List.getElem?_set_self (by rw [hl]; exact (at_lt hf hc).1)]; rfl
theorem fr_set_ne (hf : f.chk = 0) (hc : f.isIn c = true) (hne : d ≠ c) : f.fr (far.set (f.at_ c) v) d = f.fr far d := by
 cases hd : f.isIn d with
 | false => rw [fr_out hd, fr_out hd]
 | true => rw [fr_in hd, fr_in hd, List.getD_eq_getElem?_getD, List.getD_eq_getElem?_getD, List.getElem?_set_ne (fun e => hne (at_inj hf hd hc e.symm))]
end
end Fld
def und : List Int → Nat
 | [] => 0
 | x :: r => (if x < 0 then 1 else 0) + und r
theorem und_le : ∀ l : List Int, und l ≤ l.length
 | [] => Nat.le_refl _
 | x :: r => by have := und_le r; rw [und, List.length_cons]; split <;> omega
theorem und_set {v : Int} (hv : 0 ≤ v) : ∀ (l : List Int) (i : Nat), i < l.length → l.getD i (-1) < 0 → und (l.set i v) + 1 = und l
 | [], i, h, _ => by simp at h
 | x :: r, 0, _, h => by
  have h : x < 0 := h
  rw [List.set_cons_zero, und, und, if_neg (by omega), if_pos h]; omega
 | x :: r, i + 1, h, h2 => by
  have := und_set hv r i (by simpa using h) (by simpa using h2)
  rw [List.set_cons_succ, und, und]; omega
theorem und_all {n : Nat} : und (List.replicate n (-1)) = n := by
 induction n with
 | zero => rfl
 | succ n ih => rw [List.replicate_succ, und, ih]; simp; omega
structure SI {β : Type} [Inhabited β] (cel : β → Cel) (fa ky : β → Int) (f : Fld) (h : Cel → Int) (src : Cel → Prop) (far : List Int) (l : List β) (x0 : Cel) (rest : List Cel) : Prop where
 len : far.length = f.places.length
 inv : Gra.Inv f.adj f.kost h src (f.fr far) (l.map fun n => (cel n, fa n)) x0 rest
 hp : Hp.Heap ky l.length l
 all : ∀ n ∈ l, ky n = fa n + h (cel n) ∧ f.ground (cel n) = true
 bd : ∀ c, f.fr far c + 3 * (und far : Int) ≤ 3 * (f.places.length : Int)
 gr : ∀ c, 0 ≤ f.fr far c → f.ground c = true
section
variable {β : Type} [Inhabited β] {cel : β → Cel} {fa ky : β → Int} {f : Fld} {h : Cel → Int} {src : Cel → Prop} {far : List Int} {l : List β} {x0 y : Cel} {rest : List Cel} {n : β} {j : Nat}
theorem SI.fa_bd (s : SI cel fa ky f h src far l x0 rest) (o : Gra.Ok f.adj f.kost h) (hn : n ∈ l) : 0 ≤ fa n ∧ fa n + 3 * (und far : Int) ≤ 3 * (f.places.length : Int) + 3 := by
 have hm : (cel n, fa n) ∈ l.map fun n => (cel n, fa n) := List.mem_map.2 ⟨n, hn, rfl⟩
 have hr := s.inv.rch hm
 refine ⟨hr.nn o, ?_⟩
 have hu := und_le far
 have := s.len
 rcases s.inv.q _ hm with ⟨_, h2⟩ | ⟨p, h1, h2, h3⟩
 ·have h2 : fa n = 0 := h2; omega
 ·have h3 : fa n = f.fr far p + f.kost (cel n) := h3
  have := s.bd p
  have := f.kost_bd (c := cel n); omega
theorem SI.perm0 (h0 : 0 < l.length) : (l.map fun n => (cel n, fa n)).Perm ((cel (l.getD 0 default), fa (l.getD 0 default)) :: (Hp.popL ky l).map fun n => (cel n, fa n)) :=
 ((Hp.popL_perm (key := ky) h0).symm.map _)
theorem SI.least (s : SI cel fa ky f h src far l x0 rest) (h0 : 0 < l.length) : ∀ e ∈ l.map fun n => (cel n, fa n), fa (l.getD 0 default) + h (cel (l.getD 0 default)) ≤ e.2 + h e.1 := by
 intro e he
 obtain ⟨n, hn, rfl⟩ := List.mem_map.1 he
 have h1 := s.hp.least n hn
 rw [(s.all n hn).1, (s.all _ (mem_dd h0)).1] at h1
 exact h1
theorem SI.sub (h0 : 0 < l.length) (hn : n ∈ Hp.popL ky l) : n ∈ l := (Hp.popL_perm (key := ky) h0).subset (List.mem_cons_of_mem _ hn)
theorem SI.skip0 (s : SI cel fa ky f h src far l x0 []) (h0 : 0 < l.length) (hd : 0 ≤ f.fr far (cel (l.getD 0 default))) : SI cel fa ky f h src far (Hp.popL ky l) x0 [] :=
 ⟨s.len, s.inv.popSkip (SI.perm0 h0) hd, Hp.popL_heap s.hp h0, fun n hn => s.all n (SI.sub h0 hn), s.bd, s.gr⟩
theorem SI.new (s : SI cel fa ky f h src far l x0 []) (hf : f.chk = 0) (o : Gra.Ok f.adj f.kost h) (h0 : 0 < l.length) (hd : f.fr far (cel (l.getD 0 default)) < 0) :
  SI cel fa ky f h src (far.set (f.at_ (cel (l.getD 0 default))) (fa (l.getD 0 default))) (Hp.popL ky l) (cel (l.getD 0 default)) (f.adj (cel (l.getD 0 default))) ∧ und (far.set (f.at_ (cel (l.getD 0 default))) (fa (l.getD 0 default))) + 1 = und far := by
 have hg := (s.all _ (mem_dd h0 (d := default))).2
 have hi := Fld.ground_in hg
 have hb := s.fa_bd o (mem_dd h0 (d := default))
 have hu : und (far.set (f.at_ (cel (l.getD 0 default))) (fa (l.getD 0 default))) + 1 = und far := und_set hb.1 far _ (by rw [s.len]; exact (Fld.at_lt hf hi).1) (by rw [Fld.fr_in hi] at hd; exact hd)
 refine ⟨⟨by rw [List.length_set]; exact s.len, (s.inv.popNew o (SI.perm0 h0) hd (s.least h0) (Fld.fr_set hf s.len hi) (fun z hz => Fld.fr_set_ne hf hi hz)).1, Hp.popL_heap s.hp h0, fun n hn => s.all n (SI.sub h0 hn), fun c => ?_, fun c hc => ?_⟩, hu⟩
 ·by_cases e : c = cel (l.getD 0 default)
  ·rw [e, Fld.fr_set hf s.len hi]; omega
  ·rw [Fld.fr_set_ne hf hi e]; have := s.bd c; omega
 ·by_cases e : c = cel (l.getD 0 default)
  ·rw [e]; exact hg
  ·rw [Fld.fr_set_ne hf hi e] at hc; exact s.gr c hc
theorem SI.push (s : SI cel fa ky f h src far l x0 (y :: rest)) (o : Gra.Ok f.adj f.kost h) (hg : f.ground y = true) (h1 : cel n = y) (h2 : fa n = f.fr far x0 + f.kost y) (h3 : ky n = fa n + h y) : SI cel fa ky f h src far (Hp.push ky l n) x0 rest := by
 refine ⟨s.len, s.inv.push o ?_, Hp.push_heap s.hp, fun m hm => ?_, s.bd, s.gr⟩
 ·have := (Hp.push_perm (key := ky) (l := l) (x := n)).map fun n => (cel n, fa n)
  rw [List.map_cons, h1, h2] at this; exact this
 ·rcases List.mem_cons.1 ((Hp.push_perm (key := ky)).subset hm) with rfl | hm
  ·rw [h1]; exact ⟨h3, hg⟩
  ·exact s.all m hm
theorem SI.pass (s : SI cel fa ky f h src far l x0 (y :: rest)) (hy : 0 ≤ f.fr far y) : SI cel fa ky f h src far l x0 rest := ⟨s.len, s.inv.skip hy, s.hp, s.all, s.bd, s.gr⟩
theorem sides_drop {f : Fld} {x : Cel} {j : Nat} (hj : j < 4) : ((sidesC x).drop j).filter f.ground = if f.ground ((sidesC x).getD j default) then (sidesC x).getD j default :: ((sidesC x).drop (j + 1)).filter f.ground else ((sidesC x).drop (j + 1)).filter f.ground := by
 have hl : (sidesC x).length = 4 := rfl
 rw [List.drop_eq_getElem_cons (by omega), List.filter_cons, getD_dd (by omega)]
theorem SI.look_out (s : SI cel fa ky f h src far l x0 (((sidesC x0).drop j).filter f.ground)) (hj : j < 4) (hg : f.ground ((sidesC x0).getD j default) = false) : SI cel fa ky f h src far l x0 (((sidesC x0).drop (j + 1)).filter f.ground) := by
 rw [sides_drop hj, if_neg (by rw [hg]; decide)] at s; exact s
theorem SI.look_known (s : SI cel fa ky f h src far l x0 (((sidesC x0).drop j).filter f.ground)) (hj : j < 4) (hy : 0 ≤ f.fr far ((sidesC x0).getD j default)) (hg : f.ground ((sidesC x0).getD j default) = true) : SI cel fa ky f h src far l x0 (((sidesC x0).drop (j + 1)).filter f.ground) := by
 rw [sides_drop hj, if_pos hg] at s; exact s.pass hy
theorem SI.look_new (s : SI cel fa ky f h src far l x0 (((sidesC x0).drop j).filter f.ground)) (o : Gra.Ok f.adj f.kost h) (hj : j < 4) (hg : f.ground ((sidesC x0).getD j default) = true) (h1 : cel n = (sidesC x0).getD j default) (h2 : fa n = f.fr far x0 + f.kost ((sidesC x0).getD j default)) (h3 : ky n = fa n + h ((sidesC x0).getD j default)) :
  SI cel fa ky f h src far (Hp.push ky l n) x0 (((sidesC x0).drop (j + 1)).filter f.ground) := by
 rw [sides_drop hj, if_pos hg] at s; exact s.push o hg h1 h2 h3
end
end
section
open Go.RowKit
section
variable {P : Program} {n : Nat} {E : List (Nat × Value)} {w w' : World} {Q : Exit → Act → World → Prop} {ops : Array Oper} {ty : TypeId} {pos : String} {af : Array Edge} {rest : List Oper} {x y z : Operand} {t u : TypeId} {v rv : Value} {d : Option Nat} {g : Option (Nat × Bool)}
def Meth (P : Program) (w : World) (t : TypeId) (v : Value) (name : String) (f : FuncId) (rv : Value) : Prop := (Go.method (P.types.size + Made.depth) t v name).run P w = .ok (f, rv) w
theorem run_inv {f : FuncId} {name : String} (hf : Enters P f) {xs : Array Operand} {ts : Array TypeId} {args : List Value} {a : Act} (ha : Agr n E a) (hr : ev E x = some (.iface t v)) (he : evs E xs.toList = some args) (hm : Meth P w t v name f rv) :
  (execOp a.eval ⟨d, .call { callee := .invoke x name, args := xs, argTypes := ts }, ty, pos, af, g⟩).run P w = .ok (.enter f (rv :: args).toArray) w := by
 obtain ⟨fn, h1, h2, h3⟩ := hf
 have hx : xs.map a.eval = args.toArray := by rw [← ha.evs he]; apply Array.ext'; simp
 unfold Meth at hm
 have e0 : (#[(Value.iface t v)] ++ args.toArray)[0]? = some (.iface t v) := by simp
 have e1 : (#[(Value.iface t v)] ++ args.toArray).extract 1 (#[(Value.iface t v)] ++ args.toArray).size = args.toArray := by simp
 have e2 : #[rv] ++ args.toArray = (rv :: args).toArray := by simp
 have hp : Sem.run P program w = .ok P w := rfl
 simp only [execOp, resolve, hx, ha.ev hr, Sem.run_bind, Sem.run_pure, Result.andThen_ok, invoke, e0, e1, callMethod, callFunc, hp, hm, h1, h2, h3, e2, Bool.false_eq_true, if_false]
theorem iv {d : Nat} {f : FuncId} {name : String} (hf : Enters P f) {xs : Array Operand} {ts : Array TypeId} {args : List Value} (hr : ev E x = some (.iface t v)) (he : evs E xs.toList = some args) (hm : Meth P w t v name f rv) (hd : Nat.blt d n = true)
  (h : Calls P f (rv :: args).toArray w fun e w' => ∃ v, e = .returned v ∧ WL P n ops Q rest ((d, v) :: E) w') : WL P n ops Q (⟨some d, .call { callee := .invoke x name, args := xs, argTypes := ts }, ty, pos, af, none⟩ :: rest) E w := fun a ha => by
 refine WL_one rfl ?_
 unfold Oper.wp
 rw [run_inv hf ha hr he hm]
 refine Calls.mono h fun e w' hh => ?_
 obtain ⟨v, rfl, h⟩ := hh
 exact h _ (ha.put hd v)
theorem ivC {d : Nat} {f : FuncId} {name : String} {xs : Array Operand} {ts : Array TypeId} {args : List Value} {j : Nat} {q b c : Bool} {oj : Oper} {dj : Nat} {v0 : Value} (hj : ops[j]? = some oj) (hdj : oj.dst = some dj) (hb : look E dj = some (.bool b)) (hc : (b == q) = c)
  (hf : Enters P f) (hx : c = true → ev E x = some (.iface t v0)) (he : c = true → evs E xs.toList = some args) (hm : Meth P w t v0 name f rv) (hr : c = true → Calls P f (rv :: args).toArray w fun e w' => e = .returned v ∧ Ext w w') (hd : Nat.blt d n = true)
  (h : ∀ w', Ext w w' → WL P n ops Q rest ((d, gv c v) :: E) w') : WL P n ops Q (⟨some d, .call { callee := .invoke x name, args := xs, argTypes := ts }, ty, pos, af, some (j, q)⟩ :: rest) E w :=
 wl_if (c := c) (fun a ha => by rw [wanted_some (o := ⟨some d, _, ty, pos, af, some (j, q)⟩) rfl hj hdj hb ha, hc])
  (fun hc a ha => by unfold Oper.wp; rw [run_inv hf ha (hx hc) (he hc) hm]; exact (hr hc).mono fun e w' ⟨h1, hxx⟩ => by subst h1; subst hc; exact h w' hxx _ (ha.put hd v)) (fun hc a ha => by subst hc; exact h w (Ext.rf w) _ (ha.put hd undef))
theorem mkI (hr : ∀ w, (Instr.makeInterface t v).run P w = .ok (.iface t v) w) (hx : ev E x = some v) : Runs P E ⟨d, .makeInterface t x, ty, pos, af, g⟩ w (.iface t v) w := fun n a ha => by
 simp only [execOp, ha.ev hx, Sem.run_bind, hr w, Result.andThen_ok, Sem.run_pure]
theorem tyA {t' : TypeId} (hr : ∀ w, (Instr.typeAssert (.iface t v) t' t false).run P w = .ok v w) (hx : ev E x = some (.iface t v)) : Runs P E ⟨d, .typeAssert x t' t false, ty, pos, af, g⟩ w v w := fun n a ha => by
 simp only [execOp, ha.ev hx, Sem.run_bind, hr w, Result.andThen_ok, Sem.run_pure]
theorem meth_val {e : TypeId} {p : Addr} {name : String} {f : FuncId} (h : (Go.method (P.types.size + Made.depth) t (.pointer (some p)) name).run P w = (loadVar e p >>= fun x => pure (f, x)).run P w) (hl : Lds P w e p v) : Meth P w t (.pointer (some p)) name f v := by
 unfold Meth
 unfold Lds at hl
 rw [h]
 simp only [Sem.run_bind, hl, Result.andThen_ok, Sem.run_pure]
end
end
section
open Go.RowKit
namespace Hp
section
variable {α : Type} [Inhabited α] {key : α → Int} {lm l : List α} {m N n : Nat}
theorem up_exit (h : (((((m - 1) / 2 : Nat) : Int) == (m : Int)) || !decide (key (lm.getD m default) < key (lm.getD ((m - 1) / 2) default))) = true) : upF key lm m = lm := by
 unfold upF
 rw [if_neg]
 rintro ⟨h1, h2⟩
 simp only [Bool.or_eq_true, beq_iff_eq, Bool.not_eq_true', decide_eq_false_iff_not] at h
 rcases h with h | h
 ·omega
 ·exact h h2
theorem up_more (h : (((((m - 1) / 2 : Nat) : Int) == (m : Int)) || !decide (key (lm.getD m default) < key (lm.getD ((m - 1) / 2) default))) = false) : 0 < m ∧ upF key lm m = upF key (swp lm ((m - 1) / 2) m) ((m - 1) / 2) := by
 simp only [Bool.or_eq_false_iff, beq_eq_false_iff_ne, Bool.not_eq_false', decide_eq_true_eq] at h
 have hm : 0 < m := by
  rcases Nat.eq_zero_or_pos m with h0 | h0
  ·subst h0; exact absurd rfl h.1
  ·exact h0
 refine ⟨hm, ?_⟩
 conv => lhs; unfold upF
 rw [if_pos ⟨hm, h.2⟩]
theorem dn_exit (h : (decide ((N : Int) ≤ 2 * (m : Int) + 1) || decide (2 * (m : Int) + 1 < 0)) = true) : downF key N l m = l := by
 unfold downF
 rw [if_neg]
 simp only [Bool.or_eq_true, decide_eq_true_eq] at h
 omega
theorem dn_go (h : (decide ((N : Int) ≤ 2 * (m : Int) + 1) || decide (2 * (m : Int) + 1 < 0)) = false) : 2 * m + 1 < N := by
 simp only [Bool.or_eq_false_iff, decide_eq_false_iff_not] at h
 omega
theorem low_two (h : (decide (2 * (m : Int) + 1 + 1 < (N : Int)) && decide (key (l.getD (2 * m + 1 + 1) default) < key (l.getD (2 * m + 1) default))) = true) : lowC key N l m = 2 * m + 2 := by
 simp only [Bool.and_eq_true, decide_eq_true_eq] at h
 unfold lowC
 rw [if_pos ⟨by omega, h.2⟩]
theorem low_lt {q : Bool} (h : (decide (2 * (m : Int) + 1 + 1 < (N : Int)) && q) = true) : 2 * m + 2 < N := by
 simp only [Bool.and_eq_true, decide_eq_true_eq] at h
 omega
theorem low_one (h : (decide (2 * (m : Int) + 1 + 1 < (N : Int)) && decide (key (l.getD (2 * m + 1 + 1) default) < key (l.getD (2 * m + 1) default))) = false) : lowC key N l m = 2 * m + 1 := by
 unfold lowC
 rw [if_neg]
 rintro ⟨h1, h2⟩
 rw [decide_eq_true (show 2 * (m : Int) + 1 + 1 < (N : Int) by omega), decide_eq_true (show key (l.getD (2 * m + 1 + 1) default) < key (l.getD (2 * m + 1) default) from h2)] at h
 cases h
theorem dn_exit2 {j : Nat} (h1 : 2 * m + 1 < N) (hl : lowC key N l m = j) (h : (!decide (key (l.getD j default) < key (l.getD m default))) = true) : downF key N l m = l := by
 unfold downF
 rw [if_neg]
 rw [hl]
 rintro ⟨_, h2⟩
 rw [decide_eq_true h2] at h; cases h
theorem dn_more {j : Nat} (h1 : 2 * m + 1 < N) (hl : lowC key N l m = j) (h : (!decide (key (l.getD j default) < key (l.getD m default))) = false) : downF key N l m = downF key N (swp l m j) j := by
 conv => lhs; unfold downF
 rw [hl, if_pos ⟨h1, by simpa using h⟩]
end
end Hp
theorem tdiv_half (m : Nat) : Int.tdiv ((m : Int) - 1) 2 = (((m - 1) / 2 : Nat) : Int) := by
 cases m with
 | zero => rfl
 | succ m =>
  rw [show ((m + 1 : Nat) : Int) - 1 = (m : Int) by omega, Int.tdiv_eq_ediv_of_nonneg (by omega)]
  simp
section
variable {P : Program} {n : Nat} {E : List (Nat × Value)} {w : World} {ty : TypeId} {pos : String} {af : Array Edge} {x y : Operand} {t u : TypeId} {d : Option Nat} {g : Option (Nat × Bool)}
theorem bquH {k : IntKind} {i j r : Int} (hx : ev E x = some (.int k i)) (hy : ev E y = some (.int k j)) (h1 : j ≠ 0) (hr : Int.tdiv i j = r) (hw : k.wrap r = r) : Runs P E ⟨d, .binOp .quo t x y u, ty, pos, af, g⟩ w (.int k r) w := run_bin hx hy (binOp_quo t k i j) (by
 subst hr
 have : Op.intDiv .quo k i j = pure (.int k (Int.tdiv i j)) := by simp [Op.intDiv, h1, hw]
 rw [this]; rfl)
end
end
section
open Go.RowKit
structure Nod where
 cell : Cel
 far : Int
 all : Int
 deriving DecidableEq, Inhabited
namespace Nod
def cells (a : Nod) : List Value := [.int .i64 (a.cell.x), .int .i64 (a.cell.y), .int .i64 (a.far), .int .i64 (a.all)]
def ok (a : Nod) : Prop := (Lit.int .i64 a.cell.x).wf = true ∧ (Lit.int .i64 a.cell.y).wf = true ∧ (Lit.int .i64 a.far).wf = true ∧ (Lit.int .i64 a.all).wf = true
def raw (j : Nat) (u : Value) : Prop := match j with
 | 0 => ∃ n : Int, u = .int .i64 n
 | 1 => ∃ n : Int, u = .int .i64 n
 | 2 => ∃ n : Int, u = .int .i64 n
 | 3 => ∃ n : Int, u = .int .i64 n
 | _ => True
theorem cells_raw (a : Nod) : ∀ (j : Nat) u, a.cells[j]? = some u → raw j u := by
 intro j u hu
 match j, hu with
 | 0, hu => exact ⟨_, (Option.some.inj hu).symm⟩
 | 1, hu => exact ⟨_, (Option.some.inj hu).symm⟩
 | 2, hu => exact ⟨_, (Option.some.inj hu).symm⟩
 | 3, hu => exact ⟨_, (Option.some.inj hu).symm⟩
 | j + 4, hu => exact trivial
theorem cells_one (a : Nod) : ∀ u ∈ a.cells, u.oneCell' = true := by
 intro u hu
 unfold cells at hu
 simp only [List.mem_cons, List.not_mem_nil, or_false] at hu
 rcases hu with rfl | rfl | rfl | rfl <;> rfl
def rep : Rep Nod := Rep.flat 4 cells ok raw (fun _ => rfl) cells_one cells_raw
theorem plain : rep.Plain := Rep.flat_plain
def zero : Value := .agg #[.int .i64 0, .int .i64 0, .int .i64 0, .int .i64 0]
theorem zero_raw : ∀ (j : Nat) u, zero.cells[j]? = some u → rep.raw j u := by
 intro j u hu
 have hu : (#[(.int .i64 0 : Value), (.int .i64 0 : Value), (.int .i64 0 : Value), (.int .i64 0 : Value)] : Array Value)[j]? = some u := hu
 match j, hu with
 | 0, hu => exact ⟨_, (Option.some.inj hu).symm⟩
 | 1, hu => exact ⟨_, (Option.some.inj hu).symm⟩
 | 2, hu => exact ⟨_, (Option.some.inj hu).symm⟩
 | 3, hu => exact ⟨_, (Option.some.inj hu).symm⟩
 | j + 4, hu => cases hu
theorem info : (Try.prog.info? 147).map (fun i => (i.zero, i.size, i.bytes)) = some (some zero, 4, 32) := by kernel_rfl
theorem at_ {by_ : Nat} {w : World} {A : Option Addr} {c : Nat} {l : List Nod} (h : rep.SHas by_ w A c l) (h0 : 0 < l.length) :
  ∃ b o, A = some ⟨b, o, none⟩ ∧ ∀ (i : Nat) (a : Nod), l[i]? = some a → w.cell? ⟨b, o + i * 4, none⟩ = some (.int .i64 (a.cell.x)) ∧ w.cell? ⟨b, o + i * 4 + 1, none⟩ = some (.int .i64 (a.cell.y)) ∧ w.cell? ⟨b, o + i * 4 + 2, none⟩ = some (.int .i64 (a.far)) ∧ w.cell? ⟨b, o + i * 4 + 3, none⟩ = some (.int .i64 (a.all)) := by
 obtain ⟨b, o, e, hc⟩ := h.at_ h0
 refine ⟨b, o, e, fun i a ha => ?_⟩
 obtain ⟨es, ⟨rfl, _⟩, hj⟩ := hc i a ha
 exact ⟨hj 0 _ rfl, hj 1 _ rfl, hj 2 _ rfl, hj 3 _ rfl⟩
theorem all_ok {by_ : Nat} {w : World} {A : Option Addr} {c : Nat} {l : List Nod} (h : rep.SHas by_ w A c l) : ∀ a ∈ l, a.ok := Rep.SHas.all_ (R := rep) (Q := ok) (fun {w cs a} (h : rep.has w cs a) => (show cs = a.cells ∧ a.ok from h).2) h
theorem blk {w : World} {g : Nat} {t : TypeId} {fr : Nat × Nat} {a : Nod} (h : Blk w g a.cells t fr) : w.cell? ⟨g, 0, none⟩ = some (.int .i64 (a.cell.x)) ∧ w.cell? ⟨g, 1, none⟩ = some (.int .i64 (a.cell.y)) ∧ w.cell? ⟨g, 2, none⟩ = some (.int .i64 (a.far)) ∧ w.cell? ⟨g, 3, none⟩ = some (.int .i64 (a.all)) :=
 ⟨h.cell 0, h.cell 1, h.cell 2, h.cell 3⟩
def sh : Sh := (.cons (.cons (.int .i64) (.cons (.int .i64) .nil)) (.cons (.int .i64) (.cons (.int .i64) .nil)))
theorem opens (w : World) (cs : List Value) (h : sh.Ok w cs) : ∃ a, rep.has w cs a := by
 obtain ⟨_, _, rfl, _, _, ⟨_, _, rfl, _, _, ⟨x0, rfl, k0⟩, ⟨_, _, rfl, _, _, ⟨x1, rfl, k1⟩, rfl⟩⟩, ⟨_, _, rfl, _, _, ⟨x2, rfl, k2⟩, ⟨_, _, rfl, _, _, ⟨x3, rfl, k3⟩, rfl⟩⟩⟩ := h
 exact ⟨⟨⟨x0, x1⟩, x2, x3⟩, rfl, k0, k1, k2, k3⟩
end Nod
end
end Go.Proofs.Ytmpkaphcpaigdaa
