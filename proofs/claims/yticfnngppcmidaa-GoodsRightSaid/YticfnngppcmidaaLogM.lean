/-
  The walk over slots: what of memory has turned; stores; builtins; slices of flat things.
-/
import Derived.Test.YticfnngppcmidaaLogF
set_option linter.unusedVariables false
namespace Go.Proofs.Yticfnngppcmidaa
open Go.RowKit

/-- All blocks that were there are as they were, but those of S. -/
structure Mod (S : List Nat) (w w' : World) : Prop where
  os : w'.os = w.os
  tape : w'.tape = w.tape
  output : w'.output = w.output
  size : w.heap.size ≤ w'.heap.size
  block : ∀ k, k < w.heap.size → k ∉ S → w'.heap[k]? = w.heap[k]?
section
variable {S S' : List Nat} {w w' w0 w1 w2 : World} {B : Nat}
theorem Mod.of_ext (h : Ext w w') : Mod S w w' := ⟨h.os, h.tape, h.output, h.size, fun k hk _ => h.block k hk⟩
theorem Mod.ext (h : Mod [] w w') : Ext w w' := ⟨h.os, h.tape, h.output, h.size, fun k hk => h.block k hk (by simp)⟩
theorem Mod.below {Z : Nat} (h : Mod S w w') (hS : ∀ x ∈ S, Z ≤ x) (hZ : Z ≤ w.heap.size) : Below Z w w' :=
  ⟨h.os, h.tape, h.output, h.size, fun k hk => h.block k (by omega) fun hm => by have := hS k hm; omega⟩
/-- The call's own view: what was there at its begin is as it was. -/
theorem Ext.mod (h : Ext w0 w) (hm : Mod S w w') (hS : ∀ x ∈ S, w0.heap.size ≤ x) : Ext w0 w' := Below.trans h (hm.below hS h.size)
theorem Mod.rf (S : List Nat) (w : World) : Mod S w w := ⟨rfl, rfl, rfl, Nat.le_refl _, fun _ _ _ => rfl⟩
theorem Mod.md (h : Mod S w w1) (h' : Mod S' w1 w2) (hs : ∀ q ∈ S', q ∈ S ∨ w.heap.size ≤ q) : Mod S w w2 :=
  ⟨h'.os.trans h.os, h'.tape.trans h.tape, h'.output.trans h.output, Nat.le_trans h.size h'.size, fun k hk hn => (h'.block k (Nat.lt_of_lt_of_le hk h.size) fun hm => (hs k hm).elim hn (fun h => by omega)).trans (h.block k hk hn)⟩
theorem Mod.sub (h : Mod S w w') (hs : ∀ x ∈ S, x ∈ S') : Mod S' w w' := ⟨h.os, h.tape, h.output, h.size, fun k hk hn => h.block k hk fun hm => hn (hs k hm)⟩
theorem Mod.trans (h : Mod S w w1) (h' : Mod S w1 w2) : Mod S w w2 :=
  ⟨h'.os.trans h.os, h'.tape.trans h.tape, h'.output.trans h.output, Nat.le_trans h.size h'.size, fun k hk hn => (h'.block k (Nat.lt_of_lt_of_le hk h.size) hn).trans (h.block k hk hn)⟩
theorem Mod.grown {row : Option Nat} (h : w.grownBy w' row) : Mod row.toList w w' :=
  ⟨h.os, h.tape, h.output, h.size, fun k hk hn => h.block k hk fun e => hn (by rw [← e]; simp)⟩
theorem Mod.setRow (w : World) (b : Nat) (cs : Array Value) : Mod [b] w (w.setRow b cs) := by
  refine ⟨rfl, rfl, rfl, by simp [World.setRow], fun k hk hn => ?_⟩
  simp only [World.setRow, Array.getElem?_modify]
  rw [if_neg (by simp at hn; omega)]
theorem Mod.setCell (w : World) (p : Addr) (u : Value) : Mod [p.block] w (w.setCell p u) := by
  refine ⟨rfl, rfl, rfl, by simp [World.setCell], fun k hk hn => ?_⟩
  exact Below.heap_setCell _ _ _ _ (by simpa using hn)
theorem Blk.mod {g : Nat} {cur : List Value} {e : TypeId} {fr : Nat × Nat} (h : Blk w g cur e fr) (hm : Mod S w w') (hg : g ∉ S) : Blk w' g cur e fr := by
  unfold Blk at *
  rw [hm.block g (Array.getElem?_eq_some_iff.1 h).1 hg]; exact h
theorem Rep.SOwn.mod {α : Type} {R : Rep α} {E by_ : Nat} {f : List Nat} {A : Option Addr} {c : Nat} {l : List α} (h : R.SOwn E by_ w B f A c l) (hm : Mod S w w') (hd : ∀ x ∈ f, x ∉ S) : R.SOwn E by_ w' B f A c l :=
  h.keep fun g hg => hm.block g (h.lt g hg).2 (hd g hg)
end
section
variable {P : Program} {n : Nat} {E E' : List (Nat × Value)} {a : Act} {w w' w0 w1 : World} {Q : Exit → Act → World → Prop} {ops : Array Oper} {v : Value}
variable {d : Option Nat} {ty : TypeId} {pos : String} {af : Array Edge} {g : Option (Nat × Bool)} {x y z : Operand} {t : TypeId} {rest : List Oper}
theorem run_storeVar {b p : Nat} {cur cs : List Value} {e : TypeId} (hB : Blk w b cur e (0, 0)) (hc : v.cells = cs.toArray) (hs : Sz P t cs.length) (h1 : cs.all (·.oneCell') = true) (hl : p + cs.length ≤ cur.length) :
    (storeVar t ⟨b, p, none⟩ v).run P w = .ok () (w.setRow b (cur.take p ++ cs ++ cur.drop (p + cs.length)).toArray) := by
  unfold storeVar
  simp only [hc, Sem.run_bind, hs w, Result.andThen_ok, List.size_toArray, ne_eq, not_true_eq_false, if_false]
  have := run_storeCells_at P b p e cs 0 cur.toArray w hB (by simpa using hl) (fun v hv => List.all_eq_true.1 h1 v hv)
  simpa using this
/-- A store into a block that is known whole. -/
theorem st {b p : Nat} {cur cs new : List Value} {e : TypeId} (hx : ev E x = some (.pointer (some ⟨b, p, none⟩))) (hy : ev E y = some v) (hB : Blk w b cur e (0, 0)) (hc : v.cells = cs.toArray) (hs : Sz P t cs.length) (h1 : cs.all (·.oneCell') = true) (hl : Nat.ble (p + cs.length) cur.length = true)
    (hn : cur.take p ++ cs ++ cur.drop (p + cs.length) = new)
    (h : ∀ w1, Mod [b] w w1 → Blk w1 b new e (0, 0) → WL P n ops Q rest E w1) : WL P n ops Q (⟨none, .store t x y, ty, pos, af, none⟩ :: rest) E w := by
  refine us (w' := w.setRow b new.toArray) (fun n a ha => ?_) (h _ (Mod.setRow w b _) (by rw [← hn]; exact hB.setRow _))
  have := run_storeVar (P := P) hB hc hs h1 (Nat.le_of_ble_eq_true hl)
  rw [hn] at this
  simp only [execOp, ha.ev hx, ha.ev hy, Instr.storeAt, Instr.sureAddr, Sem.run_bind, Sem.run_pure, Result.andThen_ok, this]
/-! ### Builtins -/
theorem bi {bt : Builtin} {xs : Array Operand} {ts : Array TypeId} {vs : List Value} (he : evs E xs.toList = some vs) (h : ∀ cs, (builtin bt ts ty cs vs.toArray).run P w = .ok (.value v) w') :
    Runs P E ⟨d, .call { callee := .builtin bt, args := xs, argTypes := ts }, ty, pos, af, g⟩ w v w' := fun n a ha => by
  have hm : xs.map a.eval = vs.toArray := by rw [← ha.evs he]; apply Array.ext'; simp
  simp only [execOp, resolve, invoke, hm, Sem.run_bind, Sem.run_pure, Result.andThen_ok, h]
theorem ln {A : Option Addr} {len cap e : Nat} (ht : P.underlying t = some (.slice e)) (hx : ev E x = some (.slice A len cap)) : Runs P E ⟨d, .call { callee := .builtin .len, args := #[x], argTypes := #[t] }, ty, pos, af, g⟩ w (.int .i64 (len : Int)) w :=
  bi (vs := [.slice A len cap]) (by simp only [evs, hx]) fun cs => by
    have h1 : P.underlying t = some (.slice (P.elem t)) := by simp [Program.elem, ht]
    have := run_len_slice (P := P) w t ty A len cap h1
    simp only [builtin, Sem.run_bind, this, Result.andThen_ok, Sem.run_pure]; rfl
theorem en {f : FuncId} {fn : Func} (h : P.funcs[f]? = some fn) (h1 : (fn.name == "runtime.NumGoroutine") = false) (h2 : fn.body.isNone = false) : Enters P f := ⟨fn, h, h1, h2⟩
/-! ### Guarded, one behind the other -/
theorem wl_if {o : Oper} {c : Bool} (hw : ∀ a, Agr n E a → Region.wanted o (yielded ops a.tmps) = c) (h1 : c = true → ∀ a, Agr n E a → o.wp P a w (wpList P ops Q rest) Q) (h2 : c = false → ∀ a, Agr n E a → wpList P ops Q rest (a.put o.dst undef) w) : WL P n ops Q (o :: rest) E w := fun a ha => by
  unfold wpList
  rw [hw a ha]
  cases c with
  | true => rw [if_pos rfl]; exact .inl (h1 rfl a ha)
  | false => rw [if_neg (by decide)]; exact h2 rfl a ha
theorem vQ {d : Nat} {op : Op} {j : Nat} {q b c : Bool} {oj : Oper} {dj : Nat} (hj : ops[j]? = some oj) (hdj : oj.dst = some dj) (hb : look E dj = some (.bool b)) (hc : (b == q) = c)
    (hr : c = true → Runs P E ⟨some d, op, ty, pos, af, some (j, q)⟩ w v w) (hd : Nat.blt d n = true) (h : WL P n ops Q rest ((d, gv c v) :: E) w) : WL P n ops Q (⟨some d, op, ty, pos, af, some (j, q)⟩ :: rest) E w :=
  wl_if (c := c) (fun a ha => by rw [wanted_some (o := ⟨some d, op, ty, pos, af, some (j, q)⟩) rfl hj hdj hb ha, hc])
    (fun hc a ha => by unfold Oper.wp; rw [hr hc n a ha]; subst hc; exact h _ (ha.put hd v)) (fun hc a ha => by subst hc; exact h _ (ha.put hd undef))
theorem vC {d : Nat} {f : FuncId} {xs : Array Operand} {ts : Array TypeId} {args : List Value} {j : Nat} {q b c : Bool} {oj : Oper} {dj : Nat} (hj : ops[j]? = some oj) (hdj : oj.dst = some dj) (hb : look E dj = some (.bool b)) (hc : (b == q) = c)
    (hf : Enters P f) (he : c = true → evs E xs.toList = some args) (hr : c = true → Calls P f args.toArray w fun e w' => e = .returned v ∧ Ext w w') (hd : Nat.blt d n = true)
    (h : ∀ w', Ext w w' → WL P n ops Q rest ((d, gv c v) :: E) w') : WL P n ops Q (⟨some d, .call { callee := .value (.func f), args := xs, argTypes := ts }, ty, pos, af, some (j, q)⟩ :: rest) E w :=
  wl_if (c := c) (fun a ha => by rw [wanted_some (o := ⟨some d, _, ty, pos, af, some (j, q)⟩) rfl hj hdj hb ha, hc])
    (fun hc a ha => by unfold Oper.wp; rw [run_call hf ha (he hc)]; exact (hr hc).mono fun e w' ⟨h1, hx⟩ => by subst h1; subst hc; exact h w' hx _ (ha.put hd v)) (fun hc a ha => by subst hc; exact h w (Ext.rf w) _ (ha.put hd undef))
/-- A guard that is met. -/
theorem ug {d : Option Nat} {op : Op} {j : Nat} {q : Bool} {oj : Oper} {dj : Nat} (hj : ops[j]? = some oj) (hdj : oj.dst = some dj) (hb : look E dj = some (.bool q)) (h : WL P n ops Q (⟨d, op, ty, pos, af, none⟩ :: rest) E w) : WL P n ops Q (⟨d, op, ty, pos, af, some (j, q)⟩ :: rest) E w := fun a ha => by
  have h := h a ha
  have hw := wanted_some (o := ⟨d, op, ty, pos, af, some (j, q)⟩) (q := q) rfl hj hdj hb ha
  unfold wpList at h ⊢
  rw [if_pos (wanted_none rfl)] at h
  rw [hw, if_pos (by cases q <;> rfl)]
  exact h
theorem lkb {t : Nat} {b c : Bool} (h : look E t = some (.bool b)) (e : b = c) : look E t = some (.bool c) := by rw [h, e]
theorem evb {x : Operand} {b c : Bool} (h : ev E x = some (.bool b)) (e : b = c) : ev E x = some (.bool c) := by rw [h, e]
/-! ### Functions, structs, rows -/
theorem mf {fi : Fn} {fs cs : Array Operand} {l m : List Value} (h1 : evs E fs.toList = some l) (h2 : evs E cs.toList = some m) : Runs P E ⟨d, .makeFunc fi fs cs, ty, pos, af, g⟩ w (.func fi l.toArray m.toArray) w := fun n a ha => by
  have e1 : fs.map a.eval = l.toArray := by rw [← ha.evs h1]; apply Array.ext'; simp
  have e2 : cs.map a.eval = m.toArray := by rw [← ha.evs h2]; apply Array.ext'; simp
  simp only [execOp, e1, e2, Instr.makeFunc, Sem.run_bind, Sem.run_pure, Result.andThen_ok]
def evp (E : List (Nat × Value)) : List (Nat × Operand) → Option (List (Nat × Value))
  | [] => some []
  | (i, x) :: r => match ev E x with
    | some v => match evp E r with
      | some l => some ((i, v) :: l)
      | none => none
    | none => none
theorem Agr.evp (h : Agr n E a) : ∀ {l : List (Nat × Operand)} {vs : List (Nat × Value)}, evp E l = some vs → l.map (fun (i, x) => (i, a.eval x)) = vs
  | [], vs, e => by simp only [Proofs.Yticfnngppcmidaa.evp] at e; exact Option.some.inj e
  | (i, x) :: r, vs, e => by
    simp only [Proofs.Yticfnngppcmidaa.evp] at e
    cases hx : Proofs.Yticfnngppcmidaa.ev E x with
    | none => rw [hx] at e; cases e
    | some v =>
      rw [hx] at e
      simp only at e
      cases hr : Proofs.Yticfnngppcmidaa.evp E r with
      | none => rw [hr] at e; cases e
      | some l =>
        rw [hr] at e
        simp only at e
        obtain rfl := Option.some.inj e
        rw [List.map_cons, Agr.evp h hr]
        simp only [h.ev hx]
theorem bd {ps : Array (Nat × Operand)} {l : List (Nat × Value)} (he : evp E ps.toList = some l) (hr : (Instr.build t l.toArray).run P w = .ok v w) : Runs P E ⟨d, .build t ps, ty, pos, af, g⟩ w v w := fun n a ha => by
  have e1 : ps.map (fun (i, x) => (i, a.eval x)) = l.toArray := by rw [← ha.evp he]; apply Array.ext'; simp
  simp only [execOp, e1, Sem.run_bind, hr, Result.andThen_ok, Sem.run_pure]
theorem bs {ps : Array (Nat × Operand)} {l : List (Nat × Value)} {d k e : Nat} {cs : List Value} (he : evp E ps.toList = some l) (hr : ∀ w, (Instr.buildSlice t k l.toArray).run P w = .ok (.slice (some ⟨w.heap.size, 0, none⟩) k k) (w.alloc (.cells cs.toArray e))) (hd : Nat.blt d n = true)
    (h : ∀ w1 b, Ext w w1 → w.heap.size ≤ b → Blk w1 b cs e (0, 0) → WL P n ops Q rest ((d, .slice (some ⟨b, 0, none⟩) k k) :: E) w1) : WL P n ops Q (⟨some d, .buildSlice t k ps, ty, pos, af, none⟩ :: rest) E w := by
  refine vl (w' := w.alloc (.cells cs.toArray e)) (v := .slice (some ⟨w.heap.size, 0, none⟩) k k) (fun n a ha => ?_) hd (h _ _ ((Below.refl _ w).alloc (Nat.le_refl _) _) (Nat.le_refl _) (Blk.new w cs e (0, 0)))
  have e1 : ps.map (fun (i, x) => (i, a.eval x)) = l.toArray := by rw [← ha.evp he]; apply Array.ext'; simp
  simp only [execOp, e1, Sem.run_bind, hr, Result.andThen_ok, Sem.run_pure]
/-! ### Slices -/
def bA (A : Option Addr) : Nat := match A with | some a => a.block | none => 0
def oA (A : Option Addr) : Nat := match A with | some a => a.off | none => 0
theorem Rep.SHas.adr {α : Type} {R : Rep α} {by_ c : Nat} {A : Option Addr} {l : List α} (h : R.SHas by_ w A c l) (h0 : 0 < l.length) : A = some ⟨bA A, oA A, none⟩ := by
  obtain ⟨b, o, rfl, _⟩ := h.at_ h0; rfl
theorem Rep.SHas.adh {α : Type} {R : Rep α} {by_ c : Nat} {A : Option Addr} {l : List α} (h : R.SHas by_ w A c l) (h0 : 0 < l.length) : R.SHas by_ w (some ⟨bA A, oA A, none⟩) c l := by
  rw [← h.adr h0]; exact h
theorem iA {e : TypeId} {size len cap b o : Nat} {ik : IntKind} {i : Int} {A : Option Addr} (j : Nat) (ht : P.underlying t = some (.slice e)) (hs : Sz P e size) (hx : ev E x = some (.slice A len cap)) (hi : ev E y = some (.int ik i)) (hA : A = some ⟨b, o, none⟩) (hj : i = (j : Int)) (hlt : j < len) :
    Runs P E ⟨d, .indexAddr t x y, ty, pos, af, g⟩ w (.pointer (some ⟨b, o + j * size, none⟩)) w := by subst hA; exact ia j ht hs hx hi hj hlt
theorem get_d {α : Type} {l : List α} {j : Nat} {u : α} (h : j < l.length) : l[j]? = some (l.getD j u) := by rw [List.getD_eq_getElem?_getD, List.getElem?_eq_getElem h]; rfl
section
variable {α : Type} {R : Rep α} {by_ c b o j : Nat} {l : List α} {cells : α → List Value} {q u : α}
theorem Rep.SHas.fld (hc : ∀ {w cs a}, R.has w cs a → cs = cells a) (h : R.SHas by_ w (some ⟨b, o, none⟩) c l) (k : Nat) (hj : l[j]? = some q) (hu : (cells q)[k]? = some v) (ht : Ag P t false) : Lds P w t ⟨b, o + j * R.size + k, none⟩ v := by
  obtain ⟨b', o', e, hall⟩ := h.at_ (by have := (List.getElem?_eq_some_iff.1 hj).1; omega)
  injection e with e; injection e with e1 e2; subst e1; subst e2
  obtain ⟨es, h1, h2⟩ := hall j q hj
  rw [hc h1] at h2
  exact Lds.one ht (by rw [Nat.add_assoc]; exact h2 k v hu)
theorem Rep.SHas.one' (hc : ∀ {w cs a}, R.has w cs a → cs = cells a) (h : R.SHas by_ w (some ⟨b, o, none⟩) c l) (hj : l[j]? = some q) (hu : (cells q)[0]? = some v) (ht : Ag P t false) : Lds P w t ⟨b, o + j * R.size, none⟩ v := h.fld hc 0 hj hu ht
theorem Rep.SHas.elt (hc : ∀ {w cs a}, R.has w cs a → cs = cells a) (h : R.SHas by_ w (some ⟨b, o, none⟩) c l) (hj : l[j]? = some q) (ht : Ag P t true) (hs : Sz P t (cells q).length) : Lds P w t ⟨b, o + j * R.size, none⟩ (.agg (cells q).toArray) := by
  obtain ⟨b', o', e, hall⟩ := h.at_ (by have := (List.getElem?_eq_some_iff.1 hj).1; omega)
  injection e with e; injection e with e1 e2; subst e1; subst e2
  obtain ⟨es, h1, h2⟩ := hall j q hj
  rw [hc h1] at h2
  exact Lds.agg ht hs fun k v hk => by rw [Nat.add_assoc]; exact h2 k v hk
/-- A part of an element: the cells from k on. -/
theorem Rep.SHas.part (hc : ∀ {w cs a}, R.has w cs a → cs = cells a) (h : R.SHas by_ w (some ⟨b, o, none⟩) c l) (k : Nat) {ds : List Value} (hj : l[j]? = some q) (hd : ((cells q).drop k).take ds.length = ds) (ht : Ag P t true) (hs : Sz P t ds.length) : Lds P w t ⟨b, o + j * R.size + k, none⟩ (.agg ds.toArray) := by
  obtain ⟨b', o', e, hall⟩ := h.at_ (by have := (List.getElem?_eq_some_iff.1 hj).1; omega)
  injection e with e; injection e with e1 e2; subst e1; subst e2
  obtain ⟨es, h1, h2⟩ := hall j q hj
  rw [hc h1] at h2
  refine Lds.agg ht hs fun i v hi => ?_
  rw [Nat.add_assoc, Nat.add_assoc]
  refine h2 _ v ?_
  rw [← hd] at hi
  have hl := (List.getElem?_eq_some_iff.1 hi).1
  rw [List.length_take] at hl
  rwa [List.getElem?_take_of_lt (by omega), List.getElem?_drop] at hi
end
theorem Blk.all {b : Nat} {cur : List Value} {e : TypeId} {fr : Nat × Nat} (h : Blk w b cur e fr) (ht : Ag P t true) (hs : Sz P t cur.length) : Lds P w t ⟨b, 0, none⟩ (.agg cur.toArray) :=
  Lds.agg ht hs fun j v hj => by rw [h.cell, Nat.zero_add, hj]
theorem Blk.par {b p : Nat} {cur : List Value} {e : TypeId} {fr : Nat × Nat} (h : Blk w b cur e fr) (cs : List Value) (ht : Ag P t true) (hs : Sz P t cs.length) (hv : (cur.drop p).take cs.length = cs) : Lds P w t ⟨b, p, none⟩ (.agg cs.toArray) := h.agg ht hs hv
end
end Go.Proofs.Yticfnngppcmidaa
