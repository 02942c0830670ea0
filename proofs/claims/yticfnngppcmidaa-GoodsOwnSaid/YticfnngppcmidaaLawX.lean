/-
  The walk over slots: closures; what is spoilt: rows of which the cells alone are known to be numbers.
-/
import Derived.Test.YticfnngppcmidaaLawP
set_option linter.unusedVariables false
namespace Go.Proofs.Yticfnngppcmidaa
open Go.RowKit

section
variable {P : Program} {n : Nat} {E E' : List (Nat × Value)} {a : Act} {w w' w0 w1 : World} {Q : Exit → Act → World → Prop} {ops : Array Oper}
variable {d : Option Nat} {ty : TypeId} {pos : String} {af : Array Edge} {g : Option (Nat × Bool)} {x y z : Operand} {t : TypeId} {rest : List Oper} {v : Value}
theorem run_callV {f : FuncId} (hf : Enters P f) {xs : Array Operand} {ts : Array TypeId} {args caps : List Value} {a : Act} (ha : Agr n E a) (hx : ev E x = some (.func (.func f) #[] caps.toArray)) (he : evs E xs.toList = some args) :
    (execOp a.eval ⟨d, .call { callee := .value x, args := xs, argTypes := ts }, ty, pos, af, g⟩).run P w = .ok (.enter f (args ++ caps).toArray) w := by
  obtain ⟨fn, h1, h2, h3⟩ := hf
  have hm : xs.map a.eval = args.toArray := by rw [← ha.evs he]; apply Array.ext'; simp
  have hp : Sem.run P program w = .ok P w := rfl
  unfold execOp
  simp only [resolve, invoke, Deferred.ofValue, ha.ev hx, callFunc, Sem.run_bind, Sem.run_pure, Result.andThen_ok, hm, hp, h1, h2, h3, Array.empty_append, Bool.false_eq_true, if_false]
  simp
/-- A call of a closure. -/
theorem cv {d : Nat} {f : FuncId} (hf : Enters P f) {xs : Array Operand} {ts : Array TypeId} {args caps : List Value} (hx : ev E x = some (.func (.func f) #[] caps.toArray)) (he : evs E xs.toList = some args) (hd : Nat.blt d n = true)
    (h : Calls P f (args ++ caps).toArray w fun e w' => ∃ v, e = .returned v ∧ WL P n ops Q rest ((d, v) :: E) w') : WL P n ops Q (⟨some d, .call { callee := .value x, args := xs, argTypes := ts }, ty, pos, af, none⟩ :: rest) E w := fun a ha => by
  refine WL_one rfl ?_
  unfold Oper.wp
  rw [run_callV hf ha hx he]
  refine Calls.mono h fun e w' hh => ?_
  obtain ⟨v, rfl, h⟩ := hh
  exact h _ (ha.put hd v)
/-- A call of a function that tells nothing. -/
theorem cu {f : FuncId} (hf : Enters P f) {xs : Array Operand} {ts : Array TypeId} {args : List Value} (he : evs E xs.toList = some args)
    (h : Calls P f args.toArray w fun e w' => ∃ v, e = .returned v ∧ WL P n ops Q rest E w') : WL P n ops Q (⟨none, .call { callee := .value (.func f), args := xs, argTypes := ts }, ty, pos, af, none⟩ :: rest) E w := fun a ha => by
  refine WL_one rfl ?_
  unfold Oper.wp
  rw [run_call hf ha he]
  refine Calls.mono h fun e w' hh => ?_
  obtain ⟨v, rfl, h⟩ := hh
  exact h _ ha
theorem cp {A : Option Addr} {len cap e : Nat} (ht : P.underlying t = some (.slice e)) (hx : ev E x = some (.slice A len cap)) : Runs P E ⟨d, .call { callee := .builtin .cap, args := #[x], argTypes := #[t] }, ty, pos, af, g⟩ w (.int .i64 (cap : Int)) w :=
  bi (vs := [.slice A len cap]) (by simp only [evs, hx]) fun cs => by
    have h1 : P.underlying t = some (.slice (P.elem t)) := by simp [Program.elem, ht]
    have := run_cap_slice (P := P) (w := w) t ty A len cap h1
    simp only [builtin, Sem.run_bind, this, Result.andThen_ok, Sem.run_pure]; rfl
theorem ne {fn : Func} {R : Ending → World → Prop} (h : T n (bodyPost P fn R) E w) : N n (bodyPost P fn R) E w := fun a ha => h a ha
/-- A slice as wide as it may be. -/
theorem sx {A : Option Addr} {len cap e s : Nat} {k : IntKind} (ht : P.underlying t = some (.slice e)) (hs : Sz P e s) (hx : ev E x = some (.slice A len cap)) (hy : ev E y = some (.int k (cap : Int))) : Runs P E ⟨d, .slice t x none (some y) none, ty, pos, af, g⟩ w (.slice A cap cap) w := fun n a ha => by
  have h1 : P.underlying t = some (.slice (P.elem t)) := by simp [Program.elem, ht]
  have h2 : P.elem t = e := by simp [Program.elem, ht]
  have h3 := run_slice_h (P := P) (w := w) t A len cap h1 k (cap : Int) (by omega) (by omega)
  have h4 := run_sliceAt_slice (P := P) (w := w) t (.slice A len cap) none (some (.int k (cap : Int))) none h1
  rw [h2, hs w] at h3
  simp only [execOp, ha.ev hx, ha.ev hy, Option.map, h4, h3, Sem.run_bind, Result.andThen_ok, Sem.run_pure, sliced, Int.toNat_natCast, Nat.sub_zero]
  cases A with
  | none => simp
  | some a => simp [Addr.add]
end
/-- A row, of which is known that a column of its is numbers. -/
def Raw (Z size j : Nat) (w : World) (A : Option Addr) (c : Nat) : Prop :=
  (A = none ∧ c = 0) ∨ ∃ (b : Nat) (cur : List Value) (e : TypeId), A = some ⟨b, 0, none⟩ ∧ Z ≤ b ∧ Blk w b cur e (0, 0) ∧ ∀ i, i < c → ∃ m : Int, cur[i * size + j]? = some (.int .i64 m)
section
variable {w w' : World} {Z size j c i : Nat} {A : Option Addr} {S : List Nat}
theorem Raw.of {α : Type} {R : Rep α} {e by_ : Nat} {l : List α} (h : R.SOwn e by_ w Z (Rep.blkOf A) A c l) (hj : Nat.blt j R.size = true) (hr : ∀ u, R.raw j u → ∃ m : Int, u = .int .i64 m) : Raw Z R.size j w A c := by
  rw [Nat.blt_eq] at hj
  obtain ⟨_, ps, _, _, ⟨_, ho⟩, _⟩ := h
  rcases ho with ⟨h1, _⟩ | ⟨b, cap, cur, h1, h2, h3, h4, h5, h6, h7, h8⟩
  · injection h1 with h1 _ h2; exact .inl ⟨h1, h2⟩
  · injection h1 with h1 _ h9
    subst h9
    refine .inr ⟨b, cur.toList, e, h1, h2, by unfold Blk; simpa using h3, fun i hi => ?_⟩
    have hlt : i * R.size + j < cur.size := by
      rw [h6]; exact Nat.lt_of_lt_of_le (by omega : i * R.size + j < i * R.size + R.size) (by rw [← Nat.succ_mul]; exact Nat.mul_le_mul_right _ hi)
    have hq := h8 (i * R.size + j) _ (Array.getElem?_eq_getElem hlt)
    have hm : (i * R.size + j) % R.size = j := by rw [Nat.add_comm, Nat.add_mul_mod_self_right, Nat.mod_eq_of_lt hj]
    rw [hm] at hq
    obtain ⟨m, hm⟩ := hr _ hq
    exact ⟨m, by rw [Array.getElem?_toList, Array.getElem?_eq_getElem hlt, hm]⟩
theorem Raw.lt (h : Raw Z size j w A c) : ∀ q ∈ Rep.blkOf A, Z ≤ q ∧ q < w.heap.size := by
  intro q hq
  rcases h with ⟨rfl, _⟩ | ⟨b, cur, e, rfl, h1, h2, _⟩
  · simp [Rep.blkOf] at hq
  · obtain rfl : q = b := List.mem_singleton.1 hq
    exact ⟨h1, h2.lt⟩
theorem Raw.later (h : Raw Z size j w A c) (x : Ext w w') : Raw Z size j w' A c := by
  rcases h with h | ⟨b, cur, e, h1, h2, h3, h4⟩
  · exact .inl h
  · exact .inr ⟨b, cur, e, h1, h2, h3.later x, h4⟩
theorem Raw.mod (h : Raw Z size j w A c) (m : Mod S w w') (hd : ∀ q ∈ Rep.blkOf A, q ∉ S) : Raw Z size j w' A c := by
  rcases h with h | ⟨b, cur, e, h1, h2, h3, h4⟩
  · exact .inl h
  · exact .inr ⟨b, cur, e, h1, h2, h3.mod m (hd b (by rw [h1]; exact List.mem_singleton.2 rfl)), h4⟩
theorem Raw.adr (h : Raw Z size j w A c) (h0 : 0 < c) : A = some ⟨bA A, oA A, none⟩ := by
  rcases h with ⟨_, h⟩ | ⟨b, cur, e, rfl, _⟩
  · omega
  · rfl
theorem Raw.get (h : Raw Z size j w A c) (hi : i < c) : ∃ m : Int, w.cell? ⟨bA A, oA A + i * size + j, none⟩ = some (.int .i64 m) := by
  rcases h with ⟨_, h⟩ | ⟨b, cur, e, rfl, _, h3, h4⟩
  · omega
  · obtain ⟨m, hm⟩ := h4 i hi
    exact ⟨m, by rw [show (⟨bA (some ⟨b, 0, none⟩), oA (some ⟨b, 0, none⟩) + i * size + j, none⟩ : Addr) = ⟨b, i * size + j, none⟩ from by simp [bA, oA], h3.cell, hm]⟩
theorem Raw.set (h : Raw Z size j w A c) (hi : i < c) (v : Int) : Raw Z size j (w.setCell ⟨bA A, oA A + i * size + j, none⟩ (.int .i64 v)) A c := by
  rcases h with ⟨_, h⟩ | ⟨b, cur, e, rfl, h1, h3, h4⟩
  · omega
  · rw [show (⟨bA (some ⟨b, 0, none⟩), oA (some ⟨b, 0, none⟩) + i * size + j, none⟩ : Addr) = ⟨b, i * size + j, none⟩ from by simp [bA, oA]]
    refine .inr ⟨b, _, e, rfl, h1, h3.set _ _, fun k hk => ?_⟩
    obtain ⟨m, hm⟩ := h4 k hk
    by_cases he : i * size + j = k * size + j
    · rw [← he] at hm ⊢
      exact ⟨v, List.getElem?_set_self (List.getElem?_eq_some_iff.1 hm).1⟩
    · exact ⟨m, by rw [List.getElem?_set_ne he]; exact hm⟩
theorem Raw.free (h : Raw Z size j w A c) (hi : i < c) (k : Nat) : w.frozen? ⟨bA A, k, none⟩ = false := by
  rcases h with ⟨_, h⟩ | ⟨b, cur, e, rfl, h1, h3, h4⟩
  · omega
  · exact h3.free k (.inr (Nat.zero_le _))
end
/-- A store into such a row. -/
theorem sr {P : Program} {n : Nat} {E : List (Nat × Value)} {w : World} {Q : Exit → Act → World → Prop} {ops : Array Oper} {ty : TypeId} {pos : String} {af : Array Edge} {x y : Operand} {t : TypeId} {rest : List Oper} {Z size j c i : Nat} {A : Option Addr} {v : Int}
    (h : Raw Z size j w A c) (hi : i < c) (hx : ev E x = some (.pointer (some ⟨bA A, oA A + i * size + j, none⟩))) (hy : ev E y = some (.int .i64 v)) (hs : Sz P t 1)
    (hk : ∀ w1, Mod (Rep.blkOf A) w w1 → Raw Z size j w1 A c → WL P n ops Q rest E w1) : WL P n ops Q (⟨none, .store t x y, ty, pos, af, none⟩ :: rest) E w := by
  obtain ⟨m, hm⟩ := h.get hi
  have hA := h.adr (by omega)
  have hf := h.free hi (oA A + i * size + j)
  have hmod : Mod (Rep.blkOf A) w (w.setCell ⟨bA A, oA A + i * size + j, none⟩ (.int .i64 v)) := by
    have := Mod.setCell w ⟨bA A, oA A + i * size + j, none⟩ (.int .i64 v)
    refine this.sub fun q hq => ?_
    rw [hA]; exact List.mem_singleton.2 (List.mem_singleton.1 hq)
  refine us (w' := w.setCell ⟨bA A, oA A + i * size + j, none⟩ (.int .i64 v)) (fun n a ha => ?_) (hk _ hmod (h.set hi v))
  have hst : (storeVar t ⟨bA A, oA A + i * size + j, none⟩ (.int .i64 v)).run P w = .ok () (w.setCell ⟨bA A, oA A + i * size + j, none⟩ (.int .i64 v)) := by
    have hcs : (Value.int .i64 v).cells = #[.int .i64 v] := rfl
    unfold storeVar
    simp only [hcs, Sem.run_bind, hs w, Result.andThen_ok, List.size_toArray, List.length_cons, List.length_nil, ne_eq, Nat.zero_add, not_true_eq_false, if_false, storeCells]
    have : (⟨bA A, oA A + i * size + j, none⟩ : Addr).add 0 = ⟨bA A, oA A + i * size + j, none⟩ := rfl
    rw [this, run_store P w _ (.int .i64 v) _ rfl, hm]
    simp only [hf, Bool.false_eq_true, if_false, Result.andThen_ok, Sem.run_pure]
  simp only [execOp, ha.ev hx, ha.ev hy, Instr.storeAt, Instr.sureAddr, Sem.run_bind, Sem.run_pure, Result.andThen_ok, hst]
end Go.Proofs.Yticfnngppcmidaa
