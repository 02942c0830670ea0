/-
  The walk over slots: small words.
  The walk over slots: append, stores into one's own slices, make, unrolled loops.
-/
import Derived.Test.YticfnngppcmidaaLog
import Derived.Test.YticfnngppcmidaaTrp
import Derived.Test.YticfnngppcmidaaDed
import Derived.IntWalk
import Derived.LoopN
import Derived.WalkKit
import Derived.Laws.MakeOwn
import Derived.Laws.Cover1
import Derived.Laws.Small
import Derived.Laws.Pointers
set_option linter.unusedVariables false
namespace Go.Proofs.Yticfnngppcmidaa
open Go.RowKit

section
variable {P : Program} {n : Nat} {E E' : List (Nat × Value)} {a : Act} {w w' w0 w1 : World} {Q : Exit → Act → World → Prop} {ops : Array Oper} {v : Value}
theorem inI {x : Int} (h : -9223372036854775808 ≤ x ∧ x ≤ 9223372036854775807) : IntKind.i64.wrap x = x := IntWalk.i64_in x h
section
variable {d : Option Nat} {ty : TypeId} {pos : String} {af : Array Edge} {g : Option (Nat × Bool)} {x y : Operand} {t u : TypeId} {k : IntKind} {i j r : Int}
theorem badL (hx : ev E x = some (.int k i)) (hy : ev E y = some (.int k j)) (h : k.wrap (i + j) = i + j) (he : i + j = r) : Runs P E ⟨d, .binOp .add t x y u, ty, pos, af, g⟩ w (.int k r) w := by subst he; exact bad hx hy h
theorem bsuL (hx : ev E x = some (.int k i)) (hy : ev E y = some (.int k j)) (h : k.wrap (i - j) = i - j) (he : i - j = r) : Runs P E ⟨d, .binOp .sub t x y u, ty, pos, af, g⟩ w (.int k r) w := by subst he; exact bsu hx hy h
theorem bmuL (hx : ev E x = some (.int k i)) (hy : ev E y = some (.int k j)) (h : k.wrap (i * j) = i * j) (he : i * j = r) : Runs P E ⟨d, .binOp .mul t x y u, ty, pos, af, g⟩ w (.int k r) w := by subst he; exact bmu hx hy h
end
theorem lt_succ_all {p : Nat → Prop} {k : Nat} (h : ∀ j, j < k → p j) (hk : p k) : ∀ j, j < k + 1 → p j := fun j hj => (Nat.lt_succ_iff_lt_or_eq.1 hj).elim (h j) fun e => e ▸ hk
theorem hcI {w : World} {cs : List Value} {a : Int} (h : repI.has w cs a) : cs = [.int .i64 a] := And.left (show cs = [.int .i64 a] ∧ okI a from h)
theorem hcB {w : World} {cs : List Value} {a : Bool} (h : repB.has w cs a) : cs = [.bool a] := And.left (show cs = [.bool a] ∧ True from h)
theorem hcC {w : World} {cs : List Value} {a : Cel} (h : Cel.rep.has w cs a) : cs = a.cells := And.left (show cs = a.cells ∧ a.ok from h)
theorem hcT {w : World} {cs : List Value} {a : Trp} (h : Trp.rep.has w cs a) : cs = a.cells := And.left (show cs = a.cells ∧ a.ok from h)
theorem hcD {w : World} {cs : List Value} {a : Ded} (h : Ded.rep.has w cs a) : cs = a.cells := And.left (show cs = a.cells ∧ a.ok from h)
theorem ec {x : Operand} {r : List Operand} {l : List Value} (h : ev E x = some v) (hr : evs E r = some l) : evs E (x :: r) = some (v :: l) := by simp only [evs, h, hr]
theorem loI {t : Nat} {k : IntKind} {i j : Int} (h : look E t = some (.int k i)) (e : i = j) : look E t = some (.int k j) := by rw [h, e]
section
variable {c : Operand} {x y : Code} {i j : Int}
theorem clt (hc : ev E c = some (.bool (decide (i < j)))) (h1 : i < j → W P n x Q E w) (h2 : ¬ i < j → W P n y Q E w) : W P n (.cond c x y) Q E w := cb hc (fun h => h1 (of_decide_eq_true h)) (fun h => h2 (of_decide_eq_false h))
theorem cle (hc : ev E c = some (.bool (decide (i ≤ j)))) (h1 : i ≤ j → W P n x Q E w) (h2 : ¬ i ≤ j → W P n y Q E w) : W P n (.cond c x y) Q E w := cb hc (fun h => h1 (of_decide_eq_true h)) (fun h => h2 (of_decide_eq_false h))
theorem ceq (hc : ev E c = some (.bool (i == j))) (h1 : i = j → W P n x Q E w) (h2 : ¬ i = j → W P n y Q E w) : W P n (.cond c x y) Q E w := cb hc (fun h => h1 (by simpa using h)) (fun h => h2 (by simpa using h))
theorem cne (hc : ev E c = some (.bool (i != j))) (h1 : ¬ i = j → W P n x Q E w) (h2 : i = j → W P n y Q E w) : W P n (.cond c x y) Q E w := cb hc (fun h => h1 (by simpa using h)) (fun h => h2 (by simpa using h))
end
end
/-- What is known of a slice's type t, of its things' type e. -/
def ElT (P : Program) {α : Type} (R : Rep α) (t e : TypeId) (by_ : Nat) : Prop :=
  ∃ (i : TypeInfo) (z : Value), P.underlying t = some (.slice e) ∧ P.info? e = some i ∧ i.zero = some z ∧ i.size = R.size ∧ i.bytes = by_ ∧ z.cells.size = R.size ∧ 0 < R.size ∧ ∀ (j : Nat) u, z.cells[j]? = some u → R.raw j u
section
variable {P : Program} {n : Nat} {E E' : List (Nat × Value)} {a : Act} {w w' w0 w1 : World} {Q : Exit → Act → World → Prop} {ops : Array Oper} {v : Value}
variable {d : Option Nat} {ty : TypeId} {pos : String} {af : Array Edge} {g : Option (Nat × Bool)} {x y z : Operand} {t : TypeId} {rest : List Oper}
theorem ElT.mk_ {α : Type} {R : Rep α} {t e by_ k : Nat} {z : Value} (ht : P.underlying t = some (.slice e)) (hi : (P.info? e).map (fun i => (i.zero, i.size, i.bytes)) = some (some z, k, by_)) (hk : R.size = k) (h1 : z.cells.size = k) (h2 : 0 < k) (h3 : ∀ (j : Nat) u, z.cells[j]? = some u → R.raw j u) : ElT P R t e by_ := by
  cases hq : P.info? e with
  | none => rw [hq] at hi; cases hi
  | some i =>
    rw [hq] at hi
    simp only [Option.map_some, Option.some.injEq, Prod.mk.injEq] at hi
    exact ⟨i, z, ht, hq, hi.1, by rw [hi.2.1, hk], hi.2.2, by rw [h1, hk], by rw [hk]; exact h2, h3⟩
theorem raw0I : ∀ (j : Nat) u, (Value.int .i64 0).cells[j]? = some u → repI.raw j u := by
  intro j u hu
  have hu : (#[(.int .i64 0 : Value)] : Array Value)[j]? = some u := hu
  match j, hu with
  | 0, hu => exact ⟨0, (Option.some.inj hu).symm⟩
  | j + 1, hu => simp at hu
theorem raw0B : ∀ (j : Nat) u, (Value.bool false).cells[j]? = some u → repB.raw j u := by
  intro j u hu
  have hu : (#[(.bool false : Value)] : Array Value)[j]? = some u := hu
  match j, hu with
  | 0, hu => exact ⟨false, (Option.some.inj hu).symm⟩
  | j + 1, hu => simp at hu
/-- A loop, round by round. -/
def Rn (P : Program) (n : Nat) (c : Code) (Q : Exit → Act → World → Prop) (k : Nat) (E : List (Nat × Value)) (w : World) : Prop := ∀ a, Agr n E a → Code.rounds P c Q k a w
theorem lu {c : Code} (k : Nat) (h : Rn P n c Q k E w) : W P n (.loop c) Q E w := fun a ha => wp_loop_rounds k (h a ha)
theorem lr {c : Code} {k : Nat} (h : W P n c (Exit.then (Code.rounds P c Q k) Q) E w) : Rn P n c Q (k + 1) E w := fun a ha => h a ha
theorem nR {c : Code} {k : Nat} (h : Rn P n c Q k E w) : N n (Exit.then (Code.rounds P c Q k) Q) E w := h
/-! ### Append -/
theorem Blk.has1 {α : Type} {R : Rep α} {by_ b : Nat} {cs : List Value} {e : TypeId} {fr : Nat × Nat} {q : α} (hb : Blk w b cs e fr) (h : R.has w cs q) (hby : by_ ≤ 140737488355328) : R.SHas by_ w (some ⟨b, 0, none⟩) 1 [q] := by
  refine ⟨Nat.le_refl _, by decide, by simpa using hby, (fun h => by cases h), [cs], ⟨h, trivial⟩, ?_⟩
  have hl := R.len h
  refine ⟨by simp [hl], fun _ => ⟨b, 0, rfl, fun j u hu => ?_⟩⟩
  rw [Nat.zero_add, hb.cell]
  simpa using hu
theorem Blk.hasN {α : Type} {R : Rep α} {by_ b : Nat} {cs : List Value} {e : TypeId} {fr : Nat × Nat} {k : List α} (hb : Blk w b cs e fr) (ess : List (List Value)) (hcs : ess.flatten = cs) (h : All2 (fun es a => R.has w es a) ess k) (h63 : k.length ≤ 9223372036854775807) (hby : k.length * by_ ≤ 140737488355328) : R.SHas by_ w (some ⟨b, 0, none⟩) k.length k := by
  refine ⟨Nat.le_refl _, h63, hby, (fun h => by cases h), ess, h, ?_⟩
  have hl : ∀ x ∈ ess, x.length = R.size := fun x hx => by obtain ⟨a, ha⟩ := h.left x hx; exact R.len ha
  refine ⟨by rw [flat_len hl, h.length], fun _ => ⟨b, 0, rfl, fun j u hu => ?_⟩⟩
  rw [Nat.zero_add, hb.cell, ← hcs]
  exact hu
theorem Blk.ownN {α : Type} {R : Rep α} {by_ b B : Nat} {cs : List Value} {e : TypeId} {k : List α} (hb : Blk w b cs e (0, 0)) (ess : List (List Value)) (hcs : ess.flatten = cs) (h : All2 (fun es a => R.has w es a) ess k) (h63 : k.length ≤ 9223372036854775807) (hby : k.length * by_ ≤ 140737488355328) (h0 : 0 < R.size) (hB : B ≤ b) (hR : R.Plain := by exact Rep.flat_plain) :
    R.SOwn e by_ w B (Rep.blkOf (some ⟨b, 0, none⟩)) (some ⟨b, 0, none⟩) k.length k := by
  have hl : ∀ x ∈ ess, x.length = R.size := fun x hx => by obtain ⟨a, ha⟩ := h.left x hx; exact R.len ha
  have hlen : cs.length = k.length * R.size := by rw [← hcs, flat_len hl, h.length]
  refine Rep.SOwn.of_plain hR h hby ⟨by rw [hcs, hlen], .inr ⟨b, k.length, cs.toArray, rfl, hB, hb, Nat.le_refl _, h63, by simpa using hlen, ?_, fun j u hu => ?_⟩⟩
  · rw [hcs]; exact List.take_of_length_le (by simp [hlen])
  · exact flat_raw h h0 (by rw [hcs]; simpa using hu)
theorem ap {α : Type} {R : Rep α} {e by_ base : Nat} {A A2 : Option Addr} {c c2 d : Nat} {l k : List α} (hE : ElT P R t e by_) (hR : R.Bare) (h : R.SOwn e by_ w base (Rep.blkOf A) A c l) (h2 : R.SHas by_ w A2 c2 k)
    (hs : ev E x = some (.slice A l.length c)) (hx : ev E y = some (.slice A2 k.length c2)) (hlen : l.length + k.length ≤ 9223372036854775807) (hbytes : (l.length + k.length) * by_ ≤ 140737488355328) (hbase : base ≤ w.heap.size) (hd : Nat.blt d n = true)
    (hk : ∀ w1 A' c', Mod (Rep.blkOf A) w w1 → R.SOwn e by_ w1 base (Rep.blkOf A') A' c' (l ++ k) → (∀ q ∈ Rep.blkOf A', q ∈ Rep.blkOf A ∨ w.heap.size ≤ q) → (A' = none ↔ A = none ∧ k = []) → WL P n ops Q rest ((d, .slice A' (l ++ k).length c') :: E) w1) :
    WL P n ops Q (⟨some d, .call { callee := .builtin .append, args := #[x, y], argTypes := #[t, t] }, ty, pos, af, none⟩ :: rest) E w := fun a ha => by
  obtain ⟨i, z, e1, e2, e3, e4, e5, e6, e7, e8⟩ := hE
  obtain ⟨s1, s2, s3, s4, ess, s5, s6⟩ := h2
  obtain ⟨p1, p2⟩ := Rep.plain_map ess
  refine Rep.wpList_append_rep rfl x y base t e i z e1 e2 e3 e4 e5 e6 e7 e8 (Rep.blkOf A) A c l h A2 k.length c2 k (ess.map fun es => (([] : List Nat), es)) (Rep.All2.plain hR.1 s5) rfl (by rw [p2]; exact s6) (by rw [p1, List.append_nil]; exact h.nodup) hlen hbytes hbase rfl (ha.ev hs) (ha.ev hx) ?_
  rintro A' c' f' w1 ⟨q1, q2, q3, q4, q5, q6⟩
  obtain rfl := q1.fp hR.2
  have hm : Mod (Rep.blkOf A) w w1 := by
    have := Mod.grown q2
    rwa [Rep.own_blk] at this
  have := hk w1 A' c' hm q1 (fun q hq => by
    rcases q4 q hq with h | h | h
    · exact .inl h
    · rw [p1] at h; cases h
    · exact .inr (by omega)) (by rw [q5]; exact and_congr_right fun _ => List.length_eq_zero_iff)
  rw [List.length_append] at this
  exact this _ (ha.put hd _)
/-! ### A store into an element of one's own slice -/
theorem Own.cells_at {base e size : Nat} {G : Nat → Value → Prop} {b c n : Nat} {xs : List Value} (h : Own w base e size G (.slice (some ⟨b, 0, none⟩) n c) n xs) : ∃ cur : Array Value, w.heap[b]? = some (.cells cur e (0, 0)) ∧ cur.size = c * size ∧ cur.toList.take (n * size) = xs := by
  obtain ⟨h1, h2⟩ := h
  rcases h2 with ⟨h2, _⟩ | ⟨g', cap, cur, hv, b', hh, d, hm, hs, ht, hG⟩
  · cases h2
  · injection hv with hv _ hc
    injection hv with hv
    injection hv with hv
    subst hv; subst hc
    exact ⟨cur, hh, hs, ht⟩
theorem so {α : Type} {R : Rep α} {e by_ B j i : Nat} {A : Option Addr} {c : Nat} {l : List α} {q q' : α} {p : Addr} {u : Value} (h : R.SOwn e by_ w B (Rep.blkOf A) A c l) (hR : R.Bare) (hi : l[i]? = some q) (hj : Nat.blt j R.size = true) (hx : ev E x = some (.pointer (some p))) (hp : p = ⟨bA A, oA A + i * R.size + j, none⟩) (hy : ev E y = some u)
    (hu : ∀ (w1 : World) cs, R.has w cs q → R.has w1 (cs.set j u) q') (h1 : u.oneCell' = true) (hcs : u.cells = #[u]) (hs : Sz P t 1)
    (hk : ∀ w1, Mod (Rep.blkOf A) w w1 → R.SOwn e by_ w1 B (Rep.blkOf A) A c (l.set i q') → WL P n ops Q rest E w1) : WL P n ops Q (⟨none, .store t x y, ty, pos, af, none⟩ :: rest) E w := by
  obtain ⟨b, rfl⟩ := h.block (by have := (List.getElem?_eq_some_iff.1 hi).1; omega)
  rw [Nat.blt_eq] at hj
  have hp' : p = ⟨b, i * R.size + j, none⟩ := by rw [hp]; simp [bA, oA]
  subst hp'
  have hset := h.setj hR hi hj (fun cs hc => hu _ cs hc)
  have hlt := (List.getElem?_eq_some_iff.1 hi).1
  have hcell : ∃ u0, w.cell? ⟨b, i * R.size + j, none⟩ = some u0 := by
    obtain ⟨_, ps, _, _, ho, hall⟩ := h
    have hl := ho.1
    rw [ho.cell _ (by rw [Nat.mul_comm i]; exact Nat.lt_of_lt_of_le (by rw [Nat.mul_comm]; exact (by omega : i * R.size + j < i * R.size + R.size)) (by rw [← Nat.succ_mul]; exact Nat.mul_le_mul_right _ hlt))]
    exact ⟨_, List.getElem?_eq_getElem (by rw [hl]; exact Nat.lt_of_lt_of_le (by omega : i * R.size + j < i * R.size + R.size) (by rw [← Nat.succ_mul]; exact Nat.mul_le_mul_right _ hlt))⟩
  obtain ⟨u0, hu0⟩ := hcell
  have hf := h.free (i * R.size + j)
  refine us (w' := w.setCell ⟨b, i * R.size + j, none⟩ u) (fun n a ha => ?_) (hk _ (Mod.setCell w ⟨b, i * R.size + j, none⟩ u) hset)
  have hst : (storeVar t ⟨b, i * R.size + j, none⟩ u).run P w = .ok () (w.setCell ⟨b, i * R.size + j, none⟩ u) := by
    unfold storeVar
    simp only [hcs, Sem.run_bind, hs w, Result.andThen_ok, List.size_toArray, List.length_cons, List.length_nil, ne_eq, Nat.zero_add, not_true_eq_false, if_false, storeCells]
    have : (⟨b, i * R.size + j, none⟩ : Addr).add 0 = ⟨b, i * R.size + j, none⟩ := rfl
    rw [this, run_store P w _ u _ h1, hu0]
    simp only [hf, Bool.false_eq_true, if_false, Result.andThen_ok, Sem.run_pure]
  simp only [execOp, ha.ev hx, ha.ev hy, Instr.storeAt, Instr.sureAddr, Sem.run_bind, Sem.run_pure, Result.andThen_ok, hst]
theorem bpN {e u : TypeId} {q : Option Addr} (ht : P.underlying t = some (.pointer e)) (hx : ev E x = some (.pointer q)) (hy : ev E y = some (.pointer none)) : Runs P E ⟨d, .binOp .eql t x y u, ty, pos, af, g⟩ w (.bool q.isNone) w := fun n a ha => by
  have h1 : P.underlying t = some (.pointer (P.pointee t)) := by simp [Program.pointee, ht]
  have : (eqGuard .eql t x y (.pointer q) (.pointer none)).run P w = .ok () w := by cases x <;> cases y <;> rfl
  simp only [execOp, ha.ev hx, ha.ev hy, Sem.run_bind, this, run_eql_pointer_nil w t q h1, Result.andThen_ok, Sem.run_pure]
theorem bpM {e u : TypeId} {q : Option Addr} (ht : P.underlying t = some (.pointer e)) (hx : ev E x = some (.pointer q)) (hy : ev E y = some (.pointer none)) : Runs P E ⟨d, .binOp .neq t x y u, ty, pos, af, g⟩ w (.bool !q.isNone) w := fun n a ha => by
  have h1 : P.underlying t = some (.pointer (P.pointee t)) := by simp [Program.pointee, ht]
  have : (eqGuard .neq t x y (.pointer q) (.pointer none)).run P w = .ok () w := by cases x <;> cases y <;> rfl
  simp only [execOp, ha.ev hx, ha.ev hy, Sem.run_bind, this, run_neq_pointer_nil w t q h1, Result.andThen_ok, Sem.run_pure]
/-! ### Structs, truths against one another -/
def EqS (P : Program) {α : Type} [DecidableEq α] (cells : α → List Value) (t : TypeId) : Prop := ∀ (a b : α) (w : World), (binOp .eql t (.agg (cells a).toArray) (.agg (cells b).toArray)).run P w = .ok (.bool (decide (a = b))) w ∧ (binOp .neq t (.agg (cells a).toArray) (.agg (cells b).toArray)).run P w = .ok (.bool (!decide (a = b))) w
theorem eqGuard_agg {o : BinOp} {xs ys : Array Value} (h : P.eqGuardType P.depth t = false) : (eqGuard o t x y (.agg xs) (.agg ys)).run P w = .ok () w := by
  cases o <;> simp [eqGuard, h]
theorem bqS {α : Type} [DecidableEq α] {cells : α → List Value} {u : TypeId} {p q : α} (hE : EqS P cells t) (hG : P.eqGuardType P.depth t = false) (hx : ev E x = some (.agg (cells p).toArray)) (hy : ev E y = some (.agg (cells q).toArray)) : Runs P E ⟨d, .binOp .eql t x y u, ty, pos, af, g⟩ w (.bool (decide (p = q))) w := fun n a ha => by
  simp only [execOp, ha.ev hx, ha.ev hy, Sem.run_bind, eqGuard_agg hG, (hE p q w).1, Result.andThen_ok, Sem.run_pure]
theorem bnS {α : Type} [DecidableEq α] {cells : α → List Value} {u : TypeId} {p q : α} (hE : EqS P cells t) (hG : P.eqGuardType P.depth t = false) (hx : ev E x = some (.agg (cells p).toArray)) (hy : ev E y = some (.agg (cells q).toArray)) : Runs P E ⟨d, .binOp .neq t x y u, ty, pos, af, g⟩ w (.bool (!decide (p = q))) w := fun n a ha => by
  simp only [execOp, ha.ev hx, ha.ev hy, Sem.run_bind, eqGuard_agg hG, (hE p q w).2, Result.andThen_ok, Sem.run_pure]
theorem run_equalIn_bool (d : Nat) {p q : Bool} (ht : P.underlying t = some .bool) : (Op.equalIn (d + 1) t (.bool p) (.bool q)).run P w = .ok (p == q) w := by simp [Op.equalIn, run_underlying ht]
theorem run_equal_bool {p q : Bool} (ht : P.underlying t = some .bool) : (Op.equal t (.bool p) (.bool q)).run P w = .ok (p == q) w := run_equalIn_bool 9999 ht
theorem bqB {u : TypeId} {p q : Bool} (ht : P.underlying t = some .bool) (hx : ev E x = some (.bool p)) (hy : ev E y = some (.bool q)) : Runs P E ⟨d, .binOp .eql t x y u, ty, pos, af, g⟩ w (.bool (p == q)) w := fun n a ha => by
  have : (eqGuard .eql t x y (.bool p) (.bool q)).run P w = .ok () w := by cases x <;> cases y <;> rfl
  have h2 : (binOp .eql t (.bool p) (.bool q)).run P w = .ok (.bool (p == q)) w := by
    simp only [binOp, Sem.run_bind, run_equal_bool ht, Result.andThen_ok, Sem.run_pure]
  simp only [execOp, ha.ev hx, ha.ev hy, Sem.run_bind, this, h2, Result.andThen_ok, Sem.run_pure]
theorem bnB {u : TypeId} {p q : Bool} (ht : P.underlying t = some .bool) (hx : ev E x = some (.bool p)) (hy : ev E y = some (.bool q)) : Runs P E ⟨d, .binOp .neq t x y u, ty, pos, af, g⟩ w (.bool (p != q)) w := fun n a ha => by
  have : (eqGuard .neq t x y (.bool p) (.bool q)).run P w = .ok () w := by cases x <;> cases y <;> rfl
  have h2 : (binOp .neq t (.bool p) (.bool q)).run P w = .ok (.bool (p != q)) w := by
    simp only [binOp, Sem.run_bind, run_equal_bool ht, Result.andThen_ok, Sem.run_pure]; rfl
  simp only [execOp, ha.ev hx, ha.ev hy, Sem.run_bind, this, h2, Result.andThen_ok, Sem.run_pure]
theorem ixk {u i : Value} (hx : ev E x = some u) (hy : ev E y = some i) (hr : (Instr.index t u i).run P w = .ok v w) : Runs P E ⟨d, .index t x y, ty, pos, af, g⟩ w v w := fun n a ha => by
  simp only [execOp, ha.ev hx, ha.ev hy, Sem.run_bind, hr, Result.andThen_ok, Sem.run_pure]
/-! ### min, max -/
theorem mn {k : IntKind} {i j : Int} {ts : Array TypeId} (hx : ev E x = some (.int k i)) (hy : ev E y = some (.int k j)) : Runs P E ⟨d, .call { callee := .builtin .min, args := #[x, y], argTypes := ts }, ty, pos, af, g⟩ w (.int k (min i j)) w :=
  bi (vs := [.int k i, .int k j]) (by simp only [evs, hx, hy]) fun cs => by
    have := run_min_int2 (P := P) (w := w) ts ty k k i j
    simp only [builtin, Sem.run_bind, this, Result.andThen_ok, Sem.run_pure]
    congr 3; rw [Int.min_def]; split <;> split <;> omega
theorem mx {k : IntKind} {i j : Int} {ts : Array TypeId} (hx : ev E x = some (.int k i)) (hy : ev E y = some (.int k j)) : Runs P E ⟨d, .call { callee := .builtin .max, args := #[x, y], argTypes := ts }, ty, pos, af, g⟩ w (.int k (max i j)) w :=
  bi (vs := [.int k i, .int k j]) (by simp only [evs, hx, hy]) fun cs => by
    have := run_max_int2 (P := P) (w := w) ts ty k k i j
    simp only [builtin, Sem.run_bind, this, Result.andThen_ok, Sem.run_pure]
    congr 3; rw [Int.max_def]; split <;> split <;> omega
end
end Go.Proofs.Yticfnngppcmidaa
