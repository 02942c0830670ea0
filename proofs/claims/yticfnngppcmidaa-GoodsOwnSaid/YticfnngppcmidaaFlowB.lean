/-
  A region that draws its order, with a batch of operations that each make something new, in whatever order: told of each for itself.
-/
import Derived.Test.YticfnngppcmidaaLogA
set_option linter.unusedVariables false
namespace Go.Proofs.Yticfnngppcmidaa
open Go.RowKit

section
variable {P : Program} {n : Nat} {E : List (Nat × Value)} {a : Act} {w w0 : World} {Q : Exit → Act → World → Prop} {ops : Array Oper} {kd : Nat → Nat}
def setAll (r : List Nat) (l : Array Bool) : Array Bool := match r with | [] => l | i :: r => setAll r (l.setIfInBounds i true)
def flow1B (ops : Array Oper) (kd : Nat → Nat) : List Nat → Array Bool → Bool
  | [], _ => true
  | i :: r, l => (match kd i with
      | 0 => Region.free .any ops l i && (Region.ready .any ops l).contains i && barOk ops kd l i
      | 1 => Region.free .any ops l i && (Region.ready .any ops l).contains i
      | _ => false) && flow1B ops kd r (l.setIfInBounds i true)
/-- What is ready is of the batch, until it is done; then the rest. -/
def batchB (ops : Array Oper) (kd : Nat → Nat) (r : List Nat) : Nat → List Nat → Array Bool → Bool
  | 0, R, l => R.isEmpty && flowB ops kd r l
  | f + 1, R, l => !(Region.ready .any ops l).isEmpty && (Region.ready .any ops l).all fun j => R.contains j && Nat.beq (kd j) 2 && batchB ops kd r f (R.erase j) (l.setIfInBounds j true)
theorem any_of_flow1 (hs : Region.noSelect ops = true) (hQ : ∀ c a w, ¬ Q (.panic c) a w) {Q' : Exit → Act → World → Prop} {m : Nat} : ∀ (r : List Nat) (l : Array Bool) (a : Act) (w0 : World), l.size = ops.size → flow1B ops kd r l = true → wpFlow P ops Q' kd r a w0 →
    (∀ a w0, (∀ w, Ext w0 w → Q' .normal a w) → anyF P ops Q kd m (setAll r l) a w0) → anyF P ops Q kd (r.length + m) l a w0
  | [], l, a, w0, _, _, h, hC => by rw [List.length_nil, Nat.zero_add]; exact hC a w0 h
  | i :: r, l, a, w0, hl, hB, h, hC => by
    rw [List.length_cons, Nat.succ_add]
    obtain ⟨o, ho, h⟩ := h
    have hsel := Region.noSelect_spec hs
    rcases h with ⟨hk, v, hq, hK⟩ | ⟨hk, v, hq, hK⟩ | ⟨hk, h⟩
    · simp only [flow1B, hk, Bool.and_eq_true] at hB
      obtain ⟨⟨⟨hf, hr⟩, hb⟩, hB⟩ := hB
      obtain ⟨R, r1, r2, r3⟩ := barOk_spec hl hb
      exact firstF ho (by omega) hsel hQ (fun w0 a => QIn P ops w0 o v a) (fun _ _ h => h) (fun _ _ _ h he hw => h.of_same he hw) (fun _ _ _ hx h => h.on hx) R l r1 (.inr r3) _ _ _ _ r2 (fun _ h => h) (Region.free_spec ho hf) (by simpa using hr) hq
        (any_of_flow1 hs hQ r _ _ _ (by simpa using hl) hB hK hC)
    · simp only [flow1B, hk, Bool.and_eq_true] at hB
      obtain ⟨⟨hf, hr⟩, hB⟩ := hB
      exact firstF ho (by omega) hsel hQ (fun _ a => Yields P ops o v a) (fun _ _ h => Yields.qin h) (fun _ _ _ h he hw => h.of_same he hw) (fun _ _ _ _ h => h) (fun _ => true) l (fun _ _ _ _ _ => rfl) (.inl fun _ _ _ h => h) _ _ _ _ (fun _ _ => rfl) (fun _ h => h) (Region.free_spec ho hf) (by simpa using hr) hq
        (any_of_flow1 hs hQ r _ _ _ (by simpa using hl) hB hK hC)
    · obtain ⟨k, hk2⟩ : ∃ k, kd i = k + 2 := ⟨kd i - 2, by omega⟩
      simp only [flow1B, hk2, Bool.false_and, Bool.false_eq_true] at hB
theorem Agr.putF {d : Nat} (h : Agr n E a) (hf : look E d = Option.none) (v : Value) : Agr n E (a.put (some d) v) := by
  refine ⟨h.d, by simp [Act.put, h.s], fun t u hu => ?_⟩
  have hne : d ≠ t := fun e => by rw [e, hu] at hf; cases hf
  simp only [Act.put]
  rw [Array.getElem?_setIfInBounds_ne hne]
  exact h.g t u hu
/-- One of a batch: it makes something, of which Φ tells, at blocks that are new. -/
structure Mk (P : Program) (n : Nat) (ops : Array Oper) (Q : Exit → Act → World → Prop) (E : List (Nat × Value)) (w0 : World) (i d : Nat) (Φ : Value → List Nat → World → Prop) : Prop where
  mono : ∀ v f w w', Φ v f w → Ext w w' → Φ v f w'
  free : look E d = none
  bd : Nat.blt d n = true
  run : ∀ (a : Act) (w : World) (K : Act → World → Prop), Agr n E a → Ext w0 w → (∀ v w' f, Ext w w' → (∀ q ∈ f, w.heap.size ≤ q ∧ q < w'.heap.size) → Φ v f w' → K (a.put (some d) v) w') → wpOp P ops (nrm (Q .normal)) i K a w
abbrev Made := Nat × Nat × (Value → List Nat → World → Prop)
theorem look_made {vs : Nat → Value} {t : Nat} {v : Value} : ∀ {M : List Made}, look (M.map (fun x => (x.2.1, vs x.1)) ++ E) t = some v → (∃ x ∈ M, x.2.1 = t ∧ vs x.1 = v) ∨ look E t = some v
  | [], h => .inr h
  | x :: M, h => by
    simp only [List.map_cons, List.cons_append, look] at h
    cases hb : Nat.beq x.2.1 t with
    | true => rw [hb] at h; exact .inl ⟨x, List.mem_cons_self, Nat.eq_of_beq_eq_true hb, Option.some.inj h⟩
    | false =>
      rw [hb] at h
      rcases look_made h with ⟨y, hy, h2⟩ | h
      · exact .inl ⟨y, List.mem_cons_of_mem _ hy, h2⟩
      · exact .inr h
theorem inj_of {α β : Type} {f : α → β} : ∀ {l : List α}, (l.map f).Nodup → ∀ x ∈ l, ∀ y ∈ l, f x = f y → x = y
  | z :: l, h, x, hx, y, hy, e => by
    rw [List.map_cons, List.nodup_cons] at h
    rcases List.mem_cons.1 hx with h1 | h1
    · rcases List.mem_cons.1 hy with h2 | h2
      · rw [h1, h2]
      · exact absurd (List.mem_map.2 ⟨y, h2, by rw [← e, h1]⟩) h.1
    · rcases List.mem_cons.1 hy with h2 | h2
      · exact absurd (List.mem_map.2 ⟨x, h1, by rw [e, h2]⟩) h.1
      · exact inj_of h.2 x h1 y h2 e
theorem batch_core (hs : Region.noSelect ops = true) {τ : List Nat} (M : List Made) (hM : ∀ x ∈ M, Mk P n ops Q E w0 x.1 x.2.1 x.2.2) (hn1 : (M.map (·.1)).Nodup) (hn2 : (M.map (·.2.1)).Nodup)
    (hcont : ∀ (w : World) (vs : Nat → Value) (fs : Nat → List Nat), Ext w0 w → (∀ x ∈ M, x.2.2 (vs x.1) (fs x.1) w ∧ ∀ q ∈ fs x.1, w0.heap.size ≤ q ∧ q < w.heap.size) → (∀ x ∈ M, ∀ y ∈ M, x.1 ≠ y.1 → ∀ q ∈ fs x.1, q ∈ fs y.1 → False) → FL P n ops Q kd τ (M.map (fun x => (x.2.1, vs x.1)) ++ E) w) :
    ∀ (f : Nat) (R : List Nat) (l : Array Bool) (a : Act) (w : World) (vs : Nat → Value) (fs : Nat → List Nat), l.size = ops.size → batchB ops kd τ f R l = true → (∀ i ∈ R, ∃ x ∈ M, x.1 = i) → R.Nodup → Ext w0 w → Agr n E a →
      (∀ x ∈ M, x.1 ∉ R → x.2.2 (vs x.1) (fs x.1) w ∧ (∀ q ∈ fs x.1, w0.heap.size ≤ q ∧ q < w.heap.size) ∧ a.tmps[x.2.1]? = some (vs x.1)) →
      (∀ x ∈ M, x.1 ∉ R → ∀ y ∈ M, y.1 ∉ R → x.1 ≠ y.1 → ∀ q ∈ fs x.1, q ∈ fs y.1 → False) → anyF P ops (nrm (Q .normal)) kd (f + τ.length) l a w := by
  intro f
  induction f with
  | zero =>
    intro R l a w vs fs hl hB _ _ hx ha h1 h2
    simp only [batchB, Bool.and_eq_true, List.isEmpty_iff] at hB
    obtain ⟨rfl, hB⟩ := hB
    rw [Nat.zero_add]
    refine any_of_flow hs (fun _ _ _ h => h) τ l a w hl hB (hcont w vs fs hx (fun x hx => ⟨(h1 x hx (by simp)).1, (h1 x hx (by simp)).2.1⟩) (fun x hx y hy => h2 x hx (by simp) y hy (by simp)) a ⟨ha.d, ha.s, fun t v hv => ?_⟩)
    rcases look_made hv with ⟨x, hx, rfl, rfl⟩ | hv
    · exact (h1 x hx (by simp)).2.2
    · exact ha.g t v hv
  | succ f ih =>
    intro R l a w vs fs hl hB hR hnd hx ha h1 h2
    rw [Nat.succ_add]
    simp only [batchB, Bool.and_eq_true, Bool.not_eq_true'] at hB
    obtain ⟨hne, hall⟩ := hB
    refine ⟨fun h0 => (by rw [h0] at hne; cases hne), fun j hj => ?_⟩
    have hj2 := List.all_eq_true.1 hall j hj
    simp only [Bool.and_eq_true, List.contains_iff_mem] at hj2
    obtain ⟨⟨hjR, hk⟩, hB⟩ := hj2
    have hk := Nat.eq_of_beq_eq_true hk
    obtain ⟨x, hxM, rfl⟩ := hR j hjR
    obtain ⟨_, o, ho, _⟩ := mem_ready.1 hj
    have mk := hM x hxM
    refine ⟨o, ho, .inr ⟨by omega, fun w1 hw1 => mk.run a w1 _ ha (hx.tr hw1) fun v w2 fo hx2 hfo hΦ => ⟨fun _ => hw1.tr hx2, ?_⟩⟩⟩
    have hbd := mk.bd
    rw [Nat.blt_eq] at hbd
    have hself : ∀ y ∈ M, y.1 ∉ R.erase x.1 → y.1 ≠ x.1 → y.1 ∉ R := fun y hy hn hne hm => hn ((List.mem_erase_of_ne hne).2 hm)
    have hs0 := hx.size
    have hs1 := hw1.size
    have hs2 := hx2.size
    refine ih (R.erase x.1) _ _ w2 (fun k => if k = x.1 then v else vs k) (fun k => if k = x.1 then fo else fs k) (by simpa using hl) hB (fun i hi => hR i (List.mem_of_mem_erase hi)) (hnd.erase _) ((hx.tr hw1).tr hx2) (ha.putF mk.free v) (fun y hy hn => ?_) (fun y hy hn z hz hn' hne q hq hq' => ?_)
    · by_cases he : y.1 = x.1
      · obtain rfl := inj_of hn1 y hy x hxM he
        simp only [if_true]
        refine ⟨hΦ, fun q hq => ⟨by have := (hfo q hq).1; omega, (hfo q hq).2⟩, ?_⟩
        simp only [Act.put]
        rw [Array.getElem?_setIfInBounds_self_of_lt (by rw [ha.s]; exact hbd)]
      · simp only [if_neg he]
        obtain ⟨g1, g2, g3⟩ := h1 y hy (hself y hy hn he)
        refine ⟨(hM y hy).mono _ _ _ _ g1 (hw1.tr hx2), fun q hq => ⟨(g2 q hq).1, by have := (g2 q hq).2; omega⟩, ?_⟩
        have hd : x.2.1 ≠ y.2.1 := fun e => he (by rw [inj_of hn2 x hxM y hy e])
        simp only [Act.put]
        rw [Array.getElem?_setIfInBounds_ne hd]
        exact g3
    · by_cases he : y.1 = x.1
      · by_cases he' : z.1 = x.1
        · exact hne (he.trans he'.symm)
        · simp only [if_pos he] at hq; simp only [if_neg he'] at hq'
          have := (hfo q hq).1
          have := ((h1 z hz (hself z hz hn' he')).2.1 q hq').2
          omega
      · by_cases he' : z.1 = x.1
        · simp only [if_neg he] at hq; simp only [if_pos he'] at hq'
          have := (hfo q hq').1
          have := ((h1 y hy (hself y hy hn he)).2.1 q hq).2
          omega
        · simp only [if_neg he] at hq; simp only [if_neg he'] at hq'
          exact h2 y hy (hself y hy hn he) z hz (hself z hz hn' he') hne q hq hq'
/-- Behind the quiet ones: the batch. -/
def AQ (P : Program) (ops : Array Oper) (Q : Exit → Act → World → Prop) (kd : Nat → Nat) (B τ : List Nat) (l : Array Bool) : Exit → Act → World → Prop
  | .normal, a, w => Region.noSelect ops = true → l.size = ops.size → batchB ops kd τ B.length B l = true → anyF P ops (nrm (Q .normal)) kd (B.length + τ.length) l a w
  | _, _, _ => False
theorem setAll_size : ∀ (r : List Nat) (l : Array Bool), (setAll r l).size = l.size
  | [], _ => rfl
  | i :: r, l => by unfold setAll; rw [setAll_size r]; simp
theorem rB {id : Nat} (ks : List (Nat × Nat)) (τ1 B τ : List Nat) (hm : P.follows .mixedOrders = true) (hB : (Region.noSelect ops && (τ1.length + (B.length + τ.length) == ops.size) && flow1B ops (kds ks) τ1 (Array.replicate ops.size false) && batchB ops (kds ks) τ B.length B (setAll τ1 (Array.replicate ops.size false))) = true)
    (h : FL P n ops (AQ P ops Q (kds ks) B τ (setAll τ1 (Array.replicate ops.size false))) (kds ks) τ1 E w) : W P n (.region id ops true) Q E w := fun a ha => by
  simp only [Bool.and_eq_true, beq_iff_eq] at hB
  obtain ⟨⟨⟨hs, hl⟩, h1⟩, h2⟩ := hB
  refine wp_mono (wp_region_any hm (Q := nrm (Q .normal)) ?_) (fun e a w hq => by cases e <;> first | exact hq | exact hq.elim)
  have := any_of_flow1 (P := P) hs (Q := nrm (Q .normal)) (fun _ _ _ h => h) (m := B.length + τ.length) τ1 (Array.replicate ops.size false) a w (by simp) h1 (h a ha) (fun a w0 hh => hh w0 (Ext.rf w0) hs (by rw [setAll_size]; simp) h2)
  rw [hl] at this
  exact any_of_F _ _ _ _ this _ (Below.refl _ w).drew
def nodupB : List Nat → Bool
  | [] => true
  | x :: r => !r.elem x && nodupB r
theorem nodupB_spec : ∀ {l : List Nat}, nodupB l = true → l.Nodup
  | [], _ => List.nodup_nil
  | x :: r, h => by
    simp only [nodupB, Bool.and_eq_true, Bool.not_eq_true'] at h
    refine List.nodup_cons.2 ⟨fun hm => ?_, nodupB_spec h.2⟩
    rw [List.elem_iff.2 hm] at h
    cases h.1
theorem an {α : Type} {p : α → Prop} : ∀ x ∈ ([] : List α), p x := fun x h => nomatch h
theorem am {α : Type} {p : α → Prop} {x : α} {l : List α} (h : p x) (k : ∀ y ∈ l, p y) : ∀ y ∈ x :: l, p y := List.forall_mem_cons.2 ⟨h, k⟩
theorem bt {τ : List Nat} {l : Array Bool} (M : List Made) (hM : ∀ x ∈ M, Mk P n ops Q E w x.1 x.2.1 x.2.2) (hm1 : nodupB (M.map (·.1)) = true) (hm2 : nodupB (M.map (·.2.1)) = true) {B : List Nat} (hB : M.map (·.1) = B)
    (hcont : ∀ (w1 : World) (vs : Nat → Value) (fs : Nat → List Nat), Ext w w1 → (∀ x ∈ M, x.2.2 (vs x.1) (fs x.1) w1 ∧ ∀ q ∈ fs x.1, w.heap.size ≤ q ∧ q < w1.heap.size) → (∀ x ∈ M, ∀ y ∈ M, x.1 ≠ y.1 → ∀ q ∈ fs x.1, q ∈ fs y.1 → False) → FL P n ops Q kd τ (M.map (fun x => (x.2.1, vs x.1)) ++ E) w1) :
    N n (AQ P ops Q kd B τ l) E w := fun a ha hs hl hb => by
  subst hB
  have hn1 := nodupB_spec hm1
  have hn2 := nodupB_spec hm2
  refine batch_core hs M hM hn1 hn2 hcont _ _ l a w (fun _ => undef) (fun _ => []) hl hb (fun i hi => ?_) hn1 (Ext.rf w) ha (fun x hx hn => absurd (List.mem_map.2 ⟨x, hx, rfl⟩) hn) (fun x hx hn => absurd (List.mem_map.2 ⟨x, hx, rfl⟩) hn)
  obtain ⟨x, hx, e⟩ := List.mem_map.1 hi
  exact ⟨x, hx, e⟩
variable {d i : Nat} {ty : TypeId} {pos : String} {af : Array Edge} {x y z : Operand} {t : TypeId} {v : Value}
theorem mk_call {f : FuncId} (hf : Enters P f) {xs : Array Operand} {ts : Array TypeId} {args : List Value} (Φ : Value → List Nat → World → Prop) (hi : ops[i]? = some ⟨some d, .call { callee := .value (.func f), args := xs, argTypes := ts }, ty, pos, af, none⟩) (he : evs E xs.toList = some args) (hfr : look E d = none) (hd : Nat.blt d n = true)
    (hm : ∀ v f w w', Φ v f w → Ext w w' → Φ v f w') (h : ∀ w1, Ext w w1 → Calls P f args.toArray w1 fun e w' => ∃ v fo, e = .returned v ∧ Ext w1 w' ∧ (∀ q ∈ fo, w1.heap.size ≤ q ∧ q < w'.heap.size) ∧ Φ v fo w') : Mk P n ops Q E w i d Φ := by
  refine ⟨hm, hfr, hd, fun a w1 K ha hx hK => ?_⟩
  unfold wpOp
  simp only [hi]
  rw [if_pos (wanted_none rfl)]
  refine .inl ?_
  unfold Oper.wp
  rw [run_call hf ha he]
  refine Calls.mono (h w1 hx) fun e w' hh => ?_
  obtain ⟨v, fo, rfl, g1, g2, g3⟩ := hh
  exact hK v w' fo g1 g2 g3
/-- A new block. -/
def NewB (cs : List Value) (t : TypeId) (v : Value) (f : List Nat) (w : World) : Prop := ∃ b, v = .pointer (some ⟨b, 0, none⟩) ∧ f = [b] ∧ Blk w b cs t (0, 0)
theorem mk_alloc {cs : List Value} (hi : ops[i]? = some ⟨some d, .alloc t, ty, pos, af, none⟩) (hz : Zv P t v) (hc : v.cells = cs.toArray) (hfr : look E d = none) (hd : Nat.blt d n = true) : Mk P n ops Q E w i d (NewB cs t) := by
  refine ⟨fun v f w w' ⟨b, h1, h2, h3⟩ hx => ⟨b, h1, h2, h3.later hx⟩, hfr, hd, fun a w1 K ha hx hK => ?_⟩
  unfold wpOp
  simp only [hi]
  rw [if_pos (wanted_none rfl)]
  refine .inl ?_
  unfold Oper.wp
  have hr : (execOp a.eval ⟨some d, .alloc t, ty, pos, af, none⟩).run P w1 = .ok (.value (.pointer (some ⟨w1.heap.size, 0, none⟩))) (w1.alloc (.cells v.cells t)) := by
    simp only [execOp, Instr.alloc, Sem.run_bind, hz w1, newVar, newRow, run_newObj_alloc, Result.andThen_ok, Sem.run_pure]
  rw [hr]
  refine hK _ _ [w1.heap.size] ((Below.refl _ w1).alloc (Nat.le_refl _) _) (fun q hq => ?_) ⟨w1.heap.size, rfl, rfl, by rw [hc]; exact Blk.new w1 cs t (0, 0)⟩
  rw [List.mem_singleton.1 hq]
  exact ⟨Nat.le_refl _, by simp⟩
end
end Go.Proofs.Yticfnngppcmidaa
