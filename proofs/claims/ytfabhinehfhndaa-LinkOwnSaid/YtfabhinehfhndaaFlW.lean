/-
  A region that draws, walked in one order: what is quiet is so as long as what lies below a bound D as long as all but what a set F of
  blocks holds is as it was; what writes into F alone counts as an allocation. (Printed by bin/fld.py.)
-/
import Derived.Test.YtfabhinehfhndaaGol
set_option linter.unusedVariables false
set_option linter.unusedSimpArgs false
namespace Go.Proofs.Ytfabhinehfhndaa
open Go.RowKit

section
variable {F : List Nat} {P : Program} {ops : Array Oper} {Q : Exit → Act → World → Prop} {kd : Nat → Nat}
/-- One value in every world that goes on from w0. -/
def QInW (F : List Nat) (P : Program) (ops : Array Oper) (w0 : World) (o : Oper) (v : Value) (a : Act) : Prop :=
  (Region.wanted o (yielded ops a.tmps) = true ∧ ∀ w, Mod F w0 w → qUpon P w v ((execOp a.eval o).run P w)) ∨
  (Region.wanted o (yielded ops a.tmps) = false ∧ v = undef)
theorem QInW.of_same {w0 : World} {o : Oper} {v : Value} {a a' : Act} (h : QInW F P ops w0 o v a) (he : execOp a'.eval o = execOp a.eval o) (hw : Region.wanted o (yielded ops a'.tmps) = Region.wanted o (yielded ops a.tmps)) : QInW F P ops w0 o v a' := by
  unfold QInW at *; rw [he, hw]; exact h
theorem QInW.on {w0 w1 : World} {o : Oper} {v : Value} {a : Act} (h : QInW F P ops w0 o v a) (hx : Mod F w0 w1) : QInW F P ops w1 o v a :=
  h.imp (fun ⟨h1, h2⟩ => ⟨h1, fun w hw => h2 w (hx.trans hw)⟩) id
theorem Yields.qinW {w0 : World} {o : Oper} {v : Value} {a : Act} (h : Yields P ops o v a) : QInW F P ops w0 o v a :=
  h.imp (fun ⟨h1, h2⟩ => ⟨h1, fun w _ => by rw [h2 w]; exact ⟨rfl, rfl⟩⟩) id
def stepFW (F : List Nat) (P : Program) (ops : Array Oper) (Q : Exit → Act → World → Prop) (kd : Nat → Nat) (i : Nat) (K : Act → World → Prop) (a : Act) (w0 : World) : Prop :=
  ∃ o, ops[i]? = some o ∧
    ((kd i ≤ 1 ∧ ∃ v, QInW F P ops w0 o v a ∧ K (a.put o.dst v) w0) ∨
     (1 < kd i ∧ ∀ w, Ext w0 w → wpOp P ops Q i (fun a' w' => (kd i = 2 → Mod F w0 w') ∧ K a' w') a w))
def anyFW (F : List Nat) (P : Program) (ops : Array Oper) (Q : Exit → Act → World → Prop) (kd : Nat → Nat) : Nat → Array Bool → Act → World → Prop
  | 0, l, a, w0 => Region.ready .any ops l = [] ∧ ∀ w, Ext w0 w → Q .normal a w
  | f + 1, l, a, w0 => (Region.ready .any ops l = [] → ∀ w, Ext w0 w → Q .normal a w) ∧ ∀ i ∈ Region.ready .any ops l, stepFW F P ops Q kd i (anyFW F P ops Q kd f (l.setIfInBounds i true)) a w0
theorem any_of_FW : ∀ (f : Nat) (l : Array Bool) (a : Act) (w0 : World), anyFW F P ops Q kd f l a w0 → ∀ w, Ext w0 w → wpAny P .any ops Q f l a w
  | 0, _, _, _, h, w, hw => ⟨h.1, h.2 w hw⟩
  | f + 1, l, a, w0, h, w, hw => ⟨fun h0 => h.1 h0 w hw, fun i hi => by
      obtain ⟨o, ho, h2⟩ := h.2 i hi
      rcases h2 with ⟨_, v, hq, hk⟩ | ⟨_, h2⟩
      · unfold wpOp
        simp only [ho]
        rcases hq with ⟨hw1, hq⟩ | ⟨hw1, rfl⟩
        · rw [if_pos hw1]
          refine .inl ?_
          have hq := hq w (Mod.of_ext hw)
          unfold Oper.wp
          generalize (execOp a.eval o).run P w = r at *
          cases r with
          | ok n w' =>
            cases n <;> simp only [qUpon] at hq <;> simp only [Oper.upon]
            case value u => obtain ⟨rfl, rfl⟩ := hq; exact any_of_FW f _ _ _ hk _ hw
            case skip => obtain ⟨rfl, rfl⟩ := hq; exact any_of_FW f _ _ _ hk _ hw
            case enter f' args => obtain ⟨rfl, hc⟩ := hq; exact hc.mono fun e w'' ⟨he, hx⟩ => by subst he; exact any_of_FW f _ _ _ hk _ (hw.tr hx)
          | halt x w' => simp only [qUpon] at hq
        · rw [if_neg (by rw [hw1]; decide)]
          exact any_of_FW f _ _ _ hk _ hw
      · exact wpOp_mono (fun a' w' h3 => any_of_FW f _ _ _ h3.2 _ (Ext.rf w')) (h2 w hw)⟩
theorem firstFW {i : Nat} {oi : Oper} {v : Value} (hi : ops[i]? = some oi) (hk : kd i ≤ 1) (hsel : ∀ (j : Nat) (o : Oper) cs b, ops[j]? = some o → o.op ≠ .select cs b)
    (hQ : ∀ c a w, ¬ Q (.panic c) a w) (Z : World → Act → Prop) (z1 : ∀ w0 a, Z w0 a → QInW F P ops w0 oi v a)
    (z2 : ∀ w0 a a', Z w0 a → execOp a'.eval oi = execOp a.eval oi → Region.wanted oi (yielded ops a'.tmps) = Region.wanted oi (yielded ops a.tmps) → Z w0 a')
    (z3 : ∀ w0 w1 a, Mod F w0 w1 → Z w0 a → Z w1 a) (R : Nat → Bool) (l0 : Array Bool)
    (hR : ∀ j oj, ops[j]? = some oj → j ≠ i → (∀ e ∈ oj.after, Region.binds .any e = true → R e.on = true) → R j = true)
    (hB : (∀ w0 w1 a, Z w0 a → Z w1 a) ∨ ∀ j, R j = true → 3 ≤ kd j → l0.getD j true = true) :
    ∀ (f : Nat) (l : Array Bool) (a : Act) (w0 : World), (∀ j, l.getD j false = true → R j = true) → (∀ j, l0.getD j true = true → l.getD j true = true) →
      (∀ j oj, ops[j]? = some oj → j ≠ i → l.getD j true = false → (∀ e ∈ oj.after, Region.binds .any e = true → e.on ≠ i) → oi.apart ops oj = true) →
      i ∈ Region.ready .any ops l → Z w0 a → anyFW F P ops Q kd f (l.setIfInBounds i true) (a.put oi.dst v) w0 → anyFW F P ops Q kd (f + 1) l a w0 := by
  intro f
  induction f with
  | zero =>
    intro l a w0 _ _ _ hr hz H
    refine ⟨fun h => (by rw [h] at hr; cases hr), fun j hj => ?_⟩
    by_cases hji : j = i
    · subst hji; exact ⟨oi, hi, .inl ⟨hk, v, z1 _ _ hz, H⟩⟩
    · have := ready_mono hj hji
      rw [H.1] at this
      cases this
  | succ f ih =>
    intro l a w0 hlR hl0 hfree hr hz H
    refine ⟨fun h => (by rw [h] at hr; cases hr), fun j hj => ?_⟩
    by_cases hji : j = i
    · subst hji; exact ⟨oi, hi, .inl ⟨hk, v, z1 _ _ hz, H⟩⟩
    · obtain ⟨oj, hoj, h1⟩ := H.2 j (ready_mono hj hji)
      obtain ⟨hjun, oj', hoj', hall⟩ := mem_ready.1 hj
      obtain rfl : oj' = oj := by rw [hoj] at hoj'; exact (Option.some.inj hoj').symm
      have hnot : ∀ e ∈ oj'.after, Region.binds .any e = true → e.on ≠ i := fun e he hb heq => by
        have h1 := hall e he hb
        have h0 := (mem_ready.1 hr).1
        rw [heq] at h1
        rcases Nat.lt_or_ge i l.size with h' | h'
        · simp [h'] at h0 h1; rw [h0] at h1; cases h1
        · simp [Array.getElem?_eq_none h'] at h1
      have hap := hfree j oj' hoj hji hjun hnot
      obtain ⟨a1, a2, a3⟩ := Oper.apart_spec hap
      have hsi : ∀ cs b, oi.op ≠ .select cs b := fun cs b => hsel i oi cs b hi
      have hsj : ∀ cs b, oj'.op ≠ .select cs b := fun cs b => hsel j oj' cs b hoj
      have keep : ∀ w1 a u, Z w1 a → Z w1 (a.put oj'.dst u) := fun w1 a u hz => z2 _ _ _ hz (execOp_put oi hsi a oj'.dst u a3) (wanted_put oi a oj'.dst u a3)
      have hRj : R j = true := hR j oj' hoj hji fun e he hb => hlR _ (hall e he hb)
      have hlR' : ∀ k, (l.setIfInBounds j true).getD k false = true → R k = true := fun k hk => by
        by_cases hjk : j = k
        · rw [← hjk]; exact hRj
        · rw [getD_set_ne false hjk] at hk; exact hlR k hk
      have hl0' : ∀ k, l0.getD k true = true → (l.setIfInBounds j true).getD k true = true := fun k hk => by
        by_cases hjk : j = k
        · subst hjk
          rcases Nat.lt_or_ge j l.size with h' | h'
          · simp [h']
          · simp [Array.getElem?_eq_none h']
        · rw [getD_set_ne true hjk]; exact hl0 k hk
      have hfree' : ∀ k ok, ops[k]? = some ok → k ≠ i → (l.setIfInBounds j true).getD k true = false →
          (∀ e ∈ ok.after, Region.binds .any e = true → e.on ≠ i) → oi.apart ops ok = true := fun k ok hk hki hun hno => by
        refine hfree k ok hk hki ?_ hno
        by_cases hjk : j = k
        · subst hjk; exact hjun
        · rw [getD_set_ne true hjk] at hun; exact hun
      have hri := ready_mono hr (Ne.symm hji)
      rcases h1 with ⟨hkj, u, hq, hK⟩ | ⟨hkj, h1⟩
      · refine ⟨oj', hoj, .inl ⟨hkj, u, hq.of_same (execOp_put oj' hsj a oi.dst v a1).symm (wanted_put oj' a oi.dst v a1).symm, ?_⟩⟩
        refine ih _ _ _ hlR' hl0' hfree' hri (keep _ _ _ hz) ?_
        rw [Array.setIfInBounds_comm _ _ hji, ← Act.put_comm a v u a2]
        exact hK
      · refine ⟨oj', hoj, .inr ⟨hkj, fun w hw => ?_⟩⟩
        refine wpOp_mono (fun a' w' h3 => ⟨h3.2.1, ?_⟩) (wpOp_putZ (Z := Z w0) hoj a1 a2 hsj hQ (keep w0) (fun a d hz => z2 _ _ _ hz rfl rfl) hz (h1 w hw))
        have hzw : Z w' a' := by
          rcases Nat.lt_or_ge (kd j) 3 with hlt | hge
          · exact z3 _ _ _ (h3.2.1 (by omega)) h3.1
          · rcases hB with hB | hB
            · exact hB _ _ _ h3.1
            · have := hl0 j (hB j hRj hge); rw [hjun] at this; cases this
        refine ih _ _ _ hlR' hl0' hfree' hri hzw ?_
        rw [Array.setIfInBounds_comm _ _ hji]
        exact h3.2.2
/-- The walk in the order of one's choice: 0 quiet, 1 worldless, 2 allocation, 3 writer. -/
def wpFlowW (F : List Nat) (P : Program) (ops : Array Oper) (Q : Exit → Act → World → Prop) (kd : Nat → Nat) : List Nat → Act → World → Prop
  | [], a, w0 => ∀ w, Ext w0 w → Q .normal a w
  | i :: r, a, w0 => ∃ o, ops[i]? = some o ∧
      ((kd i = 0 ∧ ∃ v, QInW F P ops w0 o v a ∧ wpFlowW F P ops Q kd r (a.put o.dst v) w0) ∨
       (kd i = 1 ∧ ∃ v, Yields P ops o v a ∧ wpFlowW F P ops Q kd r (a.put o.dst v) w0) ∨
       (1 < kd i ∧ ∀ w, Ext w0 w → wpOp P ops Q i (fun a' w' => (kd i = 2 → Mod F w0 w') ∧ wpFlowW F P ops Q kd r a' w') a w))
theorem any_of_flowW (hs : Region.noSelect ops = true) (hQ : ∀ c a w, ¬ Q (.panic c) a w) : ∀ (r : List Nat) (l : Array Bool) (a : Act) (w0 : World), l.size = ops.size → flowB ops kd r l = true → wpFlowW F P ops Q kd r a w0 → anyFW F P ops Q kd r.length l a w0
  | [], l, a, w0, _, hB, h => ⟨by simpa [flowB] using hB, h⟩
  | i :: r, l, a, w0, hl, hB, h => by
    obtain ⟨o, ho, h⟩ := h
    have hsel := Region.noSelect_spec hs
    rcases h with ⟨hk, v, hq, hK⟩ | ⟨hk, v, hq, hK⟩ | ⟨hk, h⟩
    · simp only [flowB, hk, Bool.and_eq_true] at hB
      obtain ⟨⟨⟨hf, hr⟩, hb⟩, hB⟩ := hB
      obtain ⟨R, r1, r2, r3⟩ := barOk_spec hl hb
      exact firstFW ho (by omega) hsel hQ (fun w0 a => QInW F P ops w0 o v a) (fun _ _ h => h) (fun _ _ _ h he hw => h.of_same he hw) (fun _ _ _ hx h => h.on hx) R l r1 (.inr r3) _ _ _ _ r2 (fun _ h => h) (Region.free_spec ho hf) (by simpa using hr) hq
        (any_of_flowW hs hQ r _ _ _ (by simpa using hl) hB hK)
    · simp only [flowB, hk, Bool.and_eq_true] at hB
      obtain ⟨⟨hf, hr⟩, hB⟩ := hB
      exact firstFW ho (by omega) hsel hQ (fun _ a => Yields P ops o v a) (fun _ _ h => Yields.qinW h) (fun _ _ _ h he hw => h.of_same he hw) (fun _ _ _ _ h => h) (fun _ => true) l (fun _ _ _ _ _ => rfl) (.inl fun _ _ _ h => h) _ _ _ _ (fun _ _ => rfl) (fun _ h => h) (Region.free_spec ho hf) (by simpa using hr) hq
        (any_of_flowW hs hQ r _ _ _ (by simpa using hl) hB hK)
    · obtain ⟨k, hk2⟩ : ∃ k, kd i = k + 2 := ⟨kd i - 2, by omega⟩
      simp only [flowB, hk2, Bool.and_eq_true, beq_iff_eq] at hB
      obtain ⟨hr, hB⟩ := hB
      refine ⟨fun h0 => (by rw [hr] at h0; cases h0), fun j hj => ?_⟩
      rw [hr] at hj
      obtain rfl : j = i := by simpa using hj
      exact ⟨o, ho, .inr ⟨hk, fun w hw => wpOp_mono (fun a' w' h3 => ⟨h3.1, any_of_flowW hs hQ r _ _ _ (by simpa using hl) hB h3.2⟩) (h w hw)⟩⟩
theorem region_flowW {id : Nat} {a : Act} {w : World} (τ : List Nat) (hm : P.follows .mixedOrders = true) (hB : (Region.noSelect ops && (τ.length == ops.size) && flowB ops kd τ (Array.replicate ops.size false)) = true)
    (h : wpFlowW F P ops (nrm (Q .normal)) kd τ a w) : (Code.region id ops true).wp P Q a w := by
  simp only [Bool.and_eq_true, beq_iff_eq] at hB
  obtain ⟨⟨hs, hl⟩, hB⟩ := hB
  refine wp_mono (wp_region_any hm (Q := nrm (Q .normal)) ?_) (fun e a w hq => by cases e <;> first | exact hq | exact hq.elim)
  have := any_of_flowW (P := P) hs (Q := nrm (Q .normal)) (fun _ _ _ h => h) τ (Array.replicate ops.size false) a w (by simp) hB h
  rw [hl] at this
  exact any_of_FW _ _ _ _ this _ (Below.refl _ w).drew
end
section
variable {F : List Nat} {P : Program} {n : Nat} {E E' : List (Nat × Value)} {a : Act} {w w' w0 w1 : World} {Q : Exit → Act → World → Prop} {ops : Array Oper} {v : Value} {kd : Nat → Nat}
variable {d : Option Nat} {ty : TypeId} {pos : String} {af : Array Edge} {g : Option (Nat × Bool)} {x y z : Operand} {t : TypeId} {rest : List Oper} {τ : List Nat} {i : Nat}
def FLW (F : List Nat) (P : Program) (n : Nat) (ops : Array Oper) (Q : Exit → Act → World → Prop) (kd : Nat → Nat) (τ : List Nat) (E : List (Nat × Value)) (w0 : World) : Prop := ∀ a, Agr n E a → wpFlowW F P ops (nrm (Q .normal)) kd τ a w0
theorem rdW {id : Nat} (F : List Nat) (ks : List (Nat × Nat)) (τ : List Nat) (hm : P.follows .mixedOrders = true) (hB : (Region.noSelect ops && (τ.length == ops.size) && flowB ops (kds ks) τ (Array.replicate ops.size false)) = true)
    (h : FLW F P n ops Q (kds ks) τ E w) : W P n (.region id ops true) Q E w := fun a ha => region_flowW τ hm hB (h a ha)
theorem fnW (h : ∀ w, Ext w0 w → N n Q E w) : FLW F P n ops Q kd [] E w0 := fun a ha w hw => h w hw a ha
/-- Quiet. -/
theorem fqW {d : Nat} {op : Op} (hi : ops[i]? = some ⟨some d, op, ty, pos, af, none⟩) (hk : kd i = 0) (hr : ∀ w, Mod F w0 w → Runs P E ⟨some d, op, ty, pos, af, none⟩ w v w) (hd : Nat.blt d n = true)
    (h : FLW F P n ops Q kd τ ((d, v) :: E) w0) : FLW F P n ops Q kd (i :: τ) E w0 := fun a ha =>
  ⟨_, hi, .inl ⟨hk, v, .inl ⟨wanted_none rfl, fun w hw => by rw [hr w hw n a ha]; exact ⟨rfl, rfl⟩⟩, h _ (ha.put hd v)⟩⟩
/-- Worldless. -/
theorem fwW {d : Nat} {op : Op} (hi : ops[i]? = some ⟨some d, op, ty, pos, af, none⟩) (hk : kd i = 1) (hr : ∀ w, Runs P E ⟨some d, op, ty, pos, af, none⟩ w v w) (hd : Nat.blt d n = true)
    (h : FLW F P n ops Q kd τ ((d, v) :: E) w0) : FLW F P n ops Q kd (i :: τ) E w0 := fun a ha =>
  ⟨_, hi, .inr (.inl ⟨hk, v, .inl ⟨wanted_none rfl, fun w => hr w n a ha⟩, h _ (ha.put hd v)⟩)⟩
theorem fxW {o : Oper} (hg : o.guard = none) (hi : ops[i]? = some o) (hk : kd i = 2) (h : ∀ w, Ext w0 w → Stp P n ops o E w fun E' w' => Mod F w0 w' ∧ FLW F P n ops Q kd τ E' w') : FLW F P n ops Q kd (i :: τ) E w0 := fun a ha =>
  ⟨_, hi, .inr (.inr ⟨by omega, fun w hw => stp_op hg hi (h w hw) (fun E' w' a' hk ha' => ⟨fun _ => hk.1, hk.2 a' ha'⟩) ha⟩)⟩
theorem fbW {o : Oper} (hg : o.guard = none) (hi : ops[i]? = some o) (hk : kd i = 3) (h : ∀ w, Ext w0 w → Stp P n ops o E w fun E' w' => FLW F P n ops Q kd τ E' w') : FLW F P n ops Q kd (i :: τ) E w0 := fun a ha =>
  ⟨_, hi, .inr (.inr ⟨by omega, fun w hw => stp_op hg hi (h w hw) (fun E' w' a' hk ha' => ⟨fun h2 => by omega, hk a' ha'⟩) ha⟩)⟩
end
end Go.Proofs.Ytfabhinehfhndaa
