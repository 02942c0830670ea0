import Derived.Test.YtccankldeogdlaaGolC
import Derived.Test.YtccankldeogdlaaGol
import Derived.Test.YtccankldeogdlaaMrP
import Derived.Test.YtccankldeogdlaaBas
import Derived.Test.YtccankldeogdlaaHp
import Derived.Test.YtccankldeogdlaaLinG
import Derived.Test.YtccankldeogdlaaFldR
set_option linter.unusedVariables false
set_option linter.unusedSimpArgs false
set_option maxRecDepth 100000
set_option maxHeartbeats 4000000
namespace Go.Proofs.Ytccankldeogdlaa
section
open Go.RowKit
section
variable {bM : Nat} {gM : Cel → Int} {P : Program} {ops : Array Oper} {Q : Exit → Act → World → Prop} {kd : Nat → Nat}
def QInM (bM : Nat) (gM : Cel → Int) (P : Program) (ops : Array Oper) (w0 : World) (o : Oper) (v : Value) (a : Act) : Prop :=
  (Region.wanted o (yielded ops a.tmps) = true ∧ ∀ w, RM bM gM w0 w → qUpon P w v ((execOp a.eval o).run P w)) ∨
  (Region.wanted o (yielded ops a.tmps) = false ∧ v = undef)
theorem QInM.of_same {w0 : World} {o : Oper} {v : Value} {a a' : Act} (h : QInM bM gM P ops w0 o v a) (he : execOp a'.eval o = execOp a.eval o) (hw : Region.wanted o (yielded ops a'.tmps) = Region.wanted o (yielded ops a.tmps)) : QInM bM gM P ops w0 o v a' := by
  unfold QInM at *; rw [he, hw]; exact h
theorem QInM.on {w0 w1 : World} {o : Oper} {v : Value} {a : Act} (h : QInM bM gM P ops w0 o v a) (hx : RM bM gM w0 w1) : QInM bM gM P ops w1 o v a :=
  h.imp (λ ⟨h1, h2⟩ => ⟨h1, λ w hw => h2 w (hx.trans hw)⟩) id
theorem Yields.qinM {w0 : World} {o : Oper} {v : Value} {a : Act} (h : Yields P ops o v a) : QInM bM gM P ops w0 o v a :=
  h.imp (λ ⟨h1, h2⟩ => ⟨h1, λ w _ => by rw [h2 w]; exact ⟨rfl, rfl⟩⟩) id
def stepFM (bM : Nat) (gM : Cel → Int) (P : Program) (ops : Array Oper) (Q : Exit → Act → World → Prop) (kd : Nat → Nat) (i : Nat) (K : Act → World → Prop) (a : Act) (w0 : World) : Prop :=
  ∃ o, ops[i]? = some o ∧
    ((kd i ≤ 1 ∧ ∃ v, QInM bM gM P ops w0 o v a ∧ K (a.put o.dst v) w0) ∨
     (1 < kd i ∧ ∀ w, Ext w0 w → wpOp P ops Q i (λ a' w' => (kd i = 2 → RM bM gM w0 w') ∧ K a' w') a w))
def anyFM (bM : Nat) (gM : Cel → Int) (P : Program) (ops : Array Oper) (Q : Exit → Act → World → Prop) (kd : Nat → Nat) : Nat → Array Bool → Act → World → Prop
  | 0, l, a, w0 => Region.ready .any ops l = [] ∧ ∀ w, Ext w0 w → Q .normal a w
  | f + 1, l, a, w0 => (Region.ready .any ops l = [] → ∀ w, Ext w0 w → Q .normal a w) ∧ ∀ i ∈ Region.ready .any ops l, stepFM bM gM P ops Q kd i (anyFM bM gM P ops Q kd f (l.setIfInBounds i true)) a w0
theorem any_of_FM : ∀ (f : Nat) (l : Array Bool) (a : Act) (w0 : World), anyFM bM gM P ops Q kd f l a w0 → ∀ w, Ext w0 w → wpAny P .any ops Q f l a w
  | 0, _, _, _, h, w, hw => ⟨h.1, h.2 w hw⟩
  | f + 1, l, a, w0, h, w, hw => ⟨λ h0 => h.1 h0 w hw, λ i hi => by
      obtain ⟨o, ho, h2⟩ := h.2 i hi
      rcases h2 with ⟨_, v, hq, hk⟩ | ⟨_, h2⟩
      · unfold wpOp
        simp only [ho]
        rcases hq with ⟨hw1, hq⟩ | ⟨hw1, rfl⟩
        · rw [if_pos hw1]
          refine .inl ?_
          have hq := hq w (RM.of_ext hw)
          unfold Oper.wp
          generalize (execOp a.eval o).run P w = r at *
          cases r with
          | ok n w' =>
            cases n <;> simp only [qUpon] at hq <;> simp only [Oper.upon]
            case value u => obtain ⟨rfl, rfl⟩ := hq; exact any_of_FM f _ _ _ hk _ hw
            case skip => obtain ⟨rfl, rfl⟩ := hq; exact any_of_FM f _ _ _ hk _ hw
            case enter f' args => obtain ⟨rfl, hc⟩ := hq; exact hc.mono λ e w'' ⟨he, hx⟩ => by subst he; exact any_of_FM f _ _ _ hk _ (hw.tr hx)
          | halt x w' => simp only [qUpon] at hq
        · rw [if_neg (by rw [hw1]; decide)]
          exact any_of_FM f _ _ _ hk _ hw
      · exact wpOp_mono (λ a' w' h3 => any_of_FM f _ _ _ h3.2 _ (Ext.rf w')) (h2 w hw)⟩
theorem firstFM {i : Nat} {oi : Oper} {v : Value} (hi : ops[i]? = some oi) (hk : kd i ≤ 1) (hsel : ∀ (j : Nat) (o : Oper) cs b, ops[j]? = some o → o.op ≠ .select cs b)
    (hQ : ∀ c a w, ¬ Q (.panic c) a w) (Z : World → Act → Prop) (z1 : ∀ w0 a, Z w0 a → QInM bM gM P ops w0 oi v a)
    (z2 : ∀ w0 a a', Z w0 a → execOp a'.eval oi = execOp a.eval oi → Region.wanted oi (yielded ops a'.tmps) = Region.wanted oi (yielded ops a.tmps) → Z w0 a')
    (z3 : ∀ w0 w1 a, RM bM gM w0 w1 → Z w0 a → Z w1 a) (R : Nat → Bool) (l0 : Array Bool)
    (hR : ∀ j oj, ops[j]? = some oj → j ≠ i → (∀ e ∈ oj.after, Region.binds .any e = true → R e.on = true) → R j = true)
    (hB : (∀ w0 w1 a, Z w0 a → Z w1 a) ∨ ∀ j, R j = true → 3 ≤ kd j → l0.getD j true = true) :
    ∀ (f : Nat) (l : Array Bool) (a : Act) (w0 : World), (∀ j, l.getD j false = true → R j = true) → (∀ j, l0.getD j true = true → l.getD j true = true) →
      (∀ j oj, ops[j]? = some oj → j ≠ i → l.getD j true = false → (∀ e ∈ oj.after, Region.binds .any e = true → e.on ≠ i) → oi.apart ops oj = true) →
      i ∈ Region.ready .any ops l → Z w0 a → anyFM bM gM P ops Q kd f (l.setIfInBounds i true) (a.put oi.dst v) w0 → anyFM bM gM P ops Q kd (f + 1) l a w0 := by
  intro f
  induction f with
  | zero =>
    intro l a w0 _ _ _ hr hz H
    refine ⟨λ h => (by rw [h] at hr; cases hr), λ j hj => ?_⟩
    by_cases hji : j = i
    · subst hji; exact ⟨oi, hi, .inl ⟨hk, v, z1 _ _ hz, H⟩⟩
    · have := ready_mono hj hji
      rw [H.1] at this
      cases this
  | succ f ih =>
    intro l a w0 hlR hl0 hfree hr hz H
    refine ⟨λ h => (by rw [h] at hr; cases hr), λ j hj => ?_⟩
    by_cases hji : j = i
    · subst hji; exact ⟨oi, hi, .inl ⟨hk, v, z1 _ _ hz, H⟩⟩
    · obtain ⟨oj, hoj, h1⟩ := H.2 j (ready_mono hj hji)
      obtain ⟨hjun, oj', hoj', hall⟩ := mem_ready.1 hj
      obtain rfl : oj' = oj := by rw [hoj] at hoj'; exact (Option.some.inj hoj').symm
      have hnot : ∀ e ∈ oj'.after, Region.binds .any e = true → e.on ≠ i := λ e he hb heq => by
        have h1 := hall e he hb
        have h0 := (mem_ready.1 hr).1
        rw [heq] at h1
        rcases Nat.lt_or_ge i l.size with h' | h'
        · simp [h'] at h0 h1; rw [h0] at h1; cases h1
        · simp [Array.getElem?_eq_none h'] at h1
      have hap := hfree j oj' hoj hji hjun hnot
      obtain ⟨a1, a2, a3⟩ := Oper.apart_spec hap
      have hsi : ∀ cs b, oi.op ≠ .select cs b := λ cs b => hsel i oi cs b hi
      have hsj : ∀ cs b, oj'.op ≠ .select cs b := λ cs b => hsel j oj' cs b hoj
      have keep : ∀ w1 a u, Z w1 a → Z w1 (a.put oj'.dst u) := λ w1 a u hz => z2 _ _ _ hz (execOp_put oi hsi a oj'.dst u a3) (wanted_put oi a oj'.dst u a3)
      have hRj : R j = true := hR j oj' hoj hji λ e he hb => hlR _ (hall e he hb)
      have hlR' : ∀ k, (l.setIfInBounds j true).getD k false = true → R k = true := λ k hk => by
        by_cases hjk : j = k
        · rw [← hjk]; exact hRj
        · rw [getD_set_ne false hjk] at hk; exact hlR k hk
      have hl0' : ∀ k, l0.getD k true = true → (l.setIfInBounds j true).getD k true = true := λ k hk => by
        by_cases hjk : j = k
        · subst hjk
          rcases Nat.lt_or_ge j l.size with h' | h'
          · simp [h']
          · simp [Array.getElem?_eq_none h']
        · rw [getD_set_ne true hjk]; exact hl0 k hk
      have hfree' : ∀ k ok, ops[k]? = some ok → k ≠ i → (l.setIfInBounds j true).getD k true = false →
          (∀ e ∈ ok.after, Region.binds .any e = true → e.on ≠ i) → oi.apart ops ok = true := λ k ok hk hki hun hno => by
        refine hfree k ok hk hki ?_ hno
        by_cases hjk : j = k
        · subst hjk; exact hjun
        · rw [getD_set_ne true hjk] at hun; exact hun
      have hri := ready_mono hr (Ne.symm hji)
      rcases h1 with ⟨hkj, u, hq, hK⟩ | ⟨hkj, h1⟩
      · refine ⟨oj', hoj, .inl ⟨hkj, u, hq.of_same (execOp_put oj' hsj a oi.dst v a1).symm (wanted_put oj' a oi.dst v a1).symm, ?_⟩⟩
        refine ih _ _ _ hlR' hl0' hfree' hri (keep _ _ _ hz) ?_
        rw [Array.setIfInBounds_comm _ _ hji, ← Act.put_comm a v u a2]
        exact hK
      · refine ⟨oj', hoj, .inr ⟨hkj, λ w hw => ?_⟩⟩
        refine wpOp_mono (λ a' w' h3 => ⟨h3.2.1, ?_⟩) (wpOp_putZ (Z := Z w0) hoj a1 a2 hsj hQ (keep w0) (λ a d hz => z2 _ _ _ hz rfl rfl) hz (h1 w hw))
        have hzw : Z w' a' := by
          rcases Nat.lt_or_ge (kd j) 3 with hlt | hge
          · exact z3 _ _ _ (h3.2.1 (by omega)) h3.1
          · rcases hB with hB | hB
            · exact hB _ _ _ h3.1
            · have := hl0 j (hB j hRj hge); rw [hjun] at this; cases this
        refine ih _ _ _ hlR' hl0' hfree' hri hzw ?_
        rw [Array.setIfInBounds_comm _ _ hji]
        exact h3.2.2
def wpFlowM (bM : Nat) (gM : Cel → Int) (P : Program) (ops : Array Oper) (Q : Exit → Act → World → Prop) (kd : Nat → Nat) : List Nat → Act → World → Prop
  | [], a, w0 => ∀ w, Ext w0 w → Q .normal a w
  | i :: r, a, w0 => ∃ o, ops[i]? = some o ∧
      ((kd i = 0 ∧ ∃ v, QInM bM gM P ops w0 o v a ∧ wpFlowM bM gM P ops Q kd r (a.put o.dst v) w0) ∨
       (kd i = 1 ∧ ∃ v, Yields P ops o v a ∧ wpFlowM bM gM P ops Q kd r (a.put o.dst v) w0) ∨
       (1 < kd i ∧ ∀ w, Ext w0 w → wpOp P ops Q i (λ a' w' => (kd i = 2 → RM bM gM w0 w') ∧ wpFlowM bM gM P ops Q kd r a' w') a w))
theorem any_of_flowM (hs : Region.noSelect ops = true) (hQ : ∀ c a w, ¬ Q (.panic c) a w) : ∀ (r : List Nat) (l : Array Bool) (a : Act) (w0 : World), l.size = ops.size → flowB ops kd r l = true → wpFlowM bM gM P ops Q kd r a w0 → anyFM bM gM P ops Q kd r.length l a w0
  | [], l, a, w0, _, hB, h => ⟨by simpa [flowB] using hB, h⟩
  | i :: r, l, a, w0, hl, hB, h => by
    obtain ⟨o, ho, h⟩ := h
    have hsel := Region.noSelect_spec hs
    rcases h with ⟨hk, v, hq, hK⟩ | ⟨hk, v, hq, hK⟩ | ⟨hk, h⟩
    · simp only [flowB, hk, Bool.and_eq_true] at hB
      obtain ⟨⟨⟨hf, hr⟩, hb⟩, hB⟩ := hB
      obtain ⟨R, r1, r2, r3⟩ := barOk_spec hl hb
      exact firstFM ho (by omega) hsel hQ (λ w0 a => QInM bM gM P ops w0 o v a) (λ _ _ h => h) (λ _ _ _ h he hw => h.of_same he hw) (λ _ _ _ hx h => h.on hx) R l r1 (.inr r3) _ _ _ _ r2 (λ _ h => h) (Region.free_spec ho hf) (by simpa using hr) hq
        (any_of_flowM hs hQ r _ _ _ (by simpa using hl) hB hK)
    · simp only [flowB, hk, Bool.and_eq_true] at hB
      obtain ⟨⟨hf, hr⟩, hB⟩ := hB
      exact firstFM ho (by omega) hsel hQ (λ _ a => Yields P ops o v a) (λ _ _ h => Yields.qinM h) (λ _ _ _ h he hw => h.of_same he hw) (λ _ _ _ _ h => h) (λ _ => true) l (λ _ _ _ _ _ => rfl) (.inl λ _ _ _ h => h) _ _ _ _ (λ _ _ => rfl) (λ _ h => h) (Region.free_spec ho hf) (by simpa using hr) hq
        (any_of_flowM hs hQ r _ _ _ (by simpa using hl) hB hK)
    · obtain ⟨k, hk2⟩ : ∃ k, kd i = k + 2 := ⟨kd i - 2, by omega⟩
      simp only [flowB, hk2, Bool.and_eq_true, beq_iff_eq] at hB
      obtain ⟨hr, hB⟩ := hB
      refine ⟨λ h0 => (by rw [hr] at h0; cases h0), λ j hj => ?_⟩
      rw [hr] at hj
      obtain rfl : j = i := by simpa using hj
      exact ⟨o, ho, .inr ⟨hk, λ w hw => wpOp_mono (λ a' w' h3 => ⟨h3.1, any_of_flowM hs hQ r _ _ _ (by simpa using hl) hB h3.2⟩) (h w hw)⟩⟩
theorem region_flowM {id : Nat} {a : Act} {w : World} (τ : List Nat) (hm : P.follows .mixedOrders = true) (hB : (Region.noSelect ops && (τ.length == ops.size) && flowB ops kd τ (Array.replicate ops.size false)) = true)
    (h : wpFlowM bM gM P ops (nrm (Q .normal)) kd τ a w) : (Code.region id ops true).wp P Q a w := by
  simp only [Bool.and_eq_true, beq_iff_eq] at hB
  obtain ⟨⟨hs, hl⟩, hB⟩ := hB
  refine wp_mono (wp_region_any hm (Q := nrm (Q .normal)) ?_) (λ e a w hq => by cases e <;> first | exact hq | exact hq.elim)
  have := any_of_flowM (P := P) hs (Q := nrm (Q .normal)) (λ _ _ _ h => h) τ (Array.replicate ops.size false) a w (by simp) hB h
  rw [hl] at this
  exact any_of_FM _ _ _ _ this _ (Below.refl _ w).drew
end
section
variable {bM : Nat} {gM : Cel → Int} {P : Program} {n : Nat} {E E' : List (Nat × Value)} {a : Act} {w w' w0 w1 : World} {Q : Exit → Act → World → Prop} {ops : Array Oper} {v : Value} {kd : Nat → Nat}
variable {d : Option Nat} {ty : TypeId} {pos : String} {af : Array Edge} {g : Option (Nat × Bool)} {x y z : Operand} {t : TypeId} {rest : List Oper} {τ : List Nat} {i : Nat}
def FLM (bM : Nat) (gM : Cel → Int) (P : Program) (n : Nat) (ops : Array Oper) (Q : Exit → Act → World → Prop) (kd : Nat → Nat) (τ : List Nat) (E : List (Nat × Value)) (w0 : World) : Prop := ∀ a, Agr n E a → wpFlowM bM gM P ops (nrm (Q .normal)) kd τ a w0
theorem rdM {id : Nat} (bM : Nat) (gM : Cel → Int) (ks : List (Nat × Nat)) (τ : List Nat) (hm : P.follows .mixedOrders = true) (hB : (Region.noSelect ops && (τ.length == ops.size) && flowB ops (kds ks) τ (Array.replicate ops.size false)) = true)
    (h : FLM bM gM P n ops Q (kds ks) τ E w) : W P n (.region id ops true) Q E w := λ a ha => region_flowM τ hm hB (h a ha)
theorem fnM (h : ∀ w, Ext w0 w → N n Q E w) : FLM bM gM P n ops Q kd [] E w0 := λ a ha w hw => h w hw a ha
theorem fqM {d : Nat} {op : Op} (hi : ops[i]? = some ⟨some d, op, ty, pos, af, none⟩) (hk : kd i = 0) (hr : ∀ w, RM bM gM w0 w → Runs P E ⟨some d, op, ty, pos, af, none⟩ w v w) (hd : Nat.blt d n = true)
    (h : FLM bM gM P n ops Q kd τ ((d, v) :: E) w0) : FLM bM gM P n ops Q kd (i :: τ) E w0 := λ a ha =>
  ⟨_, hi, .inl ⟨hk, v, .inl ⟨wanted_none rfl, λ w hw => by rw [hr w hw n a ha]; exact ⟨rfl, rfl⟩⟩, h _ (ha.put hd v)⟩⟩
theorem fwM {d : Nat} {op : Op} (hi : ops[i]? = some ⟨some d, op, ty, pos, af, none⟩) (hk : kd i = 1) (hr : ∀ w, Runs P E ⟨some d, op, ty, pos, af, none⟩ w v w) (hd : Nat.blt d n = true)
    (h : FLM bM gM P n ops Q kd τ ((d, v) :: E) w0) : FLM bM gM P n ops Q kd (i :: τ) E w0 := λ a ha =>
  ⟨_, hi, .inr (.inl ⟨hk, v, .inl ⟨wanted_none rfl, λ w => hr w n a ha⟩, h _ (ha.put hd v)⟩)⟩
theorem fxM {o : Oper} (hg : o.guard = none) (hi : ops[i]? = some o) (hk : kd i = 2) (h : ∀ w, Ext w0 w → Stp P n ops o E w λ E' w' => RM bM gM w0 w' ∧ FLM bM gM P n ops Q kd τ E' w') : FLM bM gM P n ops Q kd (i :: τ) E w0 := λ a ha =>
  ⟨_, hi, .inr (.inr ⟨by omega, λ w hw => stp_op hg hi (h w hw) (λ E' w' a' hk ha' => ⟨λ _ => hk.1, hk.2 a' ha'⟩) ha⟩)⟩
theorem fbM {o : Oper} (hg : o.guard = none) (hi : ops[i]? = some o) (hk : kd i = 3) (h : ∀ w, Ext w0 w → Stp P n ops o E w λ E' w' => FLM bM gM P n ops Q kd τ E' w') : FLM bM gM P n ops Q kd (i :: τ) E w0 := λ a ha =>
  ⟨_, hi, .inr (.inr ⟨by omega, λ w hw => stp_op hg hi (h w hw) (λ E' w' a' hk ha' => ⟨λ h2 => by omega, hk a' ha'⟩) ha⟩)⟩
end
end
section
open Go.RowKit
theorem part_set {β : Type} {cur old part : List β} {p s j : Nat} (ho : old.length = s) (hj : j + part.length ≤ s) (hc : p + s ≤ cur.length) (h : ∀ m, m < s → cur[p + m]? = old[m]?) :
  cur.take p ++ (old.take j ++ part ++ old.drop (j + part.length)) ++ cur.drop (p + (old.take j ++ part ++ old.drop (j + part.length)).length) = cur.take (p + j) ++ part ++ cur.drop (p + j + part.length) := by
 have hl : (old.take j ++ part ++ old.drop (j + part.length)).length = s := by simp only [List.length_append, List.length_take, List.length_drop]; omega
 rw [hl]
 apply List.ext_getElem?
 intro k
 by_cases h1 : k < p
 ·rw [List.append_assoc, List.getElem?_append_left (by rw [List.length_take]; omega), List.append_assoc, List.getElem?_append_left (by rw [List.length_take]; omega), List.getElem?_take, List.getElem?_take, if_pos h1, if_pos (by omega)]
 ·by_cases h2 : k < p + s
  ·rw [List.append_assoc, List.getElem?_append_right (by rw [List.length_take]; omega), List.getElem?_append_left (by rw [hl, List.length_take]; omega), List.length_take]
   obtain ⟨m, rfl⟩ : ∃ m, k = p + m := ⟨k - p, by omega⟩
   rw [show p + m - min p cur.length = m from by omega]
   by_cases h3 : m < j
   ·rw [List.append_assoc, List.getElem?_append_left (by rw [List.length_take]; omega), List.append_assoc, List.getElem?_append_left (by rw [List.length_take]; omega), List.getElem?_take, List.getElem?_take, if_pos h3, if_pos (by omega), h m (by omega)]
   ·by_cases h4 : m < j + part.length
    ·rw [List.append_assoc, List.getElem?_append_right (by rw [List.length_take]; omega), List.getElem?_append_left (by rw [List.length_take]; omega), List.append_assoc, List.getElem?_append_right (by rw [List.length_take]; omega), List.getElem?_append_left (by rw [List.length_take]; omega), List.length_take, List.length_take]
     congr 1; omega
    ·rw [List.getElem?_append_right (by simp only [List.length_append, List.length_take]; omega), List.getElem?_drop, List.getElem?_append_right (by simp only [List.length_append, List.length_take]; omega), List.getElem?_drop]
     simp only [List.length_append, List.length_take]
     rw [show p + j + part.length + (p + m - (min (p + j) cur.length + part.length)) = p + m from by omega, h m (by omega)]
     congr 1; omega
  ·rw [List.getElem?_append_right (by simp only [List.length_append, List.length_take, List.length_drop]; omega), List.getElem?_drop, List.getElem?_append_right (by simp only [List.length_append, List.length_take]; omega), List.getElem?_drop]
   simp only [List.length_append, List.length_take, List.length_drop]
   congr 1; omega
section
variable {P : Program} {n : Nat} {E E' : List (Nat × Value)} {a : Act} {w w' w0 w1 : World} {Q : Exit → Act → World → Prop} {ops : Array Oper} {v : Value}
variable {d : Option Nat} {ty : TypeId} {pos : String} {af : Array Edge} {g : Option (Nat × Bool)} {x y z : Operand} {t : TypeId} {rest : List Oper}
theorem soP {α : Type} {R : Rep α} {e by_ B i j : Nat} {A : Option Addr} {c : Nat} {l : List α} {q q' : α} {p : Addr} {old part es : List Value} (h : R.SOwn e by_ w B (Rep.blkOf A) A c l) (hR : R.Bare) (hi : l[i]? = some q) (hold : ∀ {w cs}, R.has w cs q → cs = old) (hx : ev E x = some (.pointer (some p))) (hp : p = ⟨bA A, oA A + i * R.size + j, none⟩) (hy : ev E y = some v) (hc : v.cells = part.toArray)
  (hj : Nat.ble (j + part.length) R.size = true) (hes : es = old.take j ++ part ++ old.drop (j + part.length)) (hq : ∀ w, R.has w es q') (hs : Sz P t part.length)
  (hk : ∀ w1, Mod (Rep.blkOf A) w w1 → R.SOwn e by_ w1 B (Rep.blkOf A) A c (l.set i q') → WL P n ops Q rest E w1) : WL P n ops Q (⟨none, .store t x y, ty, pos, af, none⟩ :: rest) E w := by
 have hil : i < l.length := (List.getElem?_eq_some_iff.1 hi).1
 obtain ⟨b, rfl⟩ := h.block (by omega)
 have hp' : p = ⟨b, i * R.size + j, none⟩ := by rw [hp]; simp [bA, oA]
 subst hp'
 obtain ⟨_, ps, _, _, ho, _⟩ := id h
 obtain ⟨cur, hcur, _, _⟩ := ho.cells_at
 obtain ⟨hset, hle⟩ := Rep.SOwn.setE (q' := q') h hR hil hq hcur
 obtain ⟨b', o', hb', hat⟩ := h.has.at_ (by omega)
 injection hb' with hb'
 injection hb' with hb1 hb2
 subst hb1 hb2
 obtain ⟨es0, he0, hcell⟩ := hat i q hi
 obtain rfl := hold he0
 have hlo : es0.length = R.size := R.len he0
 have hle' : es.length = R.size := R.len (hq w)
 have hj' := Nat.le_of_ble_eq_true hj
 have hcm : ∀ m, m < R.size → cur.toList[i * R.size + m]? = es0[m]? := λ m hm => by
  have hu : es0[m]? = some es0[m] := List.getElem?_eq_getElem (by omega)
  have := hcell m es0[m] hu
  rw [hu]
  simpa [World.cell?, hcur] using this
 have hrow := part_set (cur := cur.toList) (old := es0) (part := part) (p := i * R.size) (s := R.size) (j := j) hlo hj' (by rw [hle'] at hle; exact hle) hcm
 have hone : part.all (·.oneCell') = true := List.all_eq_true.2 λ u hu => R.one (hq w) u (by rw [hes]; simp [hu])
 have hst := run_storeVar (P := P) (w := w) (b := b) (p := i * R.size + j) (cur := cur.toList) (e := e) (by simpa [Blk] using hcur) hc hs hone (by rw [hle'] at hle; omega)
 rw [← hrow, ← hes] at hst
 refine us (λ n a ha => ?_) (hk _ (Mod.setRow w b _) hset)
 simp only [execOp, ha.ev hx, ha.ev hy, Instr.storeAt, Instr.sureAddr, Sem.run_bind, Sem.run_pure, Result.andThen_ok, hst]
end
end
section
open Go.RowKit
section
variable {P : Program} {n : Nat} {E : List (Nat × Value)} {w w' : World} {Q : Exit → Act → World → Prop} {ops : Array Oper} {ty : TypeId} {pos : String} {af : Array Edge} {rest : List Oper} {x y z : Operand} {t u : TypeId} {v rv : Value} {d : Option Nat} {g : Option (Nat × Bool)}
def Meth (P : Program) (w : World) (t : TypeId) (v : Value) (name : String) (f : FuncId) (rv : Value) : Prop := (Go.method (P.types.size + Made.depth) t v name).run P w = .ok (f, rv) w
theorem run_inv {f : FuncId} {name : String} (hf : Enters P f) {xs : Array Operand} {ts : Array TypeId} {args : List Value} {a : Act} (ha : Agr n E a) (hr : ev E x = some (.iface t v)) (he : evs E xs.toList = some args) (hm : Meth P w t v name f rv) :
  (execOp a.eval ⟨d, .call { callee := .invoke x name, args := xs, argTypes := ts }, ty, pos, af, g⟩).run P w = .ok (.enter f (rv :: args).toArray) w := by
 obtain ⟨fn, h1, h2, h3⟩ := hf
 have hx : xs.map a.eval = args.toArray := by rw [← ha.evs he]; apply Array.ext'; simp
 unfold Meth at hm
 have e0 : (#[(Value.iface t v)] ++ args.toArray)[0]? = some (.iface t v) := by simp
 have e1 : (#[(Value.iface t v)] ++ args.toArray).extract 1 (#[(Value.iface t v)] ++ args.toArray).size = args.toArray := by simp
 have e2 : #[rv] ++ args.toArray = (rv :: args).toArray := by simp
 have hp : Sem.run P program w = .ok P w := rfl
 simp only [execOp, resolve, hx, ha.ev hr, Sem.run_bind, Sem.run_pure, Result.andThen_ok, invoke, e0, e1, callMethod, callFunc, hp, hm, h1, h2, h3, e2, Bool.false_eq_true, if_false]
theorem iv {d : Nat} {f : FuncId} {name : String} (hf : Enters P f) {xs : Array Operand} {ts : Array TypeId} {args : List Value} (hr : ev E x = some (.iface t v)) (he : evs E xs.toList = some args) (hm : Meth P w t v name f rv) (hd : Nat.blt d n = true)
  (h : Calls P f (rv :: args).toArray w λ e w' => ∃ v, e = .returned v ∧ WL P n ops Q rest ((d, v) :: E) w') : WL P n ops Q (⟨some d, .call { callee := .invoke x name, args := xs, argTypes := ts }, ty, pos, af, none⟩ :: rest) E w := λ a ha => by
 refine WL_one rfl ?_
 unfold Oper.wp
 rw [run_inv hf ha hr he hm]
 refine Calls.mono h λ e w' hh => ?_
 obtain ⟨v, rfl, h⟩ := hh
 exact h _ (ha.put hd v)
theorem ivC {d : Nat} {f : FuncId} {name : String} {xs : Array Operand} {ts : Array TypeId} {args : List Value} {j : Nat} {q b c : Bool} {oj : Oper} {dj : Nat} {v0 : Value} (hj : ops[j]? = some oj) (hdj : oj.dst = some dj) (hb : look E dj = some (.bool b)) (hc : (b == q) = c)
  (hf : Enters P f) (hx : c = true → ev E x = some (.iface t v0)) (he : c = true → evs E xs.toList = some args) (hm : Meth P w t v0 name f rv) (hr : c = true → Calls P f (rv :: args).toArray w λ e w' => e = .returned v ∧ Ext w w') (hd : Nat.blt d n = true)
  (h : ∀ w', Ext w w' → WL P n ops Q rest ((d, gv c v) :: E) w') : WL P n ops Q (⟨some d, .call { callee := .invoke x name, args := xs, argTypes := ts }, ty, pos, af, some (j, q)⟩ :: rest) E w :=
 wl_if (c := c) (λ a ha => by rw [wanted_some (o := ⟨some d, _, ty, pos, af, some (j, q)⟩) rfl hj hdj hb ha, hc])
  (λ hc a ha => by unfold Oper.wp; rw [run_inv hf ha (hx hc) (he hc) hm]; exact (hr hc).mono λ e w' ⟨h1, hxx⟩ => by subst h1; subst hc; exact h w' hxx _ (ha.put hd v)) (λ hc a ha => by subst hc; exact h w (Ext.rf w) _ (ha.put hd undef))
theorem mkI (hr : ∀ w, (Instr.makeInterface t v).run P w = .ok (.iface t v) w) (hx : ev E x = some v) : Runs P E ⟨d, .makeInterface t x, ty, pos, af, g⟩ w (.iface t v) w := λ n a ha => by
 simp only [execOp, ha.ev hx, Sem.run_bind, hr w, Result.andThen_ok, Sem.run_pure]
theorem tyA {t' : TypeId} (hr : ∀ w, (Instr.typeAssert (.iface t v) t' t false).run P w = .ok v w) (hx : ev E x = some (.iface t v)) : Runs P E ⟨d, .typeAssert x t' t false, ty, pos, af, g⟩ w v w := λ n a ha => by
 simp only [execOp, ha.ev hx, Sem.run_bind, hr w, Result.andThen_ok, Sem.run_pure]
theorem meth_val {e : TypeId} {p : Addr} {name : String} {f : FuncId} (h : (Go.method (P.types.size + Made.depth) t (.pointer (some p)) name).run P w = (loadVar e p >>= λ x => pure (f, x)).run P w) (hl : Lds P w e p v) : Meth P w t (.pointer (some p)) name f v := by
 unfold Meth
 unfold Lds at hl
 rw [h]
 simp only [Sem.run_bind, hl, Result.andThen_ok, Sem.run_pure]
end
end
section
open Go.RowKit
namespace Hp
section
variable {α : Type} [Inhabited α] {key : α → Int} {lm l : List α} {m N n : Nat}
theorem up_exit (h : (((((m - 1) / 2 : Nat) : Int) == (m : Int)) || !decide (key (lm.getD m default) < key (lm.getD ((m - 1) / 2) default))) = true) : upF key lm m = lm := by
 unfold upF
 rw [if_neg]
 rintro ⟨h1, h2⟩
 simp only [Bool.or_eq_true, beq_iff_eq, Bool.not_eq_true', decide_eq_false_iff_not] at h
 rcases h with h | h
 ·omega
 ·exact h h2
theorem up_more (h : (((((m - 1) / 2 : Nat) : Int) == (m : Int)) || !decide (key (lm.getD m default) < key (lm.getD ((m - 1) / 2) default))) = false) : 0 < m ∧ upF key lm m = upF key (swp lm ((m - 1) / 2) m) ((m - 1) / 2) := by
 simp only [Bool.or_eq_false_iff, beq_eq_false_iff_ne, Bool.not_eq_false', decide_eq_true_eq] at h
 have hm : 0 < m := by
  rcases Nat.eq_zero_or_pos m with h0 | h0
  ·subst h0; exact absurd rfl h.1
  ·exact h0
 refine ⟨hm, ?_⟩
 conv => lhs; unfold upF
 rw [if_pos ⟨hm, h.2⟩]
theorem dn_exit (h : (decide ((N : Int) ≤ 2 * (m : Int) + 1) || decide (2 * (m : Int) + 1 < 0)) = true) : downF key N l m = l := by
 unfold downF
 rw [if_neg]
 simp only [Bool.or_eq_true, decide_eq_true_eq] at h
 omega
theorem dn_go (h : (decide ((N : Int) ≤ 2 * (m : Int) + 1) || decide (2 * (m : Int) + 1 < 0)) = false) : 2 * m + 1 < N := by
 simp only [Bool.or_eq_false_iff, decide_eq_false_iff_not] at h
 omega
theorem low_two (h : (decide (2 * (m : Int) + 1 + 1 < (N : Int)) && decide (key (l.getD (2 * m + 1 + 1) default) < key (l.getD (2 * m + 1) default))) = true) : lowC key N l m = 2 * m + 2 := by
 simp only [Bool.and_eq_true, decide_eq_true_eq] at h
 unfold lowC
 rw [if_pos ⟨by omega, h.2⟩]
theorem low_lt {q : Bool} (h : (decide (2 * (m : Int) + 1 + 1 < (N : Int)) && q) = true) : 2 * m + 2 < N := by
 simp only [Bool.and_eq_true, decide_eq_true_eq] at h
 omega
theorem low_one (h : (decide (2 * (m : Int) + 1 + 1 < (N : Int)) && decide (key (l.getD (2 * m + 1 + 1) default) < key (l.getD (2 * m + 1) default))) = false) : lowC key N l m = 2 * m + 1 := by
 unfold lowC
 rw [if_neg]
 rintro ⟨h1, h2⟩
 rw [decide_eq_true (show 2 * (m : Int) + 1 + 1 < (N : Int) by omega), decide_eq_true (show key (l.getD (2 * m + 1 + 1) default) < key (l.getD (2 * m + 1) default) from h2)] at h
 cases h
theorem dn_exit2 {j : Nat} (h1 : 2 * m + 1 < N) (hl : lowC key N l m = j) (h : (!decide (key (l.getD j default) < key (l.getD m default))) = true) : downF key N l m = l := by
 unfold downF
 rw [if_neg]
 rw [hl]
 rintro ⟨_, h2⟩
 rw [decide_eq_true h2] at h; cases h
theorem dn_more {j : Nat} (h1 : 2 * m + 1 < N) (hl : lowC key N l m = j) (h : (!decide (key (l.getD j default) < key (l.getD m default))) = false) : downF key N l m = downF key N (swp l m j) j := by
 conv => lhs; unfold downF
 rw [hl, if_pos ⟨h1, by simpa using h⟩]
end
end Hp
theorem tdiv_half (m : Nat) : Int.tdiv ((m : Int) - 1) 2 = (((m - 1) / 2 : Nat) : Int) := by
 cases m with
 | zero => rfl
 | succ m =>
  rw [show ((m + 1 : Nat) : Int) - 1 = (m : Int) by omega, Int.tdiv_eq_ediv_of_nonneg (by omega)]
  simp
section
variable {P : Program} {n : Nat} {E : List (Nat × Value)} {w : World} {ty : TypeId} {pos : String} {af : Array Edge} {x y : Operand} {t u : TypeId} {d : Option Nat} {g : Option (Nat × Bool)}
theorem bquH {k : IntKind} {i j r : Int} (hx : ev E x = some (.int k i)) (hy : ev E y = some (.int k j)) (h1 : j ≠ 0) (hr : Int.tdiv i j = r) (hw : k.wrap r = r) : Runs P E ⟨d, .binOp .quo t x y u, ty, pos, af, g⟩ w (.int k r) w := run_bin hx hy (binOp_quo t k i j) (by
 subst hr
 have : Op.intDiv .quo k i j = pure (.int k (Int.tdiv i j)) := by simp [Op.intDiv, h1, hw]
 rw [this]; rfl)
end
end
section
open Go.RowKit
theorem Pq_el_path_open : ElT Try.prog Nod.rep 227 250 32 := ElT.mk_ (z := Nod.zero) (k := 4) Try.underlying227 Nod.info rfl rfl (by decide) Nod.zero_raw
theorem hcNo {w : World} {cs : List Value} {a : Nod} (h : Nod.rep.has w cs a) : cs = a.cells := And.left (show cs = a.cells ∧ a.ok from h)
theorem xP_len (A : Option Addr) (n c : Nat) (w : World) :
  Calls Try.prog 178 #[.slice A n c] w (λ e w' => e = .returned (.int .i64 (n : Int)) ∧ Ext w w') := by
 refine calls_W (n := 5) Try.func178 rfl rfl rfl ?_
 refine sg <| va rfl <| nK <| sg <| vm rfl <| vL (ln Try.underlying227 rfl) <| va rfl <| nK <| rt <| tR (.tmp rfl .nil) <| ?_
 exact ⟨rfl, (Ext.rf w)⟩
theorem xP_less (A : Option Addr) (n c : Nat) (l : List Nod) (i j : Int) (p q : Nat) (w : World) (hl : Nod.rep.SHas 32 w A c l) (hn : l.length = n) (hi : i = (p : Int)) (hj : j = (q : Int)) (hp : p < n) (hq : q < n) :
  Calls Try.prog 200 #[.slice A n c, .int .i64 i, .int .i64 j] w (λ e w' => e = .returned (.bool (decide ((l.getD p default).all < (l.getD q default).all))) ∧ Ext w w') := by
 refine calls_W (n := 18) Try.func200 rfl rfl rfl ?_
 refine sg <| va rfl <| nK <| sq <| ?_
 refine rd [(4, 0), (9, 0)] [0, 1, 2, 3, 4, 5, 6, 7, 8, 9, 10, 11] (by kernel_rfl) (by kernel_rfl) ?_
 refine fw1 rfl (λ _ => mv rfl) <| fw1 rfl (λ _ => mv rfl) <| fw1 rfl (λ _ => iA i.toNat Try.underlying227 eF87 rfl rfl ((hl.keep (Ext.rf w)).adr (zl i.toNat (by omega))) (by omega) (by omega)) <| fw1 rfl (λ _ => fa eF88 rfl) <| fq1 rfl (λ _ x => ld rfl (Rep.SHas.fld hcNo ((hl.keep (eT (Ext.rf w) x)).adh (zl i.toNat (by omega))) 3 (get_d (l := l) (u := default) (by omega)) rfl eF5)) <| fw1 rfl (λ _ => mv rfl) <| fw1 rfl (λ _ => mv rfl) <| fw1 rfl (λ _ => iA j.toNat Try.underlying227 eF87 rfl rfl ((hl.keep (Ext.rf w)).adr (zl j.toNat (by omega))) (by omega) (by omega)) <| fw1 rfl (λ _ => fa eF88 rfl) <| fq1 rfl (λ _ x => ld rfl (Rep.SHas.fld hcNo ((hl.keep (eT (Ext.rf w) x)).adh (zl j.toNat (by omega))) 3 (get_d (l := l) (u := default) (by omega)) rfl eF5)) <| fw1 rfl (λ _ => blt rfl rfl) <| fw1 rfl (λ _ => as_ rfl) <| fn λ w_1 x_2 => ?_
 have := x_2.size
 have z_1 := eT (Ext.rf w) x_2
 refine nT <| rt <| tR (.tmp rfl .nil) <| ?_
 subst hi hj; exact ⟨by simp only [Int.toNat_natCast]; rfl, z_1⟩
theorem xP_swap (A : Option Addr) (n c Z : Nat) (l : List Nod) (i j : Int) (p q : Nat) (w : World) (HO : Nod.rep.SOwn 250 32 w Z (Rep.blkOf A) A c (l)) (hok : ∀ y ∈ l, y.ok) (hn : l.length = n) (hi : i = (p : Int)) (hj : j = (q : Int)) (hp : p < n) (hq : q < n) :
  Calls Try.prog 201 #[.slice A n c, .int .i64 i, .int .i64 j] w (λ e w' => e = .returned (.tuple #[]) ∧ Nod.rep.SOwn 250 32 w' Z (Rep.blkOf A) A c (Hp.swp l p q) ∧ Mod (Rep.blkOf A) w w') := by
 have uO := λ q hq => (HO.lt q hq).2
 refine calls_W (n := 20) Try.func201 rfl rfl rfl ?_
 refine rd [(7, 0), (11, 0), (13, 3), (15, 3)] [0, 1, 2, 3, 4, 5, 6, 7, 8, 9, 10, 11, 12, 13, 14, 15] (by kernel_rfl) (by kernel_rfl) ?_
 refine fw1 rfl (λ _ => mv rfl) <| fw1 rfl (λ _ => mv rfl) <| fw1 rfl (λ _ => mv rfl) <| fw1 rfl (λ _ => mv rfl) <| fw1 rfl (λ _ => mv rfl) <| fw1 rfl (λ _ => mv rfl) <| fw1 rfl (λ _ => iA j.toNat Try.underlying227 eF87 rfl rfl (HO.has.adr (zl j.toNat (by first | omega | (rw [List.length_set]; omega)))) (by omega) (by first | omega | (rw [List.length_set]; omega))) <| fq1 rfl (λ _ x => ld rfl (Rep.SHas.elt hcNo ((HO.later x).has.adh (zl j.toNat (by first | omega | (rw [List.length_set]; omega)))) (get_d (l := l) (u := default) (by first | omega | (rw [List.length_set]; omega))) eF89 eF87)) <| fw1 rfl (λ _ => mv rfl) <| fw1 rfl (λ _ => mv rfl) <| fw1 rfl (λ _ => iA i.toNat Try.underlying227 eF87 rfl rfl (HO.has.adr (zl i.toNat (by first | omega | (rw [List.length_set]; omega)))) (by omega) (by first | omega | (rw [List.length_set]; omega))) <| fq1 rfl (λ _ x => ld rfl (Rep.SHas.elt hcNo ((HO.later x).has.adh (zl i.toNat (by first | omega | (rw [List.length_set]; omega)))) (get_d (l := l) (u := default) (by first | omega | (rw [List.length_set]; omega))) eF89 eF87)) <| fw1 rfl (λ _ => iA i.toNat Try.underlying227 eF87 rfl rfl (HO.has.adr (zl i.toNat (by first | omega | (rw [List.length_set]; omega)))) (by omega) (by first | omega | (rw [List.length_set]; omega))) <| fb rfl rfl rfl λ w_1 x_2 Q hK => soE (q' := l.getD j.toNat default) (i := i.toNat) (es := [.int .i64 ((l.getD j.toNat default).cell.x), .int .i64 ((l.getD j.toNat default).cell.y), .int .i64 ((l.getD j.toNat default).far), .int .i64 ((l.getD j.toNat default).all)]) (HO.later x_2) Rep.flat_bare (by first | omega | (rw [List.length_set]; omega)) rfl rfl rfl rfl (λ _ => ⟨rfl, (hok _ (mem_dd (by omega)))⟩) eF87 λ w_3 m_4 O_5 => hK _ _ ?_
 have := x_2.size
 have z_1 := (Mod.rf (Rep.blkOf A) w).trans (Mod.of_ext x_2)
 have := m_4.size
 have z_3 := z_1.md m_4 (λ q hq => .inl hq)
 have := m_4.size
 refine fw1 rfl (λ _ => iA j.toNat Try.underlying227 eF87 rfl rfl (O_5.has.adr (zl j.toNat (by first | omega | (rw [List.length_set]; omega)))) (by omega) (by first | omega | (rw [List.length_set]; omega))) <| fb rfl rfl rfl λ w_9 x_10 Q hK => soE (q' := l.getD i.toNat default) (i := j.toNat) (es := [.int .i64 ((l.getD i.toNat default).cell.x), .int .i64 ((l.getD i.toNat default).cell.y), .int .i64 ((l.getD i.toNat default).far), .int .i64 ((l.getD i.toNat default).all)]) (O_5.later x_10) Rep.flat_bare (by first | omega | (rw [List.length_set]; omega)) rfl rfl rfl rfl (λ _ => ⟨rfl, (hok _ (mem_dd (by omega)))⟩) eF87 λ w_11 m_12 O_13 => hK _ _ ?_
 have := x_10.size
 have z_9 := z_3.trans (Mod.of_ext x_10)
 have := m_12.size
 have z_11 := z_9.md m_12 (λ q hq => .inl hq)
 have := m_12.size
 refine fn λ w_17 x_18 => ?_
 have := x_18.size
 have z_17 := z_11.trans (Mod.of_ext x_18)
 refine ne <| tR .nil <| ?_
 have O_13 := O_13.later x_18
 subst hi hj; simp only [Int.toNat_natCast] at O_13; exact ⟨rfl, O_13, z_17⟩
theorem xP_up (b : Nat) (A : Option Addr) (n c Z : Nat) (l : List Nod) (v0 v1 v2 v3 v4 v5 : Value) (j : Nat) (w : World) (HB : Blk w b [v0, v1, v2, v3, v4, v5, .slice A n c] 229 (0, 0)) (HO : Nod.rep.SOwn 250 32 w Z (Rep.blkOf A) A c (l)) (hok : ∀ y ∈ l, y.ok) (hn : l.length = n) (hd : ∀ q ∈ Rep.blkOf A, q = b → False) (hj : j < n) :
  Calls Try.prog 182 #[.iface 248 (.pointer (some ⟨b, 6, none⟩)), .int .i64 (j : Int)] w (λ e w' => e = .returned (.tuple #[]) ∧ Blk w' b [v0, v1, v2, v3, v4, v5, .slice A n c] 229 (0, 0) ∧ Nod.rep.SOwn 250 32 w' Z (Rep.blkOf A) A c (Hp.upF Nod.all l j) ∧ Mod (Rep.blkOf A) w w') := by
 have uO := λ q hq => (HO.lt q hq).2
 have qB := HB.lt
 have hn63 := HO.has.2.1
 have hn64 := HO.has.len_le
 have hn65 := HO.has.1
 refine calls_W (n := 23) Try.func182 rfl rfl rfl ?_
 refine bk <| ?_
 refine lp (λ mI EI wI => ∃ lm : List Nod, ∃ m : Nat, EI = [(0, .iface 248 (.pointer (some ⟨b, 6, none⟩))), (1, .int .i64 (m : Int))] ∧ mI = (2 * m) ∧ Mod (Rep.blkOf A) w wI ∧ Blk wI b [v0, v1, v2, v3, v4, v5, .slice A n c] 229 (0, 0) ∧ Nod.rep.SOwn 250 32 wI Z (Rep.blkOf A) A c (lm) ∧ (m < n) ∧ (lm.length = n) ∧ (∀ y ∈ lm, y.ok) ∧ (Hp.upF Nod.all lm m = Hp.upF Nod.all l j) ∧ (∀ q ∈ Rep.blkOf A, q = b → False)) _ _ ⟨l, j, rfl, rfl, (Mod.rf (Rep.blkOf A) w), HB, HO, by omega, by omega, hok, rfl, (λ q hq hb => by (exact hd q hq hb))⟩ (sba rfl) ?_
 rintro m_3 E_4 w_2 ⟨lm, m, rfl, rfl, z_2, HB, HOm, hm, hlm, hokm, hup, d_1⟩
 have := z_2.size
 have q_6 := HB.lt
 have u_7 := λ q hq => (HOm.lt q hq).2
 refine bk <| sg <| vm rfl <| vL (bsu rfl rfl (inI (by omega))) <| vL (bquH (r := (((m - 1) / 2 : Nat) : Int)) rfl rfl (by decide) (tdiv_half m) (inI (by omega))) <| va rfl <| nK <| sq <| sg <| vm rfl <| vm rfl <| vL (beq rfl rfl) <| vm rfl <| vQ rfl rfl rfl rfl (λ hc => mv rfl) rfl <| vQ rfl rfl rfl rfl (λ hc => mv rfl) rfl <| vQ rfl rfl rfl rfl (λ hc => mv rfl) rfl <| ivC rfl rfl rfl rfl eF91 (λ hc => (gt hc rfl)) (λ hc => ec (gt hc rfl) (ec (gt hc rfl) rfl)) (meth_val (e := 227) (by kernel_rfl) (HB.one eF90 rfl)) (λ hc => xP_less _ _ _ lm (m : Int) ((((m - 1) / 2 : Nat) : Int)) m ((m - 1) / 2) _ HOm.has (by omega) (by omega) (by omega) (by first | omega | (simp only [bS] at hc; omega)) (by first | omega | (simp only [bS] at hc; omega))) rfl λ w_8 x_9 => ?_
 have := x_9.size
 have z_8 := z_2.trans (Mod.of_ext x_9)
 refine vQ rfl rfl rfl rfl (λ hc => nt (gt hc rfl)) rfl <| vL (pO rfl rfl rfl rfl) <| nK <| ?_
 refine cb rfl (λ h_11 => ?_) (λ h_11 => ?_)
 ·have hex := Hp.up_exit (key := Nod.all) h_11
  rw [hex] at hup
  refine xt <| xT <| xN rfl <| xK <| xB <| ne <| tR .nil <| ?_
  have HOm := HOm.later x_9
  have HB := HB.later x_9
  exact ⟨rfl, HB, by rw [← hup]; exact HOm, z_8⟩
 ·obtain ⟨hm0, hnx⟩ := Hp.up_more (key := Nod.all) h_11
  refine sK <| sg <| vm rfl <| vm rfl <| vm rfl <| ?_
  have HB := HB.later x_9
  have HOm := HOm.later x_9
  refine iv eF92 rfl rfl (meth_val (e := 227) (by kernel_rfl) (HB.one eF90 rfl)) rfl ((xP_swap _ _ _ _ lm ((((m - 1) / 2 : Nat) : Int)) (m : Int) ((m - 1) / 2) m _ HOm hokm (by omega) (by omega) (by omega) (by omega) (by omega)).mono ?_)
  rintro e w_14 ⟨rfl, O_12, m_13⟩
  refine ⟨_, rfl, ?_⟩
  have := m_13.size
  have z_14 := z_8.md m_13 (λ q hq => .inl hq)
  have hokO_12 : ∀ y ∈ Hp.swp lm ((m - 1) / 2) m, y.ok := λ y hy => hokm y ((Hp.swp_perm (by omega) (by omega)).subset hy)
  have hlenO_12 : (Hp.swp lm ((m - 1) / 2) m).length = n := by rw [Hp.swp_len]; omega
  refine nK <| rg <| vm rfl <| va rfl <| nl <| nB <| ?_
  have HB := HB.mod m_13 (λ hq => d_1 _ hq rfl)
  exact nI _ _ ⟨Hp.swp lm ((m - 1) / 2) m, (m - 1) / 2, rfl, rfl, z_14, HB, O_12, by omega, hlenO_12, hokO_12, hnx.symm.trans hup, (λ q hq hb => by (exact d_1 q hq hb))⟩ (by omega) (.cons rfl (.cons (loI rfl (by first | omega | rfl | (simp <;> omega))) .nil))
theorem xP_down (b : Nat) (A : Option Addr) (n c Z : Nat) (l : List Nod) (v0 v1 v2 v3 v4 v5 : Value) (i N : Nat) (w : World) (HB : Blk w b [v0, v1, v2, v3, v4, v5, .slice A n c] 229 (0, 0)) (HO : Nod.rep.SOwn 250 32 w Z (Rep.blkOf A) A c (l)) (hok : ∀ y ∈ l, y.ok) (hn : l.length = n) (hd : ∀ q ∈ Rep.blkOf A, q = b → False) (hi : i < n) (hN : N ≤ n) (hbig : n ≤ 1000000) :
  Calls Try.prog 183 #[.iface 248 (.pointer (some ⟨b, 6, none⟩)), .int .i64 (i : Int), .int .i64 (N : Int)] w (λ e w' => (∃ v, e = .returned (.bool v)) ∧ Blk w' b [v0, v1, v2, v3, v4, v5, .slice A n c] 229 (0, 0) ∧ Nod.rep.SOwn 250 32 w' Z (Rep.blkOf A) A c (Hp.downF Nod.all N l i) ∧ Mod (Rep.blkOf A) w w') := by
 have uO := λ q hq => (HO.lt q hq).2
 have qB := HB.lt
 have hn63 := HO.has.2.1
 have hn64 := HO.has.len_le
 have hn65 := HO.has.1
 refine calls_W (n := 48) Try.func183 rfl rfl rfl ?_
 refine sg <| va rfl <| nK <| sg <| vm rfl <| va rfl <| nK <| sq <| bk <| ?_
 refine lp (λ mI EI wI => ∃ lm : List Nod, ∃ m : Nat, EI = [(0, .iface 248 (.pointer (some ⟨b, 6, none⟩))), (1, .int .i64 (i : Int)), (2, .int .i64 (N : Int)), (6, .bool false), (7, .int .i64 (m : Int))] ∧ mI = N - m ∧ Mod (Rep.blkOf A) w wI ∧ Blk wI b [v0, v1, v2, v3, v4, v5, .slice A n c] 229 (0, 0) ∧ Nod.rep.SOwn 250 32 wI Z (Rep.blkOf A) A c (lm) ∧ (m < n) ∧ (lm.length = n) ∧ (∀ y ∈ lm, y.ok) ∧ (Hp.downF Nod.all N lm m = Hp.downF Nod.all N l i) ∧ (∀ q ∈ Rep.blkOf A, q = b → False)) _ _ ⟨l, i, rfl, rfl, (Mod.rf (Rep.blkOf A) w), HB, HO, by omega, by omega, hok, rfl, (λ q hq hb => by (exact hd q hq hb))⟩ (sba rfl) ?_
 rintro m_3 E_4 w_2 ⟨lm, m, rfl, rfl, z_2, HB, HOm, hm, hlm, hokm, hup, d_1⟩
 have := z_2.size
 have q_6 := HB.lt
 have u_7 := λ q hq => (HOm.lt q hq).2
 refine bk <| sg <| vm rfl <| vL (bmu rfl rfl (inI (by omega))) <| vL (bad rfl rfl (inI (by omega))) <| va rfl <| nK <| sq <| sg <| vm rfl <| vm rfl <| vL (bge rfl rfl) <| vm rfl <| vQ rfl rfl rfl rfl (λ hc => mv rfl) rfl <| vQ rfl rfl rfl rfl (λ hc => blt (gt hc rfl) rfl) rfl <| vL (pO rfl rfl rfl rfl) <| nK <| ?_
 refine cb rfl (λ h_8 => ?_) (λ h_8 => ?_)
 ·have hex := Hp.dn_exit (key := Nod.all) (l := lm) h_8
  rw [hex] at hup
  refine xt <| xT <| xN rfl <| xK <| xB <| nT <| sg <| vm rfl <| vm rfl <| vL (bgt rfl rfl) <| va rfl <| nK <| rt <| tR (.tmp rfl .nil) <| ?_
  skip
  exact ⟨⟨_, rfl⟩, HB, by rw [← hup]; exact HOm, z_2⟩
 ·have hc1 := Hp.dn_go h_8
  refine sK <| sg <| vm rfl <| va rfl <| nK <| sq <| sg <| vm rfl <| vL (bad rfl rfl (inI (by omega))) <| va rfl <| nK <| sg <| vm rfl <| vm rfl <| vL (blt rfl rfl) <| vm rfl <| vQ rfl rfl rfl rfl (λ hc => mv rfl) rfl <| vQ rfl rfl rfl rfl (λ hc => mv rfl) rfl <| ?_
  refine vQ rfl rfl rfl rfl (λ hc => mv rfl) rfl <| ivC rfl rfl rfl rfl eF91 (λ hc => (gt hc rfl)) (λ hc => ec (gt hc rfl) (ec (gt hc rfl) rfl)) (meth_val (e := 227) (by kernel_rfl) (HB.one eF90 rfl)) (λ hc => xP_less _ _ _ lm (((2 * (m : Int)) + 1) + 1) ((2 * (m : Int)) + 1) (((2 * m) + 1) + 1) ((2 * m) + 1) _ HOm.has (by omega) (by omega) (by omega) (by first | omega | (simp only [bS] at hc; omega)) (by first | omega | (simp only [bS] at hc; omega))) rfl λ w_9 x_10 => ?_
  have := x_10.size
  have z_9 := z_2.trans (Mod.of_ext x_10)
  refine vL (pA rfl rfl rfl rfl) <| nK <| ?_
  refine cb rfl (λ h_12 => ?_) (λ h_12 => ?_)
  ·have hlow := Hp.low_two (key := Nod.all) (l := lm) (m := m) h_12
   have hc2 := Hp.low_lt h_12
   refine rg <| vm rfl <| va rfl <| nK <| sq <| sg <| vm rfl <| vm rfl <| vm rfl <| ?_
   have HB := HB.later x_10
   have HOm := HOm.later x_10
   refine iv eF91 rfl rfl (meth_val (e := 227) (by kernel_rfl) (HB.one eF90 rfl)) rfl ((xP_less _ _ _ lm (((2 * (m : Int)) + 1) + 1) (m : Int) (((2 * m) + 1) + 1) m _ HOm.has (by omega) (by omega) (by omega) (by first | omega | (simp only [bS] at hc; omega)) (by first | omega | (simp only [bS] at hc; omega))).mono ?_)
   rintro e w_13 ⟨rfl, x_14⟩
   refine ⟨_, rfl, ?_⟩
   have := x_14.size
   have z_13 := z_9.trans (Mod.of_ext x_14)
   refine vL (nt rfl) <| nK <| ?_
   refine cb rfl (λ h_16 => ?_) (λ h_16 => ?_)
   ·have hex := Hp.dn_exit2 (key := Nod.all) hc1 hlow h_16
    rw [hex] at hup
    refine xt <| xT <| xN rfl <| xK <| xB <| nT <| sg <| vm rfl <| vm rfl <| vL (bgt rfl rfl) <| va rfl <| nK <| rt <| tR (.tmp rfl .nil) <| ?_
    skip
    have HOm := HOm.later x_14
    have HB := HB.later x_14
    exact ⟨⟨_, rfl⟩, HB, by rw [← hup]; exact HOm, z_13⟩
   ·have hnx := Hp.dn_more (key := Nod.all) hc1 hlow h_16
    refine sK <| sg <| vm rfl <| vm rfl <| vm rfl <| ?_
    have HB := HB.later x_14
    have HOm := HOm.later x_14
    refine iv eF92 rfl rfl (meth_val (e := 227) (by kernel_rfl) (HB.one eF90 rfl)) rfl ((xP_swap _ _ _ _ lm (m : Int) (((2 * (m : Int)) + 1) + 1) m (((2 * m) + 1) + 1) _ HOm hokm (by omega) (by omega) (by omega) (by omega) (by omega)).mono ?_)
    rintro e w_19 ⟨rfl, O_17, m_18⟩
    refine ⟨_, rfl, ?_⟩
    have := m_18.size
    have z_19 := z_13.md m_18 (λ q hq => .inl hq)
    have hokO_17 : ∀ y ∈ Hp.swp lm m (((2 * m) + 1) + 1), y.ok := λ y hy => hokm y ((Hp.swp_perm (by omega) (by omega)).subset hy)
    have hlenO_17 : (Hp.swp lm m (((2 * m) + 1) + 1)).length = n := by rw [Hp.swp_len]; omega
    refine nK <| rg <| vm rfl <| va rfl <| nl <| nB <| ?_
    have HB := HB.mod m_18 (λ hq => d_1 _ hq rfl)
    exact nI _ _ ⟨Hp.swp lm m (((2 * m) + 1) + 1), 2 * m + 2, rfl, rfl, z_19, HB, O_17, by omega, hlenO_17, hokO_17, hnx.symm.trans hup, (λ q hq hb => by (exact d_1 q hq hb))⟩ (by omega) (.cons rfl (.cons rfl (.cons rfl (.cons rfl (.cons (loI rfl (by first | omega | rfl | (simp <;> omega))) .nil)))))
  ·have hlow := Hp.low_one (key := Nod.all) (l := lm) (m := m) h_12
   refine sK <| sq <| sg <| vm rfl <| vm rfl <| vm rfl <| ?_
   have HB := HB.later x_10
   have HOm := HOm.later x_10
   refine iv eF91 rfl rfl (meth_val (e := 227) (by kernel_rfl) (HB.one eF90 rfl)) rfl ((xP_less _ _ _ lm ((2 * (m : Int)) + 1) (m : Int) ((2 * m) + 1) m _ HOm.has (by omega) (by omega) (by omega) (by first | omega | (simp only [bS] at hc; omega)) (by first | omega | (simp only [bS] at hc; omega))).mono ?_)
   rintro e w_21 ⟨rfl, x_22⟩
   refine ⟨_, rfl, ?_⟩
   have := x_22.size
   have z_21 := z_9.trans (Mod.of_ext x_22)
   refine vL (nt rfl) <| nK <| ?_
   refine cb rfl (λ h_24 => ?_) (λ h_24 => ?_)
   ·have hex := Hp.dn_exit2 (key := Nod.all) hc1 hlow h_24
    rw [hex] at hup
    refine xt <| xT <| xN rfl <| xK <| xB <| nT <| sg <| vm rfl <| vm rfl <| vL (bgt rfl rfl) <| va rfl <| nK <| rt <| tR (.tmp rfl .nil) <| ?_
    skip
    have HOm := HOm.later x_22
    have HB := HB.later x_22
    exact ⟨⟨_, rfl⟩, HB, by rw [← hup]; exact HOm, z_21⟩
   ·have hnx := Hp.dn_more (key := Nod.all) hc1 hlow h_24
    refine sK <| sg <| vm rfl <| vm rfl <| vm rfl <| ?_
    have HB := HB.later x_22
    have HOm := HOm.later x_22
    refine iv eF92 rfl rfl (meth_val (e := 227) (by kernel_rfl) (HB.one eF90 rfl)) rfl ((xP_swap _ _ _ _ lm (m : Int) ((2 * (m : Int)) + 1) m ((2 * m) + 1) _ HOm hokm (by omega) (by omega) (by omega) (by omega) (by omega)).mono ?_)
    rintro e w_27 ⟨rfl, O_25, m_26⟩
    refine ⟨_, rfl, ?_⟩
    have := m_26.size
    have z_27 := z_21.md m_26 (λ q hq => .inl hq)
    have hokO_25 : ∀ y ∈ Hp.swp lm m ((2 * m) + 1), y.ok := λ y hy => hokm y ((Hp.swp_perm (by omega) (by omega)).subset hy)
    have hlenO_25 : (Hp.swp lm m ((2 * m) + 1)).length = n := by rw [Hp.swp_len]; omega
    refine nK <| rg <| vm rfl <| va rfl <| nl <| nB <| ?_
    have HB := HB.mod m_26 (λ hq => d_1 _ hq rfl)
    exact nI _ _ ⟨Hp.swp lm m ((2 * m) + 1), 2 * m + 1, rfl, rfl, z_27, HB, O_25, by omega, hlenO_25, hokO_25, hnx.symm.trans hup, (λ q hq hb => by (exact d_1 q hq hb))⟩ (by omega) (.cons rfl (.cons rfl (.cons rfl (.cons rfl (.cons (loI rfl (by first | omega | rfl | (simp <;> omega))) .nil)))))
theorem xP_qpush (b : Nat) (A : Option Addr) (c Z : Nat) (l : List Nod) (v0 v1 v2 v3 v4 v5 : Value) (x : Nod) (w : World) (HB : Blk w b [v0, v1, v2, v3, v4, v5, .slice A l.length c] 229 (0, 0)) (HO : Nod.rep.SOwn 250 32 w Z (Rep.blkOf A) A c (l)) (hok : ∀ y ∈ l, y.ok) (hd : ∀ q ∈ Rep.blkOf A, q = b → False) (hx : x.ok) (hbig : l.length ≤ 1000000) (hZ : Z ≤ w.heap.size) :
  Calls Try.prog 203 #[.pointer (some ⟨b, 6, none⟩), .iface 250 (.agg #[.int .i64 x.cell.x, .int .i64 x.cell.y, .int .i64 x.far, .int .i64 x.all])] w (λ e w' => ∃ A' c', e = .returned (.tuple #[]) ∧ Blk w' b [v0, v1, v2, v3, v4, v5, .slice A' (l ++ [x]).length c'] 229 (0, 0) ∧ Nod.rep.SOwn 250 32 w' Z (Rep.blkOf A') A' c' (l ++ [x]) ∧ (∀ q ∈ Rep.blkOf A', q ∈ Rep.blkOf A ∨ w.heap.size ≤ q) ∧ Mod (b :: Rep.blkOf A) w w') := by
 have uO := λ q hq => (HO.lt q hq).2
 have qB := HB.lt
 have hn63 := HO.has.2.1
 have hn64 := HO.has.len_le
 have hn65 := HO.has.1
 refine calls_W (n := 13) Try.func203 rfl rfl rfl ?_
 refine rd [(3, 0), (6, 2), (7, 3), (9, 3)] [0, 1, 2, 3, 4, 5, 6, 7, 8, 9] (by kernel_rfl) (by kernel_rfl) ?_
 refine fw1 rfl (λ _ => mv rfl) <| fw1 rfl (λ _ => mv rfl) <| fw1 rfl (λ _ => nc rfl) <| fq1 rfl (λ _ x => ld rfl ((HB.later x).one eF90 rfl)) <| fw1 rfl (λ _ => mv rfl) <| fw1 rfl (λ _ => tyA (λ w => by kernel_rfl) rfl) <| fx rfl rfl rfl λ w_1 x_2 Q hK => bs (e := 250) (cs := [.int .i64 x.cell.x, .int .i64 x.cell.y, .int .i64 x.far, .int .i64 x.all]) rfl (λ _ => by kernel_rfl) rfl λ w_3 b_4 x_5 l_6 B_7 => hK _ _ ⟨eT x_2 x_5, ?_⟩
 have := x_2.size
 have z_1 := (Mod.rf (b :: Rep.blkOf A) w).trans (Mod.of_ext x_2)
 have := x_5.size
 have z_3 := z_1.trans (Mod.of_ext x_5)
 have q_10 := B_7.lt
 have HO := HO.later (eT x_2 x_5)
 refine fb rfl rfl rfl λ w_11 x_12 Q hK => ap Pq_el_path_open Rep.flat_bare (HO.later x_12) ((Blk.has1 (R := Nod.rep) (by_ := 32) (q := x) B_7 ⟨rfl, hx⟩ (by decide)).keep x_12) rfl rfl (by simp only [List.length_cons, List.length_nil]; omega) (by simp only [List.length_cons, List.length_nil]; omega) (by have := x_12.size; omega) rfl λ w_13 A_14 c_15 m_16 O_17 g_18 n_19 => hK _ _ ?_
 have := x_12.size
 have z_11 := z_3.trans (Mod.of_ext x_12)
 have := m_16.size
 have z_13 := z_11.md m_16 (λ q hq => .inl (List.mem_cons_of_mem _ hq))
 have u_22 := λ q hq => (O_17.lt q hq).2
 have := m_16.size
 refine fw1 rfl (λ _ => nc rfl) <| ?_
 have HB := HB.later (eT x_2 (eT x_5 x_12))
 have HB := HB.mod m_16 (λ hq => hd _ hq rfl)
 refine fb rfl rfl rfl λ w_24 x_25 Q hK => st (new := [v0, v1, v2, v3, v4, v5, .slice A_14 ((l ++ [x]).length) c_15]) rfl rfl (HB.later x_25) rfl eF93 rfl rfl rfl λ w_26 m_27 HB => hK _ _ ?_
 have := x_25.size
 have z_24 := z_13.trans (Mod.of_ext x_25)
 have := m_27.size
 have z_26 := z_24.md m_27 (λ q hq => .inl (by rw [List.mem_singleton.1 hq]; exact List.mem_cons_self))
 have := m_27.size
 refine fn λ w_31 x_32 => ?_
 have := x_32.size
 have z_31 := z_26.trans (Mod.of_ext x_32)
 refine ne <| tR .nil <| ?_
 have O_17 := O_17.later x_25
 have O_17 := O_17.mod m_27 (λ q hq h => by have hb := List.mem_singleton.1 h; exfalso; (exact Or.elim (g_18 q hq) (λ k_34 => by (exact hd q k_34 hb)) (λ k_34 => by omega)))
 have O_17 := O_17.later x_32
 have HB := HB.later x_32
 exact ⟨A_14, c_15, rfl, HB, O_17, (λ q hq => (g_18 q hq).imp id λ h => by omega), z_31⟩
theorem xP_qpop (b : Nat) (A : Option Addr) (n c Z : Nat) (l : List Nod) (v0 v1 v2 v3 v4 v5 : Value) (w : World) (HB : Blk w b [v0, v1, v2, v3, v4, v5, .slice A n c] 229 (0, 0)) (HO : Nod.rep.SOwn 250 32 w Z (Rep.blkOf A) A c (l)) (hok : ∀ y ∈ l, y.ok) (hn : l.length = n) (hd : ∀ q ∈ Rep.blkOf A, q = b → False) (h0 : 0 < n) :
  Calls Try.prog 202 #[.pointer (some ⟨b, 6, none⟩)] w (λ e w' => e = .returned (.iface 250 (.agg ((l.getD (n - 1) default).cells).toArray)) ∧ Blk w' b [v0, v1, v2, v3, v4, v5, .slice A (n - 1) c] 229 (0, 0) ∧ Nod.rep.SOwn 250 32 w' Z (Rep.blkOf A) A c (l.take (n - 1)) ∧ Mod (b :: Rep.blkOf A) w w') := by
 have uO := λ q hq => (HO.lt q hq).2
 have qB := HB.lt
 have hn63 := HO.has.2.1
 have hn64 := HO.has.len_le
 have hn65 := HO.has.1
 refine calls_W (n := 23) Try.func202 rfl rfl rfl ?_
 refine sg <| va rfl <| nK <| sg <| vm rfl <| vL (nc rfl) <| vL (ld rfl (HB.one eF90 rfl)) <| va rfl <| nK <| sg <| vm rfl <| vm rfl <| vL (ln Try.underlying227 rfl) <| vL (bsu rfl rfl (inI (by omega))) <| vL (iA (((n : Int) - 1).toNat) Try.underlying227 eF87 rfl rfl (HO.has.adr (zl (((n : Int) - 1).toNat) (by omega))) (by omega) (by omega)) <| vL (ld rfl (Rep.SHas.elt hcNo (HO.has.adh (zl (((n : Int) - 1).toNat) (by omega))) (get_d (l := l) (u := default) (by omega)) eF89 eF87)) <| al rfl eF94 rfl rfl λ w_1 b_2 x_3 l_4 B_5 => ?_
 have := x_3.size
 have z_1 := (Mod.rf (b :: Rep.blkOf A) w).trans (Mod.of_ext x_3)
 have q_7 := B_5.lt
 refine st (new := [.int .i64 ((l.getD (((n : Int) - 1).toNat) default).cell.x), .int .i64 ((l.getD (((n : Int) - 1).toNat) default).cell.y), .int .i64 ((l.getD (((n : Int) - 1).toNat) default).far), .int .i64 ((l.getD (((n : Int) - 1).toNat) default).all)]) rfl rfl B_5 rfl eF87 rfl rfl rfl λ w_8 m_9 B_5 => ?_
 have := m_9.size
 have z_8 := z_1.md m_9 (λ q hq => .inr (by have := List.mem_singleton.1 hq; omega))
 have := m_9.size
 refine nK <| sg <| vm rfl <| vm rfl <| vm rfl <| vL (ln Try.underlying227 rfl) <| vL (bsu rfl rfl (inI (by omega))) <| vL (sP (n - 1) (n - 1) Try.underlying227 eF87 rfl rfl (by omega) (by omega) rfl) <| vL (nc rfl) <| ?_
 have HB := HB.later x_3
 have HB := HB.mod m_9 (nm1 (by omega))
 refine st (new := [v0, v1, v2, v3, v4, v5, .slice A (n - 1) c]) rfl rfl HB rfl eF93 rfl rfl rfl λ w_12 m_13 HB => ?_
 have := m_13.size
 have z_12 := z_8.md m_13 (λ q hq => .inl (by rw [List.mem_singleton.1 hq]; exact List.mem_cons_self))
 have := m_13.size
 refine nK <| sg <| ?_
 have B_5 := B_5.mod m_13 (nm1 (by omega))
 refine vL (ld rfl (B_5.all eF89 eF87)) <| vL (mkI (λ w => by kernel_rfl) rfl) <| va rfl <| nK <| rt <| tR (.tmp rfl .nil) <| ?_
 have HO := HO.later x_3
 have HO := HO.mod m_9 (fk1 uO (by omega))
 have HO := HO.mod m_13 (λ q hq h => by have hb := List.mem_singleton.1 h; exfalso; (exact hd q hq hb))
 exact ⟨by rw [show ((n : Int) - 1).toNat = n - 1 by omega]; rfl, HB, Rep.SOwn.cut HO Rep.flat_bare (n - 1) (by omega), z_12⟩
theorem xP_push (b : Nat) (A : Option Addr) (c Z : Nat) (l : List Nod) (v0 v1 v2 v3 v4 v5 : Value) (x : Nod) (w : World) (HB : Blk w b [v0, v1, v2, v3, v4, v5, .slice A l.length c] 229 (0, 0)) (HO : Nod.rep.SOwn 250 32 w Z (Rep.blkOf A) A c (l)) (hok : ∀ y ∈ l, y.ok) (hd : ∀ q ∈ Rep.blkOf A, q = b → False) (hx : x.ok) (hbig : l.length ≤ 1000000) (hZ : Z ≤ w.heap.size) :
  Calls Try.prog 177 #[.iface 248 (.pointer (some ⟨b, 6, none⟩)), .iface 250 (.agg #[.int .i64 x.cell.x, .int .i64 x.cell.y, .int .i64 x.far, .int .i64 x.all])] w (λ e w' => ∃ A' c', e = .returned (.tuple #[]) ∧ Blk w' b [v0, v1, v2, v3, v4, v5, .slice A' (Hp.push Nod.all l x).length c'] 229 (0, 0) ∧ Nod.rep.SOwn 250 32 w' Z (Rep.blkOf A') A' c' (Hp.push Nod.all l x) ∧ (∀ q ∈ Rep.blkOf A', q ∈ Rep.blkOf A ∨ w.heap.size ≤ q) ∧ Mod (b :: Rep.blkOf A) w w') := by
 have uO := λ q hq => (HO.lt q hq).2
 have qB := HB.lt
 have hn63 := HO.has.2.1
 have hn64 := HO.has.len_le
 have hn65 := HO.has.1
 refine calls_W (n := 12) Try.func177 rfl rfl rfl ?_
 refine sg <| vm rfl <| vm rfl <| iv eF95 rfl rfl (by unfold Meth; kernel_rfl) rfl ((xP_qpush b A c Z l v0 v1 v2 v3 v4 v5 x _ HB HO hok hd hx (by omega) hZ).mono ?_)
 rintro e w_2 ⟨A1, c1, rfl, HB1, HO1, hg1, m_1⟩
 refine ⟨_, rfl, ?_⟩
 have := m_1.size
 have z_2 := (Mod.rf (b :: Rep.blkOf A) w).md m_1 (λ q hq => .inl hq)
 have hll : (l ++ [x]).length = l.length + 1 := by rw [List.length_append]; rfl
 have uO1 := λ q hq => (HO1.lt q hq).2
 have qB1 := HB1.lt
 have hd1 : ∀ q ∈ Rep.blkOf A1, q = b → False := λ q hq e => (hg1 q hq).elim (λ h => hd q h e) (λ h => by omega)
 have hok1 : ∀ y ∈ l ++ [x], y.ok := λ y hy => (List.mem_append.1 hy).elim (hok y) λ h => by rw [List.mem_singleton.1 h]; exact hx
 refine nK <| rg <| vm rfl <| vm rfl <| iv eF96 rfl rfl (meth_val (e := 227) (by kernel_rfl) (HB1.one eF90 rfl)) rfl ((xP_len _ ((l ++ [x]).length) _ _).mono ?_)
 rintro e w_4 ⟨rfl, x_5⟩
 refine ⟨_, rfl, ?_⟩
 have := x_5.size
 have z_4 := z_2.trans (Mod.of_ext x_5)
 refine vL (bsu rfl rfl (inI (by omega))) <| ?_
 have HO1 := HO1.later x_5
 have HB1 := HB1.later x_5
 refine ca eF97 rfl rfl (((show Calls _ _ #[_, .int .i64 (((l ++ [x]).length : Int) - 1)] _ _ from (by rw [show ((l ++ [x]).length : Int) - 1 = (l.length : Int) by rw [hll]; omega]; exact xP_up b A1 (l ++ [x]).length c1 Z (l ++ [x]) v0 v1 v2 v3 v4 v5 l.length _ HB1 HO1 hok1 rfl hd1 (by omega)))).mono ?_)
 rintro e w_8 ⟨rfl, HB2, HO2, m_7⟩
 refine ⟨_, rfl, ?_⟩
 have := m_7.size
 have z_8 := z_4.md m_7 (λ q hq => (hg1 q hq).imp (List.mem_cons_of_mem _) λ h => by omega)
 refine nl <| ne <| tR .nil <| ?_
 exact ⟨A1, c1, rfl, by rw [show (Hp.push Nod.all l x).length = (l ++ [x]).length by rw [Hp.push_len, hll]]; exact HB2, HO2, hg1, z_8⟩
theorem xP_pop (b : Nat) (A : Option Addr) (n c Z : Nat) (l : List Nod) (v0 v1 v2 v3 v4 v5 : Value) (w : World) (HB : Blk w b [v0, v1, v2, v3, v4, v5, .slice A n c] 229 (0, 0)) (HO : Nod.rep.SOwn 250 32 w Z (Rep.blkOf A) A c (l)) (hok : ∀ y ∈ l, y.ok) (hn : l.length = n) (hd : ∀ q ∈ Rep.blkOf A, q = b → False) (h0 : 0 < n) (hbig : n ≤ 1000000) :
  Calls Try.prog 179 #[.iface 248 (.pointer (some ⟨b, 6, none⟩))] w (λ e w' => e = .returned (.iface 250 (.agg (l.getD 0 default).cells.toArray)) ∧ Blk w' b [v0, v1, v2, v3, v4, v5, .slice A (Hp.popL Nod.all l).length c] 229 (0, 0) ∧ Nod.rep.SOwn 250 32 w' Z (Rep.blkOf A) A c (Hp.popL Nod.all l) ∧ Mod (b :: Rep.blkOf A) w w') := by
 have uO := λ q hq => (HO.lt q hq).2
 have qB := HB.lt
 have hn63 := HO.has.2.1
 have hn64 := HO.has.len_le
 have hn65 := HO.has.1
 refine calls_W (n := 15) Try.func179 rfl rfl rfl ?_
 refine sg <| va rfl <| nK <| sg <| vm rfl <| iv eF96 rfl rfl (meth_val (e := 227) (by kernel_rfl) (HB.one eF90 rfl)) rfl ((xP_len _ n _ _).mono ?_)
 rintro e w_1 ⟨rfl, x_2⟩
 refine ⟨_, rfl, ?_⟩
 have := x_2.size
 have z_1 := (Mod.rf (b :: Rep.blkOf A) w).trans (Mod.of_ext x_2)
 refine vL (bsu rfl rfl (inI (by omega))) <| va rfl <| nK <| sg <| vm rfl <| vm rfl <| ?_
 have HB := HB.later x_2
 have HO := HO.later x_2
 refine iv eF92 rfl rfl (meth_val (e := 227) (by kernel_rfl) (HB.one eF90 rfl)) rfl ((xP_swap _ _ _ _ l 0 ((n : Int) - 1) 0 (n - 1) _ HO hok (by omega) (by omega) (by omega) (by omega) (by omega)).mono ?_)
 rintro e w_6 ⟨rfl, O_4, m_5⟩
 refine ⟨_, rfl, ?_⟩
 have := m_5.size
 have z_6 := z_1.md m_5 (λ q hq => .inl (List.mem_cons_of_mem _ hq))
 have hokO_4 : ∀ y ∈ Hp.swp l 0 (n - 1), y.ok := λ y hy => hok y ((Hp.swp_perm (by omega) (by omega)).subset hy)
 have hlenO_4 : (Hp.swp l 0 (n - 1)).length = n := by rw [Hp.swp_len]; omega
 refine nK <| sg <| vm rfl <| vm rfl <| ?_
 have HB := HB.mod m_5 (λ hq => hd _ hq rfl)
 refine ca eF98 rfl rfl (((show Calls _ _ #[_, .int .i64 0, .int .i64 ((n : Int) - 1)] _ _ from (by rw [show (n : Int) - 1 = ((n - 1 : Nat) : Int) by omega]; exact xP_down b A n c Z (Hp.swp l 0 (n - 1)) v0 v1 v2 v3 v4 v5 0 (n - 1) _ HB O_4 hokO_4 (by omega) hd (by omega) (by omega) hbig))).mono ?_)
 rintro e w_10 ⟨⟨vb_, rfl⟩, HB1, O_8, m_9⟩
 refine ⟨_, rfl, ?_⟩
 have := m_9.size
 have z_10 := z_6.md m_9 (λ q hq => .inl (List.mem_cons_of_mem _ hq))
 have hokO_8 : ∀ y ∈ Hp.downF Nod.all (n - 1) (Hp.swp l 0 (n - 1)) 0, y.ok := λ y hy => hokO_4 y ((Hp.downF_perm _ _ _ _ (Nat.le_refl _) (by omega) (by omega)).subset hy)
 have hlenO_8 : (Hp.downF Nod.all (n - 1) (Hp.swp l 0 (n - 1)) 0).length = n := by rw [Hp.downF_len _ _ _ _ (Nat.le_refl _)]; omega
 have uO1 := λ q hq => (O_8.lt q hq).2
 refine nK <| sg <| vm rfl <| iv eF99 rfl rfl (by unfold Meth; kernel_rfl) rfl ((xP_qpop b A n c Z (Hp.downF Nod.all (n - 1) (Hp.swp l 0 (n - 1)) 0) v0 v1 v2 v3 v4 v5 _ HB1 O_8 hokO_8 (by omega) hd h0).mono ?_)
 rintro e w_13 ⟨rfl, HB9, HO9, m_12⟩
 refine ⟨_, rfl, ?_⟩
 have := m_12.size
 have z_13 := z_10.md m_12 (λ q hq => .inl hq)
 refine va rfl <| nK <| rt <| tR (.tmp rfl .nil) <| ?_
 subst hn; exact ⟨by rw [← Hp.popD_last (key := Nod.all) h0]; rfl, by rw [Hp.popL_len]; exact HB9, HO9, z_13⟩
end
section
open Go.RowKit
def pcK (f : Fld) (c : Cel) : Int := if f.isIn c then costK (f.place c) else 0
theorem cost_ground {f : Fld} {c : Cel} (hf : f.chk = 0) (hc : f.isIn c = true) : (costE (f.place c) == 0) = f.ground c ∧ (f.ground c = true → costK (f.place c) = f.kost c) := by
 obtain ⟨_, _, _, _, _, g6⟩ := Fld.good hf
 have hp := g6 (f.place c) (by unfold Fld.place; exact mem_dd (Fld.at_lt hf hc).1)
 unfold Fld.ground
 rw [hc]
 have : f.place c = 0 ∨ f.place c = 1 ∨ f.place c = 2 ∨ f.place c = 3 := by omega
 unfold Fld.kost costE costK
 rcases this with h | h | h | h <;> rw [h] <;> simp
theorem pc_out {f : Fld} {c : Cel} (hf : f.chk = 0) (h : ¬ f.atE c = 0) : pcK f c = 0 ∧ f.ground c = false := by
 have hc : f.isIn c = false := by
  cases hc : f.isIn c with
  | false => rfl
  | true => exact absurd (Fld.at_in hf hc).1 h
 unfold pcK Fld.ground; rw [hc]; exact ⟨rfl, rfl⟩
theorem pc_in {f : Fld} {c : Cel} (hf : f.chk = 0) (h : f.atE c = 0) : pcK f c = costK (f.atV c) ∧ f.ground c = (costE (f.atV c) == 0) := by
 have hc := atE_zero hf h
 rw [(Fld.at_in hf hc).2]
 unfold pcK; rw [hc]; exact ⟨rfl, (cost_ground hf hc).1.symm⟩
theorem pcK_ground {f : Fld} {c : Cel} (hf : f.chk = 0) (h : f.ground c = true) : pcK f c = f.kost c := by
 have hc := Fld.ground_in h
 unfold pcK; rw [if_pos hc]; exact (cost_ground hf hc).2 h
theorem fcost_any (p : Int) (w : World) :
  Calls Try.prog 172 #[.int .i64 p] w (λ e w' => e = .returned (.tuple #[.int .i64 (costK p), .int .i64 (costE p)]) ∧ Ext w w') := by
 refine calls_W (n := 12) Try.func172 rfl rfl rfl ?_
 refine sg <| va rfl <| va rfl <| nK <| sq <| sg <| vm rfl <| nK <| bk <| sq <| sg <| vL (beq rfl rfl) <| va rfl <| nK <| ?_
 refine ceq rfl (λ h_1 => ?_) (λ h_1 => ?_)
 ·have k_2 : (p == 0) = true := by simpa using h_1
  refine sK <| ?_
  refine ceq rfl (λ h_3 => ?_) (λ h_3 => ?_)
  ·have k_4 : (p == 0) = true := by simpa using h_3
   refine sg <| va rfl <| va rfl <| nK <| rt <| tB <| tT <| tR (.tmp rfl (.tmp rfl .nil)) <| ?_
   exact ⟨by simp_all [costK, costE, tup], (Ext.rf w)⟩
  ·have k_5 : (p == 0) = false := by simpa using h_3
   refine sg <| vL (beq rfl rfl) <| va rfl <| nK <| ?_
   refine ceq rfl (λ h_6 => ?_) (λ h_6 => ?_)
   ·have k_7 : (p == 2) = true := by simpa using h_6
    refine sg <| va rfl <| va rfl <| nK <| rt <| tB <| tT <| tR (.tmp rfl (.tmp rfl .nil)) <| ?_
    exact ⟨by simp_all [costK, costE, tup], (Ext.rf w)⟩
   ·have k_8 : (p == 2) = false := by simpa using h_6
    refine sg <| vL (beq rfl rfl) <| va rfl <| nK <| ?_
    refine ceq rfl (λ h_9 => ?_) (λ h_9 => ?_)
    ·have k_10 : (p == 1) = true := by simpa using h_9
     refine sg <| va rfl <| va rfl <| nK <| rt <| tB <| tT <| tR (.tmp rfl (.tmp rfl .nil)) <| ?_
     exact ⟨by simp_all [costK, costE, tup], (Ext.rf w)⟩
    ·have k_11 : (p == 1) = false := by simpa using h_9
     refine sk <| nB <| nT <| sg <| va rfl <| va rfl <| nK <| rt <| tR (.tmp rfl (.tmp rfl .nil)) <| ?_
     exact ⟨by simp_all [costK, costE, tup], (Ext.rf w)⟩
 ·have k_12 : (p == 0) = false := by simpa using h_1
  refine rg <| vL (beq rfl rfl) <| va rfl <| nK <| ?_
  refine ceq rfl (λ h_13 => ?_) (λ h_13 => ?_)
  ·have k_14 : (p == 3) = true := by simpa using h_13
   refine sg <| va rfl <| va rfl <| nK <| rt <| tB <| tT <| tR (.tmp rfl (.tmp rfl .nil)) <| ?_
   exact ⟨by simp_all [costK, costE, tup], (Ext.rf w)⟩
  ·have k_15 : (p == 3) = false := by simpa using h_13
   refine sg <| vL (beq rfl rfl) <| va rfl <| nK <| ?_
   refine ceq rfl (λ h_16 => ?_) (λ h_16 => ?_)
   ·have k_17 : (p == 2) = true := by simpa using h_16
    refine sg <| va rfl <| va rfl <| nK <| rt <| tB <| tT <| tR (.tmp rfl (.tmp rfl .nil)) <| ?_
    exact ⟨by simp_all [costK, costE, tup], (Ext.rf w)⟩
   ·have k_18 : (p == 2) = false := by simpa using h_16
    refine sg <| vL (beq rfl rfl) <| va rfl <| nK <| ?_
    refine ceq rfl (λ h_19 => ?_) (λ h_19 => ?_)
    ·have k_20 : (p == 1) = true := by simpa using h_19
     refine sg <| va rfl <| va rfl <| nK <| rt <| tB <| tT <| tR (.tmp rfl (.tmp rfl .nil)) <| ?_
     exact ⟨by simp_all [costK, costE, tup], (Ext.rf w)⟩
    ·have k_21 : (p == 1) = false := by simpa using h_19
     refine sk <| nB <| nT <| sg <| va rfl <| va rfl <| nK <| rt <| tR (.tmp rfl (.tmp rfl .nil)) <| ?_
     exact ⟨by simp_all [costK, costE, tup], (Ext.rf w)⟩
theorem pindex_any (w0 : World) (f : Fld) (P F A : Option Addr) (pc cf c b : Nat) (far : List Int) (l : List Nod) (to_ : Cel) (p : Cel) (w : World) (hx0 : Ext w0 w) (hf : f.chk = 0) (hP : repI.SHas 8 w0 P pc f.places) (HB : Blk w b [.int .i64 f.wide, .int .i64 f.high, .slice P f.places.length pc, .int .i64 to_.x, .int .i64 to_.y, .slice F far.length cf, .slice A l.length c] 229 (0, 0)) (hp : -500 ≤ p.x ∧ p.x ≤ 500 ∧ -500 ≤ p.y ∧ p.y ≤ 500) :
  Calls Try.prog 159 #[.pointer (some ⟨b, 0, none⟩), .agg #[.int .i64 p.x, .int .i64 p.y]] w (λ e w' => e = .returned (.int .i64 (p.y * f.wide + p.x)) ∧ Ext w w') := by
 have qB := HB.lt
 obtain ⟨g1, g2, g3, g4, g5, g6⟩ := Fld.good hf
 have q0 := hx0.size
 refine calls_W (n := 16) Try.func159 rfl rfl rfl ?_
 refine sg <| bx rfl rfl rfl rfl λ w_1 b_2 x_3 l_4 B_5 => ?_
 have := x_3.size
 have z_1 := eT hx0 x_3
 have q_7 := B_5.lt
 refine va rfl <| nK <| sq <| ?_
 refine rd [(1, 0), (6, 0), (9, 0)] [0, 1, 2, 3, 4, 5, 6, 7, 8, 9, 10, 11] (by kernel_rfl) (by kernel_rfl) ?_
 refine fw1 rfl (λ _ => fa eF6 rfl) <| fq1 rfl (λ _ x => ld rfl ((B_5.later x).one eF5 rfl)) <| fw1 rfl (λ _ => mv rfl) <| fw1 rfl (λ _ => nc rfl) <| fw1 rfl (λ _ => fa eF100 rfl) <| fw1 rfl (λ _ => fa eF19 rfl) <| ?_
 have HB := HB.later x_3
 refine fq1 rfl (λ _ x => ld rfl ((HB.later x).one eF5 rfl)) <| fw1 rfl (λ _ => bmu rfl rfl (inI ((by have := Int.mul_le_mul (show p.y ≤ 500 by omega) g2 (by omega) (by omega); have := Int.mul_le_mul (show -p.y ≤ 500 by omega) g2 (by omega) (by omega); rw [Int.neg_mul] at this; omega)))) <| fw1 rfl (λ _ => fa eF4 rfl) <| fq1 rfl (λ _ x => ld rfl ((B_5.later x).one eF5 rfl)) <| fw1 rfl (λ _ => bad rfl rfl (inI ((by have := Int.mul_le_mul (show p.y ≤ 500 by omega) g2 (by omega) (by omega); have := Int.mul_le_mul (show -p.y ≤ 500 by omega) g2 (by omega) (by omega); rw [Int.neg_mul] at this; omega)))) <| fw1 rfl (λ _ => as_ rfl) <| fn λ w_8 x_9 => ?_
 have := x_9.size
 have z_8 := eT z_1 x_9
 refine nT <| rt <| tR (.tmp rfl .nil) <| ?_
 exact ⟨rfl, eT x_3 x_9⟩
theorem pcost_any (w0 : World) (f : Fld) (P F A : Option Addr) (pc cf c b : Nat) (far : List Int) (l : List Nod) (to_ : Cel) (p : Cel) (w : World) (hx0 : Ext w0 w) (hf : f.chk = 0) (hP : repI.SHas 8 w0 P pc f.places) (HB : Blk w b [.int .i64 f.wide, .int .i64 f.high, .slice P f.places.length pc, .int .i64 to_.x, .int .i64 to_.y, .slice F far.length cf, .slice A l.length c] 229 (0, 0)) :
  Calls Try.prog 157 #[.pointer (some ⟨b, 0, none⟩), .agg #[.int .i64 p.x, .int .i64 p.y]] w (λ e w' => e = .returned (.tuple #[.int .i64 (pcK f p), .bool (f.ground p)]) ∧ Ext w w') := by
 have qB := HB.lt
 obtain ⟨g1, g2, g3, g4, g5, g6⟩ := Fld.good hf
 have q0 := hx0.size
 refine calls_W (n := 28) Try.func157 rfl rfl rfl ?_
 refine sg <| bx rfl rfl rfl rfl λ w_1 b_2 x_3 l_4 B_5 => ?_
 have := x_3.size
 have z_1 := eT hx0 x_3
 have q_7 := B_5.lt
 refine va rfl <| va rfl <| nK <| sq <| ?_
 refine rd [(3, 0), (4, 0), (5, 0)] [0, 1, 2, 3, 4, 5, 6, 7, 8, 9, 10] (by kernel_rfl) (by kernel_rfl) ?_
 refine fw1 rfl (λ _ => mv rfl) <| fw1 rfl (λ _ => nc rfl) <| fw1 rfl (λ _ => fa eF100 rfl) <| ?_
 have HB := HB.later x_3
 refine fq1 rfl (λ _ x => ld rfl ((HB.later x).par [.int .i64 f.wide, .int .i64 f.high, .slice P f.places.length pc] eF14 eF15 rfl)) <| fq1 rfl (λ _ x => ld rfl ((B_5.later x).all eF7 eF8)) <| fc rfl rfl eF16 rfl (λ _ x => fldAt2 f p _ _ _ (hP.keep (eT z_1 x))) rfl <| fw1 rfl (λ _ => mv rfl) <| fw1 rfl (λ _ => ex rfl rfl) <| fw1 rfl (λ _ => ex rfl rfl) <| fw1 rfl (λ _ => as_ rfl) <| fw1 rfl (λ _ => as_ rfl) <| fn λ w_8 x_9 => ?_
 have := x_9.size
 have z_8 := eT z_1 x_9
 refine nT <| sq <| sg <| vm rfl <| vL (bne rfl rfl) <| nK <| ?_
 refine cne rfl (λ h_11 => ?_) (λ h_11 => ?_)
 ·have hpc := pc_out hf h_11
  refine sg <| va rfl <| va rfl <| nK <| rt <| tT <| tR (.tmp rfl (.tmp rfl .nil)) <| ?_
  exact ⟨by rw [hpc.1, hpc.2]; rfl, eT x_3 x_9⟩
 ·have hpc := pc_in hf h_11
  refine sK <| sg <| vm rfl <| ca eF101 rfl rfl ((fcost_any (f.atV p) _).mono ?_)
  rintro e w_12 ⟨rfl, x_13⟩
  refine ⟨_, rfl, ?_⟩
  have := x_13.size
  have z_12 := eT z_8 x_13
  refine vm rfl <| vL (ex rfl rfl) <| vL (ex rfl rfl) <| va rfl <| va rfl <| nK <| sg <| vm rfl <| vm rfl <| vL (beq rfl rfl) <| va rfl <| va rfl <| nK <| rt <| tR (.tmp rfl (.tmp rfl .nil)) <| ?_
  exact ⟨by rw [hpc.1, hpc.2]; rfl, eT (eT x_3 x_9) x_13⟩
theorem psides_any (p : Cel) (w : World) (hp : -100000 ≤ p.x ∧ p.x ≤ 100000 ∧ -100000 ≤ p.y ∧ p.y ≤ 100000) :
  Calls Try.prog 158 #[.agg #[.int .i64 p.x, .int .i64 p.y]] w (λ e w' => e = .returned (.agg #[.int .i64 p.x, .int .i64 (p.y - 1), .int .i64 (p.x - 1), .int .i64 p.y, .int .i64 (p.x + 1), .int .i64 p.y, .int .i64 p.x, .int .i64 (p.y + 1)]) ∧ Ext w w') := by
 refine calls_W (n := 28) Try.func158 rfl rfl rfl ?_
 refine sg <| bx rfl rfl rfl rfl λ w_1 b_2 x_3 l_4 B_5 => ?_
 have := x_3.size
 have z_1 := eT (Ext.rf w) x_3
 have q_7 := B_5.lt
 refine al rfl eF102 rfl rfl λ w_8 b_9 x_10 l_11 B_12 => ?_
 have := x_10.size
 have z_8 := eT z_1 x_10
 have q_14 := B_12.lt
 refine nK <| sg <| vL (fa eF4 rfl) <| ?_
 have B_5 := B_5.later x_10
 refine vL (ld rfl (B_5.one eF5 rfl)) <| vL (fa eF6 rfl) <| vL (ld rfl (B_5.one eF5 rfl)) <| vL (bsu rfl rfl (inI (by omega))) <| vL (v := .agg #[.int .i64 p.x, .int .i64 (p.y - 1)]) (bd rfl (by kernel_rfl)) <| vL (fa eF4 rfl) <| vL (ld rfl (B_5.one eF5 rfl)) <| vL (bsu rfl rfl (inI (by omega))) <| vL (fa eF6 rfl) <| vL (ld rfl (B_5.one eF5 rfl)) <| vL (v := .agg #[.int .i64 (p.x - 1), .int .i64 p.y]) (bd rfl (by kernel_rfl)) <| vL (fa eF4 rfl) <| vL (ld rfl (B_5.one eF5 rfl)) <| vL (bad rfl rfl (inI (by omega))) <| vL (fa eF6 rfl) <| vL (ld rfl (B_5.one eF5 rfl)) <| vL (v := .agg #[.int .i64 (p.x + 1), .int .i64 p.y]) (bd rfl (by kernel_rfl)) <| vL (fa eF4 rfl) <| vL (ld rfl (B_5.one eF5 rfl)) <| vL (fa eF6 rfl) <| vL (ld rfl (B_5.one eF5 rfl)) <| vL (bad rfl rfl (inI (by omega))) <| vL (v := .agg #[.int .i64 p.x, .int .i64 (p.y + 1)]) (bd rfl (by kernel_rfl)) <| vL (v := .agg #[.int .i64 p.x, .int .i64 (p.y - 1), .int .i64 (p.x - 1), .int .i64 p.y, .int .i64 (p.x + 1), .int .i64 p.y, .int .i64 p.x, .int .i64 (p.y + 1)]) (bd rfl (by kernel_rfl)) <| ?_
 refine st (new := [.int .i64 p.x, .int .i64 (p.y - 1), .int .i64 (p.x - 1), .int .i64 p.y, .int .i64 (p.x + 1), .int .i64 p.y, .int .i64 p.x, .int .i64 (p.y + 1)]) rfl rfl B_12 rfl eF103 rfl rfl rfl λ w_15 m_16 B_12 => ?_
 have := m_16.size
 have z_15 := Ext.mod z_8 m_16 (ge1 (by omega))
 have := m_16.size
 refine nK <| rt <| tR (.cell rfl (B_12.all eF104 eF103) .nil) <| ?_
 exact ⟨rfl, z_15⟩
end
section
open Go.RowKit
theorem fU {P : Program} {n : Nat} {ops : Array Oper} {Q : Exit → Act → World → Prop} {kd : Nat → Nat} {τ : List Nat} {E : List (Nat × Value)} {w0 : World} {i d : Nat} {op : Op} {ty : TypeId} {pos : String} {af : Array Edge} {j : Nat} {q : Bool} {u : Value} {oj : Oper} {dj : Nat} (hi : ops[i]? = some ⟨some d, op, ty, pos, af, some (j, q)⟩) (hk : Nat.ble (kd i) 1 = true) (hj : ops[j]? = some oj) (hdj : oj.dst = some dj) (hb : look E dj = some (gv false u)) (hd : Nat.blt d n = true)
  (h : FL P n ops Q kd τ ((d, undef) :: E) w0) : FL P n ops Q kd (i :: τ) E w0 := λ a ha => by
 have h1 := ha.g _ _ hb
 simp only [gv, Bool.false_eq_true, if_false] at h1
 have hw : Region.wanted ⟨some d, op, ty, pos, af, some (j, q)⟩ (yielded ops a.tmps) = false := by simp [Region.wanted, yielded, hj, hdj, h1, undef]
 have hk := Nat.le_of_ble_eq_true hk
 rcases Nat.lt_or_ge 0 (kd i) with h0 | h0
 ·exact ⟨_, hi, .inr (.inl ⟨by omega, undef, .inr ⟨hw, rfl⟩, h _ (ha.put hd _)⟩)⟩
 ·exact ⟨_, hi, .inl ⟨by omega, undef, .inr ⟨hw, rfl⟩, h _ (ha.put hd _)⟩⟩
theorem vU {P : Program} {n : Nat} {ops : Array Oper} {Q : Exit → Act → World → Prop} {E : List (Nat × Value)} {w : World} {ty : TypeId} {pos : String} {af : Array Edge} {rest : List Oper} {d : Nat} {op : Op} {j : Nat} {q c : Bool} {u : Value} {oj : Oper} {dj : Nat} (hj : ops[j]? = some oj) (hdj : oj.dst = some dj) (hb : look E dj = some (gv c u)) (hc : c = false) (hd : Nat.blt d n = true)
  (h : WL P n ops Q rest ((d, undef) :: E) w) : WL P n ops Q (⟨some d, op, ty, pos, af, some (j, q)⟩ :: rest) E w :=
 wl_if (c := false) (λ a ha => by
  have h1 := ha.g _ _ hb
  subst hc
  simp only [gv, Bool.false_eq_true, if_false] at h1
  simp [Region.wanted, yielded, hj, hdj, h1, undef]) (λ h => nomatch h) (λ _ a ha => h _ (ha.put hd undef))
end
section
open Go.RowKit
theorem ppush_any (w0 : World) (f : Fld) (P F A : Option Addr) (pc cf c b : Nat) (far : List Int) (l : List Nod) (to_ : Cel) (p : Cel) (d : Int) (w : World) (hx0 : Ext w0 w) (hf : f.chk = 0) (hP : repI.SHas 8 w0 P pc f.places) (HB : Blk w b [.int .i64 f.wide, .int .i64 f.high, .slice P f.places.length pc, .int .i64 to_.x, .int .i64 to_.y, .slice F far.length cf, .slice A l.length c] 229 (0, 0)) (hb : w0.heap.size ≤ b) (HQ : Nod.rep.SOwn 250 32 w w0.heap.size (Rep.blkOf A) A c l) (hdQ : ∀ q ∈ Rep.blkOf A, q = b → False) (hok : ∀ y ∈ l, y.ok) (hl : l.length ≤ 1000000) (hp : -500 ≤ p.x ∧ p.x ≤ 500 ∧ -500 ≤ p.y ∧ p.y ≤ 500) (ht : -500 ≤ to_.x ∧ to_.x ≤ 500 ∧ -500 ≤ to_.y ∧ to_.y ≤ 500) (hd : 0 ≤ d ∧ d ≤ 100000) :
  Calls Try.prog 170 #[.pointer (some ⟨b, 0, none⟩), .agg #[.int .i64 p.x, .int .i64 p.y], .int .i64 d] w (λ e w' => ∃ A' c', e = .returned (.tuple #[]) ∧ Blk w' b [.int .i64 f.wide, .int .i64 f.high, .slice P f.places.length pc, .int .i64 to_.x, .int .i64 to_.y, .slice F far.length cf, .slice A' ((Hp.push Nod.all l ⟨p, d, d + Fld.est to_ p⟩).length) c'] 229 (0, 0) ∧ Nod.rep.SOwn 250 32 w' w0.heap.size (Rep.blkOf A') A' c' (Hp.push Nod.all l ⟨p, d, d + Fld.est to_ p⟩) ∧ (∀ q ∈ Rep.blkOf A', q = b → False) ∧ (∀ q ∈ Rep.blkOf A', q ∈ Rep.blkOf A ∨ w.heap.size ≤ q) ∧ Mod (b :: Rep.blkOf A) w w') := by
 have qB := HB.lt
 obtain ⟨g1, g2, g3, g4, g5, g6⟩ := Fld.good hf
 have q0 := hx0.size
 have uHQ := λ q hq => (HQ.lt q hq).2
 have hll := HQ.has.len_le
 have hzb : ∀ q ∈ b :: Rep.blkOf A, w0.heap.size ≤ q := λ q hq => (List.mem_cons.1 hq).elim (λ h => by omega) λ h => (HQ.lt q h).1
 have hsz1 := sz_bd (to_.x - p.x)
 have hsz2 := sz_bd (to_.y - p.y)
 refine calls_W (n := 32) Try.func170 rfl rfl rfl ?_
 refine sg <| bx rfl rfl rfl rfl λ w_1 b_2 x_3 l_4 B_5 => ?_
 have := x_3.size
 have z_1 := (Mod.rf (b :: Rep.blkOf A) w).trans (Mod.of_ext x_3)
 have q_7 := B_5.lt
 refine nK <| sq <| ?_
 refine rd [(0, 0), (4, 0), (5, 0)] [0, 1, 2, 3, 4, 5, 6, 7, 8, 9, 10, 11, 12] (by kernel_rfl) (by kernel_rfl) ?_
 refine fq1 rfl (λ _ x => ld rfl ((B_5.later x).all eF7 eF8)) <| fw1 rfl (λ _ => mv rfl) <| fw1 rfl (λ _ => nc rfl) <| fw1 rfl (λ _ => fa eF105 rfl) <| ?_
 have HB := HB.later x_3
 refine fq1 rfl (λ _ x => ld rfl ((HB.later x).par [.int .i64 to_.x, .int .i64 to_.y] eF7 eF8 rfl)) <| fc rfl rfl eF106 rfl (λ _ x => apart_in p to_ _ (by omega) (by omega)) rfl <| fw1 rfl (λ _ => mv rfl) <| fw1 rfl (λ _ => ex rfl rfl) <| fw1 rfl (λ _ => ex rfl rfl) <| fw1 rfl (λ _ => ex rfl rfl) <| fw1 rfl (λ _ => as_ rfl) <| fw1 rfl (λ _ => as_ rfl) <| fw1 rfl (λ _ => as_ rfl) <| fn λ w_8 x_9 => ?_
 have := x_9.size
 have z_8 := z_1.trans (Mod.of_ext x_9)
 refine nT <| ?_
 refine rd [(4, 0), (12, 3)] [0, 1, 2, 3, 4, 5, 6, 7, 8, 9, 10, 11, 12] (by kernel_rfl) (by kernel_rfl) ?_
 refine fw1 rfl (λ _ => mv rfl) <| fw1 rfl (λ _ => nc rfl) <| fw1 rfl (λ _ => fa eF107 rfl) <| fw1 rfl (λ _ => mkI (λ w => by kernel_rfl) rfl) <| ?_
 have B_5 := B_5.later x_9
 refine fq1 rfl (λ _ x => ld rfl ((B_5.later x).all eF7 eF8)) <| fw1 rfl (λ _ => mv rfl) <| fw1 rfl (λ _ => mv rfl) <| fw1 rfl (λ _ => mv rfl) <| fw1 rfl (λ _ => bmu rfl rfl (inI (by omega))) <| fw1 rfl (λ _ => bad rfl rfl (inI (by omega))) <| fw (v := .agg #[.int .i64 p.x, .int .i64 p.y, .int .i64 d, .int .i64 (d + (2 * (sz (to_.x - p.x) + sz (to_.y - p.y))))]) rfl rfl (λ _ => bd rfl (by kernel_rfl)) rfl <| fw1 rfl (λ _ => mkI (λ w => by kernel_rfl) rfl) <| ?_
 have HQ := HQ.later (eT x_3 x_9)
 have HB := HB.later x_9
 refine fb rfl rfl rfl λ w_11 x_12 Q hK => ca eF108 rfl rfl ((xP_push b A c w0.heap.size l (.int .i64 f.wide) (.int .i64 f.high) (.slice P f.places.length pc) (.int .i64 to_.x) (.int .i64 to_.y) (.slice F far.length cf) ((⟨⟨p.x, p.y⟩, d, d + (2 * (sz (to_.x - p.x) + sz (to_.y - p.y)))⟩ : Nod)) _ (HB.later x_12) (HQ.later x_12) hok hdQ ⟨okI_iff.2 (by dsimp only; omega), okI_iff.2 (by dsimp only; omega), okI_iff.2 (by dsimp only; omega), okI_iff.2 (by dsimp only; omega)⟩ hl (by have := x_12.size; omega)).mono ?_)
 rintro e w_15 ⟨A13, c13, rfl, HB13, HQ13, hg13, m_14⟩
 refine ⟨_, rfl, hK _ _ ?_⟩
 have := x_12.size
 have z_11 := z_8.trans (Mod.of_ext x_12)
 have := m_14.size
 have z_15 := z_11.md m_14 (λ q hq => .inl hq)
 have u_18 := λ q hq => (HQ13.lt q hq).2
 refine fn λ w_19 x_20 => ?_
 have := x_20.size
 have z_19 := z_15.trans (Mod.of_ext x_20)
 refine ne <| tR .nil <| ?_
 have HQ13 := HQ13.later x_20
 have HB13 := HB13.later x_20
 exact ⟨A13, c13, rfl, HB13, HQ13, λ q hq hb => by exfalso; (exact Or.elim (hg13 q hq) (λ k_22 => by (exact hdQ q k_22 hb)) (λ k_22 => by omega)), λ q hq => (hg13 q hq).imp id λ h => by omega, z_19⟩
end
end Go.Proofs.Ytccankldeogdlaa
