import Derived.Test.YtccankldeogdlaaGolC
import Derived.Test.YtccankldeogdlaaGol
import Derived.Test.YtccankldeogdlaaOdr
import Derived.Test.YtccankldeogdlaaSpx
import Derived.Test.YtccankldeogdlaaTroI
import Derived.Test.YtccankldeogdlaaMis
import Derived.Test.YtccankldeogdlaaGooL
import Derived.Test.YtccankldeogdlaaGooO
import Derived.Test.YtccankldeogdlaaHp
import Derived.Test.YtccankldeogdlaaLinG
import Derived.Test.YtccankldeogdlaaHitG
import Derived.Test.YtccankldeogdlaaMrP
set_option linter.unusedVariables false
set_option linter.unusedSimpArgs false
set_option maxRecDepth 100000
set_option maxHeartbeats 4000000
namespace Go.Proofs.Ytccankldeogdlaa
section
open Go.RowKit
section
variable {F : List Nat} {P : Program} {ops : Array Oper} {Q : Exit → Act → World → Prop} {kd : Nat → Nat}
def QInW (F : List Nat) (P : Program) (ops : Array Oper) (w0 : World) (o : Oper) (v : Value) (a : Act) : Prop :=
  (Region.wanted o (yielded ops a.tmps) = true ∧ ∀ w, Mod F w0 w → qUpon P w v ((execOp a.eval o).run P w)) ∨
  (Region.wanted o (yielded ops a.tmps) = false ∧ v = undef)
theorem QInW.of_same {w0 : World} {o : Oper} {v : Value} {a a' : Act} (h : QInW F P ops w0 o v a) (he : execOp a'.eval o = execOp a.eval o) (hw : Region.wanted o (yielded ops a'.tmps) = Region.wanted o (yielded ops a.tmps)) : QInW F P ops w0 o v a' := by
  unfold QInW at *; rw [he, hw]; exact h
theorem QInW.on {w0 w1 : World} {o : Oper} {v : Value} {a : Act} (h : QInW F P ops w0 o v a) (hx : Mod F w0 w1) : QInW F P ops w1 o v a :=
  h.imp (λ ⟨h1, h2⟩ => ⟨h1, λ w hw => h2 w (hx.trans hw)⟩) id
theorem Yields.qinW {w0 : World} {o : Oper} {v : Value} {a : Act} (h : Yields P ops o v a) : QInW F P ops w0 o v a :=
  h.imp (λ ⟨h1, h2⟩ => ⟨h1, λ w _ => by rw [h2 w]; exact ⟨rfl, rfl⟩⟩) id
def stepFW (F : List Nat) (P : Program) (ops : Array Oper) (Q : Exit → Act → World → Prop) (kd : Nat → Nat) (i : Nat) (K : Act → World → Prop) (a : Act) (w0 : World) : Prop :=
  ∃ o, ops[i]? = some o ∧
    ((kd i ≤ 1 ∧ ∃ v, QInW F P ops w0 o v a ∧ K (a.put o.dst v) w0) ∨
     (1 < kd i ∧ ∀ w, Ext w0 w → wpOp P ops Q i (λ a' w' => (kd i = 2 → Mod F w0 w') ∧ K a' w') a w))
def anyFW (F : List Nat) (P : Program) (ops : Array Oper) (Q : Exit → Act → World → Prop) (kd : Nat → Nat) : Nat → Array Bool → Act → World → Prop
  | 0, l, a, w0 => Region.ready .any ops l = [] ∧ ∀ w, Ext w0 w → Q .normal a w
  | f + 1, l, a, w0 => (Region.ready .any ops l = [] → ∀ w, Ext w0 w → Q .normal a w) ∧ ∀ i ∈ Region.ready .any ops l, stepFW F P ops Q kd i (anyFW F P ops Q kd f (l.setIfInBounds i true)) a w0
theorem any_of_FW : ∀ (f : Nat) (l : Array Bool) (a : Act) (w0 : World), anyFW F P ops Q kd f l a w0 → ∀ w, Ext w0 w → wpAny P .any ops Q f l a w
  | 0, _, _, _, h, w, hw => ⟨h.1, h.2 w hw⟩
  | f + 1, l, a, w0, h, w, hw => ⟨λ h0 => h.1 h0 w hw, λ i hi => by
      obtain ⟨o, ho, h2⟩ := h.2 i hi
      rcases h2 with ⟨_, v, hq, hk⟩ | ⟨_, h2⟩
      · unfold wpOp
        simp only [ho]
        rcases hq with ⟨hw1, hq⟩ | ⟨hw1, rfl⟩
        · rw [if_pos hw1]
          refine .inl ?_
          have hq := hq w (Mod.of_ext hw)
          unfold Oper.wp
          generalize (execOp a.eval o).run P w = r at *
          cases r with
          | ok n w' =>
            cases n <;> simp only [qUpon] at hq <;> simp only [Oper.upon]
            case value u => obtain ⟨rfl, rfl⟩ := hq; exact any_of_FW f _ _ _ hk _ hw
            case skip => obtain ⟨rfl, rfl⟩ := hq; exact any_of_FW f _ _ _ hk _ hw
            case enter f' args => obtain ⟨rfl, hc⟩ := hq; exact hc.mono λ e w'' ⟨he, hx⟩ => by subst he; exact any_of_FW f _ _ _ hk _ (hw.tr hx)
          | halt x w' => simp only [qUpon] at hq
        · rw [if_neg (by rw [hw1]; decide)]
          exact any_of_FW f _ _ _ hk _ hw
      · exact wpOp_mono (λ a' w' h3 => any_of_FW f _ _ _ h3.2 _ (Ext.rf w')) (h2 w hw)⟩
theorem firstFW {i : Nat} {oi : Oper} {v : Value} (hi : ops[i]? = some oi) (hk : kd i ≤ 1) (hsel : ∀ (j : Nat) (o : Oper) cs b, ops[j]? = some o → o.op ≠ .select cs b)
    (hQ : ∀ c a w, ¬ Q (.panic c) a w) (Z : World → Act → Prop) (z1 : ∀ w0 a, Z w0 a → QInW F P ops w0 oi v a)
    (z2 : ∀ w0 a a', Z w0 a → execOp a'.eval oi = execOp a.eval oi → Region.wanted oi (yielded ops a'.tmps) = Region.wanted oi (yielded ops a.tmps) → Z w0 a')
    (z3 : ∀ w0 w1 a, Mod F w0 w1 → Z w0 a → Z w1 a) (R : Nat → Bool) (l0 : Array Bool)
    (hR : ∀ j oj, ops[j]? = some oj → j ≠ i → (∀ e ∈ oj.after, Region.binds .any e = true → R e.on = true) → R j = true)
    (hB : (∀ w0 w1 a, Z w0 a → Z w1 a) ∨ ∀ j, R j = true → 3 ≤ kd j → l0.getD j true = true) :
    ∀ (f : Nat) (l : Array Bool) (a : Act) (w0 : World), (∀ j, l.getD j false = true → R j = true) → (∀ j, l0.getD j true = true → l.getD j true = true) →
      (∀ j oj, ops[j]? = some oj → j ≠ i → l.getD j true = false → (∀ e ∈ oj.after, Region.binds .any e = true → e.on ≠ i) → oi.apart ops oj = true) →
      i ∈ Region.ready .any ops l → Z w0 a → anyFW F P ops Q kd f (l.setIfInBounds i true) (a.put oi.dst v) w0 → anyFW F P ops Q kd (f + 1) l a w0 := by
  intro f
  induction f with
  | zero =>
    intro l a w0 _ _ _ hr hz H
    refine ⟨λ h => (by rw [h] at hr; cases hr), λ j hj => ?_⟩
    by_cases hji : j = i
    · subst hji; exact ⟨oi, hi, .inl ⟨hk, v, z1 _ _ hz, H⟩⟩
    · have := ready_mono hj hji
      rw [H.1] at this
      cases this
  | succ f ih =>
    intro l a w0 hlR hl0 hfree hr hz H
    refine ⟨λ h => (by rw [h] at hr; cases hr), λ j hj => ?_⟩
    by_cases hji : j = i
    · subst hji; exact ⟨oi, hi, .inl ⟨hk, v, z1 _ _ hz, H⟩⟩
    · obtain ⟨oj, hoj, h1⟩ := H.2 j (ready_mono hj hji)
      obtain ⟨hjun, oj', hoj', hall⟩ := mem_ready.1 hj
      obtain rfl : oj' = oj := by rw [hoj] at hoj'; exact (Option.some.inj hoj').symm
      have hnot : ∀ e ∈ oj'.after, Region.binds .any e = true → e.on ≠ i := λ e he hb heq => by
        have h1 := hall e he hb
        have h0 := (mem_ready.1 hr).1
        rw [heq] at h1
        rcases Nat.lt_or_ge i l.size with h' | h'
        · simp [h'] at h0 h1; rw [h0] at h1; cases h1
        · simp [Array.getElem?_eq_none h'] at h1
      have hap := hfree j oj' hoj hji hjun hnot
      obtain ⟨a1, a2, a3⟩ := Oper.apart_spec hap
      have hsi : ∀ cs b, oi.op ≠ .select cs b := λ cs b => hsel i oi cs b hi
      have hsj : ∀ cs b, oj'.op ≠ .select cs b := λ cs b => hsel j oj' cs b hoj
      have keep : ∀ w1 a u, Z w1 a → Z w1 (a.put oj'.dst u) := λ w1 a u hz => z2 _ _ _ hz (execOp_put oi hsi a oj'.dst u a3) (wanted_put oi a oj'.dst u a3)
      have hRj : R j = true := hR j oj' hoj hji λ e he hb => hlR _ (hall e he hb)
      have hlR' : ∀ k, (l.setIfInBounds j true).getD k false = true → R k = true := λ k hk => by
        by_cases hjk : j = k
        · rw [← hjk]; exact hRj
        · rw [getD_set_ne false hjk] at hk; exact hlR k hk
      have hl0' : ∀ k, l0.getD k true = true → (l.setIfInBounds j true).getD k true = true := λ k hk => by
        by_cases hjk : j = k
        · subst hjk
          rcases Nat.lt_or_ge j l.size with h' | h'
          · simp [h']
          · simp [Array.getElem?_eq_none h']
        · rw [getD_set_ne true hjk]; exact hl0 k hk
      have hfree' : ∀ k ok, ops[k]? = some ok → k ≠ i → (l.setIfInBounds j true).getD k true = false →
          (∀ e ∈ ok.after, Region.binds .any e = true → e.on ≠ i) → oi.apart ops ok = true := λ k ok hk hki hun hno => by
        refine hfree k ok hk hki ?_ hno
        by_cases hjk : j = k
        · subst hjk; exact hjun
        · rw [getD_set_ne true hjk] at hun; exact hun
      have hri := ready_mono hr (Ne.symm hji)
      rcases h1 with ⟨hkj, u, hq, hK⟩ | ⟨hkj, h1⟩
      · refine ⟨oj', hoj, .inl ⟨hkj, u, hq.of_same (execOp_put oj' hsj a oi.dst v a1).symm (wanted_put oj' a oi.dst v a1).symm, ?_⟩⟩
        refine ih _ _ _ hlR' hl0' hfree' hri (keep _ _ _ hz) ?_
        rw [Array.setIfInBounds_comm _ _ hji, ← Act.put_comm a v u a2]
        exact hK
      · refine ⟨oj', hoj, .inr ⟨hkj, λ w hw => ?_⟩⟩
        refine wpOp_mono (λ a' w' h3 => ⟨h3.2.1, ?_⟩) (wpOp_putZ (Z := Z w0) hoj a1 a2 hsj hQ (keep w0) (λ a d hz => z2 _ _ _ hz rfl rfl) hz (h1 w hw))
        have hzw : Z w' a' := by
          rcases Nat.lt_or_ge (kd j) 3 with hlt | hge
          · exact z3 _ _ _ (h3.2.1 (by omega)) h3.1
          · rcases hB with hB | hB
            · exact hB _ _ _ h3.1
            · have := hl0 j (hB j hRj hge); rw [hjun] at this; cases this
        refine ih _ _ _ hlR' hl0' hfree' hri hzw ?_
        rw [Array.setIfInBounds_comm _ _ hji]
        exact h3.2.2
def wpFlowW (F : List Nat) (P : Program) (ops : Array Oper) (Q : Exit → Act → World → Prop) (kd : Nat → Nat) : List Nat → Act → World → Prop
  | [], a, w0 => ∀ w, Ext w0 w → Q .normal a w
  | i :: r, a, w0 => ∃ o, ops[i]? = some o ∧
      ((kd i = 0 ∧ ∃ v, QInW F P ops w0 o v a ∧ wpFlowW F P ops Q kd r (a.put o.dst v) w0) ∨
       (kd i = 1 ∧ ∃ v, Yields P ops o v a ∧ wpFlowW F P ops Q kd r (a.put o.dst v) w0) ∨
       (1 < kd i ∧ ∀ w, Ext w0 w → wpOp P ops Q i (λ a' w' => (kd i = 2 → Mod F w0 w') ∧ wpFlowW F P ops Q kd r a' w') a w))
theorem any_of_flowW (hs : Region.noSelect ops = true) (hQ : ∀ c a w, ¬ Q (.panic c) a w) : ∀ (r : List Nat) (l : Array Bool) (a : Act) (w0 : World), l.size = ops.size → flowB ops kd r l = true → wpFlowW F P ops Q kd r a w0 → anyFW F P ops Q kd r.length l a w0
  | [], l, a, w0, _, hB, h => ⟨by simpa [flowB] using hB, h⟩
  | i :: r, l, a, w0, hl, hB, h => by
    obtain ⟨o, ho, h⟩ := h
    have hsel := Region.noSelect_spec hs
    rcases h with ⟨hk, v, hq, hK⟩ | ⟨hk, v, hq, hK⟩ | ⟨hk, h⟩
    · simp only [flowB, hk, Bool.and_eq_true] at hB
      obtain ⟨⟨⟨hf, hr⟩, hb⟩, hB⟩ := hB
      obtain ⟨R, r1, r2, r3⟩ := barOk_spec hl hb
      exact firstFW ho (by omega) hsel hQ (λ w0 a => QInW F P ops w0 o v a) (λ _ _ h => h) (λ _ _ _ h he hw => h.of_same he hw) (λ _ _ _ hx h => h.on hx) R l r1 (.inr r3) _ _ _ _ r2 (λ _ h => h) (Region.free_spec ho hf) (by simpa using hr) hq
        (any_of_flowW hs hQ r _ _ _ (by simpa using hl) hB hK)
    · simp only [flowB, hk, Bool.and_eq_true] at hB
      obtain ⟨⟨hf, hr⟩, hB⟩ := hB
      exact firstFW ho (by omega) hsel hQ (λ _ a => Yields P ops o v a) (λ _ _ h => Yields.qinW h) (λ _ _ _ h he hw => h.of_same he hw) (λ _ _ _ _ h => h) (λ _ => true) l (λ _ _ _ _ _ => rfl) (.inl λ _ _ _ h => h) _ _ _ _ (λ _ _ => rfl) (λ _ h => h) (Region.free_spec ho hf) (by simpa using hr) hq
        (any_of_flowW hs hQ r _ _ _ (by simpa using hl) hB hK)
    · obtain ⟨k, hk2⟩ : ∃ k, kd i = k + 2 := ⟨kd i - 2, by omega⟩
      simp only [flowB, hk2, Bool.and_eq_true, beq_iff_eq] at hB
      obtain ⟨hr, hB⟩ := hB
      refine ⟨λ h0 => (by rw [hr] at h0; cases h0), λ j hj => ?_⟩
      rw [hr] at hj
      obtain rfl : j = i := by simpa using hj
      exact ⟨o, ho, .inr ⟨hk, λ w hw => wpOp_mono (λ a' w' h3 => ⟨h3.1, any_of_flowW hs hQ r _ _ _ (by simpa using hl) hB h3.2⟩) (h w hw)⟩⟩
theorem region_flowW {id : Nat} {a : Act} {w : World} (τ : List Nat) (hm : P.follows .mixedOrders = true) (hB : (Region.noSelect ops && (τ.length == ops.size) && flowB ops kd τ (Array.replicate ops.size false)) = true)
    (h : wpFlowW F P ops (nrm (Q .normal)) kd τ a w) : (Code.region id ops true).wp P Q a w := by
  simp only [Bool.and_eq_true, beq_iff_eq] at hB
  obtain ⟨⟨hs, hl⟩, hB⟩ := hB
  refine wp_mono (wp_region_any hm (Q := nrm (Q .normal)) ?_) (λ e a w hq => by cases e <;> first | exact hq | exact hq.elim)
  have := any_of_flowW (P := P) hs (Q := nrm (Q .normal)) (λ _ _ _ h => h) τ (Array.replicate ops.size false) a w (by simp) hB h
  rw [hl] at this
  exact any_of_FW _ _ _ _ this _ (Below.refl _ w).drew
end
section
variable {F : List Nat} {P : Program} {n : Nat} {E E' : List (Nat × Value)} {a : Act} {w w' w0 w1 : World} {Q : Exit → Act → World → Prop} {ops : Array Oper} {v : Value} {kd : Nat → Nat}
variable {d : Option Nat} {ty : TypeId} {pos : String} {af : Array Edge} {g : Option (Nat × Bool)} {x y z : Operand} {t : TypeId} {rest : List Oper} {τ : List Nat} {i : Nat}
def FLW (F : List Nat) (P : Program) (n : Nat) (ops : Array Oper) (Q : Exit → Act → World → Prop) (kd : Nat → Nat) (τ : List Nat) (E : List (Nat × Value)) (w0 : World) : Prop := ∀ a, Agr n E a → wpFlowW F P ops (nrm (Q .normal)) kd τ a w0
theorem rdW {id : Nat} (F : List Nat) (ks : List (Nat × Nat)) (τ : List Nat) (hm : P.follows .mixedOrders = true) (hB : (Region.noSelect ops && (τ.length == ops.size) && flowB ops (kds ks) τ (Array.replicate ops.size false)) = true)
    (h : FLW F P n ops Q (kds ks) τ E w) : W P n (.region id ops true) Q E w := λ a ha => region_flowW τ hm hB (h a ha)
theorem fnW (h : ∀ w, Ext w0 w → N n Q E w) : FLW F P n ops Q kd [] E w0 := λ a ha w hw => h w hw a ha
theorem fqW {d : Nat} {op : Op} (hi : ops[i]? = some ⟨some d, op, ty, pos, af, none⟩) (hk : kd i = 0) (hr : ∀ w, Mod F w0 w → Runs P E ⟨some d, op, ty, pos, af, none⟩ w v w) (hd : Nat.blt d n = true)
    (h : FLW F P n ops Q kd τ ((d, v) :: E) w0) : FLW F P n ops Q kd (i :: τ) E w0 := λ a ha =>
  ⟨_, hi, .inl ⟨hk, v, .inl ⟨wanted_none rfl, λ w hw => by rw [hr w hw n a ha]; exact ⟨rfl, rfl⟩⟩, h _ (ha.put hd v)⟩⟩
theorem fwW {d : Nat} {op : Op} (hi : ops[i]? = some ⟨some d, op, ty, pos, af, none⟩) (hk : kd i = 1) (hr : ∀ w, Runs P E ⟨some d, op, ty, pos, af, none⟩ w v w) (hd : Nat.blt d n = true)
    (h : FLW F P n ops Q kd τ ((d, v) :: E) w0) : FLW F P n ops Q kd (i :: τ) E w0 := λ a ha =>
  ⟨_, hi, .inr (.inl ⟨hk, v, .inl ⟨wanted_none rfl, λ w => hr w n a ha⟩, h _ (ha.put hd v)⟩)⟩
theorem fxW {o : Oper} (hg : o.guard = none) (hi : ops[i]? = some o) (hk : kd i = 2) (h : ∀ w, Ext w0 w → Stp P n ops o E w λ E' w' => Mod F w0 w' ∧ FLW F P n ops Q kd τ E' w') : FLW F P n ops Q kd (i :: τ) E w0 := λ a ha =>
  ⟨_, hi, .inr (.inr ⟨by omega, λ w hw => stp_op hg hi (h w hw) (λ E' w' a' hk ha' => ⟨λ _ => hk.1, hk.2 a' ha'⟩) ha⟩)⟩
theorem fbW {o : Oper} (hg : o.guard = none) (hi : ops[i]? = some o) (hk : kd i = 3) (h : ∀ w, Ext w0 w → Stp P n ops o E w λ E' w' => FLW F P n ops Q kd τ E' w') : FLW F P n ops Q kd (i :: τ) E w0 := λ a ha =>
  ⟨_, hi, .inr (.inr ⟨by omega, λ w hw => stp_op hg hi (h w hw) (λ E' w' a' hk ha' => ⟨λ h2 => by omega, hk a' ha'⟩) ha⟩)⟩
end
end
section
open Go.RowKit
def turnE (W : Wd) (l : List Odr) : Int := if splE W l ≠ 0 then splE W l else if 1000000 ≤ W.now then 6 else 0
def turn1 (W : Wd) (l : List Odr) : Wd := struckW W (splB W l l.length)
noncomputable def turn2 (W : Wd) (l : List Odr) : Wd := marchW (turn1 W l) (splG W l l.length)
noncomputable def turn3 (W : Wd) (l : List Odr) : Wd := (turn2 W l).doW (splD W l l.length)
noncomputable def turnW (W : Wd) (l : List Odr) : Wd := if turnE W l ≠ 0 then Wd.zero else { turn3 W l with now := (turn3 W l).now + 1 }
def turnG (W : Wd) (l : List Odr) : List Int := if turnE W l ≠ 0 then [] else struckG W (splB W l l.length)
noncomputable def turnM (W : Wd) (l : List Odr) : List Int := if turnE W l ≠ 0 then [] else marchM (turn1 W l) (splG W l l.length)
noncomputable def turnD (W : Wd) (l : List Odr) : List Bool := if turnE W l ≠ 0 then [] else (turn2 W l).doB (splD W l l.length)
theorem turn_no {W : Wd} {l : List Odr} (h : turnE W l ≠ 0) : turnW W l = Wd.zero ∧ turnG W l = [] ∧ turnM W l = [] ∧ turnD W l = [] := by
 unfold turnW turnG turnM turnD; simp only [if_pos h, and_self]
theorem turn_yes {W : Wd} {l : List Odr} (h : turnE W l = 0) : turnW W l = { turn3 W l with now := (turn3 W l).now + 1 } ∧ turnG W l = struckG W (splB W l l.length) ∧ turnM W l = marchM (turn1 W l) (splG W l l.length) ∧ turnD W l = (turn2 W l).doB (splD W l l.length) := by
 have h' : ¬ turnE W l ≠ 0 := by simpa using h
 unfold turnW turnG turnM turnD; simp only [if_neg h', and_self]
theorem turnE_zero {W : Wd} {l : List Odr} (h : turnE W l = 0) : splE W l = 0 ∧ W.now < 1000000 ∧ W.chk = 0 ∧ l.length ≤ 100 := by
 unfold turnE at h
 split at h
 ·contradiction
 ·rename_i h1
  have h1 : splE W l = 0 := by simpa using h1
  split at h
  ·exact nomatch h
  ·exact ⟨h1, by omega, (splE_zero h1).2, splE_len h1⟩
theorem doE_ok {W : Wd} {l : List Ded} (h : W.chk = 0) (hl : l.length ≤ 200) : W.doE l = 0 ∧ W.doW l = (W.deeds l).1 := by
 have e : W.doE l = 0 := by unfold Wd.doE; rw [if_neg (by omega), if_neg (by omega)]
 exact ⟨e, by unfold Wd.doW; rw [if_pos e]⟩
theorem blowE_mk {W : Wd} {l : List Blw} (h : W.chk = 0) (hl : l.length ≤ 200) : blowE W l = 0 := by unfold blowE; rw [if_neg (by omega), if_neg (by omega)]
theorem turn_dat {W : Wd} {l : List Odr} (h : turnE W l = 0) : blowE W (splB W l l.length) = 0 ∧ marchE (turn1 W l) (splG W l l.length) = 0 ∧ (turn2 W l).doE (splD W l l.length) = 0 ∧ Good (turn1 W l) ∧ Good (turn2 W l) ∧ Good (turn3 W l) := by
 obtain ⟨h1, h2, h3, h4⟩ := turnE_zero h
 obtain ⟨b1, b2, b3⟩ := spl_len W l l.length
 have e1 := blowE_mk (l := splB W l l.length) h3 (by omega)
 have g1 : Good (turn1 W l) := (struck_of e1).right
 have e2 := (march_ok (W := turn1 W l) (l := splG W l l.length) g1.chk (by omega)).1
 have g2 : Good (turn2 W l) := (march_right e2).1
 obtain ⟨e3, e4⟩ := doE_ok (W := turn2 W l) (l := splD W l l.length) g2.chk (by omega)
 refine ⟨e1, e2, e3, g1, g2, ?_⟩
 unfold turn3; rw [e4]; exact g2.deeds _
def TurnPost (W : Wd) (l : List Odr) (w : World) (e : Ending) (w' : World) : Prop :=
 ∃ a' A0 c0 A1 c1 A2 c2, e = .returned (.tuple #[.agg (Wd.cells a' (turnW W l)).toArray, .agg #[.slice A0 (turnG W l).length c0, .slice A1 (turnM W l).length c1, .slice A2 (turnD W l).length c2], .int .i64 (turnE W l)]) ∧ WOwn w' w.heap.size a' (turnW W l) ∧
  repI.SOwn 3 8 w' w.heap.size (Rep.blkOf A0) A0 c0 (turnG W l) ∧ repI.SOwn 3 8 w' w.heap.size (Rep.blkOf A1) A1 c1 (turnM W l) ∧ repB.SOwn 4 1 w' w.heap.size (Rep.blkOf A2) A2 c2 (turnD W l) ∧
  (∀ q, (q ∈ Rep.blkOf A0 ∨ q ∈ Rep.blkOf A1 ∨ q ∈ Rep.blkOf A2) → q ∉ WOwn.foot a') ∧ Ext w w'
theorem turn_A (a : Wd.At) (W : Wd) (A : Option Addr) (c : Nat) (l : List Odr) (w : World) (hW : Wd.Has w a W) (hl : Odr.rep.SHas 48 w A c l) (h1 : splE W l ≠ 0) :
  Calls Try.prog 27 #[.agg ((Wd.cells a W).toArray), .slice A l.length c] w (TurnPost W l w) := by
 have k1 : (splE W l == 0) = false := by simpa using h1
 have k2 : (splE W l != 0) = true := by simpa using h1
 refine calls_W (n := 62) Try.func27 rfl rfl rfl ?_
 refine sg <| bx rfl rfl rfl rfl λ w_1 b_2 x_3 l_4 B_5 => ?_
 have := x_3.size
 have z_1 := eT (Ext.rf w) x_3
 have q_7 := B_5.lt
 refine al rfl eF53 rfl rfl λ w_8 b_9 x_10 l_11 B_12 => ?_
 have := x_10.size
 have z_8 := eT z_1 x_10
 have q_14 := B_12.lt
 refine al rfl eF170 rfl rfl λ w_15 b_16 x_17 l_18 B_19 => ?_
 have := x_17.size
 have z_15 := eT z_8 x_17
 have q_21 := B_19.lt
 refine va rfl <| nK <| sg <| vm rfl <| ?_
 have B_5 := B_5.later (eT x_10 x_17)
 refine vL (ld rfl (B_5.all eF54 eF55)) <| ca eF171 rfl rfl ((split_bad _ _ l a W _ (hl.keep z_15) (hW.keep z_15) h1).mono ?_)
 rintro e w_22 ⟨rfl, x_23⟩
 refine ⟨_, rfl, ?_⟩
 have := x_23.size
 have z_22 := eT z_15 x_23
 refine vm rfl <| vL (ex rfl rfl) <| vL (ex rfl rfl) <| vL (ex rfl rfl) <| vL (ex rfl rfl) <| va rfl <| va rfl <| va rfl <| va rfl <| nK <| sq <| sg <| vm rfl <| vL (beq rfl rfl) <| vm (evb rfl k1) <| vQ (v := undef) rfl rfl rfl rfl (λ hc => nomatch hc) rfl <| vQ (v := undef) rfl rfl rfl rfl (λ hc => nomatch hc) rfl <| vQ (v := undef) rfl rfl rfl rfl (λ hc => nomatch hc) rfl <| vL (pkF rfl rfl) <| nK <| cF rfl <| ?_
 refine sK <| sq <| sg <| vm rfl <| vL (bne rfl rfl) <| nK <| cT (evb rfl k2) <| sg <| vL (v := .agg #[.int .i64 0, .int .i64 0, .slice none 0 0, .slice none 0 0, .slice none 0 0, .slice none 0 0, .slice none 0 0, .int .i64 0, .int .i64 0]) (bd rfl (by kernel_rfl)) <| vL (v := .agg #[.slice none 0 0, .slice none 0 0, .slice none 0 0]) (bd rfl (by kernel_rfl)) <| vm rfl <| ?_
 have B_12 := B_12.later (eT x_17 x_23)
 refine st (new := [.int .i64 0, .int .i64 0, .slice none 0 0, .slice none 0 0, .slice none 0 0, .slice none 0 0, .slice none 0 0, .int .i64 0, .int .i64 0]) rfl rfl B_12 rfl eF55 rfl rfl rfl λ w_25 m_26 B_12 => ?_
 have := m_26.size
 have z_25 := Ext.mod z_22 m_26 (ge1 (by omega))
 have := m_26.size
 have B_19 := B_19.later x_23
 have B_19 := B_19.mod m_26 (nm1 (by omega))
 refine st (new := [.slice none 0 0, .slice none 0 0, .slice none 0 0]) rfl rfl B_19 rfl eF172 rfl rfl rfl λ w_29 m_30 B_19 => ?_
 have := m_30.size
 have z_29 := Ext.mod z_25 m_30 (ge1 (by omega))
 have := m_30.size
 refine va rfl <| nK <| rt <| tT <| ?_
 have B_12 := B_12.mod m_30 (nm1 (by omega))
 refine tR (.cell rfl (B_12.all eF54 eF55) (.cell rfl (B_19.all eF173 eF172) (.tmp rfl .nil))) <| ?_
 have e0 : turnE W l = splE W l := by unfold turnE; rw [if_pos h1]
 obtain ⟨z1, z2, z3, z4⟩ := turn_no (W := W) (l := l) (by rw [e0]; first | exact h1 | decide)
 exact ⟨⟨none, none, none, none, none, 0, 0, 0, 0, 0⟩, none, 0, none, 0, none, 0, by rw [e0, z1, z2, z3, z4]; rfl, by rw [z1]; exact WOwn.zero _ _, by rw [z2]; exact Rep.SOwn.nil _, by rw [z3]; exact Rep.SOwn.nil _, by rw [z4]; exact Rep.SOwn.nil _, λ q hq => by simp [Rep.blkOf] at hq, z_29⟩
theorem turn_B (a : Wd.At) (W : Wd) (A : Option Addr) (c : Nat) (l : List Odr) (w : World) (hW : Wd.Has w a W) (hl : Odr.rep.SHas 48 w A c l) (h1 : splE W l = 0) (h2 : 1000000 ≤ W.now) :
  Calls Try.prog 27 #[.agg ((Wd.cells a W).toArray), .slice A l.length c] w (TurnPost W l w) := by
 refine calls_W (n := 62) Try.func27 rfl rfl rfl ?_
 refine sg <| bx rfl rfl rfl rfl λ w_1 b_2 x_3 l_4 B_5 => ?_
 have := x_3.size
 have z_1 := eT (Ext.rf w) x_3
 have q_7 := B_5.lt
 refine al rfl eF53 rfl rfl λ w_8 b_9 x_10 l_11 B_12 => ?_
 have := x_10.size
 have z_8 := eT z_1 x_10
 have q_14 := B_12.lt
 refine al rfl eF170 rfl rfl λ w_15 b_16 x_17 l_18 B_19 => ?_
 have := x_17.size
 have z_15 := eT z_8 x_17
 have q_21 := B_19.lt
 refine va rfl <| nK <| sg <| vm rfl <| ?_
 have B_5 := B_5.later (eT x_10 x_17)
 refine vL (ld rfl (B_5.all eF54 eF55)) <| ca eF171 rfl rfl ((split_ok _ _ l a W _ (hl.keep z_15) (hW.keep z_15) h1).mono ?_)
 rintro e w_29 ⟨A_220, c_220, A_221, c_221, A_222, c_222, rfl, OS_220, OS_221, OS_222, x_30⟩
 refine ⟨_, rfl, ?_⟩
 have := x_30.size
 have z_29 := eT z_15 x_30
 have u_23 := λ q hq => (OS_220.lt q hq).2
 have lo_24 := λ q hq => (OS_220.lt q hq).1
 have u_25 := λ q hq => (OS_221.lt q hq).2
 have lo_26 := λ q hq => (OS_221.lt q hq).1
 have u_27 := λ q hq => (OS_222.lt q hq).2
 have lo_28 := λ q hq => (OS_222.lt q hq).1
 refine vm rfl <| vL (ex rfl rfl) <| vL (ex rfl rfl) <| vL (ex rfl rfl) <| vL (ex rfl rfl) <| va rfl <| va rfl <| va rfl <| va rfl <| nK <| sq <| sg <| vm rfl <| vL (beq rfl rfl) <| vm rfl <| ug rfl rfl rfl <| vL (fa eF67 rfl) <| ug rfl rfl rfl <| ?_
 have B_5 := B_5.later x_30
 refine vL (ld rfl (B_5.one eF5 rfl)) <| ug rfl rfl rfl <| vL (bge rfl rfl) <| vL (pkT rfl rfl) <| nK <| ?_
 have h_32 : (decide (1000000 ≤ W.now)) = true := by exact decide_eq_true h2
 refine cT (by rw [← h_32]; rfl) <| rg <| va rfl <| nK <| sq <| sg <| vm rfl <| vL (bne rfl rfl) <| nK <| cT rfl <| sg <| vL (v := .agg #[.int .i64 0, .int .i64 0, .slice none 0 0, .slice none 0 0, .slice none 0 0, .slice none 0 0, .slice none 0 0, .int .i64 0, .int .i64 0]) (bd rfl (by kernel_rfl)) <| vL (v := .agg #[.slice none 0 0, .slice none 0 0, .slice none 0 0]) (bd rfl (by kernel_rfl)) <| vm rfl <| ?_
 have B_12 := B_12.later (eT x_17 x_30)
 refine st (new := [.int .i64 0, .int .i64 0, .slice none 0 0, .slice none 0 0, .slice none 0 0, .slice none 0 0, .slice none 0 0, .int .i64 0, .int .i64 0]) rfl rfl B_12 rfl eF55 rfl rfl rfl λ w_33 m_34 B_12 => ?_
 have := m_34.size
 have z_33 := Ext.mod z_29 m_34 (ge1 (by omega))
 have := m_34.size
 have B_19 := B_19.later x_30
 have B_19 := B_19.mod m_34 (nm1 (by omega))
 refine st (new := [.slice none 0 0, .slice none 0 0, .slice none 0 0]) rfl rfl B_19 rfl eF172 rfl rfl rfl λ w_37 m_38 B_19 => ?_
 have := m_38.size
 have z_37 := Ext.mod z_33 m_38 (ge1 (by omega))
 have := m_38.size
 refine va rfl <| nK <| rt <| tT <| ?_
 have B_12 := B_12.mod m_38 (nm1 (by omega))
 refine tR (.cell rfl (B_12.all eF54 eF55) (.cell rfl (B_19.all eF173 eF172) (.tmp rfl .nil))) <| ?_
 have e0 : turnE W l = 6 := by unfold turnE; rw [if_neg (by simpa using h1), if_pos h2]
 obtain ⟨z1, z2, z3, z4⟩ := turn_no (W := W) (l := l) (by rw [e0]; first | exact h1 | decide)
 exact ⟨⟨none, none, none, none, none, 0, 0, 0, 0, 0⟩, none, 0, none, 0, none, 0, by rw [e0, z1, z2, z3, z4]; rfl, by rw [z1]; exact WOwn.zero _ _, by rw [z2]; exact Rep.SOwn.nil _, by rw [z3]; exact Rep.SOwn.nil _, by rw [z4]; exact Rep.SOwn.nil _, λ q hq => by simp [Rep.blkOf] at hq, z_37⟩
theorem turn_C (a : Wd.At) (W : Wd) (A : Option Addr) (c : Nat) (l : List Odr) (w : World) (hW : Wd.Has w a W) (hl : Odr.rep.SHas 48 w A c l) (h0 : turnE W l = 0) :
  Calls Try.prog 27 #[.agg ((Wd.cells a W).toArray), .slice A l.length c] w (TurnPost W l w) := by
 obtain ⟨h1, h2, h3, h4⟩ := turnE_zero h0
 obtain ⟨e1, e2, e3, g1, g2, g3⟩ := turn_dat h0
 have hnow : 0 ≤ (turn3 W l).now ∧ (turn3 W l).now ≤ 1000000 := g3.now
 refine calls_W (n := 62) Try.func27 rfl rfl rfl ?_
 refine sg <| bx rfl rfl rfl rfl λ w_1 b_2 x_3 l_4 B_5 => ?_
 have := x_3.size
 have z_1 := eT (Ext.rf w) x_3
 have q_7 := B_5.lt
 refine al rfl eF53 rfl rfl λ w_8 b_9 x_10 l_11 B_12 => ?_
 have := x_10.size
 have z_8 := eT z_1 x_10
 have q_14 := B_12.lt
 refine al rfl eF170 rfl rfl λ w_15 b_16 x_17 l_18 B_19 => ?_
 have := x_17.size
 have z_15 := eT z_8 x_17
 have q_21 := B_19.lt
 refine va rfl <| nK <| sg <| vm rfl <| ?_
 have B_5 := B_5.later (eT x_10 x_17)
 refine vL (ld rfl (B_5.all eF54 eF55)) <| ca eF171 rfl rfl ((split_ok _ _ l a W _ (hl.keep z_15) (hW.keep z_15) h1).mono ?_)
 rintro e w_29 ⟨A_220, c_220, A_221, c_221, A_222, c_222, rfl, OS_220, OS_221, OS_222, x_30⟩
 refine ⟨_, rfl, ?_⟩
 have := x_30.size
 have z_29 := eT z_15 x_30
 have u_23 := λ q hq => (OS_220.lt q hq).2
 have lo_24 := λ q hq => (OS_220.lt q hq).1
 have u_25 := λ q hq => (OS_221.lt q hq).2
 have lo_26 := λ q hq => (OS_221.lt q hq).1
 have u_27 := λ q hq => (OS_222.lt q hq).2
 have lo_28 := λ q hq => (OS_222.lt q hq).1
 refine vm rfl <| vL (ex rfl rfl) <| vL (ex rfl rfl) <| vL (ex rfl rfl) <| vL (ex rfl rfl) <| va rfl <| va rfl <| va rfl <| va rfl <| nK <| sq <| sg <| vm rfl <| vL (beq rfl rfl) <| vm rfl <| ug rfl rfl rfl <| vL (fa eF67 rfl) <| ug rfl rfl rfl <| ?_
 have B_5 := B_5.later x_30
 refine vL (ld rfl (B_5.one eF5 rfl)) <| ug rfl rfl rfl <| vL (bge rfl rfl) <| vL (pkT rfl rfl) <| nK <| ?_
 have h_32 : (decide (1000000 ≤ W.now)) = false := by exact decide_eq_false (by omega)
 refine cF (by rw [← h_32]; rfl) <| sK <| sq <| sg <| vm rfl <| vL (bne rfl rfl) <| nK <| cF rfl <| sK <| sg <| al rfl eF170 rfl rfl λ w_33 b_34 x_35 l_36 B_37 => ?_
 have := x_35.size
 have z_33 := eT z_29 x_35
 have q_39 := B_37.lt
 refine nK <| sg <| ?_
 have B_5 := B_5.later x_35
 refine vL (ld rfl (B_5.all eF54 eF55)) <| vm rfl <| ?_
 have OS_220 := OS_220.later x_35
 refine ca eF174 rfl rfl ((struck_any (splB W l (l).length) _ _ a W _ (hW.keep z_33) OS_220.has).mono ?_)
 rintro e w_45 ⟨a40, A40, c40, rfl, HO40, OG40, hd40, x_46⟩
 refine ⟨_, rfl, ?_⟩
 have := x_46.size
 have z_45 := eT z_33 x_46
 have u_41 := λ q hq => (HO40.lt q hq).2
 have lo_42 := λ q hq => (HO40.lt q hq).1
 have u_43 := λ q hq => (OG40.lt q hq).2
 have lo_44 := λ q hq => (OG40.lt q hq).1
 have dd40 : ∀ q ∈ Rep.blkOf A40, q ∈ WOwn.foot a40 → False := hd40
 have dw40 : ∀ q ∈ WOwn.foot a40, q ∈ Rep.blkOf A40 → False := λ q h1 h2 => hd40 q h2 h1
 refine vm rfl <| vL (ex rfl rfl) <| vL (ex rfl rfl) <| vL (ex rfl rfl) <| ?_
 have B_5 := B_5.later x_46
 refine st rfl rfl B_5 rfl eF55 rfl rfl rfl λ w_48 m_49 B_5 => ?_
 have := m_49.size
 have z_48 := Ext.mod z_45 m_49 (ge1 (by omega))
 have := m_49.size
 refine vL (fa eF175 rfl) <| ?_
 have B_37 := B_37.later x_46
 have B_37 := B_37.mod m_49 (nm1 (by omega))
 refine st (new := [.slice A40 ((struckG W (splB W l (l).length)).length) c40, .slice none 0 0, .slice none 0 0]) rfl rfl B_37 rfl eF78 rfl rfl rfl λ w_52 m_53 B_37 => ?_
 have := m_53.size
 have z_52 := Ext.mod z_48 m_53 (ge1 (by omega))
 have := m_53.size
 refine nK <| sg <| ?_
 have B_5 := B_5.mod m_53 (nm1 (by omega))
 refine vL (ld rfl (B_5.all eF54 eF55)) <| vm rfl <| ?_
 have OS_221 := OS_221.later (eT x_35 x_46)
 have OS_221 := OS_221.mod m_49 (fk2 lo_26 (by omega))
 have OS_221 := OS_221.mod m_53 (fk1 u_25 (by omega))
 have HO40 := HO40.mod m_49 (fk2 lo_42 (by omega))
 have HO40 := HO40.mod m_53 (fk2 lo_42 (by omega))
 refine ca eF176 rfl rfl ((mstep_any a40 (struckW W (splB W l (l).length)) _ _ (splG W l (l).length) _ HO40.has OS_221.has).mono ?_)
 rintro e w_61 ⟨a56, A56, c56, rfl, HO56, OM56, hd56, x_62⟩
 refine ⟨_, rfl, ?_⟩
 have := x_62.size
 have z_61 := eT z_52 x_62
 have u_57 := λ q hq => (HO56.lt q hq).2
 have lo_58 := λ q hq => (HO56.lt q hq).1
 have u_59 := λ q hq => (OM56.lt q hq).2
 have lo_60 := λ q hq => (OM56.lt q hq).1
 have dd56 : ∀ q ∈ Rep.blkOf A56, q ∈ WOwn.foot a56 → False := hd56
 have dw56 : ∀ q ∈ WOwn.foot a56, q ∈ Rep.blkOf A56 → False := λ q h1 h2 => hd56 q h2 h1
 refine vm rfl <| vL (ex rfl rfl) <| vL (ex rfl rfl) <| vL (ex rfl rfl) <| ?_
 have B_5 := B_5.later x_62
 refine st rfl rfl B_5 rfl eF55 rfl rfl rfl λ w_64 m_65 B_5 => ?_
 have := m_65.size
 have z_64 := Ext.mod z_61 m_65 (ge1 (by omega))
 have := m_65.size
 refine vL (fa eF177 rfl) <| ?_
 have B_37 := B_37.later x_62
 have B_37 := B_37.mod m_65 (nm1 (by omega))
 refine st (new := [.slice A40 ((struckG W (splB W l (l).length)).length) c40, .slice A56 ((marchM (struckW W (splB W l (l).length)) (splG W l (l).length)).length) c56, .slice none 0 0]) rfl rfl B_37 rfl eF78 rfl rfl rfl λ w_68 m_69 B_37 => ?_
 have := m_69.size
 have z_68 := Ext.mod z_64 m_69 (ge1 (by omega))
 have := m_69.size
 refine nK <| sg <| ?_
 have B_5 := B_5.mod m_69 (nm1 (by omega))
 refine vL (ld rfl (B_5.all eF54 eF55)) <| vm rfl <| ?_
 have OS_222 := OS_222.later (eT x_35 x_46)
 have OS_222 := OS_222.mod m_49 (fk2 lo_28 (by omega))
 have OS_222 := OS_222.mod m_53 (fk1 u_27 (by omega))
 have OS_222 := OS_222.later x_62
 have OS_222 := OS_222.mod m_65 (fk2 lo_28 (by omega))
 have OS_222 := OS_222.mod m_69 (fk1 u_27 (by omega))
 have HO56 := HO56.mod m_65 (fk2 lo_58 (by omega))
 have HO56 := HO56.mod m_69 (fk2 lo_58 (by omega))
 refine ca eF178 rfl rfl ((do_any (splD W l (l).length) _ _ _ a56 (marchW (struckW W (splB W l (l).length)) (splG W l (l).length)) HO56.has OS_222.has).mono ?_)
 rintro e w_77 ⟨a_72, A_72, c_72, rfl, HO_72, OD_72, hd_72, x_78⟩
 refine ⟨_, rfl, ?_⟩
 have := x_78.size
 have z_77 := eT z_68 x_78
 have u_73 := λ q hq => (HO_72.lt q hq).2
 have lo_74 := λ q hq => (HO_72.lt q hq).1
 have u_75 := λ q hq => (OD_72.lt q hq).2
 have lo_76 := λ q hq => (OD_72.lt q hq).1
 have dd_72 : ∀ q ∈ Rep.blkOf A_72, q ∈ WOwn.foot a_72 → False := hd_72
 have dw_72 : ∀ q ∈ WOwn.foot a_72, q ∈ Rep.blkOf A_72 → False := λ q h1 h2 => hd_72 q h2 h1
 refine vm rfl <| vL (ex rfl rfl) <| vL (ex rfl rfl) <| vL (ex rfl rfl) <| ?_
 have B_5 := B_5.later x_78
 refine st rfl rfl B_5 rfl eF55 rfl rfl rfl λ w_80 m_81 B_5 => ?_
 have := m_81.size
 have z_80 := Ext.mod z_77 m_81 (ge1 (by omega))
 have := m_81.size
 refine vL (fa eF179 rfl) <| ?_
 have B_37 := B_37.later x_78
 have B_37 := B_37.mod m_81 (nm1 (by omega))
 refine st (new := [.slice A40 ((struckG W (splB W l (l).length)).length) c40, .slice A56 ((marchM (struckW W (splB W l (l).length)) (splG W l (l).length)).length) c56, .slice A_72 (((marchW (struckW W (splB W l (l).length)) (splG W l (l).length)).doB (splD W l (l).length)).length) c_72]) rfl rfl B_37 rfl eF72 rfl rfl rfl λ w_84 m_85 B_37 => ?_
 have := m_85.size
 have z_84 := Ext.mod z_80 m_85 (ge1 (by omega))
 have := m_85.size
 refine nK <| sg <| vL (fa eF67 rfl) <| ?_
 have B_5 := B_5.mod m_85 (nm1 (by omega))
 refine vL (ld rfl (B_5.one eF5 rfl)) <| vL (bad rfl rfl (inI ((by have hq : _ ∧ _ := hnow; unfold turn3 turn2 turn1 at hq; omega)))) <| vL (fa eF67 rfl) <| st (new := [.int .i64 (((marchW (struckW W (splB W l (l).length)) (splG W l (l).length)).doW (splD W l (l).length)).field.wide), .int .i64 (((marchW (struckW W (splB W l (l).length)) (splG W l (l).length)).doW (splD W l (l).length)).field.high), .slice a_72.P (((marchW (struckW W (splB W l (l).length)) (splG W l (l).length)).doW (splD W l (l).length)).field.places.length) a_72.p, .slice a_72.B (((marchW (struckW W (splB W l (l).length)) (splG W l (l).length)).doW (splD W l (l).length)).bases.length) a_72.b, .slice a_72.S (((marchW (struckW W (splB W l (l).length)) (splG W l (l).length)).doW (splD W l (l).length)).stocks.length) a_72.s, .slice a_72.M (((marchW (struckW W (splB W l (l).length)) (splG W l (l).length)).doW (splD W l (l).length)).mines.length) a_72.m, .slice a_72.T (((marchW (struckW W (splB W l (l).length)) (splG W l (l).length)).doW (splD W l (l).length)).troops.length) a_72.t, .int .i64 (((marchW (struckW W (splB W l (l).length)) (splG W l (l).length)).doW (splD W l (l).length)).next), .int .i64 ((((marchW (struckW W (splB W l (l).length)) (splG W l (l).length)).doW (splD W l (l).length)).now) + 1)]) rfl rfl B_5 rfl eF11 rfl rfl rfl λ w_88 m_89 B_5 => ?_
 have := m_89.size
 have z_88 := Ext.mod z_84 m_89 (ge1 (by omega))
 have := m_89.size
 refine nK <| sq <| ?_
 refine rdW [b_9] [(0, 0), (1, 0), (2, 2), (3, 3)] [0, 1, 2, 3, 4] (by kernel_rfl) (by kernel_rfl) ?_
 refine fqW rfl rfl (λ _ x => ld rfl ((B_5.mod x (nm1 (by omega))).all eF54 eF55)) rfl <| ?_
 have B_37 := B_37.mod m_89 (nm1 (by omega))
 refine fqW rfl rfl (λ _ x => ld rfl ((B_37.mod x (nm1 (by omega))).all eF173 eF172)) rfl <| ?_
 have B_12 := B_12.later (eT x_17 (eT x_30 (eT x_35 x_46)))
 have B_12 := B_12.mod m_49 (nm1 (by omega))
 have B_12 := B_12.mod m_53 (nm1 (by omega))
 have B_12 := B_12.later x_62
 have B_12 := B_12.mod m_65 (nm1 (by omega))
 have B_12 := B_12.mod m_69 (nm1 (by omega))
 have B_12 := B_12.later x_78
 have B_12 := B_12.mod m_81 (nm1 (by omega))
 have B_12 := B_12.mod m_85 (nm1 (by omega))
 have B_12 := B_12.mod m_89 (nm1 (by omega))
 refine fxW rfl rfl rfl λ w_92 x_93 Q hK => st (new := [.int .i64 (((marchW (struckW W (splB W l (l).length)) (splG W l (l).length)).doW (splD W l (l).length)).field.wide), .int .i64 (((marchW (struckW W (splB W l (l).length)) (splG W l (l).length)).doW (splD W l (l).length)).field.high), .slice a_72.P (((marchW (struckW W (splB W l (l).length)) (splG W l (l).length)).doW (splD W l (l).length)).field.places.length) a_72.p, .slice a_72.B (((marchW (struckW W (splB W l (l).length)) (splG W l (l).length)).doW (splD W l (l).length)).bases.length) a_72.b, .slice a_72.S (((marchW (struckW W (splB W l (l).length)) (splG W l (l).length)).doW (splD W l (l).length)).stocks.length) a_72.s, .slice a_72.M (((marchW (struckW W (splB W l (l).length)) (splG W l (l).length)).doW (splD W l (l).length)).mines.length) a_72.m, .slice a_72.T (((marchW (struckW W (splB W l (l).length)) (splG W l (l).length)).doW (splD W l (l).length)).troops.length) a_72.t, .int .i64 (((marchW (struckW W (splB W l (l).length)) (splG W l (l).length)).doW (splD W l (l).length)).next), .int .i64 ((((marchW (struckW W (splB W l (l).length)) (splG W l (l).length)).doW (splD W l (l).length)).now) + 1)]) rfl rfl (B_12.later x_93) rfl eF55 rfl rfl rfl λ w_94 m_95 B_12 => hK _ _ ⟨(Mod.of_ext x_93).trans m_95, ?_⟩
 have := x_93.size
 have z_92 := eT z_88 x_93
 have := m_95.size
 have z_94 := Ext.mod z_92 m_95 (ge1 (by omega))
 have := m_95.size
 have B_19 := B_19.later (eT x_30 (eT x_35 x_46))
 have B_19 := B_19.mod m_49 (nm1 (by omega))
 have B_19 := B_19.mod m_53 (nm1 (by omega))
 have B_19 := B_19.later x_62
 have B_19 := B_19.mod m_65 (nm1 (by omega))
 have B_19 := B_19.mod m_69 (nm1 (by omega))
 have B_19 := B_19.later x_78
 have B_19 := B_19.mod m_81 (nm1 (by omega))
 have B_19 := B_19.mod m_85 (nm1 (by omega))
 have B_19 := B_19.mod m_89 (nm1 (by omega))
 have B_19 := B_19.later x_93
 have B_19 := B_19.mod m_95 (nm1 (by omega))
 refine fbW rfl rfl rfl λ w_99 x_100 Q hK => st (new := [.slice A40 ((struckG W (splB W l (l).length)).length) c40, .slice A56 ((marchM (struckW W (splB W l (l).length)) (splG W l (l).length)).length) c56, .slice A_72 (((marchW (struckW W (splB W l (l).length)) (splG W l (l).length)).doB (splD W l (l).length)).length) c_72]) rfl rfl (B_19.later x_100) rfl eF172 rfl rfl rfl λ w_101 m_102 B_19 => hK _ _ ?_
 have := x_100.size
 have z_99 := eT z_94 x_100
 have := m_102.size
 have z_101 := Ext.mod z_99 m_102 (ge1 (by omega))
 have := m_102.size
 refine fwW rfl rfl (λ _ => as_ rfl) rfl <| fnW λ w_106 x_107 => ?_
 have := x_107.size
 have z_106 := eT z_101 x_107
 refine nT <| rt <| ?_
 have B_12 := B_12.later x_100
 have B_12 := B_12.mod m_102 (nm1 (by omega))
 have B_12 := B_12.later x_107
 have B_19 := B_19.later x_107
 refine tR (.cell rfl (B_12.all eF54 eF55) (.cell rfl (B_19.all eF173 eF172) (.tmp rfl .nil))) <| ?_
 have HO_72 := HO_72.mod m_81 (fk2 lo_74 (by omega))
 have HO_72 := HO_72.mod m_85 (fk2 lo_74 (by omega))
 have HO_72 := HO_72.mod m_89 (fk2 lo_74 (by omega))
 have HO_72 := HO_72.later x_93
 have HO_72 := HO_72.mod m_95 (fk2 lo_74 (by omega))
 have HO_72 := HO_72.later x_100
 have HO_72 := HO_72.mod m_102 (fk2 lo_74 (by omega))
 have HO_72 := HO_72.later x_107
 have OG40 := OG40.mod m_49 (fk2 lo_44 (by omega))
 have OG40 := OG40.mod m_53 (fk2 lo_44 (by omega))
 have OG40 := OG40.later x_62
 have OG40 := OG40.mod m_65 (fk2 lo_44 (by omega))
 have OG40 := OG40.mod m_69 (fk2 lo_44 (by omega))
 have OG40 := OG40.later x_78
 have OG40 := OG40.mod m_81 (fk2 lo_44 (by omega))
 have OG40 := OG40.mod m_85 (fk2 lo_44 (by omega))
 have OG40 := OG40.mod m_89 (fk2 lo_44 (by omega))
 have OG40 := OG40.later x_93
 have OG40 := OG40.mod m_95 (fk2 lo_44 (by omega))
 have OG40 := OG40.later x_100
 have OG40 := OG40.mod m_102 (fk2 lo_44 (by omega))
 have OG40 := OG40.later x_107
 have OM56 := OM56.mod m_65 (fk2 lo_60 (by omega))
 have OM56 := OM56.mod m_69 (fk2 lo_60 (by omega))
 have OM56 := OM56.later x_78
 have OM56 := OM56.mod m_81 (fk2 lo_60 (by omega))
 have OM56 := OM56.mod m_85 (fk2 lo_60 (by omega))
 have OM56 := OM56.mod m_89 (fk2 lo_60 (by omega))
 have OM56 := OM56.later x_93
 have OM56 := OM56.mod m_95 (fk2 lo_60 (by omega))
 have OM56 := OM56.later x_100
 have OM56 := OM56.mod m_102 (fk2 lo_60 (by omega))
 have OM56 := OM56.later x_107
 have OD_72 := OD_72.mod m_81 (fk2 lo_76 (by omega))
 have OD_72 := OD_72.mod m_85 (fk2 lo_76 (by omega))
 have OD_72 := OD_72.mod m_89 (fk2 lo_76 (by omega))
 have OD_72 := OD_72.later x_93
 have OD_72 := OD_72.mod m_95 (fk2 lo_76 (by omega))
 have OD_72 := OD_72.later x_100
 have OD_72 := OD_72.mod m_102 (fk2 lo_76 (by omega))
 have OD_72 := OD_72.later x_107
 obtain ⟨z1, z2, z3, z4⟩ := turn_yes h0
 have hR : WOwn w_106 w.heap.size a_72 (turnW W l) := by rw [z1]; exact (HO_72.down (by omega)).setN rfl rfl rfl rfl rfl ⟨HO_72.nums.1, HO_72.nums.2.1, HO_72.nums.2.2.1, okI_iff.2 (by show _ ≤ (turn3 W l).now + 1 ∧ (turn3 W l).now + 1 ≤ _; omega)⟩
 exact ⟨a_72, A40, c40, A56, c56, A_72, c_72, by rw [h0, z1, z2, z3, z4]; rfl, hR, by rw [z2]; exact OG40.down (by omega), by rw [z3]; exact OM56.down (by omega), by rw [z4]; exact OD_72.down (by omega), λ q hq hf => hq.elim (λ hq => by exfalso; (have := lo_74 q hf; (have := u_43 q hq; omega))) (λ hq => hq.elim (λ hq => by exfalso; (have := lo_74 q hf; (have := u_59 q hq; omega))) (λ hq => by exfalso; (exact dd_72 q hq hf))), z_106⟩
theorem turn_any (a : Wd.At) (W : Wd) (A : Option Addr) (c : Nat) (l : List Odr) (w : World) (hW : Wd.Has w a W) (hl : Odr.rep.SHas 48 w A c l) : Calls Try.prog 27 #[.agg (Wd.cells a W).toArray, .slice A l.length c] w (TurnPost W l w) := by
 by_cases h1 : splE W l = 0
 ·by_cases h2 : 1000000 ≤ W.now
  ·exact turn_B a W A c l w hW hl h1 h2
  ·exact turn_C a W A c l w hW hl (by unfold turnE; rw [if_neg (by simpa using h1), if_neg h2])
 ·exact turn_A a W A c l w hW hl h1
end
section
open Go.RowKit
structure Kept (W V : Wd) : Prop where
 field : V.field = W.field
 bases : V.bases = W.bases
 now : V.now = W.now
 next : V.next = W.next + ((V.troops.length : Int) - W.troops.length)
 len : W.troops.length ≤ V.troops.length
 old : ∀ (i : Nat) (t : Trp), W.troops[i]? = some t → ∃ u : Trp, V.troops[i]? = some u ∧ { u with load := t.load } = t
 new : ∀ (i : Nat) (u : Trp), W.troops.length ≤ i → V.troops[i]? = some u → W.next ≤ u.id
theorem Kept.rf (W : Wd) : Kept W W := ⟨rfl, rfl, rfl, by omega, Nat.le_refl _, λ i t h => ⟨t, h, rfl⟩, λ i u h hu => by
 rw [List.getElem?_eq_none (by omega)] at hu; cases hu⟩
theorem Kept.tr {U V W : Wd} (h : Kept U V) (k : Kept V W) : Kept U W where
 field := k.field.trans h.field
 bases := k.bases.trans h.bases
 now := k.now.trans h.now
 next := by rw [k.next, h.next]; omega
 len := Nat.le_trans h.len k.len
 old i t ht := by
  obtain ⟨u, hu, e⟩ := h.old i t ht
  obtain ⟨x, hx, e2⟩ := k.old i u hu
  refine ⟨x, hx, ?_⟩
  rw [← e, ← e2]
 new i u hi hu := by
  by_cases h1 : i < V.troops.length
  ·obtain ⟨t, ht⟩ := get_of h1
   obtain ⟨x, hx, e⟩ := k.old i t ht
   rw [hu] at hx
   obtain rfl := Option.some.inj hx
   have := h.new i t hi ht
   have e3 : t.id = u.id := by rw [← e]
   omega
  ·have h2 := k.new i u (by omega) hu
   have := h.next
   have := h.len
   omega
theorem Kept.getD {W V : Wd} (h : Kept W V) {i : Nat} (hi : i < W.troops.length) : { V.troops.getD i default with load := (W.troops.getD i default).load } = W.troops.getD i default := by
 obtain ⟨t, ht⟩ := get_of hi
 obtain ⟨u, hu, e⟩ := h.old i t ht
 rw [List.getD_eq_getElem?_getD, List.getD_eq_getElem?_getD, ht, hu]
 exact e
def picked : List Ded → List Bool → List Ded
 | d :: l, b :: bs => if b then d :: picked l bs else picked l bs
 | _, _ => []
end
section
open Go.RowKit
def tickL : List Odr := [⟨0, 3, 1, ⟨2, 0⟩, 0⟩]
def tickV : Wd := ⟨⟨3, 1, [0, 0, 3]⟩, [⟨0, 0⟩], [20], [0, 0, 8], [⟨1, 0, 1, ⟨1, 0⟩, 10, 1⟩], 2, 1⟩
end
section
open Go.RowKit
section
variable {W : Wd} {p x : Int} {l : List Odr} {o : Odr} {i : Nat} {f : Fld} {t u : Trp} {s : List Bool × List Int}
theorem marks_keep : ∀ (l : List Cel) (out : List Bool), out.getD i false = true → (marks f out l).getD i false = true
 | [], _, h => h
 | c :: l, out, h => by
  show (marks f (out.set (c.y * f.wide + c.x).toNat true) l).getD i false = true
  refine marks_keep l _ ?_
  rw [List.getD_eq_getElem?_getD] at h ⊢
  rw [List.getElem?_set]
  split
  ·rename_i e
   split
   ·rfl
   ·rename_i hl; rw [List.getElem?_eq_none (by omega)] at h; cases h
  ·exact h
theorem marks_mem {n : Cel} : ∀ (l : List Cel) (out : List Bool), n ∈ l → (n.y * f.wide + n.x).toNat < out.length → (marks f out l).getD (n.y * f.wide + n.x).toNat false = true
 | c :: l, out, h, hl => by
  show (marks f (out.set (c.y * f.wide + c.x).toNat true) l).getD _ false = true
  rcases List.mem_cons.1 h with rfl | h
  ·refine marks_keep l _ ?_
   rw [List.getD_eq_getElem?_getD, List.getElem?_set_self hl]; rfl
  ·exact marks_mem l _ h (by rw [List.length_set]; exact hl)
theorem look1_keep {o : List Bool} (h : o.getD i false = true) : (look1 W p o t).getD i false = true := by
 unfold look1; split
 ·exact marks_keep _ _ h
 ·exact h
theorem look_fold : ∀ (l : List Trp) (o : List Bool), o.getD i false = true → (l.foldl (look1 W p) o).getD i false = true
 | [], _, h => h
 | t :: l, o, h => look_fold l _ (look1_keep h)
theorem look_mem {n : Cel} : ∀ (l : List Trp) (o : List Bool), t ∈ l → t.owner = p → n ∈ seenL W.field t.spot 5 → (n.y * W.field.wide + n.x).toNat < o.length → (l.foldl (look1 W p) o).getD (n.y * W.field.wide + n.x).toNat false = true
 | u :: l, o, h, ho, hn, hl => by
  rw [List.foldl_cons]
  rcases List.mem_cons.1 h with rfl | h
  ·refine look_fold l _ ?_
   unfold look1; rw [if_pos ho]
   exact marks_mem _ _ hn hl
  ·exact look_mem l _ h ho hn (by rw [look1_len]; exact hl)
theorem seen_by (h : mistE W p = 0) (ht : t ∈ W.troops) (ho : t.owner = p) {n : Cel} (hn : n ∈ seenL W.field t.spot 5) : (mistB W p).getD (n.y * W.field.wide + n.x).toNat false = true := by
 obtain ⟨h1, h2, h3⟩ := mistE_ok h
 rw [(mist_ok h1 ⟨h2, h3⟩).2, seen_all]
 have hs := seen_idx hn
 refine look_mem _ _ ht ho hn ?_
 rw [marks_len, List.length_replicate]
 omega
theorem reach2 (k : Int) : reachOf k ≤ 2 := by unfold reachOf; split <;> (try split) <;> omega
theorem counts_seen (hG : Good W) (ht : t ∈ W.troops) (hu : u ∈ W.troops) (hc : countsC W.field t u = true) : u.spot ∈ seenL W.field t.spot 5 ∧ t.owner ≠ u.owner := by
 unfold countsC at hc
 split at hc
 ·cases hc
 ·rename_i h
  rw [Bool.or_eq_true, not_or, beq_iff_eq, decide_eq_true_eq] at h
  obtain ⟨i, hi, rfl⟩ := List.mem_iff_getElem.1 ht
  obtain ⟨j, hj, rfl⟩ := List.mem_iff_getElem.1 hu
  have g1 := (hG.troops i _ (List.getElem?_eq_getElem hi)).ground
  have g2 := (hG.troops j _ (List.getElem?_eq_getElem hj)).ground
  have i1 := Fld.ground_in g1
  have i2 := Fld.ground_in g2
  obtain ⟨_, _, a1, a2, a3, a4⟩ := Fld.idx hG.field i1
  obtain ⟨_, _, b1, b2, b3, b4⟩ := Fld.idx hG.field i2
  have e1 := (Fld.at_in hG.field i1).1
  have e2 := (Fld.at_in hG.field i2).1
  refine ⟨(seen_mem e1 (by decide)).2 ⟨?_, ?_⟩, h.1⟩
  ·have hr := reach2 (W.troops[i]).kind
   have hf : far (W.troops[i]).spot (W.troops[j]).spot ≤ 2 := by omega
   unfold far at hf
   have s1 := sz_bd ((W.troops[j]).spot.x - (W.troops[i]).spot.x)
   have s2 := sz_bd ((W.troops[j]).spot.y - (W.troops[i]).spot.y)
   have m1 := Int.le_max_left (sz ((W.troops[j]).spot.x - (W.troops[i]).spot.x)) (sz ((W.troops[j]).spot.y - (W.troops[i]).spot.y))
   have m2 := Int.le_max_right (sz ((W.troops[j]).spot.x - (W.troops[i]).spot.x)) (sz ((W.troops[j]).spot.y - (W.troops[i]).spot.y))
   have q1 : -2 ≤ (W.troops[j]).spot.x - (W.troops[i]).spot.x ∧ (W.troops[j]).spot.x - (W.troops[i]).spot.x ≤ 2 := by
    rcases (show (W.troops[j]).spot.x - (W.troops[i]).spot.x < 0 ∨ 0 ≤ (W.troops[j]).spot.x - (W.troops[i]).spot.x by omega) with hh | hh
    ·have := s1.2.2.2 hh; omega
    ·have := s1.2.2.1 hh; omega
   have q2 : -2 ≤ (W.troops[j]).spot.y - (W.troops[i]).spot.y ∧ (W.troops[j]).spot.y - (W.troops[i]).spot.y ≤ 2 := by
    rcases (show (W.troops[j]).spot.y - (W.troops[i]).spot.y < 0 ∨ 0 ≤ (W.troops[j]).spot.y - (W.troops[i]).spot.y by omega) with hh | hh
    ·have := s2.2.2.2 hh; omega
    ·have := s2.2.2.1 hh; omega
   omega
  ·unfold seesV at hc
   split at hc
   ·cases hc
   ·exact hc
theorem own_at (hG : Good W) (hi : i < W.troops.length) (hid : (W.troops.getD i default).id = x) {q : Int} (h : getI (ownK W W.troops.length) x = some q) : (W.troops.getD i default).owner = q := by
 unfold getI ownK at h
 rw [List.take_length, List.find?_map] at h
 cases hf : W.troops.find? ((λ kv => kv.1 == x) ∘ λ t => (t.id, t.owner)) with
 | none => rw [hf] at h; cases h
 | some t =>
  rw [hf] at h
  have h1 : t.owner = q := by simpa using h
  have h2 : t.id = x := by simpa using List.find?_some hf
  obtain ⟨j, hj, e⟩ := List.mem_iff_getElem.1 (List.mem_of_find?_eq_some hf)
  have hi' : W.troops[i]? = some (W.troops.getD i default) := get_d hi
  have hj' : W.troops[j]? = some t := by rw [List.getElem?_eq_getElem hj, e]
  have := id_inj hG.chk hi' hj' (by rw [hid, h2])
  subst this
  rw [hi'] at hj'
  rw [Option.some.inj hj']; exact h1
def knownT (W : Wd) (p x : Int) : Bool := (viewW W p).troops.any λ t => t.id == x
def hides (W : Wd) (p : Int) (o : Odr) : Bool := (o.by_ != p) || ((o.kind == 1) && !knownT W p o.what)
def mineL (p : Int) (l : List Odr) : List Odr := l.filter λ o => !(o.by_ != p)
def blindL (W : Wd) (p : Int) (l : List Odr) : List Odr := l.filter λ o => !hides W p o
theorem blow_blind (h : mistE W p = 0) (hk : o.kind = 1) (hb : o.by_ = p) (hm : may W o = true) (hn : knownT W p o.what = false) : blowNo W s ⟨o.who, o.what⟩ = true := by
 have hG := Good.of_chk (mistE_ok h).1
 cases hB : blowNo W s ⟨o.who, o.what⟩ with
 | true => rfl
 | false =>
  exfalso
  unfold blowNo at hB
  simp only [Bool.or_eq_false_iff, Bool.not_eq_false'] at hB
  obtain ⟨⟨⟨h1, h2⟩, _⟩, h4⟩ := hB
  obtain ⟨v, hv⟩ := Option.isSome_iff_exists.1 h1
  obtain ⟨u, hu⟩ := Option.isSome_iff_exists.1 h2
  obtain ⟨i, hi, rfl, hid⟩ := place_of hv
  obtain ⟨j, hj, rfl, hjd⟩ := place_of hu
  rw [hv, hu] at h4
  have h4 : countsC W.field (W.troops.getD i default) (W.troops.getD j default) = true := h4
  unfold may at hm
  rw [if_neg (by omega), Bool.and_eq_true] at hm
  obtain ⟨q, hq⟩ := Option.isSome_iff_exists.1 hm.1
  have hown := own_at hG hi hid hq
  have hqb : q = o.by_ := by have := hm.2; rw [hq] at this; simpa using this
  have mi := mem_dd hi (d := default)
  have mj := mem_dd hj (d := default)
  obtain ⟨c1, c2⟩ := counts_seen hG mi mj h4
  have hs := seen_by h mi (by rw [hown, hqb, hb]) c1
  have hv2 : W.troops.getD j default ∈ (viewW W p).troops := by
   rw [view_ok h]
   refine List.mem_filter.2 ⟨mj, ?_⟩
   unfold vdel; rw [hs]; simp
  have : knownT W p o.what = true := List.any_eq_true.2 ⟨_, hv2, by simpa using hjd⟩
  rw [this] at hn; cases hn
theorem blind_foldB (h : mistE W p = 0) : ∀ (l : List Odr) (s : List Bool × List Int), ((blindL W p l).flatMap λ o => if may W o = true then spB o else []).foldl (blow W) s = ((mineL p l).flatMap λ o => if may W o = true then spB o else []).foldl (blow W) s
 | [], _ => rfl
 | o :: l, s => by
  have ih := blind_foldB h l
  unfold blindL mineL at ih ⊢
  rw [List.filter_cons, List.filter_cons]
  unfold hides at ih ⊢
  by_cases hb : o.by_ = p
  ·have e1 : (o.by_ != p) = false := by rw [hb]; simp
   simp only [e1, Bool.false_or, Bool.not_false, if_true]
   cases hc : (o.kind == 1) && !knownT W p o.what with
   | false =>
    rw [Bool.not_false, if_pos rfl, List.flatMap_cons, List.flatMap_cons, List.foldl_append, List.foldl_append]
    exact ih _
   | true =>
    rw [Bool.not_true, if_neg (by decide), List.flatMap_cons, List.foldl_append, ih]
    rw [Bool.and_eq_true, beq_iff_eq, Bool.not_eq_true'] at hc
    cases hm : may W o with
    | false => rfl
    | true =>
     rw [if_pos rfl]; unfold spB; rw [if_pos hc.1]
     show _ = List.foldl _ (blow W s ⟨o.who, o.what⟩) _
     rw [blow_no (blow_blind h hc.1 hb hm hc.2)]
  ·have e1 : (o.by_ != p) = true := by simpa using hb
   simp only [e1, Bool.true_or, Bool.not_true, if_false]
   exact ih s
theorem blind_flat {β : Type} (g : Odr → List β) (hg : ∀ o : Odr, o.kind = 1 → g o = []) : ∀ l : List Odr, ((blindL W p l).flatMap λ o => if may W o = true then g o else []) = (mineL p l).flatMap λ o => if may W o = true then g o else []
 | [] => rfl
 | o :: l => by
  have ih := blind_flat g hg l
  unfold blindL mineL at ih ⊢
  rw [List.filter_cons, List.filter_cons]
  unfold hides at ih ⊢
  cases e1 : o.by_ != p with
  | false =>
   simp only [Bool.false_or, Bool.not_false, if_true]
   cases hc : (o.kind == 1) && !knownT W p o.what with
   | false => rw [Bool.not_false, if_pos rfl, List.flatMap_cons, List.flatMap_cons, ih]
   | true =>
    rw [Bool.not_true, if_neg (by decide), List.flatMap_cons, ih]
    rw [Bool.and_eq_true, beq_iff_eq] at hc
    rw [hg o hc.1]; split <;> rfl
  | true => simp only [Bool.true_or, Bool.not_true]; exact ih
theorem turn_unseen (h : mistE W p = 0) (hl : splE W l = 0) : turnE W (mineL p l) = turnE W (blindL W p l) ∧ turnW W (mineL p l) = turnW W (blindL W p l) := by
 obtain ⟨h1, h3⟩ := splE_zero hl
 have hlen := splE_len hl
 have key : ∀ q : Odr → Bool, splE W (l.filter q) = 0 := λ q => by
  have e0 : ordsE (l.filter q) = 0 := ordsE_mk (Nat.le_trans (List.length_filter_le _ _) hlen) λ o ho => (ordsE_zero h1).2 o (List.mem_filter.1 ho).1
  unfold splE; rw [if_neg (by simpa using e0)]; exact h3
 have k1 : splE W (mineL p l) = 0 := key _
 have k2 : splE W (blindL W p l) = 0 := key _
 have hE : turnE W (mineL p l) = turnE W (blindL W p l) := by unfold turnE; rw [k1, k2]
 refine ⟨hE, ?_⟩
 by_cases h0 : turnE W (mineL p l) = 0
 ·have b1 : ((mineL p l)).length ≤ 100 := Nat.le_trans (List.length_filter_le _ _) hlen
  have b2 : ((blindL W p l)).length ≤ 100 := Nat.le_trans (List.length_filter_le _ _) hlen
  have x1 := (spl_len W (mineL p l) (mineL p l).length).1
  have x2 := (spl_len W (blindL W p l) (blindL W p l).length).1
  have eG : splG W (mineL p l) (mineL p l).length = splG W (blindL W p l) (blindL W p l).length := by
   unfold splG; rw [List.take_length, List.take_length]; exact (blind_flat spG (λ o ho => by unfold spG; rw [if_neg (by omega)]) l).symm
  have eD : splD W (mineL p l) (mineL p l).length = splD W (blindL W p l) (blindL W p l).length := by
   unfold splD; rw [List.take_length, List.take_length]; exact (blind_flat spD (λ o ho => by unfold spD; rw [if_neg (by omega), if_neg (by omega), if_neg (by omega)]) l).symm
  have c1 := blowE_mk (l := splB W (mineL p l) (mineL p l).length) h3 (by omega)
  have c2 := blowE_mk (l := splB W (blindL W p l) (blindL W p l).length) h3 (by omega)
  have eH : harmW W (splB W (mineL p l) (mineL p l).length) = harmW W (splB W (blindL W p l) (blindL W p l).length) := by
   unfold harmW; rw [if_neg (by simpa using c1), if_neg (by simpa using c2)]
   unfold blows splB; rw [List.take_length, List.take_length, blind_foldB h l]
  have t1 : turn1 W (mineL p l) = turn1 W (blindL W p l) := by
   unfold turn1 struckW; rw [if_neg (by simpa using c1), if_neg (by simpa using c2), eH]
  have t2 : turn2 W (mineL p l) = turn2 W (blindL W p l) := by unfold turn2; rw [t1, eG]
  have t3 : turn3 W (mineL p l) = turn3 W (blindL W p l) := by unfold turn3; rw [t2, eD]
  rw [(turn_yes h0).1, (turn_yes (by rw [← hE]; exact h0)).1, t3]
 ·rw [(turn_no h0).1, (turn_no (by rw [← hE]; exact h0)).1]
end
end
section
open Go.RowKit
theorem idxF_O (fC : FuncId) (cs : List Value) (p : Odr → Bool) (A : Option Addr) (c : Nat) (l : List Odr) (w : World) (hl : Odr.rep.SHas 48 w A c l) (hE : Enters Try.prog fC) (hC : ∀ x ∈ l, ∀ w', Ext w w' → Calls Try.prog fC (([.agg #[.int .i64 x.by_, .int .i64 x.kind, .int .i64 x.who, .int .i64 x.spot.x, .int .i64 x.spot.y, .int .i64 x.what]] : List Value) ++ cs).toArray w' λ e w'' => e = .returned (.bool (p x)) ∧ Ext w' w'') :
  Calls Try.prog 69 #[.slice A l.length c, .func (.func fC) #[] cs.toArray] w (λ e w' => e = .returned (.int .i64 (idxI p l)) ∧ Ext w w') := by
 have hll := hl.len_le
 refine calls_W (n := 19) Try.func69 rfl rfl rfl ?_
 refine sg <| va rfl <| nK <| sq <| sg <| vm rfl <| vL (ln Try.underlying59 rfl) <| vm rfl <| nK <| bk <| ?_
 refine lp (λ mI EI wI => ∃ k : Nat, EI = [(0, .slice A l.length c), (1, .func (.func fC) #[] cs.toArray), (7, .int .i64 (l.length : Int)), (8, .int .i64 (k : Int))] ∧ mI = l.length - k ∧ Ext w wI ∧ (k ≤ l.length) ∧ (∀ i, i < k → p (l.getD i default) = false)) _ _ ⟨0, rfl, rfl, (Ext.rf w), by omega, λ i hi => by omega⟩ (.cons rfl (.cons rfl (.cons rfl (.cons (loI rfl (by first | omega | rfl | (simp <;> omega))) .nil)))) ?_
 rintro m_2 E_3 w_1 ⟨k, rfl, rfl, z_1, hk, hg⟩
 have := z_1.size
 refine sg <| vL (blt rfl rfl) <| nK <| sq <| ?_
 refine clt rfl (λ h_5 => ?_) (λ h_5 => ?_)
 ·refine sK <| sq <| bk <| sg <| vm rfl <| va rfl <| nK <| sg <| vm rfl <| vm rfl <| vm rfl <| vL (iA k Try.underlying59 eF153 rfl rfl ((hl.keep z_1).adr (zl k (by omega))) rfl (by omega)) <| vL (ld rfl (Rep.SHas.elt hcO ((hl.keep z_1).adh (zl k (by omega))) (get_d (l := l) (u := default) (by omega)) eF152 eF153)) <| cv hE rfl rfl rfl ((hC (l.getD k default) (mem_dd (by omega)) _ z_1).mono ?_)
  rintro e w_6 ⟨rfl, x_7⟩
  refine ⟨_, rfl, ?_⟩
  have := x_7.size
  have z_6 := eT z_1 x_7
  refine nK <| ?_
  refine cb rfl (λ h_9 => ?_) (λ h_9 => ?_)
  ·refine sg <| vm rfl <| va rfl <| nK <| rt <| tB <| tT <| tK <| tB <| tT <| tR (.tmp rfl .nil) <| ?_
   exact ⟨by have e := idx_some_dd (p := p) (l := l) (d := default) (k := k) (by omega) h_9 hg; rw [e]; rfl, z_6⟩
  ·refine sk <| nB <| nT <| rg <| vL (bad rfl rfl (inI (by omega))) <| vm rfl <| nl <| ?_
   exact nI _ _ ⟨k + 1, rfl, rfl, z_6, by omega, lt_succ_all hg h_9⟩ (by omega) (.cons rfl (.cons rfl (.cons rfl (.cons (loI rfl (by first | omega | rfl | (simp <;> omega))) .nil))))
 ·refine xt <| xT <| xK <| xB <| nT <| sg <| va rfl <| nK <| rt <| tR (.tmp rfl .nil) <| ?_
  exact ⟨by have e := idx_none_dd (p := p) (l := l) (d := default) (λ i hi => hg i (by omega)); rw [e]; rfl, z_1⟩
theorem delF_O (w0 : World) (fC : FuncId) (cs : List Value) (p : Odr → Bool) (A : Option Addr) (c : Nat) (l : List Odr) (w : World) (hx0 : Ext w0 w) (hO : Odr.rep.SOwn 72 48 w w0.heap.size (Rep.blkOf A) A c l) (hE : Enters Try.prog fC) (hC : ∀ x ∈ l, ∀ w', Ext w0 w' → Calls Try.prog fC (([.agg #[.int .i64 x.by_, .int .i64 x.kind, .int .i64 x.who, .int .i64 x.spot.x, .int .i64 x.spot.y, .int .i64 x.what]] : List Value) ++ cs).toArray w' λ e w'' => e = .returned (.bool (p x)) ∧ Ext w' w'') :
  Calls Try.prog 32 #[.slice A l.length c, .func (.func fC) #[] cs.toArray] w (λ e w' => e = .returned (.slice A (l.filter λ x => !p x).length c) ∧ Odr.rep.SOwn 72 48 w' w0.heap.size (Rep.blkOf A) A c (l.filter λ x => !p x) ∧ Mod (Rep.blkOf A) w w') := by
 have hl0 := hO.has
 have hll := hl0.len_le
 have hlc := hl0.1
 have uA := λ q hq => (hO.lt q hq).2
 have lA := λ q hq => (hO.lt q hq).1
 have lA2 : ∀ q ∈ Rep.blkOf A, w0.heap.size ≤ q := lA
 have hx0s := hx0.size
 refine calls_W (n := 42) Try.func32 rfl rfl rfl ?_
 refine sg <| va rfl <| nK <| sg <| vm rfl <| vm rfl <| ca eF180 rfl rfl ((idxF_O fC cs p _ _ l _ hO.has hE (λ x hx w' h => hC x hx w' (eT (Ext.mod hx0 (Mod.rf (Rep.blkOf A) w) lA) h))).mono ?_)
 rintro e w_1 ⟨rfl, x_2⟩
 refine ⟨_, rfl, ?_⟩
 have := x_2.size
 have z_1 := (Mod.rf (Rep.blkOf A) w).trans (Mod.of_ext x_2)
 refine va rfl <| nK <| sq <| sg <| vm rfl <| vL (beq rfl rfl) <| nK <| ?_
 refine ceq rfl (λ h_4 => ?_) (λ h_4 => ?_)
 ·refine sg <| vm rfl <| va rfl <| nK <| rt <| tT <| tR (.tmp rfl .nil) <| ?_
  have hO := hO.later x_2
  have e1 := idx_nofilter (by simpa using h_4)
  exact ⟨by rw [e1]; rfl, by rw [e1]; exact hO, z_1⟩
 ·obtain ⟨k0, hk0, e0, hm0⟩ := idx_first h_4
  refine sK <| sq <| sg <| vm rfl <| vL (bad rfl rfl (inI (by omega))) <| va rfl <| nK <| bk <| ?_
  have hO := hO.later x_2
  refine lp (λ mI EI wI => ∃ L : List Odr, ∃ i : Nat, ∃ j : Nat, EI = [(0, .slice A l.length c), (1, .func (.func fC) #[] cs.toArray), (4, .slice none 0 0), (5, .int .i64 (i : Int)), (6, .int .i64 (j : Int))] ∧ mI = l.length - j ∧ Mod (Rep.blkOf A) w wI ∧ Odr.rep.SOwn 72 48 wI w0.heap.size (Rep.blkOf A) A c (L) ∧ (L.length = l.length) ∧ (i < j) ∧ (j ≤ l.length) ∧ (L.take i = (l.take j).filter λ x => !p x) ∧ (L.drop j = l.drop j)) _ _ ⟨l, k0, k0 + 1, rfl, rfl, z_1, hO, rfl, by omega, by omega, hm0, rfl⟩ (.cons rfl (.cons rfl (.cons rfl (.cons (loI rfl (by first | omega | rfl | (simp <;> omega))) (.cons (loI rfl (by first | omega | rfl | (simp <;> omega))) .nil))))) ?_
  rintro m_6 E_7 w_5 ⟨L, i, j, rfl, rfl, z_5, O1, hL, hi, hj, hpre, hsuf⟩
  have := z_5.size
  have u_9 := λ q hq => (O1.lt q hq).2
  refine sq <| sg <| vm rfl <| vm rfl <| vL (ln Try.underlying59 rfl) <| vL (blt rfl rfl) <| nK <| ?_
  refine clt rfl (λ h_10 => ?_) (λ h_10 => ?_)
  ·refine sK <| sq <| bk <| sg <| vm rfl <| vm rfl <| vL (iA j Try.underlying59 eF153 rfl rfl (O1.has.adr (zl j (by omega))) rfl (by omega)) <| vL (ld rfl (Rep.SHas.elt hcO (O1.has.adh (zl j (by omega))) (suf_get (d := default) (by omega) (by omega) hsuf) eF152 eF153)) <| al rfl eF147 rfl rfl λ w_11 b_12 x_13 l_14 B_15 => ?_
   have := x_13.size
   have z_11 := z_5.trans (Mod.of_ext x_13)
   have q_17 := B_15.lt
   refine st (new := [.int .i64 ((l.getD j default).by_), .int .i64 ((l.getD j default).kind), .int .i64 ((l.getD j default).who), .int .i64 ((l.getD j default).spot.x), .int .i64 ((l.getD j default).spot.y), .int .i64 ((l.getD j default).what)]) rfl rfl B_15 rfl eF153 rfl rfl rfl λ w_18 m_19 B_15 => ?_
   have := m_19.size
   have z_18 := z_11.md m_19 (λ q hq => .inr (by have := List.mem_singleton.1 hq; omega))
   have := m_19.size
   refine nK <| sg <| vm rfl <| vL (ld rfl (B_15.all eF152 eF153)) <| cv hE rfl rfl rfl ((hC (l.getD j default) (mem_dd (by omega)) _ (Ext.mod hx0 z_18 lA)).mono ?_)
   rintro e w_22 ⟨rfl, x_23⟩
   refine ⟨_, rfl, ?_⟩
   have := x_23.size
   have z_22 := z_18.trans (Mod.of_ext x_23)
   refine vL (nt rfl) <| nK <| ?_
   refine cb rfl (λ h_25 => ?_) (λ h_25 => ?_)
   ·refine sg <| vm rfl <| vm rfl <| ?_
    have B_15 := B_15.later x_23
    refine vL (ld rfl (B_15.all eF152 eF153)) <| ?_
    have O1 := O1.later x_13
    have O1 := O1.mod m_19 (fk1 u_9 (by omega))
    have O1 := O1.later x_23
    refine vL (iA i Try.underlying59 eF153 rfl rfl (O1.has.adr (zl i (by omega))) rfl (by omega)) <| soE (q' := l.getD j default) (i := i) (es := [.int .i64 ((l.getD j default).by_), .int .i64 ((l.getD j default).kind), .int .i64 ((l.getD j default).who), .int .i64 ((l.getD j default).spot.x), .int .i64 ((l.getD j default).spot.y), .int .i64 ((l.getD j default).what)]) O1 Rep.flat_bare (by omega) rfl rfl rfl rfl (λ _ => ⟨rfl, (Odr.all_ok hl0 _ (mem_dd (by omega)))⟩) eF153 λ w_26 m_27 O_28 => ?_
    have := m_27.size
    have z_26 := z_22.md m_27 (λ q hq => .inl hq)
    have := m_27.size
    refine nK <| rg <| vm rfl <| vL (bad rfl rfl (inI (by omega))) <| va rfl <| nl <| nB <| nT <| rg <| vm rfl <| vL (bad rfl rfl (inI (by omega))) <| va rfl <| nl <| ?_
    exact nI _ _ ⟨(L).set i (l.getD j default), i + 1, j + 1, rfl, rfl, z_26, O_28, by rw [List.length_set]; exact hL, by omega, by omega, del_keep hL (by omega) (by omega) hpre h_25, del_suf (by omega) hsuf⟩ (by omega) (.cons rfl (.cons rfl (.cons rfl (.cons (loI rfl (by first | omega | rfl | (simp <;> omega))) (.cons (loI rfl (by first | omega | rfl | (simp <;> omega))) .nil)))))
   ·refine sk <| nB <| nT <| rg <| vm rfl <| vL (bad rfl rfl (inI (by omega))) <| va rfl <| nl <| ?_
    have O1 := O1.later x_13
    have O1 := O1.mod m_19 (fk1 u_9 (by omega))
    have O1 := O1.later x_23
    exact nI _ _ ⟨L, i, j + 1, rfl, rfl, z_22, O1, hL, by omega, by omega, del_drop (by omega) hpre h_25, drop_succ hsuf⟩ (by omega) (.cons rfl (.cons rfl (.cons rfl (.cons rfl (.cons (loI rfl (by first | omega | rfl | (simp <;> omega))) .nil)))))
  ·refine xt <| xT <| xK <| xB <| nT <| sg <| vm rfl <| vm rfl <| vL (sT i Try.underlying59 eF153 rfl rfl rfl (by omega)) <| cl (k := i) (q := l.length - i) (z := Odr.zero) (m := 6) Try.underlying59 Odr.info rfl (by decide) rfl (by decide) Odr.zero_raw (show Odr.rep.SOwn _ _ _ _ _ _ _ L from O1) Rep.flat_bare (by omega) (by omega) (by omega) (hO.block (by omega)) rfl λ w_31 m_32 O_33 => ?_
   have := m_32.size
   have z_31 := z_5.md m_32 (λ q hq => .inl hq)
   refine nK <| sg <| vm rfl <| vm rfl <| vL (sP i i Try.underlying59 eF153 rfl rfl rfl (by omega) rfl) <| va rfl <| nK <| rt <| tR (.tmp rfl .nil) <| ?_
   obtain rfl : j = l.length := by omega
   rw [List.take_length] at hpre
   have hli : (l.filter λ x => !p x).length = i := by rw [← hpre, List.length_take]; omega
   exact ⟨by rw [hli]; rfl, by rw [← hpre]; exact O_33, z_31⟩
end
section
open Go.RowKit
theorem clone_O (A : Option Addr) (c : Nat) (l : List Odr) (w : World) (h : Odr.rep.SHas 48 w A c l) :
  Calls Try.prog 33 #[.slice A l.length c] w λ e w' => ∃ A' c', e = .returned (.slice A' l.length c') ∧ Odr.rep.SOwn 72 48 w' w.heap.size (Rep.blkOf A') A' c' l ∧ (A' = none ↔ A = none) ∧ Below w.heap.size w w' := by
 obtain ⟨i0, hi, hz0, hz1, hz2⟩ := info_parts Odr.info
 have qnil : ∀ (w : World) (a : Option Addr) (n c n' c' : Nat), (binOp .eql 59 (.slice a n c) (.slice none n' c')).run Try.prog w = .ok (.bool a.isNone) w := λ w a n c n' c' => Lib.run_eql_slice_nil w _ _ a n c n' c' Try.underlying59
 cases A with
 | none =>
  obtain rfl : c = 0 := h.2.2.2.1 rfl
  obtain rfl : l = [] := List.eq_nil_of_length_eq_zero (by have := h.1; omega)
  go_enter Try.func33, Try.ntmps33
  go_wp2_with fail
  go_ret
  exact ⟨none, 0, rfl, Rep.SOwn.nil _, by simp, Below.refl _ _⟩
 | some a =>
  have hb0 : Below w.heap.size w (w.alloc (.cells #[] 72)) := (Below.refl _ w).alloc (Nat.le_refl _) _
  obtain ⟨n, HN⟩ : ∃ n, Hid (l.length = n) := ⟨_, Lib.hid rfl⟩
  obtain ⟨h1, h2, h3, h4, ess, h5, h6⟩ := h.keep hb0
  have H5 := Lib.hid h5
  have hone : ∀ u ∈ ess.flatten, u.oneCell' = true := by
   intro u hu
   obtain ⟨y, hy, hu⟩ := List.mem_flatten.1 hu
   obtain ⟨a, ha⟩ := h5.left y hy
   exact Odr.rep.one ha u hu
  have hraw : ∀ (j : Nat) u, ess.flatten[j]? = some u → Odr.rep.raw (j % Odr.rep.size) u := λ j u hu => flat_raw h5 (by decide) hu
  rw [HN.out] at h1 h3 h6
  have HR := Lib.hid h6
  have HE := Lib.hid (Own.empty (e := 72) (size := Odr.rep.size) (G := Odr.rep.raw) w (Nat.le_refl w.heap.size))
  clear h h4 h5 h6
  rw [HN.out]
  go_enter Try.func33, Try.ntmps33
  go_wp2_with (at_builtin; refine wpList_append_all _ rfl _ _ 59 rfl w.heap.size 72 i0 Odr.zero Odr.rep.size 48 Try.underlying59 hi hz0 hz1 hz2 rfl (by decide) Odr.rep.raw Odr.zero_raw _ _ _ rfl HE.out (some a) n c ess.flatten rfl HR.out hone hraw ?qc4 ?qc5 ?qc6 ?_)
  case qc4 => unfold maxLen; omega
  case qc5 => omega
  case qc6 => simp
  intro v' w1 hown hgrow hnil hat
  have hb1 := hb0.grown hgrow (by simp) (by intro k hk; simp [Value.ownBlock] at hk; omega)
  obtain ⟨A1, c1, rfl, hle, _, _, _, hnn⟩ := hown.shape
  have hA1 : A1 ≠ none := by
   intro h
   subst h
   exact hnil (hnn rfl)
  have HO : Hid (Odr.rep.SOwn 72 48 w1 w.heap.size (Rep.blkOf A1) A1 c1 l) := Lib.hid (Rep.SOwn.of_plain Odr.plain H5.out (by rw [HN.out]; exact h3) (by rw [HN.out]; simpa using hown))
  have HA1 := Lib.hid hA1
  clear hgrow hnil hat hown hA1 hnn hone hraw
  go_wp2_with fail
  go_ret
  exact ⟨A1, c1, rfl, HO.out, ⟨λ h => absurd h HA1.out, λ h => by cases h⟩, hb1⟩
end
end Go.Proofs.Ytccankldeogdlaa
