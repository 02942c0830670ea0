/-
  A batch of makers, with one worldless operation that may be ready ahead of some of them.
-/
import Derived.Test.YtfabhinehfhndaaGolB
set_option linter.unusedVariables false
set_option linter.unusedSimpArgs false
namespace Go.Proofs.Ytfabhinehfhndaa
open Go.RowKit

section
variable {P : Program} {n : Nat} {E : List (Nat × Value)} {w0 : World} {Q : Exit → Act → World → Prop} {ops : Array Oper} {kd : Nat → Nat}
theorem any_first (hs : Region.noSelect ops = true) (hQ : ∀ c a w, ¬ Q (.panic c) a w) {c m : Nat} {l : Array Bool} {o : Oper} {v : Value} {a : Act} (ho : ops[c]? = some o) (hk : kd c = 1) (hf : Region.free .any ops l c = true) (hr : (Region.ready .any ops l).contains c = true) (hq : Yields P ops o v a)
    (hC : anyF P ops Q kd m (l.setIfInBounds c true) (a.put o.dst v) w0) : anyF P ops Q kd (m + 1) l a w0 :=
  firstF ho (by omega) (Region.noSelect_spec hs) hQ (fun _ a => Yields P ops o v a) (fun _ _ h => Yields.qin h) (fun _ _ _ h he hw => h.of_same he hw) (fun _ _ _ _ h => h) (fun _ => true) l (fun _ _ _ _ _ => rfl) (.inl fun _ _ _ h => h) _ _ _ _ (fun _ _ => rfl) (fun _ h => h) (Region.free_spec ho hf) (by simpa using hr) hq hC
def batchD (ops : Array Oper) (kd : Nat → Nat) (r : List Nat) (c : Nat) (dp : List Nat) : Nat → Bool → List Nat → Array Bool → Bool
  | 0, cp, R, l => !cp && (R.isEmpty && flowB ops kd r l)
  | f + 1, cp, R, l => match cp && (Region.ready .any ops l).contains c with
    | true => (R.all fun x => !dp.contains x) && Region.free .any ops l c && Nat.beq (kd c) 1 && (Region.ready .any ops l).contains c && cp && batchD ops kd r c dp f false R (l.setIfInBounds c true)
    | false => !(Region.ready .any ops l).isEmpty && (Region.ready .any ops l).all fun j => R.contains j && Nat.beq (kd j) 2 && batchD ops kd r c dp f cp (R.erase j) (l.setIfInBounds j true)
theorem batch_coreD (hs : Region.noSelect ops = true) {τ : List Nat} (M : List Made) (hM : ∀ x ∈ M, Mk P n ops Q E w0 x.1 x.2.1 x.2.2) (hn1 : (M.map (·.1)).Nodup) (hn2 : (M.map (·.2.1)).Nodup)
    {c dc : Nat} {oc : Oper} (hoc : ops[c]? = some oc) (hdc : oc.dst = some dc) (hbc : Nat.blt dc n = true) (hfc : look E dc = none) (hMc : ∀ x ∈ M, x.2.1 ≠ dc) (Md : List (Nat × Nat)) (hMd : ∀ y ∈ Md, ∃ x ∈ M, x.1 = y.1 ∧ x.2.1 = y.2) (val : (Nat → Value) → Value)
    (hval : ∀ vs vs' : Nat → Value, (∀ y ∈ Md, vs y.1 = vs' y.1) → val vs = val vs') (hy : ∀ (vs : Nat → Value) (fs : Nat → List Nat) (u : World), (∀ x ∈ M, x.1 ∈ Md.map (·.1) → x.2.2 (vs x.1) (fs x.1) u) → ∀ w : World, Runs P (Md.map (fun y => (y.2, vs y.1)) ++ E) oc w (val vs) w) (hg : oc.guard = none)
    (hcont : ∀ (w : World) (vs : Nat → Value) (fs : Nat → List Nat), Ext w0 w → (∀ x ∈ M, x.2.2 (vs x.1) (fs x.1) w ∧ ∀ q ∈ fs x.1, w0.heap.size ≤ q ∧ q < w.heap.size) → (∀ x ∈ M, ∀ y ∈ M, x.1 ≠ y.1 → ∀ q ∈ fs x.1, q ∈ fs y.1 → False) → FL P n ops Q kd τ ((dc, val vs) :: (M.map (fun x => (x.2.1, vs x.1)) ++ E)) w) :
    ∀ (f : Nat) (cp : Bool) (R : List Nat) (l : Array Bool) (a : Act) (w : World) (vs : Nat → Value) (fs : Nat → List Nat), l.size = ops.size → batchD ops kd τ c (Md.map (·.1)) f cp R l = true → (∀ i ∈ R, ∃ x ∈ M, x.1 = i) → R.Nodup → Ext w0 w → Agr n E a →
      (∀ x ∈ M, x.1 ∉ R → x.2.2 (vs x.1) (fs x.1) w ∧ (∀ q ∈ fs x.1, w0.heap.size ≤ q ∧ q < w.heap.size) ∧ a.tmps[x.2.1]? = some (vs x.1)) →
      (∀ x ∈ M, x.1 ∉ R → ∀ y ∈ M, y.1 ∉ R → x.1 ≠ y.1 → ∀ q ∈ fs x.1, q ∈ fs y.1 → False) → (cp = false → (∀ i ∈ R, i ∉ Md.map (·.1)) ∧ a.tmps[dc]? = some (val vs)) → anyF P ops (nrm (Q .normal)) kd (f + τ.length) l a w := by
  intro f
  induction f with
  | zero =>
    intro cp R l a w vs fs hl hB _ _ hx ha h1 h2 h3
    simp only [batchD, Bool.and_eq_true, List.isEmpty_iff, Bool.not_eq_true'] at hB
    obtain ⟨rfl, rfl, hB⟩ := hB
    rw [Nat.zero_add]
    refine any_of_flow hs (fun _ _ _ h => h) τ l a w hl hB (hcont w vs fs hx (fun x hx => ⟨(h1 x hx (by simp)).1, (h1 x hx (by simp)).2.1⟩) (fun x hx y hy => h2 x hx (by simp) y hy (by simp)) a ⟨ha.d, ha.s, fun t v hv => ?_⟩)
    simp only [look] at hv
    cases hb : Nat.beq dc t with
    | true =>
      rw [hb] at hv
      obtain rfl := Nat.eq_of_beq_eq_true hb
      obtain rfl := Option.some.inj hv
      exact (h3 rfl).2
    | false =>
      rw [hb] at hv
      rcases look_made hv with ⟨x, hx, rfl, rfl⟩ | hv
      · exact (h1 x hx (by simp)).2.2
      · exact ha.g t v hv
  | succ f ih =>
    intro cp R l a w vs fs hl hB hR hnd hx ha h1 h2 h3
    rw [Nat.succ_add]
    unfold batchD at hB
    cases hc : cp && (Region.ready .any ops l).contains c with
    | true =>
      rw [hc] at hB
      simp only [Bool.and_eq_true] at hB
      obtain ⟨⟨⟨⟨⟨b1, b2⟩, b3⟩, b4⟩, b5⟩, b6⟩ := hB
      have hbd := hbc
      rw [Nat.blt_eq] at hbd
      have hRd : ∀ i ∈ R, i ∉ Md.map (·.1) := fun i hi hm => by
        have := List.all_eq_true.1 b1 i hi
        simp only [Bool.not_eq_true', List.contains_eq_mem, decide_eq_false_iff_not] at this
        exact this hm
      have hag : Agr n (Md.map (fun y => (y.2, vs y.1)) ++ E) a := ⟨ha.d, ha.s, fun t v hv => by
        have : ∀ (L : List (Nat × Nat)), (∀ y ∈ L, y ∈ Md) → look (L.map (fun y => (y.2, vs y.1)) ++ E) t = some v → a.tmps[t]? = some v := by
          intro L
          induction L with
          | nil => intro _ hv; exact ha.g t v hv
          | cons y L ihL =>
            intro hm hv
            simp only [List.map_cons, List.cons_append, look] at hv
            cases hb : Nat.beq y.2 t with
            | true =>
              rw [hb] at hv
              obtain rfl := Nat.eq_of_beq_eq_true hb
              obtain rfl := Option.some.inj hv
              obtain ⟨x, hxM, e1, e2⟩ := hMd y (hm y List.mem_cons_self)
              rw [← e1, ← e2]
              exact (h1 x hxM (fun hxR => hRd _ hxR (List.mem_map.2 ⟨y, hm y List.mem_cons_self, e1.symm⟩))).2.2
            | false =>
              rw [hb] at hv
              exact ihL (fun z hz => hm z (List.mem_cons_of_mem _ hz)) hv
        exact this Md (fun y hy => hy) hv⟩
      refine any_first hs (fun _ _ _ h => h) hoc (Nat.eq_of_beq_eq_true b3) b2 b4 (.inl ⟨wanted_none hg, fun u => hy vs fs w (fun x hxM hxd => (h1 x hxM (fun hxR => hRd _ hxR hxd)).1) u n a hag⟩) ?_
      rw [hdc]
      refine ih false R _ _ w vs fs (by simpa using hl) b6 hR hnd hx (ha.putF hfc _) (fun x hxM hxR => ?_) h2 (fun _ => ⟨hRd, ?_⟩)
      · obtain ⟨g1, g2, g3⟩ := h1 x hxM hxR
        refine ⟨g1, g2, ?_⟩
        simp only [Act.put]
        rw [Array.getElem?_setIfInBounds_ne (fun e => hMc x hxM e.symm)]
        exact g3
      · simp only [Act.put]
        rw [Array.getElem?_setIfInBounds_self_of_lt (by rw [ha.s]; exact hbd)]
    | false =>
      rw [hc] at hB
      simp only [Bool.and_eq_true, Bool.not_eq_true'] at hB
      obtain ⟨hne, hall⟩ := hB
      refine ⟨fun h0 => (by rw [h0] at hne; cases hne), fun j hj => ?_⟩
      have hj2 := List.all_eq_true.1 hall j hj
      simp only [Bool.and_eq_true, List.contains_iff_mem] at hj2
      obtain ⟨⟨hjR, hk⟩, hB⟩ := hj2
      have hk := Nat.eq_of_beq_eq_true hk
      obtain ⟨x, hxM, rfl⟩ := hR j hjR
      obtain ⟨_, o, ho, _⟩ := mem_ready.1 hj
      have mk := hM x hxM
      refine ⟨o, ho, .inr ⟨by omega, fun w1 hw1 => mk.run a w1 _ ha (hx.tr hw1) fun v w2 fo hx2 hfo hΦ => ⟨fun _ => hw1.tr hx2, ?_⟩⟩⟩
      have hbd := mk.bd
      rw [Nat.blt_eq] at hbd
      have hself : ∀ y ∈ M, y.1 ∉ R.erase x.1 → y.1 ≠ x.1 → y.1 ∉ R := fun y hy hn hne hm => hn ((List.mem_erase_of_ne hne).2 hm)
      have hs0 := hx.size
      have hs1 := hw1.size
      have hs2 := hx2.size
      refine ih cp (R.erase x.1) _ _ w2 (fun k => if k = x.1 then v else vs k) (fun k => if k = x.1 then fo else fs k) (by simpa using hl) hB (fun i hi => hR i (List.mem_of_mem_erase hi)) (hnd.erase _) ((hx.tr hw1).tr hx2) (ha.putF mk.free v) (fun y hy hn => ?_) (fun y hy hn z hz hn' hne q hq hq' => ?_) (fun hcp => ?_)
      · by_cases he : y.1 = x.1
        · obtain rfl := inj_of hn1 y hy x hxM he
          simp only [if_true]
          refine ⟨hΦ, fun q hq => ⟨by have := (hfo q hq).1; omega, (hfo q hq).2⟩, ?_⟩
          simp only [Act.put]
          rw [Array.getElem?_setIfInBounds_self_of_lt (by rw [ha.s]; exact hbd)]
        · simp only [if_neg he]
          obtain ⟨g1, g2, g3⟩ := h1 y hy (hself y hy hn he)
          refine ⟨(hM y hy).mono _ _ _ _ g1 (hw1.tr hx2), fun q hq => ⟨(g2 q hq).1, by have := (g2 q hq).2; omega⟩, ?_⟩
          have hd : x.2.1 ≠ y.2.1 := fun e => he (by rw [inj_of hn2 x hxM y hy e])
          simp only [Act.put]
          rw [Array.getElem?_setIfInBounds_ne hd]
          exact g3
      · by_cases he : y.1 = x.1
        · by_cases he' : z.1 = x.1
          · exact hne (he.trans he'.symm)
          · simp only [if_pos he] at hq; simp only [if_neg he'] at hq'
            have := (hfo q hq).1
            have := ((h1 z hz (hself z hz hn' he')).2.1 q hq').2
            omega
        · by_cases he' : z.1 = x.1
          · simp only [if_neg he] at hq; simp only [if_pos he'] at hq'
            have := (hfo q hq').1
            have := ((h1 y hy (hself y hy hn he)).2.1 q hq).2
            omega
          · simp only [if_neg he] at hq; simp only [if_neg he'] at hq'
            exact h2 y hy (hself y hy hn he) z hz (hself z hz hn' he') hne q hq hq'
      · obtain ⟨g1, g2⟩ := h3 hcp
        have hxd := g1 x.1 hjR
        refine ⟨fun i hi => g1 i (List.mem_of_mem_erase hi), ?_⟩
        simp only [Act.put]
        rw [Array.getElem?_setIfInBounds_ne (hMc x hxM), g2]
        refine congrArg some (hval _ _ fun y hy => ?_)
        rw [if_neg (fun e => hxd (List.mem_map.2 ⟨y, hy, e⟩))]
def AQD (P : Program) (ops : Array Oper) (Q : Exit → Act → World → Prop) (kd : Nat → Nat) (B τ : List Nat) (c : Nat) (dp : List Nat) (l : Array Bool) : Exit → Act → World → Prop
  | .normal, a, w => Region.noSelect ops = true → l.size = ops.size → batchD ops kd τ c dp (B.length + 1) true B l = true → anyF P ops (nrm (Q .normal)) kd (B.length + 1 + τ.length) l a w
  | _, _, _ => False
theorem rBD {w : World} {id : Nat} (ks : List (Nat × Nat)) (τ1 B : List Nat) (c : Nat) (dp : List Nat) (τ : List Nat) (hm : P.follows .mixedOrders = true) (hB : (Region.noSelect ops && (τ1.length + (B.length + 1 + τ.length) == ops.size) && flow1B ops (kds ks) τ1 (Array.replicate ops.size false) && batchD ops (kds ks) τ c dp (B.length + 1) true B (setAll τ1 (Array.replicate ops.size false))) = true)
    (h : FL P n ops (AQD P ops Q (kds ks) B τ c dp (setAll τ1 (Array.replicate ops.size false))) (kds ks) τ1 E w) : W P n (.region id ops true) Q E w := fun a ha => by
  simp only [Bool.and_eq_true, beq_iff_eq] at hB
  obtain ⟨⟨⟨hs, hl⟩, h1⟩, h2⟩ := hB
  refine wp_mono (wp_region_any hm (Q := nrm (Q .normal)) ?_) (fun e a w hq => by cases e <;> first | exact hq | exact hq.elim)
  have := any_of_flow1 (P := P) hs (Q := nrm (Q .normal)) (fun _ _ _ h => h) (m := B.length + 1 + τ.length) τ1 (Array.replicate ops.size false) a w (by simp) h1 (h a ha) (fun a w0 hh => hh w0 (Ext.rf w0) hs (by rw [setAll_size]; simp) h2)
  rw [hl] at this
  exact any_of_F _ _ _ _ this _ (Below.refl _ w).drew
theorem btD {w : World} {τ : List Nat} {l : Array Bool} {c dc : Nat} {op : Op} {ty : TypeId} {pos : String} {af : Array Edge} (Md : List (Nat × Nat)) (val : (Nat → Value) → Value) (M : List Made) (hM : ∀ x ∈ M, Mk P n ops Q E w x.1 x.2.1 x.2.2) (hm1 : nodupB (M.map (·.1)) = true) (hm2 : nodupB (dc :: M.map (·.2.1)) = true) {B dp : List Nat} (hB : M.map (·.1) = B) (hdp : Md.map (·.1) = dp)
    (hoc : ops[c]? = some ⟨some dc, op, ty, pos, af, none⟩) (hbc : Nat.blt dc n = true) (hfc : look E dc = none) (hMd : (Md.all fun y => M.any fun x => Nat.beq x.1 y.1 && Nat.beq x.2.1 y.2) = true)
    (hval : ∀ vs vs' : Nat → Value, (∀ y ∈ Md, vs y.1 = vs' y.1) → val vs = val vs') (hy : ∀ (vs : Nat → Value) (fs : Nat → List Nat) (u : World), (∀ x ∈ M, x.1 ∈ Md.map (·.1) → x.2.2 (vs x.1) (fs x.1) u) → ∀ w : World, Runs P (Md.map (fun y => (y.2, vs y.1)) ++ E) ⟨some dc, op, ty, pos, af, none⟩ w (val vs) w)
    (hcont : ∀ (w1 : World) (vs : Nat → Value) (fs : Nat → List Nat), Ext w w1 → (∀ x ∈ M, x.2.2 (vs x.1) (fs x.1) w1 ∧ ∀ q ∈ fs x.1, w.heap.size ≤ q ∧ q < w1.heap.size) → (∀ x ∈ M, ∀ y ∈ M, x.1 ≠ y.1 → ∀ q ∈ fs x.1, q ∈ fs y.1 → False) → FL P n ops Q kd τ ((dc, val vs) :: (M.map (fun x => (x.2.1, vs x.1)) ++ E)) w1) :
    N n (AQD P ops Q kd B τ c dp l) E w := fun a ha hs hl hb => by
  subst hB
  subst hdp
  have hn1 := nodupB_spec hm1
  have hn2 := List.nodup_cons.1 (nodupB_spec hm2)
  refine batch_coreD hs M hM hn1 hn2.2 hoc rfl hbc hfc (fun x hx e => hn2.1 (List.mem_map.2 ⟨x, hx, e⟩)) Md (fun y hy => ?_) val hval hy rfl hcont _ true _ l a w (fun _ => undef) (fun _ => []) hl ?_ (fun i hi => ?_) hn1 (Ext.rf w) ha (fun x hx hn => absurd (List.mem_map.2 ⟨x, hx, rfl⟩) hn) (fun x hx hn => absurd (List.mem_map.2 ⟨x, hx, rfl⟩) hn) (fun h => nomatch h)
  · have := List.all_eq_true.1 hMd y hy
    obtain ⟨x, hx, e⟩ := List.any_eq_true.1 this
    simp only [Bool.and_eq_true] at e
    exact ⟨x, hx, Nat.eq_of_beq_eq_true e.1, Nat.eq_of_beq_eq_true e.2⟩
  · exact hb
  · obtain ⟨x, hx, e⟩ := List.mem_map.1 hi
    exact ⟨x, hx, e⟩
end
end Go.Proofs.Ytfabhinehfhndaa
