/-
  Cheapest ways, in plain Lean: what a search that goes by an estimate comes to.
-/
import Derived.Test.YtffjpfpbpnhmcaaHp
set_option linter.unusedVariables false
set_option linter.unusedSimpArgs false
namespace Go.Proofs.Ytffjpfpbpnhmcaa
open Go.RowKit

namespace Gra
section
variable {α : Type} {adj : α → List α} {k h : α → Int} {src : α → Prop} {x y s b : α} {d d' D : Int} {fr fr' : α → Int} {Q Q' : List (α × Int)} {rest : List α} {e : α × Int}
inductive Rch (adj : α → List α) (k : α → Int) (src : α → Prop) : α → Int → Prop
  | start {s : α} (hs : src s) : Rch adj k src s 0
  | step {x y : α} {d : Int} (hx : Rch adj k src x d) (hy : y ∈ adj x) : Rch adj k src y (d + k y)
def IsD (adj : α → List α) (k : α → Int) (src : α → Prop) (x : α) (d : Int) : Prop := Rch adj k src x d ∧ ∀ d', Rch adj k src x d' → d ≤ d'
/-- What costs nothing less than nothing, and an estimate that never says too much, from step to step. -/
structure Ok (adj : α → List α) (k h : α → Int) : Prop where
  k0 : ∀ x, ∀ y ∈ adj x, 0 < k y
  h0 : ∀ x, 0 ≤ h x
  hk : ∀ x, ∀ y ∈ adj x, h x ≤ k y + h y
theorem Rch.nn (o : Ok adj k h) (r : Rch adj k src x d) : 0 ≤ d := by
  induction r with
  | start _ => exact Int.le_refl 0
  | step _ hy ih => have := o.k0 _ _ hy; omega
theorem IsD.uniq (h1 : IsD adj k src x d) (h2 : IsD adj k src x d') : d = d' := Int.le_antisymm (h1.2 _ h2.1) (h2.2 _ h1.1)
/-- What holds between two rounds; amid one, 'rest' is still to be looked at from x0. -/
structure Inv (adj : α → List α) (k h : α → Int) (src : α → Prop) (fr : α → Int) (Q : List (α × Int)) (x0 : α) (rest : List α) : Prop where
  q : ∀ e ∈ Q, (src e.1 ∧ e.2 = 0) ∨ ∃ p, 0 ≤ fr p ∧ e.1 ∈ adj p ∧ e.2 = fr p + k e.1
  neg : ∀ x, fr x < 0 → fr x = -1
  dist : ∀ x, 0 ≤ fr x → IsD adj k src x (fr x)
  pred : ∀ x, 0 ≤ fr x → (src x ∧ fr x = 0) ∨ ∃ p, 0 ≤ fr p ∧ x ∈ adj p ∧ fr x = fr p + k x
  opn : ∀ x, 0 ≤ fr x → ∀ y ∈ adj x, 0 ≤ fr y ∨ (y, fr x + k y) ∈ Q ∨ (x = x0 ∧ y ∈ rest)
  srcs : ∀ s, src s → 0 ≤ fr s ∨ (s, 0) ∈ Q
  mono : ∀ x, 0 ≤ fr x → ∀ e ∈ Q, fr x + h x ≤ e.2 + h e.1
  x0d : rest ≠ [] → 0 ≤ fr x0 ∧ (∀ y ∈ rest, y ∈ adj x0) ∧ ∀ z, 0 ≤ fr z → fr z + h z ≤ fr x0 + h x0
theorem Inv.rch (i : Inv adj k h src fr Q x rest) (he : e ∈ Q) : Rch adj k src e.1 e.2 := by
  rcases i.q e he with ⟨h1, h2⟩ | ⟨p, h1, h2, h3⟩
  · rw [h2]; exact .start h1
  · rw [h3]; exact .step (i.dist p h1).1 h2
/-- Who is not known yet costs no less than someone who waits. -/
theorem Inv.front (o : Ok adj k h) (i : Inv adj k h src fr Q s []) (r : Rch adj k src x d) : fr x < 0 → ∃ e ∈ Q, e.2 + h e.1 ≤ d + h x := by
  induction r with
  | start hs =>
    intro hx
    rcases i.srcs _ hs with h1 | h1
    · omega
    · exact ⟨_, h1, Int.le_refl _⟩
  | @step x y d r hy ih =>
    intro hyn
    by_cases hx : fr x < 0
    · obtain ⟨e, he, hle⟩ := ih hx
      have := o.hk x y hy
      exact ⟨e, he, by omega⟩
    · rcases i.opn x (by omega) y hy with h1 | h1 | ⟨_, h1⟩
      · omega
      · have := (i.dist x (by omega)).2 d r
        exact ⟨_, h1, by dsimp only; omega⟩
      · simp at h1
theorem Inv.popSkip (i : Inv adj k h src fr Q x []) (hp : Q.Perm (e :: Q')) (hd : 0 ≤ fr e.1) : Inv adj k h src fr Q' x [] := by
  have hs : ∀ z ∈ Q', z ∈ Q := fun z hz => hp.symm.subset (List.mem_cons_of_mem _ hz)
  have hq : ∀ z ∈ Q, z = e ∨ z ∈ Q' := fun z hz => List.mem_cons.1 (hp.subset hz)
  refine ⟨fun z hz => i.q z (hs z hz), i.neg, i.dist, i.pred, fun a ha c hc => ?_, fun s hs' => ?_, fun a ha z hz => i.mono a ha z (hs z hz), fun hn => absurd rfl hn⟩
  · rcases i.opn a ha c hc with h1 | h1 | h1
    · exact .inl h1
    · rcases hq _ h1 with h2 | h2
      · left; rw [← h2] at hd; exact hd
      · exact .inr (.inl h2)
    · exact .inr (.inr h1)
  · rcases i.srcs s hs' with h1 | h1
    · exact .inl h1
    · rcases hq _ h1 with h2 | h2
      · left; rw [← h2] at hd; exact hd
      · exact .inr h2
theorem Inv.popNew (o : Ok adj k h) (i : Inv adj k h src fr Q s []) (hp : Q.Perm (e :: Q')) (hd : fr e.1 < 0) (hmin : ∀ z ∈ Q, e.2 + h e.1 ≤ z.2 + h z.1) (he' : fr' e.1 = e.2) (hne : ∀ z, z ≠ e.1 → fr' z = fr z) : Inv adj k h src fr' Q' e.1 (adj e.1) ∧ 0 ≤ e.2 := by
  have hs : ∀ z ∈ Q', z ∈ Q := fun z hz => hp.symm.subset (List.mem_cons_of_mem _ hz)
  have hq : ∀ z ∈ Q, z = e ∨ z ∈ Q' := fun z hz => List.mem_cons.1 (hp.subset hz)
  have heQ : e ∈ Q := hp.symm.subset List.mem_cons_self
  have hre := i.rch heQ
  have hnn := hre.nn o
  have hup : ∀ z, 0 ≤ fr z → fr' z = fr z := fun z hz => hne z (fun e1 => by rw [e1] at hz; omega)
  have hD : IsD adj k src e.1 e.2 := ⟨hre, fun d' r => by
    obtain ⟨z, hz, hle⟩ := i.front o r hd
    have := hmin z hz
    omega⟩
  have hkey : ∀ a, 0 ≤ fr' a → fr' a + h a ≤ e.2 + h e.1 := fun a ha => by
    by_cases e1 : a = e.1
    · subst e1; omega
    · rw [hne a e1] at ha ⊢; exact i.mono a ha e heQ
  refine ⟨⟨fun z hz => ?_, fun a ha => ?_, fun a ha => ?_, fun a ha => ?_, fun a ha c hc => ?_, fun a ha => ?_, fun a ha z hz => ?_, fun _ => ⟨by omega, fun y hy => hy, fun a ha => by rw [he']; exact hkey a ha⟩⟩, hnn⟩
  · rcases i.q z (hs z hz) with h1 | ⟨p, h1, h2, h3⟩
    · exact .inl h1
    · exact .inr ⟨p, by rw [hup p h1]; exact h1, h2, by rw [hup p h1]; exact h3⟩
  · by_cases e1 : a = e.1
    · subst e1; omega
    · rw [hne a e1] at ha ⊢; exact i.neg a ha
  · by_cases e1 : a = e.1
    · rw [e1, he']; exact hD
    · rw [hne a e1] at ha ⊢; exact i.dist a ha
  · by_cases e1 : a = e.1
    · rw [e1, he']
      rcases i.q e heQ with h1 | ⟨p, h1, h2, h3⟩
      · exact .inl h1
      · exact .inr ⟨p, by rw [hup p h1]; exact h1, h2, by rw [hup p h1]; exact h3⟩
    · rw [hne a e1] at ha ⊢
      rcases i.pred a ha with h1 | ⟨p, h1, h2, h3⟩
      · exact .inl h1
      · exact .inr ⟨p, by rw [hup p h1]; exact h1, h2, by rw [hup p h1]; exact h3⟩
  · by_cases e1 : a = e.1
    · exact .inr (.inr ⟨e1, by rw [← e1]; exact hc⟩)
    · rw [hne a e1] at ha ⊢
      rcases i.opn a ha c hc with h1 | h1 | ⟨_, h1⟩
      · left; rw [hup c h1]; exact h1
      · rcases hq _ h1 with h2 | h2
        · left; have : c = e.1 := by rw [← h2]
          rw [this, he']; exact hnn
        · exact .inr (.inl h2)
      · simp at h1
  · rcases i.srcs a ha with h1 | h1
    · left; rw [hup a h1]; exact h1
    · rcases hq _ h1 with h2 | h2
      · left; have : a = e.1 := by rw [← h2]
        rw [this, he']; exact hnn
      · exact .inr h2
  · have := hkey a ha
    have := hmin z (hs z hz)
    omega
theorem Inv.push (o : Ok adj k h) (i : Inv adj k h src fr Q x (y :: rest)) (hp : Q'.Perm ((y, fr x + k y) :: Q)) : Inv adj k h src fr Q' x rest := by
  have hs : ∀ z ∈ Q, z ∈ Q' := fun z hz => hp.symm.subset (List.mem_cons_of_mem _ hz)
  have hn : (y, fr x + k y) ∈ Q' := hp.symm.subset List.mem_cons_self
  have hq : ∀ z ∈ Q', z = (y, fr x + k y) ∨ z ∈ Q := fun z hz => List.mem_cons.1 (hp.subset hz)
  obtain ⟨x1, x2, x3⟩ := i.x0d (by simp)
  have hya := x2 y List.mem_cons_self
  refine ⟨fun z hz => ?_, i.neg, i.dist, i.pred, fun a ha c hc => ?_, fun a ha => (i.srcs a ha).imp id (hs _), fun a ha z hz => ?_, fun _ => ⟨x1, fun c hc => x2 c (List.mem_cons_of_mem _ hc), x3⟩⟩
  · rcases hq z hz with rfl | h1
    · exact .inr ⟨x, x1, hya, rfl⟩
    · exact i.q z h1
  · rcases i.opn a ha c hc with h1 | h1 | ⟨h1, h2⟩
    · exact .inl h1
    · exact .inr (.inl (hs _ h1))
    · rcases List.mem_cons.1 h2 with h3 | h3
      · subst h1; subst h3; exact .inr (.inl hn)
      · exact .inr (.inr ⟨h1, h3⟩)
  · rcases hq z hz with rfl | h1
    · have := x3 a ha
      have := o.hk x y hya
      dsimp only; omega
    · exact i.mono a ha z h1
theorem Inv.skip (i : Inv adj k h src fr Q x (y :: rest)) (hy : 0 ≤ fr y) : Inv adj k h src fr Q x rest := by
  obtain ⟨x1, x2, x3⟩ := i.x0d (by simp)
  refine ⟨i.q, i.neg, i.dist, i.pred, fun a ha c hc => ?_, i.srcs, i.mono, fun _ => ⟨x1, fun c hc => x2 c (List.mem_cons_of_mem _ hc), x3⟩⟩
  rcases i.opn a ha c hc with h1 | h1 | ⟨h1, h2⟩
  · exact .inl h1
  · exact .inr (.inl h1)
  · rcases List.mem_cons.1 h2 with h3 | h3
    · subst h3; exact .inl hy
    · exact .inr (.inr ⟨h1, h3⟩)
theorem Inv.start (hn : ∀ x, fr x = -1) (hq : ∀ e ∈ Q, src e.1 ∧ e.2 = 0) (hs : ∀ s, src s → (s, 0) ∈ Q) : Inv adj k h src fr Q x [] :=
  ⟨fun e he => .inl (hq e he), fun a _ => hn a, fun a ha => by rw [hn a] at ha; omega, fun a ha => by rw [hn a] at ha; omega, fun a ha => by rw [hn a] at ha; omega, fun s h1 => .inr (hs s h1), fun a ha => by rw [hn a] at ha; omega, fun h1 => absurd rfl h1⟩
/-- Nothing waits: all that can be come to is known. -/
theorem Inv.all (o : Ok adj k h) (i : Inv adj k h src fr [] s []) (r : Rch adj k src x d) : 0 ≤ fr x := by
  by_cases hx : fr x < 0
  · obtain ⟨e, he, _⟩ := i.front o r hx
    simp at he
  · omega
/-- All that is told of who is known. -/
structure Spec (adj : α → List α) (k h : α → Int) (src : α → Prop) (b : α) (fr : α → Int) : Prop where
  neg : ∀ x, fr x < 0 → fr x = -1
  dist : ∀ x, 0 ≤ fr x → IsD adj k src x (fr x) ∧ ∀ D, IsD adj k src b D → fr x + h x ≤ D
  known : ∀ x d, IsD adj k src x d → (∀ D, IsD adj k src b D → d + h x ≤ D) → fr x = d
  pred : ∀ x, 0 ≤ fr x → (src x ∧ fr x = 0) ∨ ∃ p, 0 ≤ fr p ∧ x ∈ adj p ∧ fr x = fr p + k x
theorem Spec.uniq (s1 : Spec adj k h src b fr) (s2 : Spec adj k h src b fr') (x : α) : fr x = fr' x := by
  by_cases h1 : 0 ≤ fr x
  · exact (s2.known x _ (s1.dist x h1).1 (s1.dist x h1).2).symm
  · by_cases h2 : 0 ≤ fr' x
    · exact s1.known x _ (s2.dist x h2).1 (s2.dist x h2).2
    · rw [s1.neg x (by omega), s2.neg x (by omega)]
/-- Where the search ends: b is known, and all who wait cost more; or nothing waits. -/
theorem Inv.ends (o : Ok adj k h) (i : Inv adj k h src fr Q s []) (hb : h b = 0) (hm : 0 ≤ fr b → ∀ x, 0 ≤ fr x → fr x + h x ≤ fr b) (he : (0 ≤ fr b ∧ ∀ e ∈ Q, fr b < e.2 + h e.1) ∨ Q = []) : Spec adj k h src b fr := by
  refine ⟨i.neg, fun x hx => ⟨i.dist x hx, fun D hD => ?_⟩, fun x d hd hle => ?_, i.pred⟩
  · by_cases h1 : 0 ≤ fr b
    · have := hm h1 x hx
      rw [hD.uniq (i.dist b h1)]; exact this
    · rcases he with he | he
      · omega
      · subst he; exact absurd (i.all o hD.1) h1
  · by_cases h1 : fr x < 0
    · obtain ⟨e, heQ, hk⟩ := i.front o hd.1 h1
      rcases he with ⟨h2, h3⟩ | h2
      · have := hle _ (i.dist b h2)
        have := h3 e heQ
        omega
      · subst h2; simp at heQ
    · exact (i.dist x (by omega)).uniq hd
theorem Spec.end_ (s : Spec adj k h src b fr) (hb : h b = 0) (hd : IsD adj k src b D) : fr b = D := s.known b D hd fun D' h1 => by rw [hb, hd.uniq h1]; omega
/-- A bound from below. -/
theorem Rch.low {φ : α → Int} (h0 : ∀ s, src s → φ s ≤ 0) (h1 : ∀ x, ∀ y ∈ adj x, φ y ≤ φ x + k y) (r : Rch adj k src x d) : φ x ≤ d := by
  induction r with
  | start hs => exact h0 _ hs
  | step _ hy ih => have := h1 _ _ hy; omega
theorem Rch.sub {src' : α → Prop} (hs : ∀ x, src x → src' x) (r : Rch adj k src x d) : Rch adj k src' x d := by
  induction r with
  | start h1 => exact .start (hs _ h1)
  | step _ hy ih => exact .step ih hy
/-- Who can be come to is at some least distance. -/
theorem Rch.isD (o : Ok adj k h) (r : Rch adj k src x d) : ∃ d, IsD adj k src x d := by
  have : ∀ n : Nat, ∀ d, Rch adj k src x d → d.toNat = n → ∃ d, IsD adj k src x d := by
    intro n
    induction n using Nat.strongRecOn with
    | ind n ih =>
      intro d r hn
      by_cases hex : ∃ d', Rch adj k src x d' ∧ d' < d
      · obtain ⟨d', r', hlt⟩ := hex
        have := r'.nn o
        exact ih d'.toNat (by omega) d' r' rfl
      · exact ⟨d, r, fun d' r' => by
          by_cases hlt : d' < d
          · exact absurd ⟨d', r', hlt⟩ hex
          · omega⟩
  exact this _ d r rfl
end
end Gra
end Go.Proofs.Ytffjpfpbpnhmcaa
