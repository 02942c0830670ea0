import Derived.Test.YtccankldeogdlaaGolC
import Derived.Test.YtccankldeogdlaaHp
import Derived.Test.YtccankldeogdlaaLinG
import Derived.Test.YtccankldeogdlaaBas
import Derived.Test.YtccankldeogdlaaProg
import Derived.Test.YtccankldeogdlaaGol
import Derived.Test.YtccankldeogdlaaTroG
set_option linter.unusedVariables false
set_option linter.unusedSimpArgs false
set_option maxRecDepth 100000
set_option maxHeartbeats 4000000
namespace Go.Proofs.Ytccankldeogdlaa
section
open Go.RowKit
namespace Gra
section
variable {α : Type} {adj : α → List α} {k h : α → Int} {src : α → Prop} {x y s b : α} {d d' D : Int} {fr fr' : α → Int} {Q Q' : List (α × Int)} {rest : List α} {e : α × Int}
inductive Rch (adj : α → List α) (k : α → Int) (src : α → Prop) : α → Int → Prop
 | start {s : α} (hs : src s) : Rch adj k src s 0
 | step {x y : α} {d : Int} (hx : Rch adj k src x d) (hy : y ∈ adj x) : Rch adj k src y (d + k y)
def IsD (adj : α → List α) (k : α → Int) (src : α → Prop) (x : α) (d : Int) : Prop := Rch adj k src x d ∧ ∀ d', Rch adj k src x d' → d ≤ d'
structure Ok (adj : α → List α) (k h : α → Int) : Prop where
 k0 : ∀ x, ∀ y ∈ adj x, 0 < k y
 h0 : ∀ x, 0 ≤ h x
 hk : ∀ x, ∀ y ∈ adj x, h x ≤ k y + h y
theorem Rch.nn (o : Ok adj k h) (r : Rch adj k src x d) : 0 ≤ d := by
 induction r with
 | start _ => exact Int.le_refl 0
 | step _ hy ih => have := o.k0 _ _ hy; omega
theorem IsD.uniq (h1 : IsD adj k src x d) (h2 : IsD adj k src x d') : d = d' := Int.le_antisymm (h1.2 _ h2.1) (h2.2 _ h1.1)
structure Inv (adj : α → List α) (k h : α → Int) (src : α → Prop) (fr : α → Int) (Q : List (α × Int)) (x0 : α) (rest : List α) : Prop where
 q : ∀ e ∈ Q, (src e.1 ∧ e.2 = 0) ∨ ∃ p, 0 ≤ fr p ∧ e.1 ∈ adj p ∧ e.2 = fr p + k e.1
 neg : ∀ x, fr x < 0 → fr x = -1
 dist : ∀ x, 0 ≤ fr x → IsD adj k src x (fr x)
 pred : ∀ x, 0 ≤ fr x → (src x ∧ fr x = 0) ∨ ∃ p, 0 ≤ fr p ∧ x ∈ adj p ∧ fr x = fr p + k x
 opn : ∀ x, 0 ≤ fr x → ∀ y ∈ adj x, 0 ≤ fr y ∨ (y, fr x + k y) ∈ Q ∨ (x = x0 ∧ y ∈ rest)
 srcs : ∀ s, src s → 0 ≤ fr s ∨ (s, 0) ∈ Q
 mono : ∀ x, 0 ≤ fr x → ∀ e ∈ Q, fr x + h x ≤ e.2 + h e.1
 x0d : rest ≠ [] → 0 ≤ fr x0 ∧ (∀ y ∈ rest, y ∈ adj x0) ∧ ∀ z, 0 ≤ fr z → fr z + h z ≤ fr x0 + h x0
theorem Inv.rch (i : Inv adj k h src fr Q x rest) (he : e ∈ Q) : Rch adj k src e.1 e.2 := by
 rcases i.q e he with ⟨h1, h2⟩ | ⟨p, h1, h2, h3⟩
 ·rw [h2]; exact .start h1
 ·rw [h3]; exact .step (i.dist p h1).1 h2
theorem Inv.front (o : Ok adj k h) (i : Inv adj k h src fr Q s []) (r : Rch adj k src x d) : fr x < 0 → ∃ e ∈ Q, e.2 + h e.1 ≤ d + h x := by
 induction r with
 | start hs =>
  intro hx
  rcases i.srcs _ hs with h1 | h1
  ·omega
  ·exact ⟨_, h1, Int.le_refl _⟩
 | @step x y d r hy ih =>
  intro hyn
  by_cases hx : fr x < 0
  ·obtain ⟨e, he, hle⟩ := ih hx
   have := o.hk x y hy
   exact ⟨e, he, by omega⟩
  ·rcases i.opn x (by omega) y hy with h1 | h1 | ⟨_, h1⟩
   ·omega
   ·have := (i.dist x (by omega)).2 d r
    exact ⟨_, h1, by dsimp only; omega⟩
   ·simp at h1
theorem Inv.popSkip (i : Inv adj k h src fr Q x []) (hp : Q.Perm (e :: Q')) (hd : 0 ≤ fr e.1) : Inv adj k h src fr Q' x [] := by
 have hs : ∀ z ∈ Q', z ∈ Q := λ z hz => hp.symm.subset (List.mem_cons_of_mem _ hz)
 have hq : ∀ z ∈ Q, z = e ∨ z ∈ Q' := λ z hz => List.mem_cons.1 (hp.subset hz)
 refine ⟨λ z hz => i.q z (hs z hz), i.neg, i.dist, i.pred, λ a ha c hc => ?_, λ s hs' => ?_, λ a ha z hz => i.mono a ha z (hs z hz), λ hn => absurd rfl hn⟩
 ·rcases i.opn a ha c hc with h1 | h1 | h1
  ·exact .inl h1
  ·rcases hq _ h1 with h2 | h2
   ·left; rw [← h2] at hd; exact hd
   ·exact .inr (.inl h2)
  ·exact .inr (.inr h1)
 ·rcases i.srcs s hs' with h1 | h1
  ·exact .inl h1
  ·rcases hq _ h1 with h2 | h2
   ·left; rw [← h2] at hd; exact hd
   ·exact .inr h2
theorem Inv.popNew (o : Ok adj k h) (i : Inv adj k h src fr Q s []) (hp : Q.Perm (e :: Q')) (hd : fr e.1 < 0) (hmin : ∀ z ∈ Q, e.2 + h e.1 ≤ z.2 + h z.1) (he' : fr' e.1 = e.2) (hne : ∀ z, z ≠ e.1 → fr' z = fr z) : Inv adj k h src fr' Q' e.1 (adj e.1) ∧ 0 ≤ e.2 := by
 have hs : ∀ z ∈ Q', z ∈ Q := λ z hz => hp.symm.subset (List.mem_cons_of_mem _ hz)
 have hq : ∀ z ∈ Q, z = e ∨ z ∈ Q' := λ z hz => List.mem_cons.1 (hp.subset hz)
 have heQ : e ∈ Q := hp.symm.subset List.mem_cons_self
 have hre := i.rch heQ
 have hnn := hre.nn o
 have hup : ∀ z, 0 ≤ fr z → fr' z = fr z := λ z hz => hne z (λ e1 => by rw [e1] at hz; omega)
 have hD : IsD adj k src e.1 e.2 := ⟨hre, λ d' r => by
  obtain ⟨z, hz, hle⟩ := i.front o r hd
  have := hmin z hz
  omega⟩
 have hkey : ∀ a, 0 ≤ fr' a → fr' a + h a ≤ e.2 + h e.1 := λ a ha => by
  by_cases e1 : a = e.1
  ·subst e1; omega
  ·rw [hne a e1] at ha ⊢; exact i.mono a ha e heQ
 refine ⟨⟨λ z hz => ?_, λ a ha => ?_, λ a ha => ?_, λ a ha => ?_, λ a ha c hc => ?_, λ a ha => ?_, λ a ha z hz => ?_, λ _ => ⟨by omega, λ y hy => hy, λ a ha => by rw [he']; exact hkey a ha⟩⟩, hnn⟩
 ·rcases i.q z (hs z hz) with h1 | ⟨p, h1, h2, h3⟩
  ·exact .inl h1
  ·exact .inr ⟨p, by rw [hup p h1]; exact h1, h2, by rw [hup p h1]; exact h3⟩
 ·by_cases e1 : a = e.1
  ·subst e1; omega
  ·rw [hne a e1] at ha ⊢; exact i.neg a ha
 ·by_cases e1 : a = e.1
  ·rw [e1, he']; exact hD
  ·rw [hne a e1] at ha ⊢; exact i.dist a ha
 ·by_cases e1 : a = e.1
  ·rw [e1, he']
   rcases i.q e heQ with h1 | ⟨p, h1, h2, h3⟩
   ·exact .inl h1
   ·exact .inr ⟨p, by rw [hup p h1]; exact h1, h2, by rw [hup p h1]; exact h3⟩
  ·rw [hne a e1] at ha ⊢
   rcases i.pred a ha with h1 | ⟨p, h1, h2, h3⟩
   ·exact .inl h1
   ·exact .inr ⟨p, by rw [hup p h1]; exact h1, h2, by rw [hup p h1]; exact h3⟩
 ·by_cases e1 : a = e.1
  ·exact .inr (.inr ⟨e1, by rw [← e1]; exact hc⟩)
  ·rw [hne a e1] at ha ⊢
   rcases i.opn a ha c hc with h1 | h1 | ⟨_, h1⟩
   ·left; rw [hup c h1]; exact h1
   ·rcases hq _ h1 with h2 | h2
    ·left; have : c = e.1 := by rw [← h2]
     rw [this, he']; exact hnn
    ·exact .inr (.inl h2)
   ·simp at h1
 ·rcases i.srcs a ha with h1 | h1
  ·left; rw [hup a h1]; exact h1
  ·rcases hq _ h1 with h2 | h2
   ·left; have : a = e.1 := by rw [← h2]
    rw [this, he']; exact hnn
   ·exact .inr h2
 ·have := hkey a ha
  have := hmin z (hs z hz)
  omega
theorem Inv.push (o : Ok adj k h) (i : Inv adj k h src fr Q x (y :: rest)) (hp : Q'.Perm ((y, fr x + k y) :: Q)) : Inv adj k h src fr Q' x rest := by
 have hs : ∀ z ∈ Q, z ∈ Q' := λ z hz => hp.symm.subset (List.mem_cons_of_mem _ hz)
 have hn : (y, fr x + k y) ∈ Q' := hp.symm.subset List.mem_cons_self
 have hq : ∀ z ∈ Q', z = (y, fr x + k y) ∨ z ∈ Q := λ z hz => List.mem_cons.1 (hp.subset hz)
 obtain ⟨x1, x2, x3⟩ := i.x0d (by simp)
 have hya := x2 y List.mem_cons_self
 refine ⟨λ z hz => ?_, i.neg, i.dist, i.pred, λ a ha c hc => ?_, λ a ha => (i.srcs a ha).imp id (hs _), λ a ha z hz => ?_, λ _ => ⟨x1, λ c hc => x2 c (List.mem_cons_of_mem _ hc), x3⟩⟩
 ·rcases hq z hz with rfl | h1
  ·exact .inr ⟨x, x1, hya, rfl⟩
  ·exact i.q z h1
 ·rcases i.opn a ha c hc with h1 | h1 | ⟨h1, h2⟩
  ·exact .inl h1
  ·exact .inr (.inl (hs _ h1))
  ·rcases List.mem_cons.1 h2 with h3 | h3
   ·subst h1; subst h3; exact .inr (.inl hn)
   ·exact .inr (.inr ⟨h1, h3⟩)
 ·rcases hq z hz with rfl | h1
  ·have := x3 a ha
   have := o.hk x y hya
   dsimp only; omega
  ·exact i.mono a ha z h1
theorem Inv.skip (i : Inv adj k h src fr Q x (y :: rest)) (hy : 0 ≤ fr y) : Inv adj k h src fr Q x rest := by
 obtain ⟨x1, x2, x3⟩ := i.x0d (by simp)
 refine ⟨i.q, i.neg, i.dist, i.pred, λ a ha c hc => ?_, i.srcs, i.mono, λ _ => ⟨x1, λ c hc => x2 c (List.mem_cons_of_mem _ hc), x3⟩⟩
 rcases i.opn a ha c hc with h1 | h1 | ⟨h1, h2⟩
 ·exact .inl h1
 ·exact .inr (.inl h1)
 ·rcases List.mem_cons.1 h2 with h3 | h3
  ·subst h3; exact .inl hy
  ·exact .inr (.inr ⟨h1, h3⟩)
theorem Inv.start (hn : ∀ x, fr x = -1) (hq : ∀ e ∈ Q, src e.1 ∧ e.2 = 0) (hs : ∀ s, src s → (s, 0) ∈ Q) : Inv adj k h src fr Q x [] :=
 ⟨λ e he => .inl (hq e he), λ a _ => hn a, λ a ha => by rw [hn a] at ha; omega, λ a ha => by rw [hn a] at ha; omega, λ a ha => by rw [hn a] at ha; omega, λ s h1 => .inr (hs s h1), λ a ha => by rw [hn a] at ha; omega, λ h1 => absurd rfl h1⟩
theorem Inv.all (o : Ok adj k h) (i : Inv adj k h src fr [] s []) (r : Rch adj k src x d) : 0 ≤ fr x := by
 by_cases hx : fr x < 0
 ·obtain ⟨e, he, _⟩ := i.front o r hx
  simp at he
 ·omega
structure Spec (adj : α → List α) (k h : α → Int) (src : α → Prop) (b : α) (fr : α → Int) : Prop where
 neg : ∀ x, fr x < 0 → fr x = -1
 dist : ∀ x, 0 ≤ fr x → IsD adj k src x (fr x) ∧ ∀ D, IsD adj k src b D → fr x + h x ≤ D
 known : ∀ x d, IsD adj k src x d → (∀ D, IsD adj k src b D → d + h x ≤ D) → fr x = d
 pred : ∀ x, 0 ≤ fr x → (src x ∧ fr x = 0) ∨ ∃ p, 0 ≤ fr p ∧ x ∈ adj p ∧ fr x = fr p + k x
theorem Spec.uniq (s1 : Spec adj k h src b fr) (s2 : Spec adj k h src b fr') (x : α) : fr x = fr' x := by
 by_cases h1 : 0 ≤ fr x
 ·exact (s2.known x _ (s1.dist x h1).1 (s1.dist x h1).2).symm
 ·by_cases h2 : 0 ≤ fr' x
  ·exact s1.known x _ (s2.dist x h2).1 (s2.dist x h2).2
  ·rw [s1.neg x (by omega), s2.neg x (by omega)]
theorem Inv.ends (o : Ok adj k h) (i : Inv adj k h src fr Q s []) (hb : h b = 0) (hm : 0 ≤ fr b → ∀ x, 0 ≤ fr x → fr x + h x ≤ fr b) (he : (0 ≤ fr b ∧ ∀ e ∈ Q, fr b < e.2 + h e.1) ∨ Q = []) : Spec adj k h src b fr := by
 refine ⟨i.neg, λ x hx => ⟨i.dist x hx, λ D hD => ?_⟩, λ x d hd hle => ?_, i.pred⟩
 ·by_cases h1 : 0 ≤ fr b
  ·have := hm h1 x hx
   rw [hD.uniq (i.dist b h1)]; exact this
  ·rcases he with he | he
   ·omega
   ·subst he; exact absurd (i.all o hD.1) h1
 ·by_cases h1 : fr x < 0
  ·obtain ⟨e, heQ, hk⟩ := i.front o hd.1 h1
   rcases he with ⟨h2, h3⟩ | h2
   ·have := hle _ (i.dist b h2)
    have := h3 e heQ
    omega
   ·subst h2; simp at heQ
  ·exact (i.dist x (by omega)).uniq hd
theorem Spec.end_ (s : Spec adj k h src b fr) (hb : h b = 0) (hd : IsD adj k src b D) : fr b = D := s.known b D hd λ D' h1 => by rw [hb, hd.uniq h1]; omega
theorem Rch.sub {src' : α → Prop} (hs : ∀ x, src x → src' x) (r : Rch adj k src x d) : Rch adj k src' x d := by
 induction r with
 | start h1 => exact .start (hs _ h1)
 | step _ hy ih => exact .step ih hy
theorem Rch.isD (o : Ok adj k h) (r : Rch adj k src x d) : ∃ d, IsD adj k src x d := by
 have : ∀ n : Nat, ∀ d, Rch adj k src x d → d.toNat = n → ∃ d, IsD adj k src x d := by
  intro n
  induction n using Nat.strongRecOn with
  | ind n ih =>
   intro d r hn
   by_cases hex : ∃ d', Rch adj k src x d' ∧ d' < d
   ·obtain ⟨d', r', hlt⟩ := hex
    have := r'.nn o
    exact ih d'.toNat (by omega) d' r' rfl
   ·exact ⟨d, r, λ d' r' => by
     by_cases hlt : d' < d
     ·exact absurd ⟨d', r', hlt⟩ hex
     ·omega⟩
 exact this _ d r rfl
end
end Gra
end
section
open Go.RowKit
def costK (p : Int) : Int := if p = 0 ∨ p = 3 then 2 else if p = 2 then 3 else 0
def costE (p : Int) : Int := if p = 0 ∨ p = 3 then 0 else if p = 2 then 0 else if p = 1 then 9 else 1
def sidesC (c : Cel) : List Cel := [⟨c.x, c.y - 1⟩, ⟨c.x - 1, c.y⟩, ⟨c.x + 1, c.y⟩, ⟨c.x, c.y + 1⟩]
namespace Fld
section
variable {f : Fld} {c d x y b : Cel} {l far : List Int} {v : Int}
def kost (f : Fld) (c : Cel) : Int := if f.place c = 2 then 3 else 2
def adj (f : Fld) (c : Cel) : List Cel := (sidesC c).filter f.ground
def at_ (f : Fld) (c : Cel) : Nat := (c.y * f.wide + c.x).toNat
def fr (f : Fld) (far : List Int) (c : Cel) : Int := if f.isIn c then far.getD (f.at_ c) (-1) else -1
def est (b c : Cel) : Int := 2 * (sz (b.x - c.x) + sz (b.y - c.y))
theorem ground_place (h : f.ground c = true) : f.place c ≠ 1 := by unfold ground at h; rw [Bool.and_eq_true] at h; simpa using h.2
theorem ground_mk (h : f.isIn c = true) (h2 : f.place c ≠ 1) : f.ground c = true := by unfold ground; rw [h]; simpa using h2
theorem kost_bd : 2 ≤ f.kost c ∧ f.kost c ≤ 3 := by unfold kost; split <;> omega
theorem mem_adj : y ∈ f.adj x ↔ y ∈ sidesC x ∧ f.ground y = true := by unfold adj; rw [List.mem_filter]
theorem mem_sides : y ∈ sidesC x ↔ (y = ⟨x.x, x.y - 1⟩ ∨ y = ⟨x.x - 1, x.y⟩ ∨ y = ⟨x.x + 1, x.y⟩ ∨ y = ⟨x.x, x.y + 1⟩) := by unfold sidesC; simp
theorem sides_symm (h : y ∈ sidesC x) : x ∈ sidesC y := by
 rw [mem_sides] at h ⊢
 obtain ⟨a, b⟩ := x
 rcases h with rfl | rfl | rfl | rfl
 ·right; right; right; simp
 ·right; right; left; simp
 ·right; left; simp
 ·left; simp
theorem sides_ne (h : y ∈ sidesC x) : y ≠ x := by
 rw [mem_sides] at h
 obtain ⟨a, b⟩ := x
 rcases h with rfl | rfl | rfl | rfl <;> simp <;> omega
theorem est_step (b : Cel) (h : y ∈ sidesC x) : est b x ≤ 2 + est b y := by
 rw [mem_sides] at h
 obtain ⟨x1, x2⟩ := x
 have e : ∀ n : Int, sz n ≤ 1 + sz (n + 1) ∧ sz n ≤ 1 + sz (n - 1) := λ n => by
  have h1 := sz_bd n; have h2 := sz_bd (n + 1); have h3 := sz_bd (n - 1)
  rcases (show n < 0 ∨ 0 ≤ n by omega) with hn | hn
  ·have := h1.2.2.2 hn
   rcases (show n + 1 < 0 ∨ 0 ≤ n + 1 by omega) with hm | hm
   ·have := h2.2.2.2 hm; have := h3.2.2.2 (by omega); omega
   ·have := h2.2.2.1 hm; have := h3.2.2.2 (by omega); omega
  ·have := h1.2.2.1 hn
   have := h2.2.2.1 (by omega)
   rcases (show n - 1 < 0 ∨ 0 ≤ n - 1 by omega) with hm | hm
   ·have := h3.2.2.2 hm; omega
   ·have := h3.2.2.1 hm; omega
 unfold est
 rcases h with rfl | rfl | rfl | rfl <;> dsimp only
 ·have := (e (b.y - x2)).1; rw [show b.y - (x2 - 1) = b.y - x2 + 1 by omega]; omega
 ·have := (e (b.x - x1)).1; rw [show b.x - (x1 - 1) = b.x - x1 + 1 by omega]; omega
 ·have := (e (b.x - x1)).2; rw [show b.x - (x1 + 1) = b.x - x1 - 1 by omega]; omega
 ·have := (e (b.y - x2)).2; rw [show b.y - (x2 + 1) = b.y - x2 - 1 by omega]; omega
theorem est_nn (b c : Cel) : 0 ≤ est b c := by have := sz_bd (b.x - c.x); have := sz_bd (b.y - c.y); unfold est; omega
theorem est_self (b : Cel) : est b b = 0 := by unfold est; rw [Int.sub_self, Int.sub_self]; rfl
theorem okA (f : Fld) (b : Cel) : Gra.Ok f.adj f.kost (est b) := ⟨λ x y _ => by have := f.kost_bd (c := y); omega, est_nn b, λ x y hy => by
 have := est_step b (mem_adj.1 hy).1; have := f.kost_bd (c := y); omega⟩
theorem okZ (f : Fld) : Gra.Ok f.adj f.kost (λ _ => 0) := ⟨λ x y _ => by have := f.kost_bd (c := y); omega, λ _ => Int.le_refl 0, λ x y hy => by have := f.kost_bd (c := y); omega⟩
theorem at_inj (hf : f.chk = 0) (hc : f.isIn c = true) (hd : f.isIn d = true) (h : f.at_ c = f.at_ d) : c = d := by
 obtain ⟨a0, a1, a2, a3, a4, a5⟩ := idx hf hc
 obtain ⟨b0, b1, b2, b3, b4, b5⟩ := idx hf hd
 unfold at_ at h
 have e : c.y * f.wide + c.x = d.y * f.wide + d.x := by omega
 have e1 : (c.y * f.wide + c.x) % f.wide = c.x := by rw [Int.add_comm, Int.add_mul_emod_self_right, Int.emod_eq_of_lt a2 a3]
 have e2 : (d.y * f.wide + d.x) % f.wide = d.x := by rw [Int.add_comm, Int.add_mul_emod_self_right, Int.emod_eq_of_lt b2 b3]
 have ex : c.x = d.x := by rw [← e1, ← e2, e]
 have ey : c.y * f.wide = d.y * f.wide := by omega
 have ey : c.y = d.y := Int.eq_of_mul_eq_mul_right (by omega) ey
 cases c; cases d; simp at ex ey; rw [ex, ey]
theorem at_lt (hf : f.chk = 0) (hc : f.isIn c = true) : f.at_ c < f.places.length ∧ ((f.at_ c : Nat) : Int) = c.y * f.wide + c.x := by
 obtain ⟨a0, a1, _⟩ := idx hf hc
 unfold at_; omega
theorem fr_in (hc : f.isIn c = true) : f.fr far c = far.getD (f.at_ c) (-1) := by unfold fr; rw [if_pos hc]
theorem fr_out (hc : f.isIn c = false) : f.fr far c = -1 := by unfold fr; rw [if_neg (by rw [hc]; decide)]
theorem fr_set (hf : f.chk = 0) (hl : far.length = f.places.length) (hc : f.isIn c = true) : f.fr (far.set (f.at_ c) v) c = v := by
 rw [fr_in hc, List.getD_eq_getElem?_getD, List.getElem?_set_self (by rw [hl]; exact (at_lt hf hc).1)]; rfl
theorem fr_set_ne (hf : f.chk = 0) (hc : f.isIn c = true) (hne : d ≠ c) : f.fr (far.set (f.at_ c) v) d = f.fr far d := by
 cases hd : f.isIn d with
 | false => rw [fr_out hd, fr_out hd]
 | true => rw [fr_in hd, fr_in hd, List.getD_eq_getElem?_getD, List.getD_eq_getElem?_getD, List.getElem?_set_ne (λ e => hne (at_inj hf hd hc e.symm))]
end
end Fld
def und : List Int → Nat
 | [] => 0
 | x :: r => (if x < 0 then 1 else 0) + und r
theorem und_le : ∀ l : List Int, und l ≤ l.length
 | [] => Nat.le_refl _
 | x :: r => by have := und_le r; rw [und, List.length_cons]; split <;> omega
theorem und_set {v : Int} (hv : 0 ≤ v) : ∀ (l : List Int) (i : Nat), i < l.length → l.getD i (-1) < 0 → und (l.set i v) + 1 = und l
 | [], i, h, _ => by simp at h
 | x :: r, 0, _, h => by
  have h : x < 0 := h
  rw [List.set_cons_zero, und, und, if_neg (by omega), if_pos h]; omega
 | x :: r, i + 1, h, h2 => by
  have := und_set hv r i (by simpa using h) (by simpa using h2)
  rw [List.set_cons_succ, und, und]; omega
theorem und_all {n : Nat} : und (List.replicate n (-1)) = n := by
 induction n with
 | zero => rfl
 | succ n ih => rw [List.replicate_succ, und, ih]; simp; omega
structure SI {β : Type} [Inhabited β] (cel : β → Cel) (fa ky : β → Int) (f : Fld) (h : Cel → Int) (src : Cel → Prop) (far : List Int) (l : List β) (x0 : Cel) (rest : List Cel) : Prop where
 len : far.length = f.places.length
 inv : Gra.Inv f.adj f.kost h src (f.fr far) (l.map λ n => (cel n, fa n)) x0 rest
 hp : Hp.Heap ky l.length l
 all : ∀ n ∈ l, ky n = fa n + h (cel n) ∧ f.ground (cel n) = true
 bd : ∀ c, f.fr far c + 3 * (und far : Int) ≤ 3 * (f.places.length : Int)
 gr : ∀ c, 0 ≤ f.fr far c → f.ground c = true
section
variable {β : Type} [Inhabited β] {cel : β → Cel} {fa ky : β → Int} {f : Fld} {h : Cel → Int} {src : Cel → Prop} {far : List Int} {l : List β} {x0 y : Cel} {rest : List Cel} {n : β} {j : Nat}
theorem SI.fa_bd (s : SI cel fa ky f h src far l x0 rest) (o : Gra.Ok f.adj f.kost h) (hn : n ∈ l) : 0 ≤ fa n ∧ fa n + 3 * (und far : Int) ≤ 3 * (f.places.length : Int) + 3 := by
 have hm : (cel n, fa n) ∈ l.map λ n => (cel n, fa n) := List.mem_map.2 ⟨n, hn, rfl⟩
 have hr := s.inv.rch hm
 refine ⟨hr.nn o, ?_⟩
 have hu := und_le far
 have := s.len
 rcases s.inv.q _ hm with ⟨_, h2⟩ | ⟨p, h1, h2, h3⟩
 ·have h2 : fa n = 0 := h2; omega
 ·have h3 : fa n = f.fr far p + f.kost (cel n) := h3
  have := s.bd p
  have := f.kost_bd (c := cel n); omega
theorem SI.perm0 (h0 : 0 < l.length) : (l.map λ n => (cel n, fa n)).Perm ((cel (l.getD 0 default), fa (l.getD 0 default)) :: (Hp.popL ky l).map λ n => (cel n, fa n)) :=
 ((Hp.popL_perm (key := ky) h0).symm.map _)
theorem SI.least (s : SI cel fa ky f h src far l x0 rest) (h0 : 0 < l.length) : ∀ e ∈ l.map λ n => (cel n, fa n), fa (l.getD 0 default) + h (cel (l.getD 0 default)) ≤ e.2 + h e.1 := by
 intro e he
 obtain ⟨n, hn, rfl⟩ := List.mem_map.1 he
 have h1 := s.hp.least n hn
 rw [(s.all n hn).1, (s.all _ (mem_dd h0)).1] at h1
 exact h1
theorem SI.sub (h0 : 0 < l.length) (hn : n ∈ Hp.popL ky l) : n ∈ l := (Hp.popL_perm (key := ky) h0).subset (List.mem_cons_of_mem _ hn)
theorem SI.skip0 (s : SI cel fa ky f h src far l x0 []) (h0 : 0 < l.length) (hd : 0 ≤ f.fr far (cel (l.getD 0 default))) : SI cel fa ky f h src far (Hp.popL ky l) x0 [] :=
 ⟨s.len, s.inv.popSkip (SI.perm0 h0) hd, Hp.popL_heap s.hp h0, λ n hn => s.all n (SI.sub h0 hn), s.bd, s.gr⟩
theorem SI.new (s : SI cel fa ky f h src far l x0 []) (hf : f.chk = 0) (o : Gra.Ok f.adj f.kost h) (h0 : 0 < l.length) (hd : f.fr far (cel (l.getD 0 default)) < 0) :
  SI cel fa ky f h src (far.set (f.at_ (cel (l.getD 0 default))) (fa (l.getD 0 default))) (Hp.popL ky l) (cel (l.getD 0 default)) (f.adj (cel (l.getD 0 default))) ∧ und (far.set (f.at_ (cel (l.getD 0 default))) (fa (l.getD 0 default))) + 1 = und far := by
 have hg := (s.all _ (mem_dd h0 (d := default))).2
 have hi := Fld.ground_in hg
 have hb := s.fa_bd o (mem_dd h0 (d := default))
 have hu : und (far.set (f.at_ (cel (l.getD 0 default))) (fa (l.getD 0 default))) + 1 = und far := und_set hb.1 far _ (by rw [s.len]; exact (Fld.at_lt hf hi).1) (by rw [Fld.fr_in hi] at hd; exact hd)
 refine ⟨⟨by rw [List.length_set]; exact s.len, (s.inv.popNew o (SI.perm0 h0) hd (s.least h0) (Fld.fr_set hf s.len hi) (λ z hz => Fld.fr_set_ne hf hi hz)).1, Hp.popL_heap s.hp h0, λ n hn => s.all n (SI.sub h0 hn), λ c => ?_, λ c hc => ?_⟩, hu⟩
 ·by_cases e : c = cel (l.getD 0 default)
  ·rw [e, Fld.fr_set hf s.len hi]; omega
  ·rw [Fld.fr_set_ne hf hi e]; have := s.bd c; omega
 ·by_cases e : c = cel (l.getD 0 default)
  ·rw [e]; exact hg
  ·rw [Fld.fr_set_ne hf hi e] at hc; exact s.gr c hc
theorem SI.push (s : SI cel fa ky f h src far l x0 (y :: rest)) (o : Gra.Ok f.adj f.kost h) (hg : f.ground y = true) (h1 : cel n = y) (h2 : fa n = f.fr far x0 + f.kost y) (h3 : ky n = fa n + h y) : SI cel fa ky f h src far (Hp.push ky l n) x0 rest := by
 refine ⟨s.len, s.inv.push o ?_, Hp.push_heap s.hp, λ m hm => ?_, s.bd, s.gr⟩
 ·have := (Hp.push_perm (key := ky) (l := l) (x := n)).map λ n => (cel n, fa n)
  rw [List.map_cons, h1, h2] at this; exact this
 ·rcases List.mem_cons.1 ((Hp.push_perm (key := ky)).subset hm) with rfl | hm
  ·rw [h1]; exact ⟨h3, hg⟩
  ·exact s.all m hm
theorem SI.pass (s : SI cel fa ky f h src far l x0 (y :: rest)) (hy : 0 ≤ f.fr far y) : SI cel fa ky f h src far l x0 rest := ⟨s.len, s.inv.skip hy, s.hp, s.all, s.bd, s.gr⟩
theorem sides_drop {f : Fld} {x : Cel} {j : Nat} (hj : j < 4) : ((sidesC x).drop j).filter f.ground = if f.ground ((sidesC x).getD j default) then (sidesC x).getD j default :: ((sidesC x).drop (j + 1)).filter f.ground else ((sidesC x).drop (j + 1)).filter f.ground := by
 have hl : (sidesC x).length = 4 := rfl
 rw [List.drop_eq_getElem_cons (by omega), List.filter_cons, getD_dd (by omega)]
theorem SI.look_out (s : SI cel fa ky f h src far l x0 (((sidesC x0).drop j).filter f.ground)) (hj : j < 4) (hg : f.ground ((sidesC x0).getD j default) = false) : SI cel fa ky f h src far l x0 (((sidesC x0).drop (j + 1)).filter f.ground) := by
 rw [sides_drop hj, if_neg (by rw [hg]; decide)] at s; exact s
theorem SI.look_known (s : SI cel fa ky f h src far l x0 (((sidesC x0).drop j).filter f.ground)) (hj : j < 4) (hy : 0 ≤ f.fr far ((sidesC x0).getD j default)) (hg : f.ground ((sidesC x0).getD j default) = true) : SI cel fa ky f h src far l x0 (((sidesC x0).drop (j + 1)).filter f.ground) := by
 rw [sides_drop hj, if_pos hg] at s; exact s.pass hy
theorem SI.look_new (s : SI cel fa ky f h src far l x0 (((sidesC x0).drop j).filter f.ground)) (o : Gra.Ok f.adj f.kost h) (hj : j < 4) (hg : f.ground ((sidesC x0).getD j default) = true) (h1 : cel n = (sidesC x0).getD j default) (h2 : fa n = f.fr far x0 + f.kost ((sidesC x0).getD j default)) (h3 : ky n = fa n + h ((sidesC x0).getD j default)) :
  SI cel fa ky f h src far (Hp.push ky l n) x0 (((sidesC x0).drop (j + 1)).filter f.ground) := by
 rw [sides_drop hj, if_pos hg] at s; exact s.push o hg h1 h2 h3
end
end
section
open Go.RowKit
structure Nod where
 cell : Cel
 far : Int
 all : Int
 deriving DecidableEq, Inhabited
namespace Nod
def cells (a : Nod) : List Value := [.int .i64 (a.cell.x), .int .i64 (a.cell.y), .int .i64 (a.far), .int .i64 (a.all)]
def ok (a : Nod) : Prop := (Lit.int .i64 a.cell.x).wf = true ∧ (Lit.int .i64 a.cell.y).wf = true ∧ (Lit.int .i64 a.far).wf = true ∧ (Lit.int .i64 a.all).wf = true
def raw (j : Nat) (u : Value) : Prop := match j with
 | 0 => ∃ n : Int, u = .int .i64 n
 | 1 => ∃ n : Int, u = .int .i64 n
 | 2 => ∃ n : Int, u = .int .i64 n
 | 3 => ∃ n : Int, u = .int .i64 n
 | _ => True
theorem cells_raw (a : Nod) : ∀ (j : Nat) u, a.cells[j]? = some u → raw j u := by
 intro j u hu
 match j, hu with
 | 0, hu => exact ⟨_, (Option.some.inj hu).symm⟩
 | 1, hu => exact ⟨_, (Option.some.inj hu).symm⟩
 | 2, hu => exact ⟨_, (Option.some.inj hu).symm⟩
 | 3, hu => exact ⟨_, (Option.some.inj hu).symm⟩
 | j + 4, hu => exact trivial
theorem cells_one (a : Nod) : ∀ u ∈ a.cells, u.oneCell' = true := by
 intro u hu
 unfold cells at hu
 simp only [List.mem_cons, List.not_mem_nil, or_false] at hu
 rcases hu with rfl | rfl | rfl | rfl <;> rfl
def rep : Rep Nod := Rep.flat 4 cells ok raw (λ _ => rfl) cells_one cells_raw
theorem plain : rep.Plain := Rep.flat_plain
def zero : Value := .agg #[.int .i64 0, .int .i64 0, .int .i64 0, .int .i64 0]
theorem zero_raw : ∀ (j : Nat) u, zero.cells[j]? = some u → rep.raw j u := by
 intro j u hu
 have hu : (#[(.int .i64 0 : Value), (.int .i64 0 : Value), (.int .i64 0 : Value), (.int .i64 0 : Value)] : Array Value)[j]? = some u := hu
 match j, hu with
 | 0, hu => exact ⟨_, (Option.some.inj hu).symm⟩
 | 1, hu => exact ⟨_, (Option.some.inj hu).symm⟩
 | 2, hu => exact ⟨_, (Option.some.inj hu).symm⟩
 | 3, hu => exact ⟨_, (Option.some.inj hu).symm⟩
 | j + 4, hu => cases hu
theorem info : (Try.prog.info? 250).map (λ i => (i.zero, i.size, i.bytes)) = some (some zero, 4, 32) := by kernel_rfl
theorem at_ {by_ : Nat} {w : World} {A : Option Addr} {c : Nat} {l : List Nod} (h : rep.SHas by_ w A c l) (h0 : 0 < l.length) :
  ∃ b o, A = some ⟨b, o, none⟩ ∧ ∀ (i : Nat) (a : Nod), l[i]? = some a → w.cell? ⟨b, o + i * 4, none⟩ = some (.int .i64 (a.cell.x)) ∧ w.cell? ⟨b, o + i * 4 + 1, none⟩ = some (.int .i64 (a.cell.y)) ∧ w.cell? ⟨b, o + i * 4 + 2, none⟩ = some (.int .i64 (a.far)) ∧ w.cell? ⟨b, o + i * 4 + 3, none⟩ = some (.int .i64 (a.all)) := by
 obtain ⟨b, o, e, hc⟩ := h.at_ h0
 refine ⟨b, o, e, λ i a ha => ?_⟩
 obtain ⟨es, ⟨rfl, _⟩, hj⟩ := hc i a ha
 exact ⟨hj 0 _ rfl, hj 1 _ rfl, hj 2 _ rfl, hj 3 _ rfl⟩
theorem all_ok {by_ : Nat} {w : World} {A : Option Addr} {c : Nat} {l : List Nod} (h : rep.SHas by_ w A c l) : ∀ a ∈ l, a.ok := Rep.SHas.all_ (R := rep) (Q := ok) (fun {w cs a} (h : rep.has w cs a) => (show cs = a.cells ∧ a.ok from h).2) h
theorem blk {w : World} {g : Nat} {t : TypeId} {fr : Nat × Nat} {a : Nod} (h : Blk w g a.cells t fr) : w.cell? ⟨g, 0, none⟩ = some (.int .i64 (a.cell.x)) ∧ w.cell? ⟨g, 1, none⟩ = some (.int .i64 (a.cell.y)) ∧ w.cell? ⟨g, 2, none⟩ = some (.int .i64 (a.far)) ∧ w.cell? ⟨g, 3, none⟩ = some (.int .i64 (a.all)) :=
 ⟨h.cell 0, h.cell 1, h.cell 2, h.cell 3⟩
def sh : Sh := (.cons (.cons (.int .i64) (.cons (.int .i64) .nil)) (.cons (.int .i64) (.cons (.int .i64) .nil)))
theorem opens (w : World) (cs : List Value) (h : sh.Ok w cs) : ∃ a, rep.has w cs a := by
 obtain ⟨_, _, rfl, _, _, ⟨_, _, rfl, _, _, ⟨x0, rfl, k0⟩, ⟨_, _, rfl, _, _, ⟨x1, rfl, k1⟩, rfl⟩⟩, ⟨_, _, rfl, _, _, ⟨x2, rfl, k2⟩, ⟨_, _, rfl, _, _, ⟨x3, rfl, k3⟩, rfl⟩⟩⟩ := h
 exact ⟨⟨⟨x0, x1⟩, x2, x3⟩, rfl, k0, k1, k2, k3⟩
end Nod
end
section
open Go.RowKit
abbrev PS (f : Fld) (a b : Cel) (far : List Int) (l : List Nod) (x0 : Cel) (rest : List Cel) : Prop := SI Nod.cell Nod.far Nod.all f (Fld.est b) (λ c => c = a) far l x0 rest
def Vis (f : Fld) (b : Cel) (far : List Int) : Prop := 0 ≤ f.fr far b → ∀ x, 0 ≤ f.fr far x → f.fr far x + Fld.est b x ≤ f.fr far b
structure PEnd (f : Fld) (a b : Cel) (far : List Int) : Prop where
 len : far.length = f.places.length
 spec : Gra.Spec f.adj f.kost (Fld.est b) (λ c => c = a) b (f.fr far)
 bd : ∀ c, f.fr far c ≤ 3 * (f.places.length : Int)
 gr : ∀ c, 0 ≤ f.fr far c → f.ground c = true
section
variable {f : Fld} {a b x0 : Cel} {far : List Int} {l : List Nod} {xn : Nod} {rest : List Cel}
theorem vis_new (s : PS f a b far l x0 []) (hf : f.chk = 0) (h0 : 0 < l.length) (hx : l.getD 0 default = xn) (hd : f.fr far xn.cell < 0) (hv : Vis f b far) (hc : f.fr far b < 0 ∨ xn.all ≤ f.fr far b) : Vis f b (far.set (f.at_ xn.cell) xn.far) := by
 have hm : xn ∈ l := by rw [← hx]; exact mem_dd h0
 obtain ⟨ha, hg⟩ := s.all xn hm
 have hi := Fld.ground_in hg
 have h1 := Fld.fr_set (v := xn.far) hf s.len hi
 have h2 : ∀ z, z ≠ xn.cell → f.fr (far.set (f.at_ xn.cell) xn.far) z = f.fr far z := λ z hz => Fld.fr_set_ne hf hi hz
 have hmono := λ z hz => s.inv.mono z hz (xn.cell, xn.far) (List.mem_map.2 ⟨xn, hm, rfl⟩)
 dsimp only at hmono
 intro hb z hz
 by_cases e : b = xn.cell
 ·have eb : f.fr (far.set (f.at_ xn.cell) xn.far) b = xn.far := by rw [e]; exact h1
  rw [eb]
  have e0 : Fld.est b xn.cell = 0 := by rw [← e]; exact Fld.est_self b
  by_cases ez : z = xn.cell
  ·rw [ez, h1]; omega
  ·rw [h2 z ez] at hz ⊢
   have := hmono z hz
   omega
 ·rw [h2 b e] at hb ⊢
  by_cases ez : z = xn.cell
  ·rw [ez, h1]; omega
  ·rw [h2 z ez] at hz ⊢
   exact hv hb z hz
theorem pend_of (s : PS f a b far l x0 []) (hv : Vis f b far) (he : (0 ≤ f.fr far b ∧ ∀ e ∈ l.map λ n => (n.cell, n.far), f.fr far b < e.2 + Fld.est b e.1) ∨ (l.map λ n => (n.cell, n.far)) = []) : PEnd f a b far :=
 ⟨s.len, s.inv.ends (Fld.okA f b) (Fld.est_self b) hv he, λ c => by have := s.bd c; omega, s.gr⟩
theorem pend_nil (s : PS f a b far l x0 []) (hv : Vis f b far) (h : l.length = 0) : PEnd f a b far := pend_of s hv (.inr (by rw [List.eq_nil_of_length_eq_zero h]; rfl))
theorem pend_more (s : PS f a b far l x0 []) (hv : Vis f b far) (h0 : 0 < l.length) (hb : 0 ≤ f.fr far b) (h : f.fr far b < (l.getD 0 default).all) : PEnd f a b far :=
 pend_of s hv (.inl ⟨hb, λ e he => by
  have h1 := s.least h0 e he
  rw [← (s.all _ (mem_dd h0)).1] at h1; omega⟩)
theorem PS.node (s : PS f a b far l x0 rest) (hf : f.chk = 0) (hb : f.isIn b = true) (hn : xn ∈ l) : 0 ≤ xn.cell.x ∧ xn.cell.x < f.wide ∧ 0 ≤ xn.cell.y ∧ xn.cell.y < f.high ∧ 0 ≤ xn.far ∧ xn.far ≤ 4803 ∧ 0 ≤ xn.all ∧ xn.all ≤ 5000 ∧ xn.ok := by
 obtain ⟨ha, hg⟩ := s.all xn hn
 obtain ⟨_, _, i1, i2, i3, i4⟩ := Fld.idx hf (Fld.ground_in hg)
 obtain ⟨_, _, j1, j2, j3, j4⟩ := Fld.idx hf hb
 obtain ⟨g1, g2, g3, g4, g5, g6⟩ := Fld.good hf
 obtain ⟨h1, h2⟩ := s.fa_bd (Fld.okA f b) hn
 have hl := Fld.len_le hf
 have he : 0 ≤ Fld.est b xn.cell ∧ Fld.est b xn.cell ≤ 160 := by
  refine ⟨Fld.est_nn _ _, ?_⟩
  unfold Fld.est
  have a1 := sz_bd (b.x - xn.cell.x); have a2 := sz_bd (b.y - xn.cell.y)
  rcases (show b.x - xn.cell.x < 0 ∨ 0 ≤ b.x - xn.cell.x by omega) with h | h
  ·have := a1.2.2.2 h
   rcases (show b.y - xn.cell.y < 0 ∨ 0 ≤ b.y - xn.cell.y by omega) with h' | h'
   ·have := a2.2.2.2 h'; omega
   ·have := a2.2.2.1 h'; omega
  ·have := a1.2.2.1 h
   rcases (show b.y - xn.cell.y < 0 ∨ 0 ≤ b.y - xn.cell.y by omega) with h' | h'
   ·have := a2.2.2.2 h'; omega
   ·have := a2.2.2.1 h'; omega
 refine ⟨i1, i2, i3, i4, h1, by omega, by omega, by omega, okI_iff.2 (by omega), okI_iff.2 (by omega), okI_iff.2 (by omega), okI_iff.2 (by omega)⟩
theorem fr_get (hf : f.chk = 0) (hl : far.length = f.places.length) {c : Cel} (hc : f.isIn c = true) : far[(c.y * f.wide + c.x).toNat]? = some (f.fr far c) := by
 rw [Fld.fr_in hc]
 exact get_d (u := -1) (show f.at_ c < far.length by rw [hl]; exact (Fld.at_lt hf hc).1)
theorem fr_lt (hf : f.chk = 0) (hl : far.length = f.places.length) {c : Cel} (hc : f.isIn c = true) : (c.y * f.wide + c.x).toNat < far.length ∧ 0 ≤ c.y * f.wide + c.x ∧ c.y * f.wide + c.x ≤ 1600 := by
 have h1 := Fld.at_lt hf hc
 obtain ⟨a0, a1, _⟩ := Fld.idx hf hc
 have := Fld.len_le hf
 unfold Fld.at_ at h1
 omega
theorem b3g_ (p q : Bool) : p = false ∨ (p = true ∧ q = true) ∨ (p = true ∧ q = false) := by cases p <;> cases q <;> simp
end
end
section
open Go.RowKit
section
variable {f : Fld} {a b c : Cel} {far far' : List Int} {fr : Cel → Int}
noncomputable def frF (f : Fld) (a b : Cel) : Cel → Int :=
 @dite _ (∃ far, PEnd f a b far) (Classical.propDecidable _) (λ h => f.fr h.choose) λ _ => λ _ => -1
theorem PEnd.frE (h : PEnd f a b far) : f.fr far = frF f a b := by
 have hex : ∃ far, PEnd f a b far := ⟨far, h⟩
 unfold frF
 rw [dif_pos hex]
 funext x
 exact h.spec.uniq hex.choose_spec.spec x
theorem PEnd.get (h : PEnd f a b far) (hf : f.chk = 0) {c : Cel} (hc : f.isIn c = true) : far[(c.y * f.wide + c.x).toNat]? = some (frF f a b c) := by rw [← h.frE]; exact fr_get hf h.len hc
theorem push_nil {β : Type} [Inhabited β] {key : β → Int} {x : β} : Hp.push key [] x = [x] := by
 unfold Hp.push Hp.upF
 rw [if_neg (by simp)]; rfl
theorem fr_none {n : Nat} : f.fr (List.replicate n (-1)) c = -1 := by
 unfold Fld.fr
 split
 ·rw [List.getD_eq_getElem?_getD, List.getElem?_replicate]; split <;> rfl
 ·rfl
theorem PS.start (hf : f.chk = 0) (ha : f.ground a = true) (x0 : Cel) : PS f a b (List.replicate f.places.length (-1)) (Hp.push Nod.all [] ⟨a, 0, 0 + Fld.est b a⟩) x0 [] := by
 rw [push_nil]
 refine ⟨List.length_replicate, Gra.Inv.start (λ x => fr_none) (λ e he => ?_) (λ s hs => ?_), λ i h0 h1 => by simp at h1; omega, λ n hn => ?_, λ c => ?_, λ c hc => by rw [fr_none] at hc; omega⟩
 ·rw [List.map_cons, List.map_nil, List.mem_singleton] at he; subst he; exact ⟨rfl, rfl⟩
 ·subst hs; exact List.mem_cons_self
 ·rw [List.mem_singleton.1 hn]; exact ⟨rfl, ha⟩
 ·rw [fr_none, und_all]; omega
theorem Vis.start : Vis f b (List.replicate f.places.length (-1)) := λ h => by rw [fr_none] at h; omega
def prevF (f : Fld) (fr : Cel → Int) (c : Cel) : Cel := ((sidesC c).find? λ n => f.ground n && decide (0 ≤ fr n) && decide (fr n + f.kost c = fr c)).getD c
def backF (f : Fld) (fr : Cel → Int) (a : Cel) : Nat → Cel → List Cel
 | 0, c => [c]
 | n + 1, c => if c = a then [c] else c :: backF f fr a n (prevF f fr c)
structure Frs (f : Fld) (a : Cel) (fr : Cel → Int) : Prop where
 zero : fr a = 0
 pos : ∀ c, 0 ≤ fr c → c ≠ a → ∃ p, 0 ≤ fr p ∧ c ∈ f.adj p ∧ fr c = fr p + f.kost c
 gr : ∀ c, 0 ≤ fr c → f.ground c = true
theorem Frs.prev (h : Frs f a fr) (hc : 0 ≤ fr c) (hne : c ≠ a) : prevF f fr c ∈ sidesC c ∧ f.ground (prevF f fr c) = true ∧ 0 ≤ fr (prevF f fr c) ∧ fr (prevF f fr c) + f.kost c = fr c := by
 obtain ⟨p, h1, h2, h3⟩ := h.pos c hc hne
 have hp : p ∈ sidesC c := Fld.sides_symm (Fld.mem_adj.1 h2).1
 have hpp : (f.ground p && decide (0 ≤ fr p) && decide (fr p + f.kost c = fr c)) = true := by
  rw [h.gr p h1, decide_eq_true h1, decide_eq_true h3.symm]; rfl
 unfold prevF
 cases hf : (sidesC c).find? λ n => f.ground n && decide (0 ≤ fr n) && decide (fr n + f.kost c = fr c) with
 | none => exact absurd hpp (List.find?_eq_none.1 hf p hp)
 | some q =>
  have hq := List.find?_some hf
  simp only [Bool.and_eq_true, decide_eq_true_eq] at hq
  exact ⟨List.mem_of_find?_eq_some hf, hq.1.1, hq.1.2, hq.2⟩
theorem Frs.fuel (h : Frs f a fr) : ∀ (n : Nat) (c : Cel), 0 ≤ fr c → (fr c).toNat ≤ n → backF f fr a n c = backF f fr a (fr c).toNat c := by
 intro n
 induction n using Nat.strongRecOn with
 | ind n ih =>
  intro c hc hn
  by_cases hne : c = a
  ·subst hne
   have : (fr c).toNat = 0 := by rw [h.zero]; rfl
   rw [this]
   cases n with
   | zero => rfl
   | succ n => unfold backF; rw [if_pos rfl]
  ·obtain ⟨p1, p2, p3, p4⟩ := h.prev hc hne
   have hk := f.kost_bd (c := c)
   obtain ⟨m, hm⟩ : ∃ m, (fr c).toNat = m + 1 := ⟨(fr c).toNat - 1, by omega⟩
   obtain ⟨n', hn'⟩ : ∃ n', n = n' + 1 := ⟨n - 1, by omega⟩
   subst hn'
   rw [hm, backF, backF, if_neg hne, if_neg hne, ih n' (by omega) _ p3 (by omega), ih m (by omega) _ p3 (by omega)]
def wayB (f : Fld) (fr : Cel → Int) (a c : Cel) : List Cel := backF f fr a (fr c).toNat c
theorem wayB_self (h : Frs f a fr) : wayB f fr a a = [a] := by unfold wayB; rw [h.zero]; rfl
theorem wayB_step (h : Frs f a fr) (hc : 0 ≤ fr c) (hne : c ≠ a) : wayB f fr a c = c :: wayB f fr a (prevF f fr c) := by
 obtain ⟨p1, p2, p3, p4⟩ := h.prev hc hne
 have hk := f.kost_bd (c := c)
 unfold wayB
 obtain ⟨m, hm⟩ : ∃ m, (fr c).toNat = m + 1 := ⟨(fr c).toNat - 1, by omega⟩
 rw [hm, backF, if_neg hne, h.fuel m _ p3 (by omega)]
theorem Frs.of (h : PEnd f a b far) (hb : 0 ≤ f.fr far b) : Frs f a (f.fr far) := by
 have hz : 0 ≤ f.fr far a → f.fr far a = 0 := λ h0 => by
  have := (h.spec.dist a h0).1.2 0 (.start rfl); omega
 have key : ∀ n : Nat, ∀ c, 0 ≤ f.fr far c → (f.fr far c).toNat = n → 0 ≤ f.fr far a := by
  intro n
  induction n using Nat.strongRecOn with
  | ind n ih =>
   intro c hc hn
   rcases h.spec.pred c hc with ⟨h1, _⟩ | ⟨p, h1, h2, h3⟩
   ·subst h1; exact hc
   ·have := f.kost_bd (c := c)
    exact ih (f.fr far p).toNat (by omega) p h1 rfl
 have ha := key _ b hb rfl
 refine ⟨hz ha, λ c hc hne => ?_, h.gr⟩
 rcases h.spec.pred c hc with ⟨h1, _⟩ | h1
 ·exact absurd h1 hne
 ·exact h1
theorem Frs.ofF (h : PEnd f a b far) (hb : 0 ≤ frF f a b b) : Frs f a (frF f a b) := by rw [← h.frE] at hb ⊢; exact Frs.of h hb
theorem PEnd.bdF (h : PEnd f a b far) (c : Cel) : frF f a b c ≤ 3 * (f.places.length : Int) := by rw [← h.frE]; exact h.bd c
noncomputable def findE (f : Fld) (a b : Cel) : Int := if f.atE a ≠ 0 then f.atE a else if f.atE b ≠ 0 then f.atE b else if f.place a = 1 ∨ f.place b = 1 then 9 else if frF f a b b < 0 then 6 else 0
noncomputable def findK (f : Fld) (a b : Cel) : Int := if findE f a b = 0 then frF f a b b else 0
noncomputable def findP (f : Fld) (a b : Cel) : List Cel := if findE f a b = 0 then (wayB f (frF f a b) a b).reverse else []
theorem find_arg (h : f.atE a ≠ 0) : findE f a b = f.atE a := by unfold findE; rw [if_pos h]
theorem find_arg2 (h : f.atE a = 0) (h2 : f.atE b ≠ 0) : findE f a b = f.atE b := by unfold findE; rw [if_neg (by rw [h]; simp), if_pos h2]
theorem atE_chkF (h : f.atE a = 0) : f.chk = 0 ∧ f.isIn a = true := by
 have hc : f.chk = 0 := by
  by_cases hc : f.chk = 0
  ·exact hc
  ·rw [(Fld.at_bad hc).1] at h; exact h
 exact ⟨hc, atE_zero' hc h⟩
where
 atE_zero' {f : Fld} {c : Cel} (h : f.chk = 0) (he : f.atE c = 0) : f.isIn c = true := by
  cases hi : f.isIn c with
  | true => rfl
  | false => rw [(Fld.at_out h hi).1] at he; omega
theorem find_rock (h : f.atE a = 0) (h2 : f.atE b = 0) (h3 : f.place a = 1 ∨ f.place b = 1) : findE f a b = 9 := by unfold findE; rw [if_neg (by rw [h]; simp), if_neg (by rw [h2]; simp), if_pos h3]
theorem find_none (hf : f.chk = 0) (ha : f.ground a = true) (hb : f.ground b = true) (h : frF f a b b < 0) : findE f a b = 6 := by
 unfold findE
 rw [if_neg (by rw [(Fld.at_in hf (Fld.ground_in ha)).1]; simp), if_neg (by rw [(Fld.at_in hf (Fld.ground_in hb)).1]; simp), if_neg (by rintro (h1 | h1); exact Fld.ground_place ha h1; exact Fld.ground_place hb h1), if_pos h]
theorem find_ok (hf : f.chk = 0) (ha : f.ground a = true) (hb : f.ground b = true) (h : 0 ≤ frF f a b b) : findE f a b = 0 := by
 unfold findE
 rw [if_neg (by rw [(Fld.at_in hf (Fld.ground_in ha)).1]; simp), if_neg (by rw [(Fld.at_in hf (Fld.ground_in hb)).1]; simp), if_neg (by rintro (h1 | h1); exact Fld.ground_place ha h1; exact Fld.ground_place hb h1), if_neg (by omega)]
theorem find_cases (f : Fld) (a b : Cel) : (f.atE a ≠ 0 ∧ findE f a b = f.atE a) ∨ (f.atE a = 0 ∧ f.atE b ≠ 0 ∧ findE f a b = f.atE b) ∨ (f.atE a = 0 ∧ f.atE b = 0 ∧ (f.place a = 1 ∨ f.place b = 1) ∧ findE f a b = 9) ∨ (f.chk = 0 ∧ f.ground a = true ∧ f.ground b = true ∧ ((frF f a b b < 0 ∧ findE f a b = 6) ∨ (0 ≤ frF f a b b ∧ findE f a b = 0))) := by
 by_cases h1 : f.atE a = 0
 ·by_cases h2 : f.atE b = 0
  ·obtain ⟨hc, ia⟩ := atE_chkF h1
   obtain ⟨_, ib⟩ := atE_chkF h2
   by_cases h3 : f.place a = 1 ∨ f.place b = 1
   ·exact .inr (.inr (.inl ⟨h1, h2, h3, find_rock h1 h2 h3⟩))
   ·have ga := Fld.ground_mk ia (λ h => h3 (.inl h))
    have gb := Fld.ground_mk ib (λ h => h3 (.inr h))
    refine .inr (.inr (.inr ⟨hc, ga, gb, ?_⟩))
    by_cases h4 : frF f a b b < 0
    ·exact .inl ⟨h4, find_none hc ga gb h4⟩
    ·exact .inr ⟨by omega, find_ok hc ga gb (by omega)⟩
  ·exact .inr (.inl ⟨h1, h2, find_arg2 h1 h2⟩)
 ·exact .inl ⟨h1, find_arg h1⟩
end
end
section
open Go.RowKit
structure Gox where
 id : Int
 to_ : Cel
 deriving DecidableEq, Inhabited
namespace Gox
def cells (a : Gox) : List Value := [.int .i64 (a.id), .int .i64 (a.to_.x), .int .i64 (a.to_.y)]
def ok (a : Gox) : Prop := (Lit.int .i64 a.id).wf = true ∧ (Lit.int .i64 a.to_.x).wf = true ∧ (Lit.int .i64 a.to_.y).wf = true
def raw (j : Nat) (u : Value) : Prop := match j with
 | 0 => ∃ n : Int, u = .int .i64 n
 | 1 => ∃ n : Int, u = .int .i64 n
 | 2 => ∃ n : Int, u = .int .i64 n
 | _ => True
theorem cells_raw (a : Gox) : ∀ (j : Nat) u, a.cells[j]? = some u → raw j u := by
 intro j u hu
 match j, hu with
 | 0, hu => exact ⟨_, (Option.some.inj hu).symm⟩
 | 1, hu => exact ⟨_, (Option.some.inj hu).symm⟩
 | 2, hu => exact ⟨_, (Option.some.inj hu).symm⟩
 | j + 3, hu => exact trivial
theorem cells_one (a : Gox) : ∀ u ∈ a.cells, u.oneCell' = true := by
 intro u hu
 unfold cells at hu
 simp only [List.mem_cons, List.not_mem_nil, or_false] at hu
 rcases hu with rfl | rfl | rfl <;> rfl
def rep : Rep Gox := Rep.flat 3 cells ok raw (λ _ => rfl) cells_one cells_raw
theorem plain : rep.Plain := Rep.flat_plain
def zero : Value := .agg #[.int .i64 0, .int .i64 0, .int .i64 0]
theorem zero_raw : ∀ (j : Nat) u, zero.cells[j]? = some u → rep.raw j u := by
 intro j u hu
 have hu : (#[(.int .i64 0 : Value), (.int .i64 0 : Value), (.int .i64 0 : Value)] : Array Value)[j]? = some u := hu
 match j, hu with
 | 0, hu => exact ⟨_, (Option.some.inj hu).symm⟩
 | 1, hu => exact ⟨_, (Option.some.inj hu).symm⟩
 | 2, hu => exact ⟨_, (Option.some.inj hu).symm⟩
 | j + 3, hu => cases hu
theorem info : (Try.prog.info? 195).map (λ i => (i.zero, i.size, i.bytes)) = some (some zero, 3, 24) := by kernel_rfl
theorem at_ {by_ : Nat} {w : World} {A : Option Addr} {c : Nat} {l : List Gox} (h : rep.SHas by_ w A c l) (h0 : 0 < l.length) :
  ∃ b o, A = some ⟨b, o, none⟩ ∧ ∀ (i : Nat) (a : Gox), l[i]? = some a → w.cell? ⟨b, o + i * 3, none⟩ = some (.int .i64 (a.id)) ∧ w.cell? ⟨b, o + i * 3 + 1, none⟩ = some (.int .i64 (a.to_.x)) ∧ w.cell? ⟨b, o + i * 3 + 2, none⟩ = some (.int .i64 (a.to_.y)) := by
 obtain ⟨b, o, e, hc⟩ := h.at_ h0
 refine ⟨b, o, e, λ i a ha => ?_⟩
 obtain ⟨es, ⟨rfl, _⟩, hj⟩ := hc i a ha
 exact ⟨hj 0 _ rfl, hj 1 _ rfl, hj 2 _ rfl⟩
theorem all_ok {by_ : Nat} {w : World} {A : Option Addr} {c : Nat} {l : List Gox} (h : rep.SHas by_ w A c l) : ∀ a ∈ l, a.ok := Rep.SHas.all_ (R := rep) (Q := ok) (fun {w cs a} (h : rep.has w cs a) => (show cs = a.cells ∧ a.ok from h).2) h
theorem blk {w : World} {g : Nat} {t : TypeId} {fr : Nat × Nat} {a : Gox} (h : Blk w g a.cells t fr) : w.cell? ⟨g, 0, none⟩ = some (.int .i64 (a.id)) ∧ w.cell? ⟨g, 1, none⟩ = some (.int .i64 (a.to_.x)) ∧ w.cell? ⟨g, 2, none⟩ = some (.int .i64 (a.to_.y)) :=
 ⟨h.cell 0, h.cell 1, h.cell 2⟩
def sh : Sh := (.cons (.int .i64) (.cons (.cons (.int .i64) (.cons (.int .i64) .nil)) .nil))
theorem opens (w : World) (cs : List Value) (h : sh.Ok w cs) : ∃ a, rep.has w cs a := by
 obtain ⟨_, _, rfl, _, _, ⟨x0, rfl, k0⟩, ⟨_, _, rfl, _, _, ⟨_, _, rfl, _, _, ⟨x1, rfl, k1⟩, ⟨_, _, rfl, _, _, ⟨x2, rfl, k2⟩, rfl⟩⟩, rfl⟩⟩ := h
 exact ⟨⟨x0, ⟨x1, x2⟩⟩, rfl, k0, k1, k2⟩
end Gox
theorem hcGo {w : World} {cs : List Value} {a : Gox} (h : Gox.rep.has w cs a) : cs = a.cells := And.left (show cs = a.cells ∧ a.ok from h)
end
section
open Go.RowKit Go.Maps
section
variable {w w' : World} {b : Nat} {g : Cel → Int} {S : List Nat} {x : Cel} {st : Nat}
def MpL (w : World) (b : Nat) (l : List (Cel × Int × Nat)) (clk : Nat) (g : Cel → Int) : Prop :=
 MapIs Cel.key w b l clk ∧ (∀ e ∈ l, e.1.ok) ∧ (l.map (·.1)).Nodup ∧ ∀ y, (MapIs.get l y).getD 0 = g y
def MapC (w : World) (b : Nat) (g : Cel → Int) : Prop := ∃ l clk, MpL w b l clk g
def EntC (w : World) (b : Nat) (g : Cel → Int) (x : Cel) (st : Nat) : Prop := ∃ l clk, MpL w b l clk g ∧ ∃ (j : Nat) (v : Int), l[j]? = some (x, v, st)
theorem MapC.lt (h : MapC w b g) : b < w.heap.size := by obtain ⟨l, c, h, _⟩ := h; exact h.lt
theorem MpL.keep {l : List (Cel × Int × Nat)} {clk : Nat} (h : MpL w b l clk g) (hk : w'.heap[b]? = w.heap[b]?) : MpL w' b l clk g := ⟨h.1.keep hk, h.2⟩
theorem MapC.keep (h : MapC w b g) (hk : w'.heap[b]? = w.heap[b]?) : MapC w' b g := by obtain ⟨l, c, h⟩ := h; exact ⟨l, c, h.keep hk⟩
theorem MapC.later (h : MapC w b g) (x : Ext w w') : MapC w' b g := h.keep (x.block b h.lt)
theorem MapC.mod (h : MapC w b g) (m : Mod S w w') (hs : b ∉ S) : MapC w' b g := h.keep (m.block b h.lt hs)
theorem EntC.map (h : EntC w b g x st) : MapC w b g := by obtain ⟨l, c, h, _⟩ := h; exact ⟨l, c, h⟩
theorem EntC.lt (h : EntC w b g x st) : b < w.heap.size := h.map.lt
theorem EntC.keep (h : EntC w b g x st) (hk : w'.heap[b]? = w.heap[b]?) : EntC w' b g x st := by obtain ⟨l, c, h, h2⟩ := h; exact ⟨l, c, h.keep hk, h2⟩
theorem EntC.later (h : EntC w b g x st) (e : Ext w w') : EntC w' b g x st := h.keep (e.block b h.lt)
theorem MapC.of_nil (h : MapI w b []) : MapC w b λ _ => 0 := by
 obtain ⟨es, c, h1, h2⟩ := h
 have : es.toList = [] := by
  cases he : es.toList with
  | nil => rfl
  | cons a r => rw [he] at h2; exact h2.elim
 have e : es = #[] := by apply Array.ext'; simpa using this
 subst e
 exact ⟨[], c, ⟨by simpa using h1, by simp, by simp⟩, by simp, by simp, λ y => rfl⟩
def RM (b : Nat) (g : Cel → Int) (w w' : World) : Prop := Mod [b] w w' ∧ (MapC w b g → MapC w' b g)
theorem RM.of_ext (h : Ext w w') : RM b g w w' := ⟨Mod.of_ext h, λ k => k.later h⟩
theorem RM.trans {w1 w2 : World} (h : RM b g w w1) (k : RM b g w1 w2) : RM b g w w2 := ⟨h.1.trans k.1, λ q => k.2 (h.2 q)⟩
theorem setMap_mod {es : Array MapEntry} {clock : Nat} : Mod [b] w (setMap w b es clock) :=
 ⟨rfl, rfl, rfl, by rw [setMap_size]; exact Nat.le_refl _, λ k _ hn => setMap_other (by simpa using hn)⟩
def upC (g : Cel → Int) (x : Cel) (v : Int) : Cel → Int := λ y => if y = x then v else g y
end
section
variable {w : World} {b : Nat} {l : List (Cel × Int × Nat)} {clock : Nat} {g : Cel → Int}
theorem mapC_und : Try.prog.underlying 165 = some (.map 70 3) := by kernel_rfl
theorem mapC_lookup (h : MapC w b g) (x : Cel) (hx : x.ok) : (Instr.lookup 165 (.map (some b)) (Cel.key x) false).run Try.prog w = .ok (.int .i64 (g x)) w := by
 obtain ⟨l, c, h1, h2, h3, h4⟩ := h
 rw [← h4 x]
 exact (MapIs.lookup Cel.key_ok mapC_und (Try.zeroValue3 w) h1 h2 h3 x hx).1
theorem stamp_at {l : List (Cel × Int × Nat)} {j : Nat} {a : Cel × Int × Nat} (hm : (l.map (·.2.2)).Nodup) (hj : l[j]? = some a) : ((l.map (entOf Cel.key)).toArray).findIdx? (λ y => ((y.born : Nat) : Int) == ((a.2.2 : Nat) : Int)) = some j := by
 rw [Go.WideElems.findIdx_arr]
 refine Go.WideElems.findIdx_born (l := l.map (entOf Cel.key)) (j := j) (e0 := entOf Cel.key a) ?_ (by rw [List.getElem?_map, hj]; rfl)
 rw [List.map_map]; exact hm
theorem mapC_entry (h : MapC w b g) (x : Cel) (hx : x.ok) : ∃ (st : Nat) (w' : World), (Instr.mapEntry 165 (.map (some b)) (Cel.key x)).run Try.prog w = .ok (.tuple #[.int .i64 (g x), .int .i64 (st : Int)]) w' ∧ Mod [b] w w' ∧ EntC w' b g x st := by
 obtain ⟨l, clock, h, hw, hn, hg⟩ := h
 obtain ⟨lx, hlx⟩ := Cel.key_ok.lit x hx
 have hb := h.blk
 have hlt := h.lt
 have ht := mapC_und
 have hz := Try.zeroValue3
 rcases MapIs.found Cel.key_ok h hw x hx with ⟨h1, h2, h3⟩ | ⟨j, v0, n0, h1, h2⟩
 ·have hgx : g x = 0 := by rw [← hg x, h2]; rfl
  have hput : MapIs.put l clock x 0 = l ++ [(x, 0, clock)] := by
   unfold MapIs.put
   rw [if_neg]
   intro ha
   obtain ⟨a, ha, hd⟩ := List.any_eq_true.1 ha
   exact h3 a ha (by simpa using hd)
  have hst : MpL (setMap w b ((l ++ [(x, 0, clock)]).map (entOf Cel.key)).toArray (clock + 1)) b (l ++ [(x, 0, clock)]) (clock + 1) g := by
   refine ⟨⟨setMap_heap hlt, λ a ha => ?_, ?_⟩, λ a ha => ?_, ?_, λ y => ?_⟩
   ·rcases List.mem_append.1 ha with ha | ha
    ·have := h.born a ha; omega
    ·simp at ha; subst ha; simp
   ·rw [List.map_append, List.nodup_append]
    refine ⟨h.stamps, by simp, λ a ha c hc e => ?_⟩
    simp at hc
    obtain ⟨y, hy, rfl⟩ := List.mem_map.1 ha
    have := h.born y hy
    omega
   ·rcases List.mem_append.1 ha with ha | ha
    ·exact hw a ha
    ·simp at ha; subst ha; exact hx
   ·have := MapIs.keys_put hn clock x 0
    rw [hput] at this; exact this
   ·have := MapIs.get_put l clock x y 0
    rw [hput] at this
    rw [this]
    by_cases e : y = x
    ·rw [if_pos e, e, hgx]; rfl
    ·rw [if_neg e]; exact hg y
  refine ⟨clock, _, ?_, setMap_mod, ⟨_, _, hst, l.length, 0, by simp⟩⟩
  ·rw [hgx]
   have : (l.map (entOf Cel.key)).toArray.push (⟨Cel.key x, .int .i64 0, clock⟩ : MapEntry) = ((l ++ [(x, 0, clock)]).map (entOf Cel.key)).toArray := by simp [entOf]
   simp [Instr.mapEntry, run_underlying ht, MapKept.run_getObj_map hb, Cel.key_ok.keyed.check w false hlx, h1, hz, MapKept.run_setObj_map _ hb, Result.andThen, setMap, Go.ChangeMaps.setBlock, goInt, entOf]
 ·have hgx : g x = v0 := by rw [← hg x, MapIs.get_of hn h2]; rfl
  have hst : MpL (setMap w b (l.map (entOf Cel.key)).toArray clock) b l clock g := ⟨⟨setMap_heap hlt, h.born, h.stamps⟩, hw, hn, hg⟩
  refine ⟨n0, _, ?_, setMap_mod, ⟨_, _, hst, j, v0, h2⟩⟩
  ·rw [hgx]
   have hj : (l.map (entOf Cel.key)).toArray[j]? = some (entOf Cel.key (x, v0, n0)) := by simp [h2]
   have hsame : (l.map (entOf Cel.key)).toArray.modify j (λ e => { e with key := Cel.key x }) = (l.map (entOf Cel.key)).toArray := by
    apply Array.ext'
    rw [Array.toList_modify, Go.ChangeMaps.modify_eq_set _ _ _ _ (by rw [List.getElem?_map, h2]; rfl)]
    exact Go.WideElems.set_self _ _ _ (by rw [List.getElem?_map, h2]; rfl)
   have hke : (entOf Cel.key (x, v0, n0)).key = Cel.key x := rfl
   have hbo : (entOf Cel.key (x, v0, n0)).born = n0 := rfl
   simp only [Instr.mapEntry, Sem.run_bind, run_underlying ht, Result.andThen_ok, MapKept.run_getObj_map hb, Cel.key_ok.keyed.check w false hlx, h1, hj, Option.map_some, Option.getD_some, hke, Cel.key_ok.keyed.stays w hlx, hsame, MapKept.run_setObj_map _ hb, hbo, Sem.run_pure]
   rfl
theorem mapC_store {st : Nat} {x : Cel} (h : EntC w b g x st) (v : Int) : ∃ w', (Instr.entryStore 165 (.map (some b)) (.int .i64 (st : Int)) (.int .i64 v)).run Try.prog w = .ok () w' ∧ Mod [b] w w' ∧ MapC w' b (upC g x v) := by
 obtain ⟨l, clock, ⟨h, hw, hn, hg⟩, j, v0, h2⟩ := h
 have hb := h.blk
 have hlt := h.lt
 have hidx := stamp_at (a := (x, v0, st)) h.stamps h2
 have hany : l.any (λ e => decide (e.1 = x)) = true := List.any_eq_true.2 ⟨_, List.mem_of_getElem? h2, by simp⟩
 have hset : MapIs.put l clock x v = l.set j (x, v, st) := by
  unfold MapIs.put
  rw [if_pos hany]
  refine List.ext_getElem? λ i => ?_
  rw [List.getElem?_map]
  by_cases hij : j = i
  ·subst hij
   rw [h2, List.getElem?_set_self (List.getElem?_eq_some_iff.1 h2).1]
   simp
  ·rw [List.getElem?_set_ne hij]
   cases hi : l[i]? with
   | none => rfl
   | some a =>
    have : a.1 ≠ x := by
     intro hax
     have e1 : (l.map (·.1))[i]? = (l.map (·.1))[j]? := by rw [List.getElem?_map, List.getElem?_map, hi, h2]; simp [hax]
     have := (List.getElem?_inj (by simpa using (List.getElem?_eq_some_iff.1 hi).1) hn).1 e1
     exact hij this.symm
    simp [this]
 have hmod : (l.map (entOf Cel.key)).toArray.modify j (λ e => { e with val := Value.int .i64 v }) = ((l.set j (x, v, st)).map (entOf Cel.key)).toArray := by
  apply Array.ext'
  rw [Array.toList_modify, Go.ChangeMaps.modify_eq_set _ _ _ _ (by rw [List.getElem?_map, h2]; rfl), List.map_set]
  rfl
 refine ⟨setMap w b ((l.set j (x, v, st)).map (entOf Cel.key)).toArray clock, ?_, setMap_mod, l.set j (x, v, st), clock, ⟨setMap_heap hlt, λ a ha => ?_, ?_⟩, λ a ha => ?_, ?_, λ y => ?_⟩
 ·rw [← hmod]
  simp only [Instr.entryStore, Sem.run_bind, MapKept.run_getObj_map hb, Result.andThen_ok, asInt, asIntOf, goInt, Sem.run_pure]
  rw [hidx]
  exact MapKept.run_setObj_map _ hb
 ·rcases List.mem_or_eq_of_mem_set ha with ha | ha
  ·exact h.born a ha
  ·rw [ha]; exact h.born (x, v0, st) (List.mem_of_getElem? h2)
 ·rw [List.map_set]
  have : (l.map (·.2.2)).set j st = l.map (·.2.2) := by
   obtain ⟨hl1, hl2⟩ := List.getElem?_eq_some_iff.1 h2
   have e : (l.map (·.2.2))[j]'(by simpa using hl1) = st := by rw [List.getElem_map, hl2]
   conv => lhs; rw [← e]
   exact List.set_getElem_self _
  rw [this]; exact h.stamps
 ·rcases List.mem_or_eq_of_mem_set ha with ha | ha
  ·exact hw a ha
  ·rw [ha]; exact hw (x, v0, st) (List.mem_of_getElem? h2)
 ·have := MapIs.keys_put hn clock x v
  rw [hset] at this; exact this
 ·have := MapIs.get_put l clock x y v
  rw [hset] at this
  rw [this]
  unfold upC
  by_cases e : y = x
  ·rw [if_pos e, if_pos e]; rfl
  ·rw [if_neg e, if_neg e]; exact hg y
end
section
variable {n : Nat} {E E' : List (Nat × Value)} {a : Act} {w w' w0 w1 : World} {Q : Exit → Act → World → Prop} {ops : Array Oper}
variable {d : Option Nat} {ty : TypeId} {pos : String} {af : Array Edge} {gd : Option (Nat × Bool)} {x y z m : Operand} {rest : List Oper} {r st : Nat} {g : Cel → Int} {p : Cel} {v : Int}
theorem lkC (h : MapC w r g) (hk : p.ok) (hx : ev E m = some (.map (some r))) (hy : ev E y = some (Cel.key p)) :
  Runs Try.prog E ⟨d, .lookup 165 m y false, ty, pos, af, gd⟩ w (.int .i64 (g p)) w := λ n a ha => by
 simp only [execOp, ha.ev hx, ha.ev hy, Sem.run_bind, mapC_lookup h p hk, Result.andThen_ok, Sem.run_pure]
theorem meC {d : Nat} (h : MapC w r g) (hk : p.ok) (hx : ev E m = some (.map (some r))) (hy : ev E y = some (Cel.key p)) (hd : Nat.blt d n = true)
  (hK : ∀ w1 (st : Nat), Mod [r] w w1 → EntC w1 r g p st → WL Try.prog n ops Q rest ((d, .tuple #[.int .i64 (g p), .int .i64 (st : Int)]) :: E) w1) : WL Try.prog n ops Q (⟨some d, .mapEntry 165 m y, ty, pos, af, none⟩ :: rest) E w := by
 obtain ⟨st, w1, h1, h2, h3⟩ := mapC_entry h p hk
 refine vl (w' := w1) (v := .tuple #[.int .i64 (g p), .int .i64 (st : Int)]) (λ n a ha => ?_) hd (hK _ st h2 h3)
 simp only [execOp, ha.ev hx, ha.ev hy, Sem.run_bind, h1, Result.andThen_ok, Sem.run_pure]
theorem esC (h : EntC w r g p st) (hx : ev E m = some (.map (some r))) (hy : ev E y = some (.int .i64 (st : Int))) (hz : ev E z = some (.int .i64 v))
  (hK : ∀ w1, Mod [r] w w1 → MapC w1 r (upC g p v) → WL Try.prog n ops Q rest E w1) : WL Try.prog n ops Q (⟨none, .entryStore 165 m y z, ty, pos, af, none⟩ :: rest) E w := by
 obtain ⟨w1, h1, h2, h3⟩ := mapC_store h v
 refine us (w' := w1) (λ n a ha => ?_) (hK _ h2 h3)
 simp only [execOp, ha.ev hx, ha.ev hy, ha.ev hz, Sem.run_bind, h1, Result.andThen_ok, Sem.run_pure]
end
end
section
open Go.RowKit
def occ (T : List Trp) (c : Cel) : Int := ((T.countP λ t => decide (t.spot = c) : Nat) : Int)
theorem occ_le (T : List Trp) (c : Cel) : 0 ≤ occ T c ∧ occ T c ≤ (T.length : Int) := ⟨Int.natCast_nonneg _, Int.ofNat_le.2 List.countP_le_length⟩
theorem occ_snoc (T : List Trp) (t : Trp) : occ (T ++ [t]) = upC (occ T) t.spot (occ T t.spot + 1) := by
 funext y
 unfold occ upC
 rw [List.countP_append, List.countP_cons, List.countP_nil]
 by_cases e : y = t.spot
 ·subst e; simp
 ·have e' : ¬ t.spot = y := λ h => e h.symm
  rw [if_neg e]; simp [e']
theorem take_snoc_d {α : Type} {T : List α} {k : Nat} {d : α} (h : k < T.length) : T.take (k + 1) = T.take k ++ [T.getD k d] := by
 rw [List.take_add_one, List.getElem?_eq_getElem h, List.getD_eq_getElem?_getD, List.getElem?_eq_getElem h]; rfl
theorem occ_succ {T : List Trp} {k : Nat} (h : k < T.length) : occ (T.take (k + 1)) = upC (occ (T.take k)) (T.getD k default).spot (occ (T.take k) (T.getD k default).spot + 1) := by
 rw [take_snoc_d (d := default) h, occ_snoc]
theorem countP_split {T : List Trp} {k : Nat} (h : k < T.length) (t : Trp) (c : Cel) :
  ((T.countP λ t => decide (t.spot = c) : Nat) : Int) = (((T.take k).countP λ t => decide (t.spot = c) : Nat) : Int) + (if (T.getD k default).spot = c then 1 else 0) + (((T.drop (k + 1)).countP λ t => decide (t.spot = c) : Nat) : Int) ∧
  (((T.set k t).countP λ t => decide (t.spot = c) : Nat) : Int) = (((T.take k).countP λ t => decide (t.spot = c) : Nat) : Int) + (if t.spot = c then 1 else 0) + (((T.drop (k + 1)).countP λ t => decide (t.spot = c) : Nat) : Int) := by
 have e : T = T.take k ++ T.getD k default :: T.drop (k + 1) := by
  conv => lhs; rw [← List.take_append_drop k T, List.drop_eq_getElem_cons h]
  rw [List.getD_eq_getElem?_getD, List.getElem?_eq_getElem h]; rfl
 constructor
 ·conv => lhs; rw [e]
  rw [List.countP_append, List.countP_cons]
  by_cases hc : (T.getD k default).spot = c <;> simp only [hc, decide_true, decide_false, if_true, if_false] <;> simp <;> omega
 ·rw [List.set_eq_take_append_cons_drop, if_pos h, List.countP_append, List.countP_cons]
  by_cases hc : t.spot = c <;> simp only [hc, decide_true, decide_false, if_true, if_false] <;> simp <;> omega
theorem occ_set {T : List Trp} {k : Nat} (h : k < T.length) (t : Trp) :
  occ (T.set k t) = upC (upC (occ T) (T.getD k default).spot (occ T (T.getD k default).spot - 1)) t.spot (upC (occ T) (T.getD k default).spot (occ T (T.getD k default).spot - 1) t.spot + 1) := by
 obtain ⟨A, D, hA, hB⟩ : ∃ A D : Cel → Int, (∀ y, occ T y = A y + (if (T.getD k default).spot = y then 1 else 0) + D y) ∧ ∀ y, occ (T.set k t) y = A y + (if t.spot = y then 1 else 0) + D y :=
  ⟨_, _, λ y => (countP_split h t y).1, λ y => (countP_split h t y).2⟩
 funext y
 unfold upC
 rw [hB y, hA y, hA t.spot, hA (T.getD k default).spot]
 generalize (T.getD k default).spot = a
 generalize t.spot = b
 by_cases e1 : y = b
 ·subst e1
  by_cases e2 : y = a
  ·subst e2; simp only [if_true, eq_self]; omega
  ·have e3 : ¬ a = y := λ h => e2 h.symm
   simp only [if_true, e2, e3, if_false]; omega
 ·have e4 : ¬ b = y := λ h => e1 h.symm
  by_cases e2 : y = a
  ·subst e2; simp only [if_true, e1, e4, if_false]; omega
  ·have e3 : ¬ a = y := λ h => e2 h.symm
   simp only [e1, e2, e3, e4, if_false]
theorem upC_le {g : Cel → Int} {n v : Int} {x : Cel} (h : ∀ y, 0 ≤ g y ∧ g y ≤ n) (h1 : -1 ≤ v) (h2 : v ≤ n) (y : Cel) : -1 ≤ upC g x v y ∧ upC g x v y ≤ n := by
 unfold upC
 have := h y
 split <;> omega
theorem occ_pos {T : List Trp} {c : Cel} : 0 < occ T c ↔ ∃ t ∈ T, t.spot = c := by
 unfold occ
 rw [Int.natCast_pos, List.countP_pos_iff]
 simp
def goK (l : List Gox) (id : Int) : Int := idxI (λ g => g.id == id) l
theorem goK_cases (l : List Gox) (id : Int) : goK l id = -1 ∧ (∀ g ∈ l, g.id ≠ id) ∨ ∃ k, k < l.length ∧ goK l id = (k : Int) ∧ (l.getD k default).id = id ∧ ∀ j, j < k → (l.getD j default).id ≠ id := by
 rcases idxI_cases (λ g => g.id == id) l with ⟨h1, h2⟩ | ⟨k, hk, h1, h2, h3⟩
 ·exact .inl ⟨h1, λ g hg => by simpa using h2 g hg⟩
 ·refine .inr ⟨k, hk, h1, ?_, λ j hj => ?_⟩
  ·rw [List.getD_eq_getElem?_getD, List.getElem?_eq_getElem hk]; simpa using h2
  ·rw [List.getD_eq_getElem?_getD, List.getElem?_eq_getElem (by omega)]; simpa using h3 j hj
noncomputable def step1 (f : Fld) (l : List Gox) (T : List Trp) (k : Nat) : Option Cel :=
 if goK l (T.getD k default).id < 0 then none
 else if findE f (T.getD k default).spot (l.getD (goK l (T.getD k default).id).toNat default).to_ ≠ 0 then none
 else if (findP f (T.getD k default).spot (l.getD (goK l (T.getD k default).id).toNat default).to_).length < 2 then none
 else if 0 < occ T ((findP f (T.getD k default).spot (l.getD (goK l (T.getD k default).id).toNat default).to_).getD 1 default) then none
 else some ((findP f (T.getD k default).spot (l.getD (goK l (T.getD k default).id).toNat default).to_).getD 1 default)
def Trp.to_ (t : Trp) (c : Cel) : Trp := { t with spot := c }
noncomputable def stS (f : Fld) (l : List Gox) (T : List Trp) : Nat → List Trp × List Int
 | 0 => (T, [])
 | k + 1 => match step1 f l (stS f l T k).1 k with
  | none => stS f l T k
  | some c => ((stS f l T k).1.set k (((stS f l T k).1.getD k default).to_ c), (stS f l T k).2 ++ [((stS f l T k).1.getD k default).id])
theorem stS_none {f : Fld} {l : List Gox} {T U : List Trp} {M : List Int} {k : Nat} (h : stS f l T k = (U, M)) (hs : step1 f l U k = none) : stS f l T (k + 1) = (U, M) := by
 show (match step1 f l (stS f l T k).1 k with | none => _ | some c => _) = _
 rw [h]; simp only [hs]
theorem stS_some {f : Fld} {l : List Gox} {T U : List Trp} {M : List Int} {k : Nat} {c : Cel} (h : stS f l T k = (U, M)) (hs : step1 f l U k = some c) : stS f l T (k + 1) = (U.set k ((U.getD k default).to_ c), M ++ [(U.getD k default).id]) := by
 show (match step1 f l (stS f l T k).1 k with | none => _ | some c => _) = _
 rw [h]; simp only [hs]
theorem stS_len {f : Fld} {l : List Gox} {T : List Trp} : ∀ k, (stS f l T k).1.length = T.length ∧ (stS f l T k).2.length ≤ k
 | 0 => ⟨rfl, Nat.le_refl _⟩
 | k + 1 => by
  have ih := stS_len (f := f) (l := l) (T := T) k
  cases hs : step1 f l (stS f l T k).1 k with
  | none => rw [stS_none rfl hs]; exact ⟨ih.1, Nat.le_succ_of_le ih.2⟩
  | some c => rw [stS_some rfl hs]; exact ⟨by rw [List.length_set]; exact ih.1, by rw [List.length_append, List.length_singleton]; omega⟩
noncomputable def Wd.stepped (W : Wd) (l : List Gox) : Wd × List Int := ({ W with troops := (stS W.field l W.troops W.troops.length).1 }, (stS W.field l W.troops W.troops.length).2)
end
end Go.Proofs.Ytccankldeogdlaa
