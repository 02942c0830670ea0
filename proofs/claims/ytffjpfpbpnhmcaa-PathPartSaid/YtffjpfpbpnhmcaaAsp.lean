/-
  The search for one cell, in plain Lean: where it ends.
-/
import Derived.Test.YtffjpfpbpnhmcaaAst
import Derived.Test.YtffjpfpbpnhmcaaNod
set_option linter.unusedVariables false
set_option linter.unusedSimpArgs false
namespace Go.Proofs.Ytffjpfpbpnhmcaa
open Go.RowKit

/-- A search from a towards b. -/
abbrev PS (f : Fld) (a b : Cel) (far : List Int) (l : List Nod) (x0 : Cel) (rest : List Cel) : Prop := SI Nod.cell Nod.far Nod.all f (Fld.est b) (fun c => c = a) far l x0 rest
/-- Once b is known, no one is known who could cost more in all. -/
def Vis (f : Fld) (b : Cel) (far : List Int) : Prop := 0 ≤ f.fr far b → ∀ x, 0 ≤ f.fr far x → f.fr far x + Fld.est b x ≤ f.fr far b
/-- What is known at the end. -/
structure PEnd (f : Fld) (a b : Cel) (far : List Int) : Prop where
  len : far.length = f.places.length
  spec : Gra.Spec f.adj f.kost (Fld.est b) (fun c => c = a) b (f.fr far)
  bd : ∀ c, f.fr far c ≤ 3 * (f.places.length : Int)
  gr : ∀ c, 0 ≤ f.fr far c → f.ground c = true
section
variable {f : Fld} {a b x0 : Cel} {far : List Int} {l : List Nod} {xn : Nod} {rest : List Cel}
theorem vis_new (s : PS f a b far l x0 []) (hf : f.chk = 0) (h0 : 0 < l.length) (hx : l.getD 0 default = xn) (hd : f.fr far xn.cell < 0) (hv : Vis f b far) (hc : f.fr far b < 0 ∨ xn.all ≤ f.fr far b) : Vis f b (far.set (f.at_ xn.cell) xn.far) := by
  have hm : xn ∈ l := by rw [← hx]; exact mem_dd h0
  obtain ⟨ha, hg⟩ := s.all xn hm
  have hi := Fld.ground_in hg
  have h1 := Fld.fr_set (v := xn.far) hf s.len hi
  have h2 : ∀ z, z ≠ xn.cell → f.fr (far.set (f.at_ xn.cell) xn.far) z = f.fr far z := fun z hz => Fld.fr_set_ne hf hi hz
  have hmono := fun z hz => s.inv.mono z hz (xn.cell, xn.far) (List.mem_map.2 ⟨xn, hm, rfl⟩)
  dsimp only at hmono
  intro hb z hz
  by_cases e : b = xn.cell
  · have eb : f.fr (far.set (f.at_ xn.cell) xn.far) b = xn.far := by rw [e]; exact h1
    rw [eb]
    have e0 : Fld.est b xn.cell = 0 := by rw [← e]; exact Fld.est_self b
    by_cases ez : z = xn.cell
    · rw [ez, h1]; omega
    · rw [h2 z ez] at hz ⊢
      have := hmono z hz
      omega
  · rw [h2 b e] at hb ⊢
    by_cases ez : z = xn.cell
    · rw [ez, h1]; omega
    · rw [h2 z ez] at hz ⊢
      exact hv hb z hz
theorem pend_of (s : PS f a b far l x0 []) (hv : Vis f b far) (he : (0 ≤ f.fr far b ∧ ∀ e ∈ l.map fun n => (n.cell, n.far), f.fr far b < e.2 + Fld.est b e.1) ∨ (l.map fun n => (n.cell, n.far)) = []) : PEnd f a b far :=
  ⟨s.len, s.inv.ends (Fld.okA f b) (Fld.est_self b) hv he, fun c => by have := s.bd c; omega, s.gr⟩
theorem pend_nil (s : PS f a b far l x0 []) (hv : Vis f b far) (h : l.length = 0) : PEnd f a b far := pend_of s hv (.inr (by rw [List.eq_nil_of_length_eq_zero h]; rfl))
theorem pend_more (s : PS f a b far l x0 []) (hv : Vis f b far) (h0 : 0 < l.length) (hb : 0 ≤ f.fr far b) (h : f.fr far b < (l.getD 0 default).all) : PEnd f a b far :=
  pend_of s hv (.inl ⟨hb, fun e he => by
    have h1 := s.least h0 e he
    rw [← (s.all _ (mem_dd h0)).1] at h1; omega⟩)
theorem PS.node (s : PS f a b far l x0 rest) (hf : f.chk = 0) (hb : f.isIn b = true) (hn : xn ∈ l) : 0 ≤ xn.cell.x ∧ xn.cell.x < f.wide ∧ 0 ≤ xn.cell.y ∧ xn.cell.y < f.high ∧ 0 ≤ xn.far ∧ xn.far ≤ 4803 ∧ 0 ≤ xn.all ∧ xn.all ≤ 5000 ∧ xn.ok := by
  obtain ⟨ha, hg⟩ := s.all xn hn
  obtain ⟨_, _, i1, i2, i3, i4⟩ := Fld.idx hf (Fld.ground_in hg)
  obtain ⟨_, _, j1, j2, j3, j4⟩ := Fld.idx hf hb
  obtain ⟨g1, g2, g3, g4, g5, g6⟩ := Fld.good hf
  obtain ⟨h1, h2⟩ := s.fa_bd (Fld.okA f b) hn
  have hl := Fld.len_le hf
  have he : 0 ≤ Fld.est b xn.cell ∧ Fld.est b xn.cell ≤ 160 := by
    refine ⟨Fld.est_nn _ _, ?_⟩
    unfold Fld.est
    have a1 := sz_bd (b.x - xn.cell.x); have a2 := sz_bd (b.y - xn.cell.y)
    rcases (show b.x - xn.cell.x < 0 ∨ 0 ≤ b.x - xn.cell.x by omega) with h | h
    · have := a1.2.2.2 h
      rcases (show b.y - xn.cell.y < 0 ∨ 0 ≤ b.y - xn.cell.y by omega) with h' | h'
      · have := a2.2.2.2 h'; omega
      · have := a2.2.2.1 h'; omega
    · have := a1.2.2.1 h
      rcases (show b.y - xn.cell.y < 0 ∨ 0 ≤ b.y - xn.cell.y by omega) with h' | h'
      · have := a2.2.2.2 h'; omega
      · have := a2.2.2.1 h'; omega
  refine ⟨i1, i2, i3, i4, h1, by omega, by omega, by omega, okI_iff.2 (by omega), okI_iff.2 (by omega), okI_iff.2 (by omega), okI_iff.2 (by omega)⟩
theorem fr_get (hf : f.chk = 0) (hl : far.length = f.places.length) {c : Cel} (hc : f.isIn c = true) : far[(c.y * f.wide + c.x).toNat]? = some (f.fr far c) := by
  rw [Fld.fr_in hc]
  exact get_d (u := -1) (show f.at_ c < far.length by rw [hl]; exact (Fld.at_lt hf hc).1)
theorem fr_lt (hf : f.chk = 0) (hl : far.length = f.places.length) {c : Cel} (hc : f.isIn c = true) : (c.y * f.wide + c.x).toNat < far.length ∧ 0 ≤ c.y * f.wide + c.x ∧ c.y * f.wide + c.x ≤ 1600 := by
  have h1 := Fld.at_lt hf hc
  obtain ⟨a0, a1, _⟩ := Fld.idx hf hc
  have := Fld.len_le hf
  unfold Fld.at_ at h1
  omega
theorem b3g_ (p q : Bool) : p = false ∨ (p = true ∧ q = true) ∨ (p = true ∧ q = false) := by cases p <;> cases q <;> simp
end
end Go.Proofs.Ytffjpfpbpnhmcaa
