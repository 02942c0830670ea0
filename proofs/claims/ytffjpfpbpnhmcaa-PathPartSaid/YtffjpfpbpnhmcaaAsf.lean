/-
  The way there, in plain Lean: what path.Find answers.
-/
import Derived.Test.YtffjpfpbpnhmcaaAsp
set_option linter.unusedVariables false
set_option linter.unusedSimpArgs false
namespace Go.Proofs.Ytffjpfpbpnhmcaa
open Go.RowKit

section
variable {f : Fld} {a b c : Cel} {far far' : List Int} {fr : Cel → Int}
/-- How far the search from a to b has found each cell to be. -/
noncomputable def frF (f : Fld) (a b : Cel) : Cel → Int :=
  @dite _ (∃ far, PEnd f a b far) (Classical.propDecidable _) (fun h => f.fr h.choose) fun _ => fun _ => -1
theorem PEnd.frE (h : PEnd f a b far) : f.fr far = frF f a b := by
  have hex : ∃ far, PEnd f a b far := ⟨far, h⟩
  unfold frF
  rw [dif_pos hex]
  funext x
  exact h.spec.uniq hex.choose_spec.spec x
theorem PEnd.get (h : PEnd f a b far) (hf : f.chk = 0) {c : Cel} (hc : f.isIn c = true) : far[(c.y * f.wide + c.x).toNat]? = some (frF f a b c) := by rw [← h.frE]; exact fr_get hf h.len hc
theorem push_nil {β : Type} [Inhabited β] {key : β → Int} {x : β} : Hp.push key [] x = [x] := by
  unfold Hp.push Hp.upF
  rw [if_neg (by simp)]; rfl
theorem fr_none {n : Nat} : f.fr (List.replicate n (-1)) c = -1 := by
  unfold Fld.fr
  split
  · rw [List.getD_eq_getElem?_getD, List.getElem?_replicate]; split <;> rfl
  · rfl
theorem PS.start (hf : f.chk = 0) (ha : f.ground a = true) (x0 : Cel) : PS f a b (List.replicate f.places.length (-1)) (Hp.push Nod.all [] ⟨a, 0, 0 + Fld.est b a⟩) x0 [] := by
  rw [push_nil]
  refine ⟨List.length_replicate, Gra.Inv.start (fun x => fr_none) (fun e he => ?_) (fun s hs => ?_), fun i h0 h1 => by simp at h1; omega, fun n hn => ?_, fun c => ?_, fun c hc => by rw [fr_none] at hc; omega⟩
  · rw [List.map_cons, List.map_nil, List.mem_singleton] at he; subst he; exact ⟨rfl, rfl⟩
  · subst hs; exact List.mem_cons_self
  · rw [List.mem_singleton.1 hn]; exact ⟨rfl, ha⟩
  · rw [fr_none, und_all]; omega
theorem Vis.start : Vis f b (List.replicate f.places.length (-1)) := fun h => by rw [fr_none] at h; omega
/-- Whence one comes to a cell, by the search from a. -/
def prevF (f : Fld) (fr : Cel → Int) (c : Cel) : Cel := ((sidesC c).find? fun n => f.ground n && decide (0 ≤ fr n) && decide (fr n + f.kost c = fr c)).getD c
def backF (f : Fld) (fr : Cel → Int) (a : Cel) : Nat → Cel → List Cel
  | 0, c => [c]
  | n + 1, c => if c = a then [c] else c :: backF f fr a n (prevF f fr c)
/-- What is kept along the way back. -/
structure Frs (f : Fld) (a : Cel) (fr : Cel → Int) : Prop where
  zero : fr a = 0
  pos : ∀ c, 0 ≤ fr c → c ≠ a → ∃ p, 0 ≤ fr p ∧ c ∈ f.adj p ∧ fr c = fr p + f.kost c
  gr : ∀ c, 0 ≤ fr c → f.ground c = true
theorem Frs.prev (h : Frs f a fr) (hc : 0 ≤ fr c) (hne : c ≠ a) : prevF f fr c ∈ sidesC c ∧ f.ground (prevF f fr c) = true ∧ 0 ≤ fr (prevF f fr c) ∧ fr (prevF f fr c) + f.kost c = fr c := by
  obtain ⟨p, h1, h2, h3⟩ := h.pos c hc hne
  have hp : p ∈ sidesC c := Fld.sides_symm (Fld.mem_adj.1 h2).1
  have hpp : (f.ground p && decide (0 ≤ fr p) && decide (fr p + f.kost c = fr c)) = true := by
    rw [h.gr p h1, decide_eq_true h1, decide_eq_true h3.symm]; rfl
  unfold prevF
  cases hf : (sidesC c).find? fun n => f.ground n && decide (0 ≤ fr n) && decide (fr n + f.kost c = fr c) with
  | none => exact absurd hpp (List.find?_eq_none.1 hf p hp)
  | some q =>
    have hq := List.find?_some hf
    simp only [Bool.and_eq_true, decide_eq_true_eq] at hq
    exact ⟨List.mem_of_find?_eq_some hf, hq.1.1, hq.1.2, hq.2⟩
theorem Frs.fuel (h : Frs f a fr) : ∀ (n : Nat) (c : Cel), 0 ≤ fr c → (fr c).toNat ≤ n → backF f fr a n c = backF f fr a (fr c).toNat c := by
  intro n
  induction n using Nat.strongRecOn with
  | ind n ih =>
    intro c hc hn
    by_cases hne : c = a
    · subst hne
      have : (fr c).toNat = 0 := by rw [h.zero]; rfl
      rw [this]
      cases n with
      | zero => rfl
      | succ n => unfold backF; rw [if_pos rfl]
    · obtain ⟨p1, p2, p3, p4⟩ := h.prev hc hne
      have hk := f.kost_bd (c := c)
      obtain ⟨m, hm⟩ : ∃ m, (fr c).toNat = m + 1 := ⟨(fr c).toNat - 1, by omega⟩
      obtain ⟨n', hn'⟩ : ∃ n', n = n' + 1 := ⟨n - 1, by omega⟩
      subst hn'
      rw [hm, backF, backF, if_neg hne, if_neg hne, ih n' (by omega) _ p3 (by omega), ih m (by omega) _ p3 (by omega)]
/-- The way back from a cell. -/
def wayB (f : Fld) (fr : Cel → Int) (a c : Cel) : List Cel := backF f fr a (fr c).toNat c
theorem wayB_self (h : Frs f a fr) : wayB f fr a a = [a] := by unfold wayB; rw [h.zero]; rfl
theorem wayB_step (h : Frs f a fr) (hc : 0 ≤ fr c) (hne : c ≠ a) : wayB f fr a c = c :: wayB f fr a (prevF f fr c) := by
  obtain ⟨p1, p2, p3, p4⟩ := h.prev hc hne
  have hk := f.kost_bd (c := c)
  unfold wayB
  obtain ⟨m, hm⟩ : ∃ m, (fr c).toNat = m + 1 := ⟨(fr c).toNat - 1, by omega⟩
  rw [hm, backF, if_neg hne, h.fuel m _ p3 (by omega)]
theorem Frs.of (h : PEnd f a b far) (hb : 0 ≤ f.fr far b) : Frs f a (f.fr far) := by
  have hz : 0 ≤ f.fr far a → f.fr far a = 0 := fun h0 => by
    have := (h.spec.dist a h0).1.2 0 (.start rfl); omega
  have key : ∀ n : Nat, ∀ c, 0 ≤ f.fr far c → (f.fr far c).toNat = n → 0 ≤ f.fr far a := by
    intro n
    induction n using Nat.strongRecOn with
    | ind n ih =>
      intro c hc hn
      rcases h.spec.pred c hc with ⟨h1, _⟩ | ⟨p, h1, h2, h3⟩
      · subst h1; exact hc
      · have := f.kost_bd (c := c)
        exact ih (f.fr far p).toNat (by omega) p h1 rfl
  have ha := key _ b hb rfl
  refine ⟨hz ha, fun c hc hne => ?_, h.gr⟩
  rcases h.spec.pred c hc with ⟨h1, _⟩ | h1
  · exact absurd h1 hne
  · exact h1
theorem Frs.ofF (h : PEnd f a b far) (hb : 0 ≤ frF f a b b) : Frs f a (frF f a b) := by rw [← h.frE] at hb ⊢; exact Frs.of h hb
theorem PEnd.bdF (h : PEnd f a b far) (c : Cel) : frF f a b c ≤ 3 * (f.places.length : Int) := by rw [← h.frE]; exact h.bd c
/-- What path.Find answers. -/
noncomputable def findE (f : Fld) (a b : Cel) : Int := if f.atE a ≠ 0 then f.atE a else if f.atE b ≠ 0 then f.atE b else if f.place a = 1 ∨ f.place b = 1 then 9 else if frF f a b b < 0 then 6 else 0
noncomputable def findK (f : Fld) (a b : Cel) : Int := if findE f a b = 0 then frF f a b b else 0
noncomputable def findP (f : Fld) (a b : Cel) : List Cel := if findE f a b = 0 then (wayB f (frF f a b) a b).reverse else []
theorem find_arg (h : f.atE a ≠ 0) : findE f a b = f.atE a := by unfold findE; rw [if_pos h]
theorem find_arg2 (h : f.atE a = 0) (h2 : f.atE b ≠ 0) : findE f a b = f.atE b := by unfold findE; rw [if_neg (by rw [h]; simp), if_pos h2]
theorem atE_chkF (h : f.atE a = 0) : f.chk = 0 ∧ f.isIn a = true := by
  have hc : f.chk = 0 := by
    by_cases hc : f.chk = 0
    · exact hc
    · rw [(Fld.at_bad hc).1] at h; exact h
  exact ⟨hc, atE_zero' hc h⟩
where
  atE_zero' {f : Fld} {c : Cel} (h : f.chk = 0) (he : f.atE c = 0) : f.isIn c = true := by
    cases hi : f.isIn c with
    | true => rfl
    | false => rw [(Fld.at_out h hi).1] at he; omega
theorem find_rock (h : f.atE a = 0) (h2 : f.atE b = 0) (h3 : f.place a = 1 ∨ f.place b = 1) : findE f a b = 9 := by unfold findE; rw [if_neg (by rw [h]; simp), if_neg (by rw [h2]; simp), if_pos h3]
theorem find_none (hf : f.chk = 0) (ha : f.ground a = true) (hb : f.ground b = true) (h : frF f a b b < 0) : findE f a b = 6 := by
  unfold findE
  rw [if_neg (by rw [(Fld.at_in hf (Fld.ground_in ha)).1]; simp), if_neg (by rw [(Fld.at_in hf (Fld.ground_in hb)).1]; simp), if_neg (by rintro (h1 | h1); exact Fld.ground_place ha h1; exact Fld.ground_place hb h1), if_pos h]
theorem find_ok (hf : f.chk = 0) (ha : f.ground a = true) (hb : f.ground b = true) (h : 0 ≤ frF f a b b) : findE f a b = 0 := by
  unfold findE
  rw [if_neg (by rw [(Fld.at_in hf (Fld.ground_in ha)).1]; simp), if_neg (by rw [(Fld.at_in hf (Fld.ground_in hb)).1]; simp), if_neg (by rintro (h1 | h1); exact Fld.ground_place ha h1; exact Fld.ground_place hb h1), if_neg (by omega)]
theorem find_cases (f : Fld) (a b : Cel) : (f.atE a ≠ 0 ∧ findE f a b = f.atE a) ∨ (f.atE a = 0 ∧ f.atE b ≠ 0 ∧ findE f a b = f.atE b) ∨ (f.atE a = 0 ∧ f.atE b = 0 ∧ (f.place a = 1 ∨ f.place b = 1) ∧ findE f a b = 9) ∨ (f.chk = 0 ∧ f.ground a = true ∧ f.ground b = true ∧ ((frF f a b b < 0 ∧ findE f a b = 6) ∨ (0 ≤ frF f a b b ∧ findE f a b = 0))) := by
  by_cases h1 : f.atE a = 0
  · by_cases h2 : f.atE b = 0
    · obtain ⟨hc, ia⟩ := atE_chkF h1
      obtain ⟨_, ib⟩ := atE_chkF h2
      by_cases h3 : f.place a = 1 ∨ f.place b = 1
      · exact .inr (.inr (.inl ⟨h1, h2, h3, find_rock h1 h2 h3⟩))
      · have ga := Fld.ground_mk ia (fun h => h3 (.inl h))
        have gb := Fld.ground_mk ib (fun h => h3 (.inr h))
        refine .inr (.inr (.inr ⟨hc, ga, gb, ?_⟩))
        by_cases h4 : frF f a b b < 0
        · exact .inl ⟨h4, find_none hc ga gb h4⟩
        · exact .inr ⟨by omega, find_ok hc ga gb (by omega)⟩
    · exact .inr (.inl ⟨h1, h2, find_arg2 h1 h2⟩)
  · exact .inl ⟨h1, find_arg h1⟩
end
end Go.Proofs.Ytffjpfpbpnhmcaa
