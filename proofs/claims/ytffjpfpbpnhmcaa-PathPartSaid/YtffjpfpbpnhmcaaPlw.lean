/-
  Ways and distances on a field: what the laws of path, flood and march lean on, in plain Lean.
-/
import Derived.Test.YtffjpfpbpnhmcaaAsf
set_option linter.unusedVariables false
set_option linter.unusedSimpArgs false
namespace Go.Proofs.Ytffjpfpbpnhmcaa
open Go.RowKit

/-- No more things than there are places for them. -/
theorem nodup_le : ∀ (n : Nat) (l : List Nat), l.Nodup → (∀ x ∈ l, x < n) → l.length ≤ n := by
  intro n
  induction n with
  | zero =>
    intro l _ h
    cases l with
    | nil => exact Nat.le_refl _
    | cons x r => exact absurd (h x List.mem_cons_self) (by omega)
  | succ n ih =>
    intro l hn h
    by_cases hm : n ∈ l
    · have h1 := ih (l.erase n) (hn.erase _) (fun x hx => by
        have := h x (List.mem_of_mem_erase hx)
        have hne : x ≠ n := fun e => by subst e; exact (List.Nodup.not_mem_erase hn) hx
        omega)
      rw [List.length_erase_of_mem hm] at h1
      omega
    · have := ih l hn (fun x hx => by
        have := h x hx
        have hne : x ≠ n := fun e => hm (by rw [← e]; exact hx)
        omega)
      omega
section
variable {f : Fld} {a b c x y : Cel} {d D : Int} {far : List Int} {fr : Cel → Int}
theorem cells_le (hf : f.chk = 0) {l : List Cel} (hn : l.Nodup) (hi : ∀ x ∈ l, f.isIn x = true) : l.length ≤ f.places.length := by
  have h1 : (l.map f.at_).Nodup := by
    have : ∀ l : List Cel, l.Nodup → (∀ x ∈ l, f.isIn x = true) → (l.map f.at_).Nodup := by
      intro l
      induction l with
      | nil => intro _ _; exact List.nodup_nil
      | cons x r ih =>
        intro hn hi
        rw [List.nodup_cons] at hn
        rw [List.map_cons, List.nodup_cons]
        refine ⟨fun hm => ?_, ih hn.2 fun y hy => hi y (List.mem_cons_of_mem _ hy)⟩
        obtain ⟨y, hy, e⟩ := List.mem_map.1 hm
        have := Fld.at_inj hf (hi y (List.mem_cons_of_mem _ hy)) (hi x List.mem_cons_self) e
        subst this; exact hn.1 hy
    exact this l hn hi
  have := nodup_le f.places.length _ h1 (fun i hm => by
    obtain ⟨y, hy, rfl⟩ := List.mem_map.1 hm
    exact (Fld.at_lt hf (hi y hy)).1)
  rwa [List.length_map] at this
abbrev RchF (f : Fld) (a : Cel) : Cel → Int → Prop := Gra.Rch f.adj f.kost (fun s => s = a)
abbrev DstF (f : Fld) (a : Cel) : Cel → Int → Prop := Gra.IsD f.adj f.kost (fun s => s = a)
theorem RchF.nn (r : RchF f a x d) : 0 ≤ d := Gra.Rch.nn (Fld.okZ f) r
theorem RchF.ground (ha : f.ground a = true) (r : RchF f a x d) : f.ground x = true := by
  induction r with
  | start hs => rw [hs]; exact ha
  | step _ hy _ => exact (Fld.mem_adj.1 hy).2
theorem RchF.tr (r : RchF f a x d) {e : Int} (q : RchF f x y e) : RchF f a y (d + e) := by
  induction q with
  | start hs => rw [hs, Int.add_zero]; exact r
  | step _ hy ih => rw [← Int.add_assoc]; exact .step ih hy
theorem DstF.pred (h : DstF f a x d) : (x = a ∧ d = 0) ∨ ∃ p e, DstF f a p e ∧ x ∈ f.adj p ∧ d = e + f.kost x := by
  obtain ⟨r, hm⟩ := h
  cases r with
  | start hs => exact .inl ⟨hs, rfl⟩
  | @step p _ e hp hy =>
    obtain ⟨e', he⟩ := Gra.Rch.isD (Fld.okZ f) hp
    have h1 := he.2 _ hp
    have h2 := hm _ (.step he.1 hy)
    have : e = e' := by omega
    subst this
    exact .inr ⟨p, e, he, hy, rfl⟩
/-- A cell at a distance: a chain of cells towards it, none twice. -/
theorem DstF.chain (hf : f.chk = 0) (ha : f.ground a = true) : ∀ (n : Nat) (x : Cel) (d : Int), DstF f a x d → d.toNat = n → ∃ l : List Cel, l.Nodup ∧ (∀ y ∈ l, f.isIn y = true ∧ ∃ e, DstF f a y e ∧ e ≤ d) ∧ d + 3 ≤ 3 * (l.length : Int) := by
  intro n
  induction n using Nat.strongRecOn with
  | ind n ih =>
    intro x d h hn
    have hx := Fld.ground_in (RchF.ground ha h.1)
    rcases h.pred with ⟨h1, h2⟩ | ⟨p, e, h1, h2, h3⟩
    · refine ⟨[x], by simp, fun y hy => ?_, by rw [h2]; simp⟩
      rw [List.mem_singleton.1 hy]; exact ⟨hx, d, h, Int.le_refl _⟩
    · have hk := f.kost_bd (c := x)
      have he := RchF.nn h1.1
      obtain ⟨l, l1, l2, l3⟩ := ih e.toNat (by omega) p e h1 rfl
      refine ⟨x :: l, List.nodup_cons.2 ⟨fun hm => ?_, l1⟩, fun y hy => ?_, by rw [List.length_cons]; omega⟩
      · obtain ⟨_, e', h4, h5⟩ := l2 x hm
        have := h4.uniq h; omega
      · rcases List.mem_cons.1 hy with rfl | hy
        · exact ⟨hx, d, h, Int.le_refl _⟩
        · obtain ⟨h4, e', h5, h6⟩ := l2 y hy
          exact ⟨h4, e', h5, by omega⟩
theorem DstF.bd (hf : f.chk = 0) (ha : f.ground a = true) (h : DstF f a x d) : d + 3 ≤ 3 * (f.places.length : Int) := by
  obtain ⟨l, l1, l2, l3⟩ := h.chain hf ha _ x d rfl
  have := cells_le hf l1 fun y hy => (l2 y hy).1
  omega
/-- The cell of a place. -/
def cellAt (f : Fld) (i : Nat) : Cel := ⟨(i : Int) % f.wide, (i : Int) / f.wide⟩
theorem cellAt_at (hf : f.chk = 0) (hc : f.isIn c = true) : cellAt f (f.at_ c) = c := by
  obtain ⟨_, _, a2, a3, a4, a5⟩ := Fld.idx hf hc
  have h := (Fld.at_lt hf hc).2
  unfold cellAt
  rw [h]
  have e1 : (c.y * f.wide + c.x) % f.wide = c.x := by rw [Int.add_comm, Int.add_mul_emod_self_right, Int.emod_eq_of_lt a2 a3]
  have e2 : (c.y * f.wide + c.x) / f.wide = c.y := by rw [Int.add_comm, Int.add_mul_ediv_right _ _ (by omega), Int.ediv_eq_zero_of_lt a2 a3, Int.zero_add]
  rw [e1, e2]
theorem fr_mk (hf : f.chk = 0) {g : Cel → Int} (hg : ∀ c, f.isIn c = false → g c = -1) : f.fr ((List.range f.places.length).map fun i => g (cellAt f i)) c = g c := by
  cases hc : f.isIn c with
  | false => rw [Fld.fr_out hc, hg c hc]
  | true =>
    rw [Fld.fr_in hc, List.getD_eq_getElem?_getD, List.getElem?_map, List.getElem?_range (Fld.at_lt hf hc).1]
    show g (cellAt f (f.at_ c)) = g c
    rw [cellAt_at hf hc]
/-- There is a table of the search, whatever the cells. -/
theorem pend_ex (hf : f.chk = 0) (ha : f.ground a = true) (b : Cel) : ∃ far, PEnd f a b far := by
  let Q : Cel → Int → Prop := fun c d => DstF f a c d ∧ ∀ D, DstF f a b D → d + Fld.est b c ≤ D
  let g : Cel → Int := fun c => @dite _ (∃ d, Q c d) (Classical.propDecidable _) (fun h => h.choose) fun _ => -1
  have gp : ∀ c d, Q c d → g c = d := fun c d h => by
    have hex : ∃ d, Q c d := ⟨d, h⟩
    show @dite _ (∃ d, Q c d) (Classical.propDecidable _) (fun h => h.choose) (fun _ => -1) = d
    rw [dif_pos hex]
    exact hex.choose_spec.1.uniq h.1
  have gn : ∀ c, (¬ ∃ d, Q c d) → g c = -1 := fun c h => by
    show @dite _ (∃ d, Q c d) (Classical.propDecidable _) (fun h => h.choose) (fun _ => -1) = -1
    rw [dif_neg h]
  have gi : ∀ c, 0 ≤ g c → Q c (g c) := fun c h => by
    by_cases hex : ∃ d, Q c d
    · obtain ⟨d, hd⟩ := hex
      rw [gp c d hd]; exact hd
    · rw [gn c hex] at h; omega
  have go : ∀ c, f.isIn c = false → g c = -1 := fun c hc => gn c fun ⟨d, hd⟩ => by
    have := Fld.ground_in (RchF.ground ha hd.1.1); rw [hc] at this; cases this
  have hfr : ∀ c, f.fr ((List.range f.places.length).map fun i => g (cellAt f i)) c = g c := fun c => fr_mk hf go
  refine ⟨(List.range f.places.length).map fun i => g (cellAt f i), by rw [List.length_map, List.length_range], ⟨fun c h => ?_, fun c h => ?_, fun c d hd hle => ?_, fun c h => ?_⟩, fun c => ?_, fun c h => ?_⟩
  · rw [hfr c] at h ⊢
    by_cases hex : ∃ d, Q c d
    · obtain ⟨d, hd⟩ := hex
      rw [gp c d hd] at h
      have := RchF.nn hd.1.1; omega
    · exact gn c hex
  · rw [hfr c] at h ⊢; exact gi c h
  · rw [hfr c]; exact gp c d ⟨hd, hle⟩
  · rw [hfr c] at h ⊢
    have hq := gi c h
    rcases hq.1.pred with h1 | ⟨p, e, h1, h2, h3⟩
    · exact .inl h1
    · right
      have he := Fld.est_step b (Fld.mem_adj.1 h2).1
      have hk := f.kost_bd (c := c)
      have hp : g p = e := gp p e ⟨h1, fun D hD => by have := hq.2 D hD; omega⟩
      exact ⟨p, by rw [hfr p, hp]; exact RchF.nn h1.1, h2, by rw [hfr p, hp]; exact h3⟩
  · rw [hfr c]
    by_cases h : 0 ≤ g c
    · have := (gi c h).1.bd hf ha; omega
    · omega
  · rw [hfr c] at h; exact RchF.ground ha (gi c h).1.1
theorem frF_spec (hf : f.chk = 0) (ha : f.ground a = true) : Gra.Spec f.adj f.kost (Fld.est b) (fun s => s = a) b (frF f a b) := by
  obtain ⟨far, h⟩ := pend_ex hf ha b
  rw [← h.frE]; exact h.spec
theorem frF_dst (hf : f.chk = 0) (ha : f.ground a = true) (h : 0 ≤ frF f a b c) : DstF f a c (frF f a b c) := ((frF_spec hf ha).dist c h).1
theorem frF_end (hf : f.chk = 0) (ha : f.ground a = true) (h : DstF f a b d) : frF f a b b = d := (frF_spec hf ha).end_ (Fld.est_self b) h
theorem frF_rch (hf : f.chk = 0) (ha : f.ground a = true) (h : RchF f a b d) : 0 ≤ frF f a b b ∧ frF f a b b ≤ d := by
  obtain ⟨e, he⟩ := Gra.Rch.isD (Fld.okZ f) h
  rw [frF_end hf ha he]; exact ⟨RchF.nn he.1, he.2 _ h⟩
theorem frF_frs (hf : f.chk = 0) (ha : f.ground a = true) (h : 0 ≤ frF f a b b) : Frs f a (frF f a b) := by
  obtain ⟨far, hp⟩ := pend_ex hf ha b
  exact Frs.ofF hp h
/-- Along the way back all is nearer. -/
theorem wayB_in (h : Frs f a fr) : ∀ (n : Nat) (c : Cel), 0 ≤ fr c → (fr c).toNat = n → ∀ x ∈ wayB f fr a c, 0 ≤ fr x ∧ fr x ≤ fr c ∧ f.ground x = true := by
  intro n
  induction n using Nat.strongRecOn with
  | ind n ih =>
    intro c hc hn x hx
    by_cases e : c = a
    · subst e
      rw [wayB_self h] at hx
      rw [List.mem_singleton.1 hx]; exact ⟨hc, Int.le_refl _, h.gr _ hc⟩
    · obtain ⟨p1, p2, p3, p4⟩ := h.prev hc e
      have hk := f.kost_bd (c := c)
      rw [wayB_step h hc e] at hx
      rcases List.mem_cons.1 hx with rfl | hx
      · exact ⟨hc, Int.le_refl _, h.gr _ hc⟩
      · obtain ⟨q1, q2, q3⟩ := ih _ (by omega) _ p3 rfl x hx
        exact ⟨q1, by omega, q3⟩
theorem wayB_nodup (h : Frs f a fr) : ∀ (n : Nat) (c : Cel), 0 ≤ fr c → (fr c).toNat = n → (wayB f fr a c).Nodup := by
  intro n
  induction n using Nat.strongRecOn with
  | ind n ih =>
    intro c hc hn
    by_cases e : c = a
    · subst e; rw [wayB_self h]; simp
    · obtain ⟨p1, p2, p3, p4⟩ := h.prev hc e
      have hk := f.kost_bd (c := c)
      rw [wayB_step h hc e, List.nodup_cons]
      refine ⟨fun hm => ?_, ih _ (by omega) _ p3 rfl⟩
      have := wayB_in h _ _ p3 rfl c hm
      omega
theorem find_dat (he : findE f a b = 0) : f.chk = 0 ∧ f.ground a = true ∧ f.ground b = true ∧ 0 ≤ frF f a b b ∧ findK f a b = frF f a b b ∧ findP f a b = (wayB f (frF f a b) a b).reverse := by
  rcases find_cases f a b with ⟨h1, h2⟩ | ⟨h1, h2, h3⟩ | ⟨h1, h2, h3, h4⟩ | ⟨h1, h2, h3, h4 | h4⟩
  · rw [h2] at he; exact absurd he h1
  · rw [h3] at he; exact absurd he h2
  · rw [h4] at he; cases he
  · rw [h4.2] at he; cases he
  · refine ⟨h1, h2, h3, h4.1, ?_, ?_⟩
    · unfold findK; rw [if_pos he]
    · unfold findP; rw [if_pos he]
theorem findP_once (he : findE f a b = 0) : (findP f a b).Nodup ∧ (findP f a b).length ≤ f.places.length ∧ ∀ x ∈ findP f a b, f.ground x = true := by
  obtain ⟨hf, ha, hb, h0, _, hp⟩ := find_dat he
  have hF := frF_frs hf ha h0
  have hn := wayB_nodup hF _ b h0 rfl
  have hi := wayB_in hF _ b h0 rfl
  rw [hp]
  refine ⟨(List.reverse_perm _).nodup_iff.2 hn, ?_, fun x hx => (hi x (List.mem_reverse.1 hx)).2.2⟩
  rw [List.length_reverse]
  exact cells_le hf hn fun x hx => Fld.ground_in (hi x hx).2.2
end
end Go.Proofs.Ytffjpfpbpnhmcaa
