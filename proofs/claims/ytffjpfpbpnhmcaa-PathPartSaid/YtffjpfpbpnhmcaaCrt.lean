/-
  A table of distances that proves itself; path.Find and Far whole.
-/
import Derived.Test.YtffjpfpbpnhmcaaPtf
set_option linter.unusedVariables false
set_option linter.unusedSimpArgs false
namespace Go.Proofs.Ytffjpfpbpnhmcaa
open Go.RowKit

section
variable {f : Fld} {a b c x : Cel} {dl far : List Int} {d : Int}
def allC (f : Fld) : List Cel := (List.range f.high.toNat).flatMap fun (y : Nat) => (List.range f.wide.toNat).map fun (x : Nat) => (⟨(x : Int), (y : Int)⟩ : Cel)
theorem mem_allC (hc : f.isIn c = true) : c ∈ allC f := by
  unfold Fld.isIn at hc
  rw [Bool.and_eq_true] at hc
  have h1 := inB_true hc.1
  have h2 := inB_true hc.2
  unfold allC
  rw [List.mem_flatMap]
  refine ⟨c.y.toNat, List.mem_range.2 (by omega), List.mem_map.2 ⟨c.x.toNat, List.mem_range.2 (by omega), ?_⟩⟩
  obtain ⟨cx, cy⟩ := c
  simp only [Cel.mk.injEq] at h1 h2 ⊢
  omega
def certC (f : Fld) (a b : Cel) (dl far : List Int) (c : Cel) : Bool :=
  (decide (0 ≤ f.fr dl c) || decide (f.fr dl c = -1)) &&
  (!decide (0 ≤ f.fr dl c) || (f.ground c && ((decide (c = a) && decide (f.fr dl c = 0)) || (sidesC c).any fun p => decide (0 ≤ f.fr dl p) && decide (f.fr dl c = f.fr dl p + f.kost c)))) &&
  (!decide (0 ≤ f.fr dl c) || (f.adj c).all fun y => decide (0 ≤ f.fr dl y) && decide (f.fr dl y ≤ f.fr dl c + f.kost y)) &&
  decide (f.fr far c = if 0 ≤ f.fr dl c ∧ (f.fr dl b < 0 ∨ f.fr dl c + Fld.est b c ≤ f.fr dl b) then f.fr dl c else -1) &&
  decide (f.fr dl c ≤ 3 * (f.places.length : Int))
def certB (f : Fld) (a b : Cel) (dl far : List Int) : Bool := decide (far.length = f.places.length) && decide (f.fr dl a = 0) && (allC f).all (certC f a b dl far)
theorem cert (h : certB f a b dl far = true) : PEnd f a b far := by
  unfold certB at h
  simp only [Bool.and_eq_true, decide_eq_true_eq, List.all_eq_true] at h
  obtain ⟨⟨hlen, ha⟩, hall⟩ := h
  have at_ : ∀ c, f.isIn c = true → _ := fun c hc => hall c (mem_allC hc)
  unfold certC at at_
  simp only [Bool.and_eq_true, Bool.or_eq_true, Bool.not_eq_true', decide_eq_true_eq, decide_eq_false_iff_not, List.any_eq_true, List.all_eq_true] at at_
  have neg : ∀ c, f.fr dl c < 0 → f.fr dl c = -1 := fun c h => by
    cases hc : f.isIn c with
    | false => exact Fld.fr_out hc
    | true => have := (at_ c hc).1.1.1.1; omega
  have gr : ∀ c, 0 ≤ f.fr dl c → f.ground c = true ∧ ((c = a ∧ f.fr dl c = 0) ∨ ∃ p ∈ sidesC c, 0 ≤ f.fr dl p ∧ f.fr dl c = f.fr dl p + f.kost c) := fun c h => by
    obtain h1 := (at_ c (Fld.fr_isIn h)).1.1.1.2
    rcases h1 with h1 | ⟨h1, h2⟩
    · exact absurd h h1
    · exact ⟨h1, h2⟩
  have nx : ∀ c, 0 ≤ f.fr dl c → ∀ y ∈ f.adj c, 0 ≤ f.fr dl y ∧ f.fr dl y ≤ f.fr dl c + f.kost y := fun c h y hy => by
    rcases (at_ c (Fld.fr_isIn h)).1.1.2 with h1 | h1
    · exact absurd h h1
    · exact h1 y hy
  have fa : ∀ c, f.fr far c = if 0 ≤ f.fr dl c ∧ (f.fr dl b < 0 ∨ f.fr dl c + Fld.est b c ≤ f.fr dl b) then f.fr dl c else -1 := fun c => by
    cases hc : f.isIn c with
    | false => rw [Fld.fr_out hc, Fld.fr_out hc, if_neg (by omega)]
    | true => exact (at_ c hc).1.2
  have low : ∀ c d, Gra.Rch f.adj f.kost (fun s => s = a) c d → 0 ≤ f.fr dl c ∧ f.fr dl c ≤ d := fun c d r => by
    induction r with
    | start hs => subst hs; omega
    | step _ hy ih => have := nx _ ih.1 _ hy; omega
  have up : ∀ n : Nat, ∀ c, 0 ≤ f.fr dl c → (f.fr dl c).toNat = n → Gra.Rch f.adj f.kost (fun s => s = a) c (f.fr dl c) := by
    intro n
    induction n using Nat.strongRecOn with
    | ind n ih =>
      intro c hc hn
      obtain ⟨g, h1 | ⟨p, h1, h2, h3⟩⟩ := gr c hc
      · rw [h1.2]; exact .start h1.1
      · have := f.kost_bd (c := c)
        rw [h3]
        exact .step (ih (f.fr dl p).toNat (by omega) p h2 rfl) (Fld.mem_adj.2 ⟨Fld.sides_symm h1, g⟩)
  have isd : ∀ c, 0 ≤ f.fr dl c → Gra.IsD f.adj f.kost (fun s => s = a) c (f.fr dl c) := fun c hc => ⟨up _ c hc rfl, fun d r => (low c d r).2⟩
  have tob : ∀ D, Gra.IsD f.adj f.kost (fun s => s = a) b D → 0 ≤ f.fr dl b ∧ D = f.fr dl b := fun D hD => ⟨(low b D hD.1).1, hD.uniq (isd b (low b D hD.1).1)⟩
  have pos : ∀ c, 0 ≤ f.fr far c → 0 ≤ f.fr dl c ∧ (f.fr dl b < 0 ∨ f.fr dl c + Fld.est b c ≤ f.fr dl b) ∧ f.fr far c = f.fr dl c := fun c h => by
    rw [fa c] at h ⊢
    split at h
    · rename_i hh; rw [if_pos hh]; exact ⟨hh.1, hh.2, rfl⟩
    · omega
  refine ⟨hlen, ⟨fun c h => ?_, fun c h => ?_, fun c d hd hle => ?_, fun c h => ?_⟩, fun c => ?_, fun c h => (gr c (pos c h).1).1⟩
  · rw [fa c] at h ⊢
    split at h
    · omega
    · rename_i hh; rw [if_neg hh]
  · obtain ⟨h1, h2, h3⟩ := pos c h
    rw [h3]
    refine ⟨isd c h1, fun D hD => ?_⟩
    obtain ⟨h4, h5⟩ := tob D hD
    rw [h5]; omega
  · have h1 := low c d hd.1
    have h2 := hd.uniq (isd c h1.1)
    have hco : f.fr dl b < 0 ∨ f.fr dl c + Fld.est b c ≤ f.fr dl b := by
      by_cases h3 : f.fr dl b < 0
      · exact .inl h3
      · right
        have := hle _ (isd b (by omega)); omega
    rw [fa c, if_pos ⟨h1.1, hco⟩, ← h2]
  · obtain ⟨h1, h2, h3⟩ := pos c h
    rw [h3]
    obtain ⟨g, h4 | ⟨p, h4, h5, h6⟩⟩ := gr c h1
    · exact .inl h4
    · right
      have he := Fld.est_step b (Fld.sides_symm h4)
      have hk := f.kost_bd (c := c)
      have hp : f.fr far p = f.fr dl p := by rw [fa p, if_pos ⟨h5, by omega⟩]
      exact ⟨p, by rw [hp]; exact h5, Fld.mem_adj.2 ⟨Fld.sides_symm h4, g⟩, by rw [hp]; exact h6⟩
  · by_cases h : 0 ≤ f.fr far c
    · obtain ⟨h1, h2, h3⟩ := pos c h
      rw [h3]; exact (at_ c (Fld.fr_isIn h1)).2
    · omega
end
theorem pfind_any (f : Fld) (a b : Cel) (P : Option Addr) (pc : Nat) (w : World) (hP : repI.SHas 8 w P pc f.places) :
    Calls Try.prog 20 #[.agg #[.int .i64 f.wide, .int .i64 f.high, .slice P f.places.length pc], .agg #[.int .i64 a.x, .int .i64 a.y], .agg #[.int .i64 b.x, .int .i64 b.y]] w (fun e w' => ∃ A c, e = .returned (.tuple #[.slice A (findP f a b).length c, .int .i64 (findK f a b), .int .i64 (findE f a b)]) ∧ Cel.rep.SOwn 32 16 w' w.heap.size (Rep.blkOf A) A c (findP f a b) ∧ Ext w w') := by
  by_cases he : findE f a b = 0
  · rcases find_cases f a b with ⟨h1, h2⟩ | ⟨h1, h2, h3⟩ | ⟨h1, h2, h3, h4⟩ | ⟨h1, h2, h3, h4 | h4⟩
    · rw [h2] at he; exact absurd he h1
    · rw [h3] at he; exact absurd he h2
    · rw [h4] at he; cases he
    · rw [h4.2] at he; cases he
    · unfold findP findK
      rw [if_pos he, if_pos he, he]
      exact pfind_ok f a b P pc w hP h1 h2 h3 h4.1
  · unfold findP findK
    rw [if_neg he, if_neg he]
    exact (pfind_no f a b P pc w hP he).mono fun e w' h => ⟨none, 0, h.1, Rep.SOwn.nil _, h.2⟩
theorem pfar_any (f : Fld) (a b : Cel) (P : Option Addr) (pc : Nat) (w : World) (hP : repI.SHas 8 w P pc f.places) :
    Calls Try.prog 22 #[.agg #[.int .i64 f.wide, .int .i64 f.high, .slice P f.places.length pc], .agg #[.int .i64 a.x, .int .i64 a.y], .agg #[.int .i64 b.x, .int .i64 b.y]] w (fun e w' => e = .returned (.tuple #[.int .i64 (findK f a b), .int .i64 (findE f a b)]) ∧ Ext w w') := by
  by_cases he : findE f a b = 0
  · rcases find_cases f a b with ⟨h1, h2⟩ | ⟨h1, h2, h3⟩ | ⟨h1, h2, h3, h4⟩ | ⟨h1, h2, h3, h4 | h4⟩
    · rw [h2] at he; exact absurd he h1
    · rw [h3] at he; exact absurd he h2
    · rw [h4] at he; cases he
    · rw [h4.2] at he; cases he
    · unfold findK
      rw [if_pos he, he]
      exact pfar_ok f a b P pc w hP h1 h2 h3 h4.1
  · unfold findK
    rw [if_neg he]
    exact pfar_no f a b P pc w hP he
section
variable {f : Fld} {a b : Cel} {far : List Int}
/-- What is found, by a table that is known. -/
theorem find_by (h : PEnd f a b far) (hf : f.chk = 0) (ha : f.ground a = true) (hb : f.ground b = true) (h0 : 0 ≤ f.fr far b) : findE f a b = 0 ∧ findK f a b = f.fr far b ∧ findP f a b = (wayB f (f.fr far) a b).reverse := by
  have h1 : 0 ≤ frF f a b b := by rw [← h.frE]; exact h0
  have he := find_ok hf ha hb h1
  refine ⟨he, ?_, ?_⟩
  · unfold findK; rw [if_pos he, h.frE]
  · unfold findP; rw [if_pos he, h.frE]
end
theorem find_small : findE ⟨2, 2, [0, 1, 0, 0]⟩ ⟨0, 0⟩ ⟨1, 1⟩ = 0 ∧ findK ⟨2, 2, [0, 1, 0, 0]⟩ ⟨0, 0⟩ ⟨1, 1⟩ = 4 ∧ findP ⟨2, 2, [0, 1, 0, 0]⟩ ⟨0, 0⟩ ⟨1, 1⟩ = [⟨0, 0⟩, ⟨0, 1⟩, ⟨1, 1⟩] := by
  obtain ⟨h1, h2, h3⟩ := find_by (f := ⟨2, 2, [0, 1, 0, 0]⟩) (a := ⟨0, 0⟩) (b := ⟨1, 1⟩) (far := [0, -1, 2, 4]) (cert (dl := [0, -1, 2, 4]) (by decide)) (by decide) (by decide) (by decide) (by decide)
  exact ⟨h1, h2.trans (by decide), h3.trans (by decide)⟩
end Go.Proofs.Ytffjpfpbpnhmcaa
