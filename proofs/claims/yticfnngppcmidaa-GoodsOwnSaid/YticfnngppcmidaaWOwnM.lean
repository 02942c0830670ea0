/-
  A world of the call's own.
-/
import Derived.Test.YticfnngppcmidaaRepC
import Derived.Test.YticfnngppcmidaaWdP
set_option linter.unusedVariables false
namespace Go.Proofs.Yticfnngppcmidaa
open Go.RowKit

/-- A world whose lists are the call's own, each in a block by itself. -/
structure WOwn (w : World) (Z : Nat) (a : Wd.At) (W : Wd) : Prop where
  P : repI.SOwn 3 8 w Z (Rep.blkOf a.P) a.P a.p W.field.places
  B : Cel.rep.SOwn 37 16 w Z (Rep.blkOf a.B) a.B a.b W.bases
  S : repI.SOwn 3 8 w Z (Rep.blkOf a.S) a.S a.s W.stocks
  M : repI.SOwn 3 8 w Z (Rep.blkOf a.M) a.M a.m W.mines
  T : Trp.rep.SOwn 39 56 w Z (Rep.blkOf a.T) a.T a.t W.troops
  apart : (Rep.blkOf a.P ++ Rep.blkOf a.B ++ Rep.blkOf a.S ++ Rep.blkOf a.M ++ Rep.blkOf a.T).Nodup
  nums : okI W.field.wide ∧ okI W.field.high ∧ okI W.next ∧ okI W.now
theorem WOwn.has {w : World} {B : Nat} {a : Wd.At} {W : Wd} (h : WOwn w B a W) : Wd.Has w a W := ⟨h.P.has, h.B.has, h.S.has, h.M.has, h.T.has, h.nums⟩
theorem WOwn.later {w w' : World} {B : Nat} {a : Wd.At} {W : Wd} (h : WOwn w B a W) (hb : Below w.heap.size w w') : WOwn w' B a W := ⟨h.P.later hb, h.B.later hb, h.S.later hb, h.M.later hb, h.T.later hb, h.apart, h.nums⟩
def WOwn.foot (a : Wd.At) : List Nat := Rep.blkOf a.P ++ Rep.blkOf a.B ++ Rep.blkOf a.S ++ Rep.blkOf a.M ++ Rep.blkOf a.T
theorem WOwn.lt {w : World} {B : Nat} {a : Wd.At} {W : Wd} (h : WOwn w B a W) : ∀ g ∈ WOwn.foot a, B ≤ g ∧ g < w.heap.size := by
  intro g hg
  unfold WOwn.foot at hg
  simp only [List.mem_append] at hg
  rcases hg with (((hg | hg) | hg) | hg) | hg
  · exact h.P.lt g hg
  · exact h.B.lt g hg
  · exact h.S.lt g hg
  · exact h.M.lt g hg
  · exact h.T.lt g hg
/-- A store into a block that is none of these. -/
theorem WOwn.other {w : World} {B : Nat} {a : Wd.At} {W : Wd} (h : WOwn w B a W) {p : Addr} (hp : p.block ∉ WOwn.foot a) (u : Value) : WOwn (w.setCell p u) B a W := by
  unfold WOwn.foot at hp
  simp only [List.mem_append, not_or] at hp
  exact ⟨h.P.other hp.1.1.1.1 u, h.B.other hp.1.1.1.2 u, h.S.other hp.1.1.2 u, h.M.other hp.1.2 u, h.T.other hp.2 u, h.apart, h.nums⟩
theorem nin {w : World} {B : Nat} {A : Option Addr} {α : Type} {R : Rep α} {E by_ c : Nat} {l : List α} (h : R.SOwn E by_ w B (Rep.blkOf A) A c l) {g : Nat} (hg : g < B) : g ∉ Rep.blkOf A := fun hm => by have := h.lt g hm; omega
theorem wcells {w : World} {g : Nat} {x0 x1 x2 x3 x4 x5 x6 x7 x8 : Value} {t : TypeId} {fr : Nat × Nat} (h : Blk w g [x0, x1, x2, x3, x4, x5, x6, x7, x8] t fr) : w.cell? ⟨g, 0, none⟩ = some x0 ∧ w.cell? ⟨g, 1, none⟩ = some x1 ∧ w.cell? ⟨g, 2, none⟩ = some x2 ∧ w.cell? ⟨g, 3, none⟩ = some x3 ∧ w.cell? ⟨g, 4, none⟩ = some x4 ∧ w.cell? ⟨g, 5, none⟩ = some x5 ∧ w.cell? ⟨g, 6, none⟩ = some x6 ∧ w.cell? ⟨g, 7, none⟩ = some x7 ∧ w.cell? ⟨g, 8, none⟩ = some x8 :=
  ⟨h.cell 0, h.cell 1, h.cell 2, h.cell 3, h.cell 4, h.cell 5, h.cell 6, h.cell 7, h.cell 8⟩
theorem app_nodup {l1 l2 : List Nat} {n m : Nat} (h1 : l1.Nodup ∧ ∀ g ∈ l1, g < n) (h2 : l2.Nodup) (h3 : ∀ g ∈ l2, n ≤ g ∧ g < m) (hnm : n ≤ m) : (l1 ++ l2).Nodup ∧ ∀ g ∈ l1 ++ l2, g < m := by
  refine ⟨List.nodup_append.2 ⟨h1.1, h2, fun a ha b hb e => ?_⟩, fun g hg => ?_⟩
  · have := h1.2 a ha
    have := (h3 b hb).1
    omega
  · rcases List.mem_append.1 hg with hg | hg
    · have := h1.2 g hg; omega
    · exact (h3 g hg).2
theorem blk_nodup (A : Option Addr) : (Rep.blkOf A).Nodup := by cases A <;> simp [Rep.blkOf]
theorem nine_blk {w : World} {g : Nat} {z0 z1 z2 z3 z4 z5 z6 z7 z8 : Value} {t : TypeId} {fr : Nat × Nat} (h : Blk w g [z0, z1, z2, z3, z4, z5, z6, z7, z8] t fr) (x0 x1 x2 x3 x4 x5 x6 x7 x8 : Value) : Blk (((((((((w.setCell ⟨g, 0, none⟩ x0).setCell ⟨g, 1, none⟩ x1).setCell ⟨g, 2, none⟩ x2).setCell ⟨g, 3, none⟩ x3).setCell ⟨g, 4, none⟩ x4).setCell ⟨g, 5, none⟩ x5).setCell ⟨g, 6, none⟩ x6).setCell ⟨g, 7, none⟩ x7).setCell ⟨g, 8, none⟩ x8) g [x0, x1, x2, x3, x4, x5, x6, x7, x8] t fr :=
  (((((((((h.set 0 x0).set 1 x1).set 2 x2).set 3 x3).set 4 x4).set 5 x5).set 6 x6).set 7 x7).set 8 x8)
theorem WOwn.nine {w : World} {Z : Nat} {a : Wd.At} {W : Wd} {g : Nat} (h : WOwn w Z a W) (hg : g ∉ WOwn.foot a) (x0 x1 x2 x3 x4 x5 x6 x7 x8 : Value) : WOwn (((((((((w.setCell ⟨g, 0, none⟩ x0).setCell ⟨g, 1, none⟩ x1).setCell ⟨g, 2, none⟩ x2).setCell ⟨g, 3, none⟩ x3).setCell ⟨g, 4, none⟩ x4).setCell ⟨g, 5, none⟩ x5).setCell ⟨g, 6, none⟩ x6).setCell ⟨g, 7, none⟩ x7).setCell ⟨g, 8, none⟩ x8) Z a W :=
  (((((((((h.other (p := ⟨g, 0, none⟩) hg x0).other (p := ⟨g, 1, none⟩) hg x1).other (p := ⟨g, 2, none⟩) hg x2).other (p := ⟨g, 3, none⟩) hg x3).other (p := ⟨g, 4, none⟩) hg x4).other (p := ⟨g, 5, none⟩) hg x5).other (p := ⟨g, 6, none⟩) hg x6).other (p := ⟨g, 7, none⟩) hg x7).other (p := ⟨g, 8, none⟩) hg x8)
theorem below_nine {w0 w : World} {Z g : Nat} (h : Below Z w0 w) (hg : Z ≤ g) (x0 x1 x2 x3 x4 x5 x6 x7 x8 : Value) : Below Z w0 (((((((((w.setCell ⟨g, 0, none⟩ x0).setCell ⟨g, 1, none⟩ x1).setCell ⟨g, 2, none⟩ x2).setCell ⟨g, 3, none⟩ x3).setCell ⟨g, 4, none⟩ x4).setCell ⟨g, 5, none⟩ x5).setCell ⟨g, 6, none⟩ x6).setCell ⟨g, 7, none⟩ x7).setCell ⟨g, 8, none⟩ x8) :=
  (((((((((h.setCell (p := ⟨g, 0, none⟩) hg x0).setCell (p := ⟨g, 1, none⟩) hg x1).setCell (p := ⟨g, 2, none⟩) hg x2).setCell (p := ⟨g, 3, none⟩) hg x3).setCell (p := ⟨g, 4, none⟩) hg x4).setCell (p := ⟨g, 5, none⟩) hg x5).setCell (p := ⟨g, 6, none⟩) hg x6).setCell (p := ⟨g, 7, none⟩) hg x7).setCell (p := ⟨g, 8, none⟩) hg x8)
/-- Amid the copying: places, bases and stocks are one's own. -/
def Half (w wx : World) (pA : Option Addr) (pC : Nat) (W : Wd) (aM : Option Addr) (kM : Nat) (aT : Option Addr) (kT n2 : Nat) : Prop :=
  ∃ (bA : Option Addr) (bC : Nat) (sA : Option Addr) (sC n3 n4 : Nat), Blk wx w.heap.size [.int .i64 W.field.wide, .int .i64 W.field.high, .slice pA W.field.places.length pC, .slice bA W.bases.length bC, .slice sA W.stocks.length sC, .slice aM W.mines.length kM, .slice aT W.troops.length kT, .int .i64 W.next, .int .i64 W.now] 28 (0, 0) ∧
    Blk wx (w.heap.size + 1) [.int .i64 0, .int .i64 0, .slice none 0 0, .slice none 0 0, .slice none 0 0, .slice none 0 0, .slice none 0 0, .int .i64 0, .int .i64 0] 28 (0, 0) ∧ repI.SOwn 3 8 wx w.heap.size (Rep.blkOf pA) pA pC W.field.places ∧ Cel.rep.SOwn 37 16 wx n2 (Rep.blkOf bA) bA bC W.bases ∧ repI.SOwn 3 8 wx n3 (Rep.blkOf sA) sA sC W.stocks ∧
    (∀ g ∈ Rep.blkOf bA, n2 ≤ g ∧ g < n3) ∧ (∀ g ∈ Rep.blkOf sA, n3 ≤ g ∧ g < n4) ∧ Below w.heap.size w wx ∧ n2 ≤ n3 ∧ n3 ≤ n4 ∧ n4 = wx.heap.size
theorem blk_ge {w : World} {B : Nat} {A : Option Addr} {α : Type} {R : Rep α} {E by_ c : Nat} {l : List α} (h : R.SOwn E by_ w B (Rep.blkOf A) A c l) {g : Nat} (hg : g ∈ Rep.blkOf A) : B ≤ g ∧ g < w.heap.size := h.lt g hg
end Go.Proofs.Yticfnngppcmidaa
