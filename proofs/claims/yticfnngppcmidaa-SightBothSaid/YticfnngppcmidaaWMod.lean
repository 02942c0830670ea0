/-
  A world of one's own, when something of it is written; a kind of troops.
-/
import Derived.Test.YticfnngppcmidaaShop
import Derived.Test.YticfnngppcmidaaGol
import Derived.Test.YticfnngppcmidaaTroA4
set_option linter.unusedVariables false
set_option linter.unusedSimpArgs false
namespace Go.Proofs.Yticfnngppcmidaa
open Go.RowKit

theorem Below.ext {Z : Nat} {w w1 w2 : World} (h : Below Z w w1) (x : Ext w1 w2) (hZ : Z ≤ w1.heap.size) : Below Z w w2 := Go.RowKit.Below.trans h (Go.RowKit.Below.mono x hZ)
theorem Below.md {Z : Nat} {w w1 w2 : World} {S : List Nat} (h : Below Z w w1) (m : Mod S w1 w2) (hS : ∀ q ∈ S, Z ≤ q) (hZ : Z ≤ w1.heap.size) : Below Z w w2 := Go.RowKit.Below.trans h (m.below hS hZ)
theorem WOwn.mod {w w1 : World} {Z : Nat} {a : Wd.At} {W : Wd} {S : List Nat} (h : WOwn w Z a W) (m : Mod S w w1) (hd : ∀ x ∈ WOwn.foot a, x ∉ S) : WOwn w1 Z a W :=
  ⟨h.P.mod m fun x hx => hd x (foot_mem.2 (.inl hx)), h.B.mod m fun x hx => hd x (foot_mem.2 (.inr (.inl hx))), h.S.mod m fun x hx => hd x (foot_mem.2 (.inr (.inr (.inl hx)))), h.M.mod m fun x hx => hd x (foot_mem.2 (.inr (.inr (.inr (.inl hx))))), h.T.mod m fun x hx => hd x (foot_mem.2 (.inr (.inr (.inr (.inr hx))))), h.apart, h.nums⟩
theorem foot_T {a : Wd.At} {q : Nat} (h : q ∈ Rep.blkOf a.T) : q ∈ WOwn.foot a := foot_mem.2 (.inr (.inr (.inr (.inr h))))
theorem foot_S {a : Wd.At} {q : Nat} (h : q ∈ Rep.blkOf a.S) : q ∈ WOwn.foot a := foot_mem.2 (.inr (.inr (.inl h)))
theorem foot_M {a : Wd.At} {q : Nat} (h : q ∈ Rep.blkOf a.M) : q ∈ WOwn.foot a := foot_mem.2 (.inr (.inr (.inr (.inl h))))
theorem foot_B {a : Wd.At} {q : Nat} (h : q ∈ Rep.blkOf a.B) : q ∈ WOwn.foot a := foot_mem.2 (.inr (.inl h))
theorem foot_P {a : Wd.At} {q : Nat} (h : q ∈ Rep.blkOf a.P) : q ∈ WOwn.foot a := foot_mem.2 (.inl h)
/-- The stocks are written. -/
theorem WOwn.setS {w w1 : World} {Z : Nat} {a : Wd.At} {W : Wd} {l : List Int} (h : WOwn w Z a W) (m : Mod (Rep.blkOf a.S) w w1) (hS : repI.SOwn 3 8 w1 Z (Rep.blkOf a.S) a.S a.s l) : WOwn w1 Z a { W with stocks := l } := by
  obtain ⟨d1, d2, d3⟩ := h.disj
  exact ⟨h.P.mod m fun x hx hs => (d3 x hs).1 hx, h.B.mod m fun x hx hs => (d3 x hs).2.1 hx, hS, h.M.mod m fun x hx hs => (d3 x hs).2.2.1 hx, h.T.mod m fun x hx hs => (d3 x hs).2.2.2 hx, h.apart, h.nums⟩
/-- The troops are elsewhere. -/
theorem WOwn.swapT {w w1 : World} {Z : Nat} {a : Wd.At} {W : Wd} {l : List Trp} {A : Option Addr} {c : Nat} (h : WOwn w Z a W) (m : Mod (Rep.blkOf a.T) w w1) (hT : Trp.rep.SOwn 39 56 w1 Z (Rep.blkOf A) A c l) (hq : ∀ q ∈ Rep.blkOf A, q ∈ Rep.blkOf a.T ∨ w.heap.size ≤ q) :
    WOwn w1 Z { a with T := A, t := c } { W with troops := l } := by
  obtain ⟨d1, d2, d3⟩ := h.disj
  refine ⟨h.P.mod m fun x hx hs => (d2 x hs).1 hx, h.B.mod m fun x hx hs => (d2 x hs).2.1 hx, h.S.mod m fun x hx hs => (d2 x hs).2.2.1 hx, h.M.mod m fun x hx hs => (d2 x hs).2.2.2 hx, hT, ?_, h.nums⟩
  have hn := h.apart
  rw [List.nodup_append] at hn ⊢
  refine ⟨hn.1, blk_nodup A, fun x hx y hy e => ?_⟩
  subst e
  rcases hq x hy with hy | hy
  · exact hn.2.2 x hx x hy rfl
  · have hf : x ∈ WOwn.foot a := by unfold WOwn.foot; rw [List.mem_append]; exact .inl hx
    have := (h.lt x hf).2
    omega
/-- What else the numbers are. -/
theorem WOwn.setN {w : World} {Z : Nat} {a : Wd.At} {W V : Wd} (h : WOwn w Z a W) (h1 : V.field.places = W.field.places) (h2 : V.bases = W.bases) (h3 : V.stocks = W.stocks) (h4 : V.mines = W.mines) (h5 : V.troops = W.troops) (hn : okI V.field.wide ∧ okI V.field.high ∧ okI V.next ∧ okI V.now) : WOwn w Z a V :=
  ⟨by rw [h1]; exact h.P, by rw [h2]; exact h.B, by rw [h3]; exact h.S, by rw [h4]; exact h.M, by rw [h5]; exact h.T, h.apart, hn⟩
theorem foot_swapT {w : World} {Z : Nat} {a : Wd.At} {W : Wd} {A : Option Addr} {c q : Nat} (h : q ∈ WOwn.foot { a with T := A, t := c }) : q ∈ WOwn.foot a ∨ q ∈ Rep.blkOf A := by
  rcases foot_mem.1 h with h | h | h | h | h
  · exact .inl (foot_P h)
  · exact .inl (foot_B h)
  · exact .inl (foot_S h)
  · exact .inl (foot_M h)
  · exact .inr h
/-! A kind of troops -/
def reachOf (k : Int) : Int := if k = 1 then 1 else if k = 2 then 2 else 0
def harmOf (k : Int) : Int := if k = 1 then 1 else if k = 2 then 4 else 0
def kindE (k : Int) : Int := if k = 1 then 0 else if k = 2 then 0 else 1
theorem kind_any (k : Int) (w : World) : Calls Try.prog 35 #[.int .i64 k] w fun e w' => e = .returned (.tuple #[.agg #[.int .i64 (Wd.lifeOf k), .int .i64 (reachOf k), .int .i64 (harmOf k), .int .i64 (Wd.priceOf k)], .int .i64 (kindE k)]) ∧ Ext w w' := by
  by_cases h1 : k = 1
  · subst h1; exact kind_1 w
  · by_cases h2 : k = 2
    · subst h2; exact kind_2 w
    · have := kind_no k w (inB_not (by omega))
      simpa [Wd.lifeOf, reachOf, harmOf, Wd.priceOf, kindE, h1, h2] using this
end Go.Proofs.Yticfnngppcmidaa
