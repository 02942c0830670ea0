/-
  Worlds of one's own, when something of them is written; a kind of troops.
-/
import Derived.Test.YtkijhejjnlmbmaaGol
import Derived.Test.YtkijhejjnlmbmaaWld
import Derived.Test.YtkijhejjnlmbmaaTroA4
set_option linter.unusedVariables false
set_option linter.unusedSimpArgs false
namespace Go.Proofs.Ytkijhejjnlmbmaa
open Go.RowKit
theorem WOwn.disj {w : World} {Z : Nat} {a : Wd.At} {W : Wd} (h : WOwn w Z a W) :
    (∀ x ∈ Rep.blkOf a.M, x ∉ Rep.blkOf a.P ∧ x ∉ Rep.blkOf a.B ∧ x ∉ Rep.blkOf a.S ∧ x ∉ Rep.blkOf a.T) ∧
    (∀ x ∈ Rep.blkOf a.T, x ∉ Rep.blkOf a.P ∧ x ∉ Rep.blkOf a.B ∧ x ∉ Rep.blkOf a.S ∧ x ∉ Rep.blkOf a.M) ∧
    (∀ x ∈ Rep.blkOf a.S, x ∉ Rep.blkOf a.P ∧ x ∉ Rep.blkOf a.B ∧ x ∉ Rep.blkOf a.M ∧ x ∉ Rep.blkOf a.T) := by
  have hn := h.apart
  rw [List.nodup_append, List.nodup_append, List.nodup_append, List.nodup_append] at hn
  obtain ⟨⟨⟨⟨_, _, n1⟩, _, n2⟩, _, n3⟩, _, n4⟩ := hn
  refine ⟨fun x hx => ⟨fun hp => ?_, fun hp => ?_, fun hp => ?_, fun hp => ?_⟩, fun x hx => ⟨fun hp => ?_, fun hp => ?_, fun hp => ?_, fun hp => ?_⟩, fun x hx => ⟨fun hp => ?_, fun hp => ?_, fun hp => ?_, fun hp => ?_⟩⟩
  · exact n3 x (by simp [hp]) x hx rfl
  · exact n3 x (by simp [hp]) x hx rfl
  · exact n3 x (by simp [hp]) x hx rfl
  · exact n4 x (by simp [hx]) x hp rfl
  · exact n4 x (by simp [hp]) x hx rfl
  · exact n4 x (by simp [hp]) x hx rfl
  · exact n4 x (by simp [hp]) x hx rfl
  · exact n4 x (by simp [hp]) x hx rfl
  · exact n2 x (by simp [hp]) x hx rfl
  · exact n2 x (by simp [hp]) x hx rfl
  · exact n3 x (by simp [hx]) x hp rfl
  · exact n4 x (by simp [hx]) x hp rfl
theorem foot_mem {a : Wd.At} {g : Nat} : g ∈ WOwn.foot a ↔ g ∈ Rep.blkOf a.P ∨ g ∈ Rep.blkOf a.B ∨ g ∈ Rep.blkOf a.S ∨ g ∈ Rep.blkOf a.M ∨ g ∈ Rep.blkOf a.T := by
  unfold WOwn.foot
  simp only [List.mem_append]
  constructor
  · rintro ((((h | h) | h) | h) | h) <;> simp [h]
  · rintro (h | h | h | h | h) <;> simp [h]
namespace Wd
def priceOf (k : Int) : Int := if k = 1 then 5 else if k = 2 then 12 else 0
end Wd


theorem Below.ext {Z : Nat} {w w1 w2 : World} (h : Below Z w w1) (x : Ext w1 w2) (hZ : Z ≤ w1.heap.size) : Below Z w w2 := Go.RowKit.Below.trans h (Go.RowKit.Below.mono x hZ)
theorem Below.md {Z : Nat} {w w1 w2 : World} {S : List Nat} (h : Below Z w w1) (m : Mod S w1 w2) (hS : ∀ q ∈ S, Z ≤ q) (hZ : Z ≤ w1.heap.size) : Below Z w w2 := Go.RowKit.Below.trans h (m.below hS hZ)
theorem WOwn.mod {w w1 : World} {Z : Nat} {a : Wd.At} {W : Wd} {S : List Nat} (h : WOwn w Z a W) (m : Mod S w w1) (hd : ∀ x ∈ WOwn.foot a, x ∉ S) : WOwn w1 Z a W :=
  ⟨h.P.mod m fun x hx => hd x (foot_mem.2 (.inl hx)), h.B.mod m fun x hx => hd x (foot_mem.2 (.inr (.inl hx))), h.S.mod m fun x hx => hd x (foot_mem.2 (.inr (.inr (.inl hx)))), h.M.mod m fun x hx => hd x (foot_mem.2 (.inr (.inr (.inr (.inl hx))))), h.T.mod m fun x hx => hd x (foot_mem.2 (.inr (.inr (.inr (.inr hx))))), h.apart, h.nums⟩
theorem foot_T {a : Wd.At} {q : Nat} (h : q ∈ Rep.blkOf a.T) : q ∈ WOwn.foot a := foot_mem.2 (.inr (.inr (.inr (.inr h))))
theorem foot_S {a : Wd.At} {q : Nat} (h : q ∈ Rep.blkOf a.S) : q ∈ WOwn.foot a := foot_mem.2 (.inr (.inr (.inl h)))
theorem foot_M {a : Wd.At} {q : Nat} (h : q ∈ Rep.blkOf a.M) : q ∈ WOwn.foot a := foot_mem.2 (.inr (.inr (.inr (.inl h))))
theorem foot_B {a : Wd.At} {q : Nat} (h : q ∈ Rep.blkOf a.B) : q ∈ WOwn.foot a := foot_mem.2 (.inr (.inl h))
theorem foot_P {a : Wd.At} {q : Nat} (h : q ∈ Rep.blkOf a.P) : q ∈ WOwn.foot a := foot_mem.2 (.inl h)
/-- The stocks are written. -/
theorem WOwn.setS {w w1 : World} {Z : Nat} {a : Wd.At} {W : Wd} {l : List Int} (h : WOwn w Z a W) (m : Mod (Rep.blkOf a.S) w w1) (hS : repI.SOwn 3 8 w1 Z (Rep.blkOf a.S) a.S a.s l) : WOwn w1 Z a { W with stocks := l } := by
  obtain ⟨d1, d2, d3⟩ := h.disj
  exact ⟨h.P.mod m fun x hx hs => (d3 x hs).1 hx, h.B.mod m fun x hx hs => (d3 x hs).2.1 hx, hS, h.M.mod m fun x hx hs => (d3 x hs).2.2.1 hx, h.T.mod m fun x hx hs => (d3 x hs).2.2.2 hx, h.apart, h.nums⟩
/-- The troops are elsewhere. -/
theorem WOwn.swapT {w w1 : World} {Z : Nat} {a : Wd.At} {W : Wd} {l : List Trp} {A : Option Addr} {c : Nat} (h : WOwn w Z a W) (m : Mod (Rep.blkOf a.T) w w1) (hT : Trp.rep.SOwn 51 56 w1 Z (Rep.blkOf A) A c l) (hq : ∀ q ∈ Rep.blkOf A, q ∈ Rep.blkOf a.T ∨ w.heap.size ≤ q) :
    WOwn w1 Z { a with T := A, t := c } { W with troops := l } := by
  obtain ⟨d1, d2, d3⟩ := h.disj
  refine ⟨h.P.mod m fun x hx hs => (d2 x hs).1 hx, h.B.mod m fun x hx hs => (d2 x hs).2.1 hx, h.S.mod m fun x hx hs => (d2 x hs).2.2.1 hx, h.M.mod m fun x hx hs => (d2 x hs).2.2.2 hx, hT, ?_, h.nums⟩
  have hn := h.apart
  rw [List.nodup_append] at hn ⊢
  refine ⟨hn.1, blk_nodup A, fun x hx y hy e => ?_⟩
  subst e
  rcases hq x hy with hy | hy
  · exact hn.2.2 x hx x hy rfl
  · have hf : x ∈ WOwn.foot a := by unfold WOwn.foot; rw [List.mem_append]; exact .inl hx
    have := (h.lt x hf).2
    omega
/-- What else the numbers are. -/
theorem WOwn.setN {w : World} {Z : Nat} {a : Wd.At} {W V : Wd} (h : WOwn w Z a W) (h1 : V.field.places = W.field.places) (h2 : V.bases = W.bases) (h3 : V.stocks = W.stocks) (h4 : V.mines = W.mines) (h5 : V.troops = W.troops) (hn : okI V.field.wide ∧ okI V.field.high ∧ okI V.next ∧ okI V.now) : WOwn w Z a V :=
  ⟨by rw [h1]; exact h.P, by rw [h2]; exact h.B, by rw [h3]; exact h.S, by rw [h4]; exact h.M, by rw [h5]; exact h.T, h.apart, hn⟩
theorem foot_swapT {w : World} {Z : Nat} {a : Wd.At} {W : Wd} {A : Option Addr} {c q : Nat} (h : q ∈ WOwn.foot { a with T := A, t := c }) : q ∈ WOwn.foot a ∨ q ∈ Rep.blkOf A := by
  rcases foot_mem.1 h with h | h | h | h | h
  · exact .inl (foot_P h)
  · exact .inl (foot_B h)
  · exact .inl (foot_S h)
  · exact .inl (foot_M h)
  · exact .inr h
/-! A kind of troops -/
def reachOf (k : Int) : Int := if k = 1 then 1 else if k = 2 then 2 else 0
def harmOf (k : Int) : Int := if k = 1 then 1 else if k = 2 then 4 else 0
def kindE (k : Int) : Int := if k = 1 then 0 else if k = 2 then 0 else 1
theorem kind_any (k : Int) (w : World) : Calls Try.prog 113 #[.int .i64 k] w fun e w' => e = .returned (.tuple #[.agg #[.int .i64 (Wd.lifeOf k), .int .i64 (reachOf k), .int .i64 (harmOf k), .int .i64 (Wd.priceOf k)], .int .i64 (kindE k)]) ∧ Ext w w' := by
  by_cases h1 : k = 1
  · subst h1; exact kind_1 w
  · by_cases h2 : k = 2
    · subst h2; exact kind_2 w
    · have := kind_no k w (inB_not (by omega))
      simpa [Wd.lifeOf, reachOf, harmOf, Wd.priceOf, kindE, h1, h2] using this
theorem WOwn.down {w : World} {Z Z' : Nat} {a : Wd.At} {W : Wd} (h : WOwn w Z a W) (hz : Z' ≤ Z) : WOwn w Z' a W := ⟨h.P.down hz, h.B.down hz, h.S.down hz, h.M.down hz, h.T.down hz, h.apart, h.nums⟩
def Wd.zero : Wd := ⟨⟨0, 0, []⟩, [], [], [], [], 0, 0⟩
theorem WOwn.zero (w : World) (Z : Nat) : WOwn w Z ⟨none, none, none, none, none, 0, 0, 0, 0, 0⟩ Wd.zero := ⟨Rep.SOwn.nil w, Rep.SOwn.nil w, Rep.SOwn.nil w, Rep.SOwn.nil w, Rep.SOwn.nil w, by simp [Rep.blkOf], okI_iff.2 (by decide), okI_iff.2 (by decide), okI_iff.2 (by decide), okI_iff.2 (by decide)⟩
theorem atE_zero {f : Fld} {c : Cel} (h : f.chk = 0) (he : f.atE c = 0) : f.isIn c = true := by
  cases hi : f.isIn c with
  | true => rfl
  | false => rw [(Fld.at_out h hi).1] at he; omega
theorem fldAt2 (f : Fld) (p : Cel) (A : Option Addr) (c : Nat) (w : World) (hP : repI.SHas 8 w A c f.places) :
    Calls Try.prog 24 #[.agg #[.int .i64 f.wide, .int .i64 f.high, .slice A f.places.length c], .agg #[.int .i64 p.x, .int .i64 p.y]] w fun e w' => e = .returned (.tuple #[.int .i64 (f.atV p), .int .i64 (f.atE p)]) ∧ Below w.heap.size w w' := fldAt f p A c w hP
theorem WOwn.of5 {w : World} {Z : Nat} {P B S M T : Option Addr} {p b s m t : Nat} {W : Wd} (hP : repI.SOwn 3 8 w Z (Rep.blkOf P) P p W.field.places) (hB : Cel.rep.SOwn 42 16 w Z (Rep.blkOf B) B b W.bases) (hS : repI.SOwn 3 8 w Z (Rep.blkOf S) S s W.stocks) (hM : repI.SOwn 3 8 w Z (Rep.blkOf M) M m W.mines) (hT : Trp.rep.SOwn 51 56 w Z (Rep.blkOf T) T t W.troops)
    (h1 : ∀ q ∈ Rep.blkOf B, q ∈ Rep.blkOf P → False) (h2 : ∀ q ∈ Rep.blkOf S, q ∈ Rep.blkOf P → False) (h3 : ∀ q ∈ Rep.blkOf S, q ∈ Rep.blkOf B → False) (h4 : ∀ q ∈ Rep.blkOf M, q ∈ Rep.blkOf P → False) (h5 : ∀ q ∈ Rep.blkOf M, q ∈ Rep.blkOf B → False) (h6 : ∀ q ∈ Rep.blkOf M, q ∈ Rep.blkOf S → False)
    (h7 : ∀ q ∈ Rep.blkOf T, q ∈ Rep.blkOf P → False) (h8 : ∀ q ∈ Rep.blkOf T, q ∈ Rep.blkOf B → False) (h9 : ∀ q ∈ Rep.blkOf T, q ∈ Rep.blkOf S → False) (h10 : ∀ q ∈ Rep.blkOf T, q ∈ Rep.blkOf M → False) (hn : okI W.field.wide ∧ okI W.field.high ∧ okI W.next ∧ okI W.now) :
    WOwn w Z ⟨P, B, S, M, T, p, b, s, m, t⟩ W := by
  refine ⟨hP, hB, hS, hM, hT, ?_, hn⟩
  have e1 := blk_nodup P
  have e2 := blk_nodup B
  have e3 := blk_nodup S
  have e4 := blk_nodup M
  have e5 := blk_nodup T
  simp only [List.nodup_append, List.mem_append]
  grind
theorem WOwn.newT {w : World} {Z : Nat} {a : Wd.At} {W : Wd} {A : Option Addr} {c : Nat} {p : List Trp} (h : WOwn w Z a W) (hT : Trp.rep.SOwn 51 56 w Z (Rep.blkOf A) A c p) (h1 : ∀ q ∈ Rep.blkOf A, q ∈ WOwn.foot a → False) : WOwn w Z { a with T := A, t := c } { W with troops := p } := by
  refine ⟨h.P, h.B, h.S, h.M, hT, ?_, h.nums⟩
  have hn := h.apart
  have e1 := blk_nodup A
  have f1 : ∀ q ∈ Rep.blkOf A, (q ∈ Rep.blkOf a.P → False) ∧ (q ∈ Rep.blkOf a.B → False) ∧ (q ∈ Rep.blkOf a.S → False) ∧ (q ∈ Rep.blkOf a.M → False) := fun q hq => ⟨fun h => h1 q hq (foot_P h), fun h => h1 q hq (foot_B h), fun h => h1 q hq (foot_S h), fun h => h1 q hq (foot_M h)⟩
  simp only [List.nodup_append, List.mem_append] at hn ⊢
  grind
theorem foot_newT {a : Wd.At} {A : Option Addr} {c q : Nat} (h : q ∈ WOwn.foot { a with T := A, t := c }) : q ∈ WOwn.foot a ∨ q ∈ Rep.blkOf A := by
  rcases foot_mem.1 h with h | h | h | h | h
  · exact .inl (foot_P h)
  · exact .inl (foot_B h)
  · exact .inl (foot_S h)
  · exact .inl (foot_M h)
  · exact .inr h
theorem blk1 {q b o : Nat} (h : q ∈ Rep.blkOf (some ⟨b, o, none⟩)) : q = b := List.mem_singleton.1 h
theorem foot_newPM {a : Wd.At} {A B : Option Addr} {c d q : Nat} (h : q ∈ WOwn.foot { a with P := A, p := c, M := B, m := d }) : q ∈ WOwn.foot a ∨ q ∈ Rep.blkOf A ∨ q ∈ Rep.blkOf B := by
  rcases foot_mem.1 h with h | h | h | h | h
  · exact .inr (.inl h)
  · exact .inl (foot_B h)
  · exact .inl (foot_S h)
  · exact .inr (.inr h)
  · exact .inl (foot_T h)
theorem WOwn.newPM {w : World} {Z : Nat} {a : Wd.At} {W : Wd} {A B : Option Addr} {c d : Nat} {p m : List Int} (h : WOwn w Z a W) (hP : repI.SOwn 3 8 w Z (Rep.blkOf A) A c p) (hM : repI.SOwn 3 8 w Z (Rep.blkOf B) B d m)
    (h1 : ∀ q ∈ Rep.blkOf A, q ∈ WOwn.foot a → False) (h2 : ∀ q ∈ Rep.blkOf B, q ∈ WOwn.foot a → False) (h3 : ∀ q ∈ Rep.blkOf B, q ∈ Rep.blkOf A → False) :
    WOwn w Z { a with P := A, p := c, M := B, m := d } { W with field := { W.field with places := p }, mines := m } := by
  refine ⟨hP, h.B, h.S, hM, h.T, ?_, h.nums⟩
  have hn := h.apart
  have e1 := blk_nodup A
  have e2 := blk_nodup B
  have f1 : ∀ q ∈ Rep.blkOf A, (q ∈ Rep.blkOf a.B → False) ∧ (q ∈ Rep.blkOf a.S → False) ∧ (q ∈ Rep.blkOf a.T → False) := fun q hq => ⟨fun h => h1 q hq (foot_B h), fun h => h1 q hq (foot_S h), fun h => h1 q hq (foot_T h)⟩
  have f2 : ∀ q ∈ Rep.blkOf B, (q ∈ Rep.blkOf a.B → False) ∧ (q ∈ Rep.blkOf a.S → False) ∧ (q ∈ Rep.blkOf a.T → False) := fun q hq => ⟨fun h => h2 q hq (foot_B h), fun h => h2 q hq (foot_S h), fun h => h2 q hq (foot_T h)⟩
  simp only [List.nodup_append, List.mem_append] at hn ⊢
  grind
structure Pairs (a : Wd.At) : Prop where
  PS : ∀ q ∈ Rep.blkOf a.P, q ∈ Rep.blkOf a.S → False
  PM : ∀ q ∈ Rep.blkOf a.P, q ∈ Rep.blkOf a.M → False
  PB : ∀ q ∈ Rep.blkOf a.P, q ∈ Rep.blkOf a.B → False
  PT : ∀ q ∈ Rep.blkOf a.P, q ∈ Rep.blkOf a.T → False
  SM : ∀ q ∈ Rep.blkOf a.S, q ∈ Rep.blkOf a.M → False
  SB : ∀ q ∈ Rep.blkOf a.S, q ∈ Rep.blkOf a.B → False
  ST : ∀ q ∈ Rep.blkOf a.S, q ∈ Rep.blkOf a.T → False
  MB : ∀ q ∈ Rep.blkOf a.M, q ∈ Rep.blkOf a.B → False
  MT : ∀ q ∈ Rep.blkOf a.M, q ∈ Rep.blkOf a.T → False
  BT : ∀ q ∈ Rep.blkOf a.B, q ∈ Rep.blkOf a.T → False
theorem WOwn.pairs {w : World} {Z : Nat} {a : Wd.At} {W : Wd} (h : WOwn w Z a W) : Pairs a := by
  have hn := h.apart
  simp only [List.nodup_append, List.mem_append] at hn
  constructor <;> grind
theorem WOwn.caps {w : World} {Z : Nat} {a : Wd.At} {W : Wd} (h : WOwn w Z a W) : a.p ≤ 9223372036854775807 ∧ a.s ≤ 9223372036854775807 ∧ a.m ≤ 9223372036854775807 ∧ a.b ≤ 9223372036854775807 ∧ a.t ≤ 9223372036854775807 := ⟨h.P.has.2.1, h.S.has.2.1, h.M.has.2.1, h.B.has.2.1, h.T.has.2.1⟩
end Go.Proofs.Ytkijhejjnlmbmaa
