/-
  Worlds of one's own, when something of them is written; a kind of troops.
-/
import Derived.Test.YtkijhejjnlmbmaaGol
import Derived.Test.YtkijhejjnlmbmaaWld
import Derived.Test.YtkijhejjnlmbmaaTroA4
set_option linter.unusedVariables false
set_option linter.unusedSimpArgs false
namespace Go.Proofs.Ytkijhejjnlmbmaa
open Go.RowKit
theorem foot_mem {a : Wd.At} {g : Nat} : g ∈ WOwn.foot a ↔ g ∈ Rep.blkOf a.P ∨ g ∈ Rep.blkOf a.B ∨ g ∈ Rep.blkOf a.S ∨ g ∈ Rep.blkOf a.M ∨ g ∈ Rep.blkOf a.T := by
  unfold WOwn.foot
  simp only [List.mem_append]
  constructor
  · rintro ((((h | h) | h) | h) | h) <;> simp [h]
  · rintro (h | h | h | h | h) <;> simp [h]
namespace Wd
def priceOf (k : Int) : Int := if k = 1 then 5 else if k = 2 then 12 else 0
end Wd


theorem Below.md {Z : Nat} {w w1 w2 : World} {S : List Nat} (h : Below Z w w1) (m : Mod S w1 w2) (hS : ∀ q ∈ S, Z ≤ q) (hZ : Z ≤ w1.heap.size) : Below Z w w2 := Go.RowKit.Below.trans h (m.below hS hZ)
theorem WOwn.mod {w w1 : World} {Z : Nat} {a : Wd.At} {W : Wd} {S : List Nat} (h : WOwn w Z a W) (m : Mod S w w1) (hd : ∀ x ∈ WOwn.foot a, x ∉ S) : WOwn w1 Z a W :=
  ⟨h.P.mod m fun x hx => hd x (foot_mem.2 (.inl hx)), h.B.mod m fun x hx => hd x (foot_mem.2 (.inr (.inl hx))), h.S.mod m fun x hx => hd x (foot_mem.2 (.inr (.inr (.inl hx)))), h.M.mod m fun x hx => hd x (foot_mem.2 (.inr (.inr (.inr (.inl hx))))), h.T.mod m fun x hx => hd x (foot_mem.2 (.inr (.inr (.inr (.inr hx))))), h.apart, h.nums⟩
/-! A kind of troops -/
def reachOf (k : Int) : Int := if k = 1 then 1 else if k = 2 then 2 else 0
def harmOf (k : Int) : Int := if k = 1 then 1 else if k = 2 then 4 else 0
def kindE (k : Int) : Int := if k = 1 then 0 else if k = 2 then 0 else 1
theorem WOwn.down {w : World} {Z Z' : Nat} {a : Wd.At} {W : Wd} (h : WOwn w Z a W) (hz : Z' ≤ Z) : WOwn w Z' a W := ⟨h.P.down hz, h.B.down hz, h.S.down hz, h.M.down hz, h.T.down hz, h.apart, h.nums⟩
def Wd.zero : Wd := ⟨⟨0, 0, []⟩, [], [], [], [], 0, 0⟩
theorem WOwn.zero (w : World) (Z : Nat) : WOwn w Z ⟨none, none, none, none, none, 0, 0, 0, 0, 0⟩ Wd.zero := ⟨Rep.SOwn.nil w, Rep.SOwn.nil w, Rep.SOwn.nil w, Rep.SOwn.nil w, Rep.SOwn.nil w, by simp [Rep.blkOf], okI_iff.2 (by decide), okI_iff.2 (by decide), okI_iff.2 (by decide), okI_iff.2 (by decide)⟩
theorem atE_zero {f : Fld} {c : Cel} (h : f.chk = 0) (he : f.atE c = 0) : f.isIn c = true := by
  cases hi : f.isIn c with
  | true => rfl
  | false => rw [(Fld.at_out h hi).1] at he; omega
theorem fldAt2 (f : Fld) (p : Cel) (A : Option Addr) (c : Nat) (w : World) (hP : repI.SHas 8 w A c f.places) :
    Calls Try.prog 24 #[.agg #[.int .i64 f.wide, .int .i64 f.high, .slice A f.places.length c], .agg #[.int .i64 p.x, .int .i64 p.y]] w fun e w' => e = .returned (.tuple #[.int .i64 (f.atV p), .int .i64 (f.atE p)]) ∧ Below w.heap.size w w' := fldAt f p A c w hP
theorem WOwn.of5 {w : World} {Z : Nat} {P B S M T : Option Addr} {p b s m t : Nat} {W : Wd} (hP : repI.SOwn 3 8 w Z (Rep.blkOf P) P p W.field.places) (hB : Cel.rep.SOwn 42 16 w Z (Rep.blkOf B) B b W.bases) (hS : repI.SOwn 3 8 w Z (Rep.blkOf S) S s W.stocks) (hM : repI.SOwn 3 8 w Z (Rep.blkOf M) M m W.mines) (hT : Trp.rep.SOwn 51 56 w Z (Rep.blkOf T) T t W.troops)
    (h1 : ∀ q ∈ Rep.blkOf B, q ∈ Rep.blkOf P → False) (h2 : ∀ q ∈ Rep.blkOf S, q ∈ Rep.blkOf P → False) (h3 : ∀ q ∈ Rep.blkOf S, q ∈ Rep.blkOf B → False) (h4 : ∀ q ∈ Rep.blkOf M, q ∈ Rep.blkOf P → False) (h5 : ∀ q ∈ Rep.blkOf M, q ∈ Rep.blkOf B → False) (h6 : ∀ q ∈ Rep.blkOf M, q ∈ Rep.blkOf S → False)
    (h7 : ∀ q ∈ Rep.blkOf T, q ∈ Rep.blkOf P → False) (h8 : ∀ q ∈ Rep.blkOf T, q ∈ Rep.blkOf B → False) (h9 : ∀ q ∈ Rep.blkOf T, q ∈ Rep.blkOf S → False) (h10 : ∀ q ∈ Rep.blkOf T, q ∈ Rep.blkOf M → False) (hn : okI W.field.wide ∧ okI W.field.high ∧ okI W.next ∧ okI W.now) :
    WOwn w Z ⟨P, B, S, M, T, p, b, s, m, t⟩ W := by
  refine ⟨hP, hB, hS, hM, hT, ?_, hn⟩
  have e1 := blk_nodup P
  have e2 := blk_nodup B
  have e3 := blk_nodup S
  have e4 := blk_nodup M
  have e5 := blk_nodup T
  simp only [List.nodup_append, List.mem_append]
  grind
structure Pairs (a : Wd.At) : Prop where
  PS : ∀ q ∈ Rep.blkOf a.P, q ∈ Rep.blkOf a.S → False
  PM : ∀ q ∈ Rep.blkOf a.P, q ∈ Rep.blkOf a.M → False
  PB : ∀ q ∈ Rep.blkOf a.P, q ∈ Rep.blkOf a.B → False
  PT : ∀ q ∈ Rep.blkOf a.P, q ∈ Rep.blkOf a.T → False
  SM : ∀ q ∈ Rep.blkOf a.S, q ∈ Rep.blkOf a.M → False
  SB : ∀ q ∈ Rep.blkOf a.S, q ∈ Rep.blkOf a.B → False
  ST : ∀ q ∈ Rep.blkOf a.S, q ∈ Rep.blkOf a.T → False
  MB : ∀ q ∈ Rep.blkOf a.M, q ∈ Rep.blkOf a.B → False
  MT : ∀ q ∈ Rep.blkOf a.M, q ∈ Rep.blkOf a.T → False
  BT : ∀ q ∈ Rep.blkOf a.B, q ∈ Rep.blkOf a.T → False
end Go.Proofs.Ytkijhejjnlmbmaa
