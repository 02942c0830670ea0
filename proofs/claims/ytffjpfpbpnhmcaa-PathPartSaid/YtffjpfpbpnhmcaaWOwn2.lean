/-
  Worlds of one's own, when something of them is written; a kind of troops.
-/
import Derived.Test.YtffjpfpbpnhmcaaGol
import Derived.Test.YtffjpfpbpnhmcaaWld
import Derived.Test.YtffjpfpbpnhmcaaTroA4
set_option linter.unusedVariables false
set_option linter.unusedSimpArgs false
namespace Go.Proofs.Ytffjpfpbpnhmcaa
open Go.RowKit
theorem foot_mem {a : Wd.At} {g : Nat} : g ∈ WOwn.foot a ↔ g ∈ Rep.blkOf a.P ∨ g ∈ Rep.blkOf a.B ∨ g ∈ Rep.blkOf a.S ∨ g ∈ Rep.blkOf a.M ∨ g ∈ Rep.blkOf a.T := by
  unfold WOwn.foot
  simp only [List.mem_append]
  constructor
  · rintro ((((h | h) | h) | h) | h) <;> simp [h]
  · rintro (h | h | h | h | h) <;> simp [h]
namespace Wd
def priceOf (k : Int) : Int := if k = 1 then 5 else if k = 2 then 12 else 0
end Wd


theorem Below.md {Z : Nat} {w w1 w2 : World} {S : List Nat} (h : Below Z w w1) (m : Mod S w1 w2) (hS : ∀ q ∈ S, Z ≤ q) (hZ : Z ≤ w1.heap.size) : Below Z w w2 := Go.RowKit.Below.trans h (m.below hS hZ)
theorem WOwn.mod {w w1 : World} {Z : Nat} {a : Wd.At} {W : Wd} {S : List Nat} (h : WOwn w Z a W) (m : Mod S w w1) (hd : ∀ x ∈ WOwn.foot a, x ∉ S) : WOwn w1 Z a W :=
  ⟨h.P.mod m fun x hx => hd x (foot_mem.2 (.inl hx)), h.B.mod m fun x hx => hd x (foot_mem.2 (.inr (.inl hx))), h.S.mod m fun x hx => hd x (foot_mem.2 (.inr (.inr (.inl hx)))), h.M.mod m fun x hx => hd x (foot_mem.2 (.inr (.inr (.inr (.inl hx))))), h.T.mod m fun x hx => hd x (foot_mem.2 (.inr (.inr (.inr (.inr hx))))), h.apart, h.nums⟩
/-! A kind of troops -/
def reachOf (k : Int) : Int := if k = 1 then 1 else if k = 2 then 2 else 0
def harmOf (k : Int) : Int := if k = 1 then 1 else if k = 2 then 4 else 0
def kindE (k : Int) : Int := if k = 1 then 0 else if k = 2 then 0 else 1
theorem WOwn.down {w : World} {Z Z' : Nat} {a : Wd.At} {W : Wd} (h : WOwn w Z a W) (hz : Z' ≤ Z) : WOwn w Z' a W := ⟨h.P.down hz, h.B.down hz, h.S.down hz, h.M.down hz, h.T.down hz, h.apart, h.nums⟩
def Wd.zero : Wd := ⟨⟨0, 0, []⟩, [], [], [], [], 0, 0⟩
theorem WOwn.zero (w : World) (Z : Nat) : WOwn w Z ⟨none, none, none, none, none, 0, 0, 0, 0, 0⟩ Wd.zero := ⟨Rep.SOwn.nil w, Rep.SOwn.nil w, Rep.SOwn.nil w, Rep.SOwn.nil w, Rep.SOwn.nil w, by simp [Rep.blkOf], okI_iff.2 (by decide), okI_iff.2 (by decide), okI_iff.2 (by decide), okI_iff.2 (by decide)⟩
theorem atE_zero {f : Fld} {c : Cel} (h : f.chk = 0) (he : f.atE c = 0) : f.isIn c = true := by
  cases hi : f.isIn c with
  | true => rfl
  | false => rw [(Fld.at_out h hi).1] at he; omega
theorem fldAt2 (f : Fld) (p : Cel) (A : Option Addr) (c : Nat) (w : World) (hP : repI.SHas 8 w A c f.places) :
    Calls Try.prog 25 #[.agg #[.int .i64 f.wide, .int .i64 f.high, .slice A f.places.length c], .agg #[.int .i64 p.x, .int .i64 p.y]] w fun e w' => e = .returned (.tuple #[.int .i64 (f.atV p), .int .i64 (f.atE p)]) ∧ Below w.heap.size w w' := fldAt f p A c w hP
structure Pairs (a : Wd.At) : Prop where
  PS : ∀ q ∈ Rep.blkOf a.P, q ∈ Rep.blkOf a.S → False
  PM : ∀ q ∈ Rep.blkOf a.P, q ∈ Rep.blkOf a.M → False
  PB : ∀ q ∈ Rep.blkOf a.P, q ∈ Rep.blkOf a.B → False
  PT : ∀ q ∈ Rep.blkOf a.P, q ∈ Rep.blkOf a.T → False
  SM : ∀ q ∈ Rep.blkOf a.S, q ∈ Rep.blkOf a.M → False
  SB : ∀ q ∈ Rep.blkOf a.S, q ∈ Rep.blkOf a.B → False
  ST : ∀ q ∈ Rep.blkOf a.S, q ∈ Rep.blkOf a.T → False
  MB : ∀ q ∈ Rep.blkOf a.M, q ∈ Rep.blkOf a.B → False
  MT : ∀ q ∈ Rep.blkOf a.M, q ∈ Rep.blkOf a.T → False
  BT : ∀ q ∈ Rep.blkOf a.B, q ∈ Rep.blkOf a.T → False
end Go.Proofs.Ytffjpfpbpnhmcaa
