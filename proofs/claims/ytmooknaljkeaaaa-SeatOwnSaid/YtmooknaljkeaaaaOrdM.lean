/-
  Orders, as plain mathematics.
-/
import Derived.Test.YtmooknaljkeaaaaMem
set_option linter.unusedVariables false
namespace Go.Proofs.Ytmooknaljkeaaaa
open Go.RowKit

/-- An order of a player. -/
structure Ord where
  by_ : Int
  kind : Int
  who : Int
  x : Int
  y : Int
  what : Int
def inB (n lo hi : Int) : Bool := decide (lo ≤ n) && decide (n ≤ hi)
theorem inB_true {n lo hi : Int} (h : inB n lo hi = true) : lo ≤ n ∧ n ≤ hi := by simpa [inB] using h
theorem inB_false {n lo hi : Int} (h : inB n lo hi = false) : n < lo ∨ hi < n := by
  simp [inB] at h
  omega
namespace Ord
def cells (o : Ord) : List Value := [.int .i64 o.by_, .int .i64 o.kind, .int .i64 o.who, .int .i64 o.x, .int .i64 o.y, .int .i64 o.what]
def range (o : Ord) : Bool := inB o.by_ 0 7 && inB o.kind 1 5 && inB o.who 0 1000000 && inB o.x (-1000) 1000 && inB o.y (-1000) 1000 && inB o.what 0 1000000
def form (o : Ord) : Bool := (o.kind != 5 || o.who == 0) && (o.kind == 2 || o.kind == 3 || (o.x == 0 && o.y == 0)) && (o.kind == 1 || o.kind == 5 || o.what == 0)
/-- What is wrong with an order: nothing, an argument, its form. -/
def chk (o : Ord) : Int := if o.range then (if o.form then 0 else 4) else 1
def ok (o : Ord) : Bool := o.range && o.form
theorem chk_ok {o : Ord} : o.chk = 0 ↔ o.ok = true := by
  unfold chk ok
  cases o.range <;> cases o.form <;> simp
end Ord
def ordCells (l : List Ord) : List Value := l.flatMap Ord.cells
end Go.Proofs.Ytmooknaljkeaaaa
