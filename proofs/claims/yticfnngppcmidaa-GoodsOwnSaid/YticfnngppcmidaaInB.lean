/-
  Is a number from one to another one? A function of one's own, not to be laid open by the walk.
-/
import Derived.Test.YticfnngppcmidaaBase
namespace Go.Proofs.Yticfnngppcmidaa
def inB (n lo hi : Int) : Bool := decide (lo ≤ n) && decide (n ≤ hi)
theorem inB_true {n lo hi : Int} (h : inB n lo hi = true) : lo ≤ n ∧ n ≤ hi := by simpa [inB] using h
theorem inB_false {n lo hi : Int} (h : inB n lo hi = false) : n < lo ∨ hi < n := by
  simp [inB] at h
  omega
theorem inB_mk {n lo hi : Int} (h1 : lo ≤ n) (h2 : n ≤ hi) : inB n lo hi = true := by simp [inB, h1, h2]
theorem inB_not {n lo hi : Int} (h : n < lo ∨ hi < n) : inB n lo hi = false := by
  cases hb : inB n lo hi with
  | false => rfl
  | true => have := inB_true hb; omega
end Go.Proofs.Yticfnngppcmidaa
