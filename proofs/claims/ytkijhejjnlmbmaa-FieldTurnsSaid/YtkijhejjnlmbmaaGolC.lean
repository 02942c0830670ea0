/-
  The walk over slots: a slice of one's own is cut to its first so many; its tail is cleared.
-/
import Derived.Test.YtkijhejjnlmbmaaGolR
import Derived.Laws.IdiomCopy
set_option linter.unusedVariables false
set_option linter.unusedSimpArgs false
namespace Go.Proofs.Ytkijhejjnlmbmaa
open Go.RowKit

namespace Rep
variable {α : Type} {R : Rep α}
theorem SOwn.fsts {E by_ B c : Nat} {A : Option Addr} {l : List α} {w : World} {ps : List (List Nat × List Value)} (hp : R.Bare) (hall : All2 (fun x a => R.own w B x.1 x.2 a) ps l) : ∀ y ∈ ps, y.1 = [] := fun y hy => by
  obtain ⟨b, hb⟩ := hall.left y hy
  exact hp.2 hb
theorem fst_flat {ps : List (List Nat × List Value)} (h : ∀ y ∈ ps, y.1 = []) : (ps.map (·.1)).flatten = [] := by
  rw [List.flatten_eq_nil_iff]
  intro x hx
  obtain ⟨y, hy, rfl⟩ := List.mem_map.1 hx
  exact h y hy
/-- The first so many of a slice of one's own. -/
theorem SOwn.cut {E by_ B c : Nat} {A : Option Addr} {l : List α} {w : World} (h : R.SOwn E by_ w B (blkOf A) A c l) (hp : R.Bare) (k : Nat) (hk : k ≤ l.length) : R.SOwn E by_ w B (blkOf A) A c (l.take k) := by
  obtain ⟨hb, ps, hf, hn, ho, hall⟩ := h
  have hl := olens hall
  have hpl : ps.length = l.length := hall.length
  have h1 := SOwn.fsts (E := E) (by_ := by_) (c := c) (A := A) hp hall
  have hlen : (l.take k).length = k := by rw [List.length_take]; omega
  have hm := Nat.mul_le_mul_right by_ hk
  refine ⟨by rw [hlen]; omega, ps.take k, ?_, hn, ?_, hall.take_ k⟩
  · rw [fst_flat fun y hy => h1 y (List.mem_of_mem_take hy), List.append_nil]
  · rw [hlen, List.map_take, flatten_take k hl]
    obtain ⟨hx1, hx2⟩ := ho
    have hle : k * R.size ≤ l.length * R.size := Nat.mul_le_mul_right _ hk
    refine ⟨by rw [List.length_take, hx1]; omega, ?_⟩
    rcases hx2 with ⟨hx2, hx3⟩ | ⟨g, cap, cur, hv, hB, hh, hnc, hcm, hs, ht, hG⟩
    · injection hx2 with e1 e2 e3
      subst e1 e3
      have : k = 0 := by omega
      subst this
      exact .inl ⟨rfl, rfl⟩
    · injection hv with e1 e2 e3
      subst e1 e3
      exact .inr ⟨g, c, cur, rfl, hB, hh, by omega, hcm, hs, by rw [← ht, List.take_take, Nat.min_eq_left hle], hG⟩
end Rep
section
variable {P : Program} {n : Nat} {E E' : List (Nat × Value)} {a : Act} {w w' w0 w1 : World} {Q : Exit → Act → World → Prop} {ops : Array Oper} {v : Value}
variable {d : Option Nat} {ty : TypeId} {pos : String} {af : Array Edge} {g : Option (Nat × Bool)} {x y z : Operand} {t : TypeId} {rest : List Oper}
section
variable {k : IntKind} {i j : Int} {u : TypeId}
end
end
end Go.Proofs.Ytkijhejjnlmbmaa
