/-
  The walk over slots: a slice of one's own is cut to its first so many; its tail is cleared.
-/
import Derived.Test.YtffjpfpbpnhmcaaGolR
import Derived.Laws.IdiomCopy
set_option linter.unusedVariables false
set_option linter.unusedSimpArgs false
namespace Go.Proofs.Ytffjpfpbpnhmcaa
open Go.RowKit

namespace Rep
variable {α : Type} {R : Rep α}
theorem SOwn.fsts {E by_ B c : Nat} {A : Option Addr} {l : List α} {w : World} {ps : List (List Nat × List Value)} (hp : R.Bare) (hall : All2 (fun x a => R.own w B x.1 x.2 a) ps l) : ∀ y ∈ ps, y.1 = [] := fun y hy => by
  obtain ⟨b, hb⟩ := hall.left y hy
  exact hp.2 hb
theorem fst_flat {ps : List (List Nat × List Value)} (h : ∀ y ∈ ps, y.1 = []) : (ps.map (·.1)).flatten = [] := by
  rw [List.flatten_eq_nil_iff]
  intro x hx
  obtain ⟨y, hy, rfl⟩ := List.mem_map.1 hx
  exact h y hy
/-- The first so many of a slice of one's own. -/
theorem SOwn.cut {E by_ B c : Nat} {A : Option Addr} {l : List α} {w : World} (h : R.SOwn E by_ w B (blkOf A) A c l) (hp : R.Bare) (k : Nat) (hk : k ≤ l.length) : R.SOwn E by_ w B (blkOf A) A c (l.take k) := by
  obtain ⟨hb, ps, hf, hn, ho, hall⟩ := h
  have hl := olens hall
  have hpl : ps.length = l.length := hall.length
  have h1 := SOwn.fsts (E := E) (by_ := by_) (c := c) (A := A) hp hall
  have hlen : (l.take k).length = k := by rw [List.length_take]; omega
  have hm := Nat.mul_le_mul_right by_ hk
  refine ⟨by rw [hlen]; omega, ps.take k, ?_, hn, ?_, hall.take_ k⟩
  · rw [fst_flat fun y hy => h1 y (List.mem_of_mem_take hy), List.append_nil]
  · rw [hlen, List.map_take, flatten_take k hl]
    obtain ⟨hx1, hx2⟩ := ho
    have hle : k * R.size ≤ l.length * R.size := Nat.mul_le_mul_right _ hk
    refine ⟨by rw [List.length_take, hx1]; omega, ?_⟩
    rcases hx2 with ⟨hx2, hx3⟩ | ⟨g, cap, cur, hv, hB, hh, hnc, hcm, hs, ht, hG⟩
    · injection hx2 with e1 e2 e3
      subst e1 e3
      have : k = 0 := by omega
      subst this
      exact .inl ⟨rfl, rfl⟩
    · injection hv with e1 e2 e3
      subst e1 e3
      exact .inr ⟨g, c, cur, rfl, hB, hh, by omega, hcm, hs, by rw [← ht, List.take_take, Nat.min_eq_left hle], hG⟩
theorem Mod.setCells (g : Nat) : ∀ (zs : List Value) (o : Nat) (w : World), Mod [g] w (w.setCells g o zs)
  | [], _, w => Mod.of_ext (Ext.rf w)
  | v :: r, o, w => by
    rw [World.setCells]
    exact (Mod.setCell w ⟨g, o, none⟩ v).trans (Mod.setCells g r (o + 1) _)
end Rep
section
variable {P : Program} {n : Nat} {E E' : List (Nat × Value)} {a : Act} {w w' w0 w1 : World} {Q : Exit → Act → World → Prop} {ops : Array Oper} {v : Value}
variable {d : Option Nat} {ty : TypeId} {pos : String} {af : Array Edge} {g : Option (Nat × Bool)} {x y z : Operand} {t : TypeId} {rest : List Oper}
theorem sT {A : Option Addr} {len cap e s : Nat} {k : IntKind} (lo : Nat) {i : Int} (ht : P.underlying t = some (.slice e)) (hs : Sz P e s) (hx : ev E x = some (.slice A len cap)) (hy : ev E y = some (.int k i)) (hi : i = (lo : Int)) (h1 : lo ≤ len) :
    Runs P E ⟨d, .slice t x (some y) none none, ty, pos, af, g⟩ w (.slice (sA A cap lo s) (len - lo) (cap - lo)) w := fun n a ha => by
  subst hi
  have q1 : P.underlying t = some (.slice (P.elem t)) := by simp [Program.elem, ht]
  have q2 : P.elem t = e := by simp [Program.elem, ht]
  have h3 := run_slice_l (P := P) (w := w) t A len cap q1 k (lo : Int) (by omega) (by omega)
  have h4 := run_sliceAt_slice (P := P) (w := w) t (.slice A len cap) (some (.int k (lo : Int))) none none q1
  rw [q2, hs w] at h3
  simp only [execOp, ha.ev hx, ha.ev hy, Option.map, h4, h3, Sem.run_bind, Result.andThen_ok, Sem.run_pure, sliced, Int.toNat_natCast, sA]
section
variable {k : IntKind} {i j : Int} {u : TypeId}
end
end
end Go.Proofs.Ytffjpfpbpnhmcaa
