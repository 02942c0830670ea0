/-
  Slices of integers that came in, opened; two slices of the same integers are equal.
-/
import Derived.Test.YtclobldldddjnaaMem
import Derived.Test.YtclobldldddjnaaOpen
import Derived.Test.YtclobldldddjnaaShelf
set_option linter.unusedVariables false
namespace Go.Proofs.Ytclobldldddjnaa
open Go.RowKit

def cellsI (l : List Int) : List Value := l.map (Value.int .i64)
theorem cellsI_len (l : List Int) : (cellsI l).length = l.length := by unfold cellsI; simp
theorem cellsI_get (l : List Int) (i : Nat) (h : i < l.length) : (cellsI l)[i]? = some (.int .i64 l[i]) := by unfold cellsI; simp [h]
theorem cellsI_snoc (l : List Int) (x : Int) : cellsI (l ++ [x]) = cellsI l ++ [.int .i64 x] := by unfold cellsI; simp
def GI (_ : Nat) (u : Value) : Prop := ∃ n : Int, u = .int .i64 n
theorem infoI64 : (Try.prog.info? 3).map (fun i => (i.zero, i.size, i.bytes)) = some (some (.int .i64 0), 1, 8) := by kernel_rfl
def I64 (l : List Int) : Prop := ∀ x ∈ l, -9223372036854775808 ≤ x ∧ x ≤ 9223372036854775807
theorem wf64 {x : Int} (h : (Lit.int .i64 x).wf = true) : -9223372036854775808 ≤ x ∧ x ≤ 9223372036854775807 := by
  simp [Lit.wf, IntKind.min, IntKind.max, IntKind.signed, IntKind.bits] at h
  omega
theorem ints_open {w : World} {A : Option Addr} {n c : Nat} (h : (.slice (.int .i64) 8 : Sh).Ok w [.slice A n c]) :
    n ≤ c ∧ c ≤ 17592186043904 ∧ (A = none → n = 0 ∧ c = 0) ∧ ∃ l : List Int, l.length = n ∧ I64 l ∧ Rd w 1 A n (cellsI l) := by
  rcases h with h | ⟨a, len, cap, h, hl, hm, hr, hi⟩
  · simp at h
    obtain ⟨rfl, rfl, rfl⟩ := h
    exact ⟨Nat.le_refl _, by decide, fun _ => ⟨rfl, rfl⟩, [], rfl, (fun x hx => by cases hx), Rd.zero _ _ _⟩
  · simp at h
    obtain ⟨rfl, rfl, rfl⟩ := h
    refine ⟨hl, by omega, fun h => (by cases h), ?_⟩
    have hi2 : ∀ i, i < n → ∃ x : Int, w.cell? (a.add i) = some (.int .i64 x) ∧ -9223372036854775808 ≤ x ∧ x ≤ 9223372036854775807 := by
      intro i hic
      obtain ⟨es, hes, hc, x, rfl, hwf⟩ := hi i (by omega)
      have := hc 0 _ rfl
      simp only [Sh.size, Nat.mul_one, Nat.add_zero] at this
      exact ⟨x, this, wf64 hwf⟩
    obtain ⟨l, hll, hlx⟩ := list_of n _ hi2
    refine ⟨l, hll, fun x hx => ?_, by rw [cellsI_len, hll, Nat.mul_one], fun h0 => ?_⟩
    · obtain ⟨j, hj, rfl⟩ := List.mem_iff_getElem.1 hx
      exact (hlx j hj).2
    · obtain ⟨b, off, spot⟩ := a
      have hc := (hlx 0 (by omega)).1
      have hspot : spot = none := by simpa [Addr.add] using World.cell?_spot hc
      subst hspot
      refine ⟨b, off, rfl, fun j u hu => ?_⟩
      have hj : j < l.length := by have := (List.getElem?_eq_some_iff.1 hu).1; rwa [cellsI_len] at this
      rw [cellsI_get l j hj] at hu
      have := (hlx j hj).1
      rw [addAt] at this
      rw [this, ← hu]
theorem allEq_same {α : Type} (eq : α → α → Bool) (h : ∀ x, eq x x = true) : ∀ l : List α, Lib.allEq eq l l = true
  | [] => rfl
  | x :: xs => by rw [Lib.allEq, h, allEq_same eq h xs]; rfl
theorem equalI_empty (A B : Option Addr) (c d : Nat) (w : World) : Calls Try.prog 41 #[.slice A 0 c, .slice B 0 d] w fun e w' => e = .returned (.bool true) ∧ ∃ q, w' = w.drewN q := by
  go_enter Try.func41, Try.ntmps41
  go_wp2_with fail
  refine wp_loop_rounds 1 ?_
  rw [rounds_succ]
  go_wp2_with fail
  go_ret
  exact ⟨rfl, 0, rfl⟩
/-- Two slices of the same integers. -/
theorem equalI_same {w : World} {A B : Option Addr} {n c d : Nat} {l : List Int} (hn : n ≤ 9223372036854775807) (h1 : Rd w 1 A n (cellsI l)) (h2 : Rd w 1 B n (cellsI l)) :
    Calls Try.prog 41 #[.slice A n c, .slice B n d] w fun e w' => e = .returned (.bool true) ∧ ∃ q, w' = w.drewN q := by
  by_cases h0 : 0 < n
  · obtain ⟨b1, o1, rfl, hc1⟩ := h1.2 h0
    obtain ⟨b2, o2, rfl, hc2⟩ := h2.2 h0
    have hl : l.length = n := by have := h1.1; rw [cellsI_len] at this; omega
    have hc : ∀ (b o : Nat), (∀ j u, (cellsI l)[j]? = some u → w.cell? ⟨b, o + j, none⟩ = some u) → ∀ j, j < l.length → w.cell? ⟨b, o + j, none⟩ = some (.int .i64 l[j]!) := by
      intro b o h j hj
      rw [h j _ (cellsI_get l j hj)]
      simp [hj]
    have h := Try.slices_Equal_f41 (Value.int .i64) (fun x y => x == y) (NeqAt.int _ _ _) b1 o1 n c b2 o2 n d l l w (by omega) (by omega) hn hn (hc b1 o1 hc1) (hc b2 o2 hc2)
    rw [allEq_same _ (fun x => by simp)] at h
    exact h
  · obtain rfl : n = 0 := by omega
    exact equalI_empty A B c d w
end Go.Proofs.Ytclobldldddjnaa
