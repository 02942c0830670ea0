/-
  mustkeep.treeLives holds.
-/
import Derived.Test.YtmooknaljkeaaaaTreeG
set_option linter.unusedVariables false
namespace Go.Proofs.Ytmooknaljkeaaaa.Tree
open Go.RowKit Go.Proofs.Ytmooknaljkeaaaa Go.Proofs.Ytmooknaljkeaaaa.Bv Go.Proofs.Ytmooknaljkeaaaa.Mark

theorem known : rootL [[97], [98], [99]] = pairF (pairF (leafF [97]) (leafF [98])) (leafF [99]) ∧ rootL [[97], [98], [99]] ≠ leafF [97] := by decide +kernel
set_option maxRecDepth 100000 in
theorem lives_any (w : World) : Calls Try.prog 17 #[] w fun e w' => e = .returned (.bool true) ∧ Below w.heap.size w w' := by
  have hb0 : Below w.heap.size w (w.alloc (.cells #[.string ⟨#[97]⟩, .string ⟨#[98]⟩, .string ⟨#[99]⟩] 9)) := (Below.refl _ _).alloc (Nat.le_refl _) _
  have hA := Blk.new w [.string ⟨#[97]⟩, .string ⟨#[98]⟩, .string ⟨#[99]⟩] 9 (0, 0)
  have hr : Rd (w.alloc (.cells #[.string ⟨#[97]⟩, .string ⟨#[98]⟩, .string ⟨#[99]⟩] 9)) 1 (some ⟨w.heap.size, 0, none⟩) 3 (cellsS [⟨#[97]⟩, ⟨#[98]⟩, ⟨#[99]⟩]) :=
    ⟨rfl, fun _ => ⟨w.heap.size, 0, rfl, fun j u hu => by rw [Nat.zero_add]; exact (hA.cell j).trans hu⟩⟩
  have hroot := rootf_any (some ⟨w.heap.size, 0, none⟩) 3 3 [⟨#[97]⟩, ⟨#[98]⟩, ⟨#[99]⟩] _ (by decide) (by decide) (by decide) (by intro s hs; simp at hs; rcases hs with rfl | rfl | rfl <;> decide) hr
  have ha := leaf_any ⟨#[97]⟩ (by decide)
  have hb := leaf_any ⟨#[98]⟩ (by decide)
  have hc := leaf_any ⟨#[99]⟩ (by decide)
  obtain ⟨k1, k2⟩ := known
  have e1 : rootL (lists [⟨#[97]⟩, ⟨#[98]⟩, ⟨#[99]⟩]) = rootL [[97], [98], [99]] := rfl
  rw [e1] at hroot
  have e2 : leafF (ByteArray.mk #[97]).data.toList = leafF [97] := rfl
  have e3 : leafF (ByteArray.mk #[98]).data.toList = leafF [98] := rfl
  have e4 : leafF (ByteArray.mk #[99]).data.toList = leafF [99] := rfl
  rw [e2] at ha
  rw [e3] at hb
  rw [e4] at hc
  clear e1 e2 e3 e4 hr hA
  generalize rootL [[97], [98], [99]] = r at *
  generalize leafF [97] = a at *
  generalize leafF [98] = b at *
  generalize leafF [99] = c at *
  have hp1 := pair_any a b
  have hp2 := pair_any (pairF a b) c
  generalize pairF (pairF a b) c = p2 at *
  generalize pairF a b = p1 at *
  subst k1
  have hne : (U r == U a) = false := by rw [beq_eq_false_iff_ne]; exact fun h => k2 (U_inj h)
  have hne2 : (U r != U a) = true := by rw [bne_iff_ne]; exact fun h => k2 (U_inj h)
  clear k2
  go_enter Try.func17, Try.ntmps17
  go_wp2_with fail
  refine hroot.mono ?_
  rintro e w1 ⟨rfl, q, rfl⟩
  go_wp2_with fail
  refine (ha _).mono ?_
  rintro e w1 ⟨rfl, q1, rfl⟩
  go_wp2_with fail
  refine (hb _).mono ?_
  rintro e w1 ⟨rfl, q2, rfl⟩
  go_wp2_with fail
  refine (hp1 _).mono ?_
  rintro e w1 ⟨rfl, rfl⟩
  go_wp2_with fail
  refine (hc _).mono ?_
  rintro e w1 ⟨rfl, q3, rfl⟩
  go_wp2_with fail
  refine (hp2 _).mono ?_
  rintro e w1 ⟨rfl, rfl⟩
  go_wp2_with fail
  refine (ha _).mono ?_
  rintro e w1 ⟨rfl, q4, rfl⟩
  go_wp2_with fail
  go_ret
  exact ⟨rfl, below_drewN hb0 _⟩
end Go.Proofs.Ytmooknaljkeaaaa.Tree
