/-
  mustkeep.voteLives holds.
-/
import Derived.Test.YtclobldldddjnaaVoteF
set_option linter.unusedVariables false
namespace Go.Proofs.Ytclobldldddjnaa.Vote
open Go.RowKit Go.Proofs.Ytclobldldddjnaa Go.Proofs.Ytclobldldddjnaa.Bv

def z16 : List Nat := List.replicate 16 0
theorem vals : check 7 z16 = 0 ∧ memb 7 0 = true ∧ memb 7 1 = true ∧ memb 7 2 = true ∧
    purge 16 7 (z16.set 2 ((0 : Nat) ||| 2 ^ 0)) = (7, z16.set 2 1) ∧ check 7 (z16.set 2 1) = 0 ∧
    purge 16 7 ((z16.set 2 1).set 2 ((1 : Nat) ||| 2 ^ 1)) = (3, z16) ∧ memb 3 2 = false := by decide +kernel
set_option maxRecDepth 100000 in
theorem lives_any (w : World) : Calls Try.prog 23 #[] w fun e w' => e = .returned (.bool true) ∧ Below w.heap.size w w' := by
  obtain ⟨i0, hi, hz0, hz1, hz2⟩ := info_parts infoU32
  go_enter Try.func23, Try.ntmps23
  go_wp2_with (at_make; refine wpList_make_full _ rfl _ _ 44 rfl w.heap.size 42 i0 (.int .u32 0) 1 Try.underlying44 hi hz0 hz1 .i64 .i64 _ _ 16 rfl rfl rfl rfl ?c1 ?c2 ?c3 ?_)
  case c1 => rw [hz2]; decide
  case c2 => decide
  case c3 => exact Nat.le_refl _
  intro w1 hown hgrow
  have hb := (Below.refl w.heap.size w).grown hgrow (Nat.le_refl _) (by intro k hk; cases hk)
  have hown : w1.ownsRow w.heap.size 42 1 (.slice (some ⟨w.heap.size, 0, none⟩) 16 16) 16 (cellsU z16) := by simpa [toList_madeCells_one, Value.cells, cellsU, z16] using hown
  have hs := sets_of hown rfl (by decide)
  have hA := Blk.new w1 [.int .u32 7, .slice (some ⟨w.heap.size, 0, none⟩) 16 16] 46 (0, 0)
  have hbA := (Below.refl w1.heap.size w1).alloc (Nat.le_refl _) (.cells #[.int .u32 7, .slice (some ⟨w.heap.size, 0, none⟩) 16 16] 46)
  have hc1 := cast_good 7 (by decide) z16 rfl w.heap.size 0 16 0 2 (by decide) (by decide) _ (hs.later hbA) vals.1 vals.2.1 vals.2.2.2.1 (by decide) (by decide)
  rw [show z16[2] = 0 from rfl, vals.2.2.2.2.1] at hc1
  have m1 : memb 7 ((2 : Nat) : Int) = true := vals.2.2.2.1
  rw [m1] at hc1
  have hb1 := hb.trans (hbA.mono hb.size)
  clear hgrow hown hs hbA
  go_wp2_with fail
  refine hc1.mono ?_
  rintro e w2 ⟨r, c', rfl, hb2, hown2⟩
  have hB1 : w1.heap.size < (w1.alloc (.cells #[.int .u32 7, .slice (some ⟨w.heap.size, 0, none⟩) 16 16] 46)).heap.size := hA.lt
  have hA2 := hA.later hb2
  have y1 : w2.cell? ⟨w1.heap.size, 0, none⟩ = some (.int .u32 7) := hA2.cell 0
  have y2 : w2.cell? ⟨w1.heap.size, 1, none⟩ = some (.slice (some ⟨w.heap.size, 0, none⟩) 16 16) := hA2.cell 1
  have g1 : w2.frozen? ⟨w1.heap.size, 0, none⟩ = false := hA2.free 0 (.inr (Nat.zero_le _))
  have g2 : w2.frozen? ⟨w1.heap.size, 1, none⟩ = false := hA2.free 1 (.inr (Nat.zero_le _))
  have hA3 : Blk ((w2.setCell ⟨w1.heap.size, 0, none⟩ (.int .u32 7)).setCell ⟨w1.heap.size, 1, none⟩ (.slice (some ⟨r, 0, none⟩) 16 c')) w1.heap.size [.int .u32 7, .slice (some ⟨r, 0, none⟩) 16 c'] 46 (0, 0) := (hA2.set 0 _).set 1 _
  have hown3 := ownsRow_setCell_below (ownsRow_setCell_below hown2 (a := ⟨w1.heap.size, 0, none⟩) hB1 (.int .u32 7)) (a := ⟨w1.heap.size, 1, none⟩) hB1 (.slice (some ⟨r, 0, none⟩) 16 c')
  have hb3 : Below w.heap.size w ((w2.setCell ⟨w1.heap.size, 0, none⟩ (.int .u32 7)).setCell ⟨w1.heap.size, 1, none⟩ (.slice (some ⟨r, 0, none⟩) 16 c')) := ((hb1.trans (hb2.mono hb1.size)).setCell (p := ⟨w1.heap.size, 0, none⟩) hb.size _).setCell (p := ⟨w1.heap.size, 1, none⟩) hb.size _
  have hc2 := cast_good 7 (by decide) (z16.set 2 1) rfl r 0 c' 1 2 (by decide) (by decide) _ (sets_of hown3 rfl (by decide)) vals.2.2.2.2.2.1 vals.2.2.1 vals.2.2.2.1 (by decide) (by decide)
  rw [show (z16.set 2 1)[2] = 1 from rfl, vals.2.2.2.2.2.2.1] at hc2
  have m2 : memb 3 ((2 : Nat) : Int) = false := vals.2.2.2.2.2.2.2
  rw [m2] at hc2
  have y3 := hA3.cell 0
  have y4 := hA3.cell 1
  simp only [List.getElem?_cons_zero, List.getElem?_cons_succ] at y3 y4
  clear hown2 hown3 hc1 hA
  go_wp2_with fail
  refine hc2.mono ?_
  rintro e w3 ⟨r', c'', rfl, hb4, hown4⟩
  have hA4 := hA3.later hb4
  have z1 : w3.cell? ⟨w1.heap.size, 0, none⟩ = some (.int .u32 7) := hA4.cell 0
  have z2 : w3.cell? ⟨w1.heap.size, 1, none⟩ = some (.slice (some ⟨r, 0, none⟩) 16 c') := hA4.cell 1
  have z3 : w3.frozen? ⟨w1.heap.size, 0, none⟩ = false := hA4.free 0 (.inr (Nat.zero_le _))
  have z4 : w3.frozen? ⟨w1.heap.size, 1, none⟩ = false := hA4.free 1 (.inr (Nat.zero_le _))
  have hb5 := (hb3.trans (hb4.mono hb3.size))
  have hb6 := (hb5.setCell (p := ⟨w1.heap.size, 0, none⟩) hb.size (.int .u32 3)).setCell (p := ⟨w1.heap.size, 1, none⟩) hb.size (.slice (some ⟨r', 0, none⟩) 16 c'')
  have hA5 : Blk ((w3.setCell ⟨w1.heap.size, 0, none⟩ (.int .u32 3)).setCell ⟨w1.heap.size, 1, none⟩ (.slice (some ⟨r', 0, none⟩) 16 c'')) w1.heap.size [.int .u32 3, .slice (some ⟨r', 0, none⟩) 16 c''] 46 (0, 0) := (hA4.set 0 _).set 1 _
  have z5 := hA5.cell 0
  have z6 := hA5.cell 1
  simp only [List.getElem?_cons_zero, List.getElem?_cons_succ] at z5 z6
  clear hown4 hc2
  go_wp2_with fail
  go_ret
  exact ⟨rfl, hb6⟩
end Go.Proofs.Ytclobldldddjnaa.Vote
