/-
  A small world; troopLives. (Printed by bin/troK.py.)
-/
import Derived.Test.YthjolbdjokopnaaTroJ
set_option linter.unusedVariables false
namespace Go.Proofs.Ythjolbdjokopnaa
open Go.RowKit

/-- What lies at the begin of a block, read as a slice. -/
theorem has_of_blk {α : Type} {R : Rep α} {by_ : Nat} {w : World} {g : Nat} {cs : List Value} {t : TypeId} {fr : Nat × Nat} (h : Blk w g cs t fr) {l : List α} {ess : List (List Value)} (he : cs = ess.flatten) (ha : All2 (fun es a => R.has w es a) ess l)
    (hl : l.length ≤ 9223372036854775807) (hb : l.length * by_ ≤ 140737488355328) : R.SHas by_ w (some ⟨g, 0, none⟩) l.length l :=
  ⟨Nat.le_refl _, hl, hb, (fun h => by cases h), ess, ha, by rw [flat_len (Rep.lens ha), ha.length], fun _ => ⟨g, 0, rfl, fun j u hu => by rw [Nat.zero_add, h.cell j, he]; exact hu⟩⟩
def smallW : Wd := ⟨⟨3, 1, [0, 0, 3]⟩, [⟨0, 0⟩], [20], [0, 0, 9], [⟨1, 0, 1, ⟨1, 0⟩, 10, 0⟩], 2, 0⟩
def smallAt (s : Nat) : Wd.At := ⟨some ⟨s + 1, 0, none⟩, some ⟨s + 1 + 1, 0, none⟩, some ⟨s + 1 + 1 + 1, 0, none⟩, some ⟨s + 1 + 1 + 1 + 1, 0, none⟩, some ⟨s + 1 + 1 + 1 + 1 + 1, 0, none⟩, 3, 1, 1, 3, 1⟩
set_option maxRecDepth 100000 in
set_option maxHeartbeats 4000000 in
theorem small_any (w : World) :
    Calls Try.prog 55 #[] w fun e w' => e = .returned (.agg (Wd.cells (smallAt w.heap.size) smallW).toArray) ∧ Wd.Has w' (smallAt w.heap.size) smallW ∧ Below w.heap.size w w' := by
  obtain ⟨w0, hw0⟩ : ∃ x, x = w.alloc (.cells #[.int .i64 3, .int .i64 1, .slice (some ⟨w.heap.size + 1, 0, none⟩) 3 3, .slice (some ⟨w.heap.size + 1 + 1, 0, none⟩) 1 1, .slice (some ⟨w.heap.size + 1 + 1 + 1, 0, none⟩) 1 1, .slice (some ⟨w.heap.size + 1 + 1 + 1 + 1, 0, none⟩) 3 3, .slice (some ⟨w.heap.size + 1 + 1 + 1 + 1 + 1, 0, none⟩) 1 1, .int .i64 2, .int .i64 0] 81) := ⟨_, rfl⟩
  have hb0 : Below w.heap.size w w0 := by rw [hw0]; exact below_alloc0 _ _
  have B0 : Blk w0 w.heap.size (Wd.cells (smallAt w.heap.size) smallW) 81 (0, 0) := by rw [hw0]; exact Blk.new _ _ _ _
  have s0 : w0.heap.size = w.heap.size + 1 := by rw [hw0]; simp
  obtain ⟨w1, hw1⟩ : ∃ x, x = w0.alloc (.cells #[.int .i64 0, .int .i64 0, .int .i64 3] 3) := ⟨_, rfl⟩
  have hb1 : Below w0.heap.size w0 w1 := by rw [hw1]; exact below_alloc0 _ _
  have B1 : Blk w1 w0.heap.size [.int .i64 0, .int .i64 0, .int .i64 3] 3 (0, 0) := by rw [hw1]; exact Blk.new _ _ _ _
  have s1 : w1.heap.size = w.heap.size + 1 + 1 := by rw [hw1, World.size_alloc, s0]
  rw [s0] at B1
  obtain ⟨w2, hw2⟩ : ∃ x, x = w1.alloc (.cells #[.int .i64 0, .int .i64 0] 85) := ⟨_, rfl⟩
  have hb2 : Below w1.heap.size w1 w2 := by rw [hw2]; exact below_alloc0 _ _
  have B2 : Blk w2 w1.heap.size [.int .i64 0, .int .i64 0] 85 (0, 0) := by rw [hw2]; exact Blk.new _ _ _ _
  have s2 : w2.heap.size = w.heap.size + 1 + 1 + 1 := by rw [hw2, World.size_alloc, s1]
  rw [s1] at B2
  obtain ⟨w3, hw3⟩ : ∃ x, x = w2.alloc (.cells #[.int .i64 20] 3) := ⟨_, rfl⟩
  have hb3 : Below w2.heap.size w2 w3 := by rw [hw3]; exact below_alloc0 _ _
  have B3 : Blk w3 w2.heap.size [.int .i64 20] 3 (0, 0) := by rw [hw3]; exact Blk.new _ _ _ _
  have s3 : w3.heap.size = w.heap.size + 1 + 1 + 1 + 1 := by rw [hw3, World.size_alloc, s2]
  rw [s2] at B3
  obtain ⟨w4, hw4⟩ : ∃ x, x = w3.alloc (.cells #[.int .i64 0, .int .i64 0, .int .i64 9] 3) := ⟨_, rfl⟩
  have hb4 : Below w3.heap.size w3 w4 := by rw [hw4]; exact below_alloc0 _ _
  have B4 : Blk w4 w3.heap.size [.int .i64 0, .int .i64 0, .int .i64 9] 3 (0, 0) := by rw [hw4]; exact Blk.new _ _ _ _
  have s4 : w4.heap.size = w.heap.size + 1 + 1 + 1 + 1 + 1 := by rw [hw4, World.size_alloc, s3]
  rw [s3] at B4
  obtain ⟨w5, hw5⟩ : ∃ x, x = w4.alloc (.cells #[.int .i64 1, .int .i64 0, .int .i64 1, .int .i64 1, .int .i64 0, .int .i64 10, .int .i64 0] 87) := ⟨_, rfl⟩
  have hb5 : Below w4.heap.size w4 w5 := by rw [hw5]; exact below_alloc0 _ _
  have B5 : Blk w5 w4.heap.size [.int .i64 1, .int .i64 0, .int .i64 1, .int .i64 1, .int .i64 0, .int .i64 10, .int .i64 0] 87 (0, 0) := by rw [hw5]; exact Blk.new _ _ _ _
  have s5 : w5.heap.size = w.heap.size + 1 + 1 + 1 + 1 + 1 + 1 := by rw [hw5, World.size_alloc, s4]
  rw [s4] at B5
  have H1 : Rep.SHas repI 8 w5 (some ⟨w.heap.size + 1, 0, none⟩) (List.length ([0, 0, 3] : List Int)) [0, 0, 3] := has_of_blk (R := repI) ((((B1.later hb2).later hb3).later hb4).later hb5) (ess := [[.int .i64 0], [.int .i64 0], [.int .i64 3]]) rfl ⟨⟨rfl, rfl⟩, ⟨rfl, rfl⟩, ⟨rfl, rfl⟩, trivial⟩ (by decide) (by decide)
  have H2 : Rep.SHas Cel.rep 16 w5 (some ⟨w.heap.size + 1 + 1, 0, none⟩) (List.length ([⟨0, 0⟩] : List Cel)) [⟨0, 0⟩] := has_of_blk (R := Cel.rep) (((B2.later hb3).later hb4).later hb5) (ess := [[.int .i64 0, .int .i64 0]]) rfl ⟨⟨rfl, rfl, rfl⟩, trivial⟩ (by decide) (by decide)
  have H3 : Rep.SHas repI 8 w5 (some ⟨w.heap.size + 1 + 1 + 1, 0, none⟩) (List.length ([20] : List Int)) [20] := has_of_blk (R := repI) ((B3.later hb4).later hb5) (ess := [[.int .i64 20]]) rfl ⟨⟨rfl, rfl⟩, trivial⟩ (by decide) (by decide)
  have H4 : Rep.SHas repI 8 w5 (some ⟨w.heap.size + 1 + 1 + 1 + 1, 0, none⟩) (List.length ([0, 0, 9] : List Int)) [0, 0, 9] := has_of_blk (R := repI) (B4.later hb5) (ess := [[.int .i64 0], [.int .i64 0], [.int .i64 9]]) rfl ⟨⟨rfl, rfl⟩, ⟨rfl, rfl⟩, ⟨rfl, rfl⟩, trivial⟩ (by decide) (by decide)
  have H5 : Rep.SHas Trp.rep 56 w5 (some ⟨w.heap.size + 1 + 1 + 1 + 1 + 1, 0, none⟩) (List.length ([⟨1, 0, 1, ⟨1, 0⟩, 10, 0⟩] : List Trp)) [⟨1, 0, 1, ⟨1, 0⟩, 10, 0⟩] := has_of_blk (R := Trp.rep) B5 (ess := [[.int .i64 1, .int .i64 0, .int .i64 1, .int .i64 1, .int .i64 0, .int .i64 10, .int .i64 0]]) rfl ⟨⟨rfl, rfl, rfl, rfl, rfl, rfl, rfl, rfl⟩, trivial⟩ (by decide) (by decide)
  have t1 := hb0.trans (hb1.mono hb0.size)
  have t2 := t1.trans (hb2.mono t1.size)
  have t3 := t2.trans (hb3.mono t2.size)
  have t4 := t3.trans (hb4.mono t3.size)
  have t5 := t4.trans (hb5.mono t4.size)
  have HW := Lib.hid (And.intro (show Wd.Has w5 (smallAt w.heap.size) smallW from ⟨H1, H2, H3, H4, H5, rfl, rfl, rfl, rfl⟩) t5)
  have E := Lib.hid (show w5 = _ from hw5.trans (by rw [hw4, hw3, hw2, hw1, hw0]))
  have HB0 := Lib.hid (((((B0.later hb1).later hb2).later hb3).later hb4).later hb5)
  clear B0 hb0 hb1 hb2 hb3 hb4 hb5 B1 B2 B3 B4 B5 s0 s1 s2 s3 s4 s5 H1 H2 H3 H4 H5 t1 t2 t3 t4 t5 hw0 hw1 hw2 hw3 hw4 hw5
  go_enter Try.func55, Try.ntmps55
  go_wp2_with fail
  refine bodyPost_ret (v := .agg (Wd.cells (smallAt w.heap.size) smallW).toArray) ?_ rfl ?_
  · rw [← E.out]
    obtain ⟨c0, c1, c2, c3, c4, c5, c6, c7, c8⟩ := Wd.wblk HB0.out
    simp [results, Try.results55, go_sem, c0, c1, c2, c3, c4, c5, c6, c7, c8]
    rfl
  · rw [← E.out]
    exact ⟨rfl, HW.out.1, HW.out.2⟩
def smallCells (s : Nat) : Value := .agg #[.int .i64 3, .int .i64 1, .slice (some ⟨s + 1, 0, none⟩) 3 3, .slice (some ⟨s + 1 + 1, 0, none⟩) 1 1, .slice (some ⟨s + 1 + 1 + 1, 0, none⟩) 1 1, .slice (some ⟨s + 1 + 1 + 1 + 1, 0, none⟩) 3 3, .slice (some ⟨s + 1 + 1 + 1 + 1 + 1, 0, none⟩) 1 1, .int .i64 2, .int .i64 0]
theorem small_chk : smallW.chk = 0 := by decide +kernel
theorem small_f : whichI smallW (isId 1) = 0 ∧ whichB smallW (isId 1) = true := by decide +kernel
theorem small_o : whichI smallW (isAt ⟨2, 0⟩) = 0 ∧ whichB smallW (isAt ⟨2, 0⟩) = false := by decide +kernel
theorem small_n : nearE smallW 1 = 0 ∧ nearIds smallW ⟨0, 0⟩ 1 = [1] := by decide +kernel
theorem small_find (s : Nat) (V : World) (h : Wd.Has V (smallAt s) smallW) : Calls Try.prog 37 #[.agg (Wd.cells (smallAt s) smallW).toArray, .int .i64 1] V fun e w' => e = .returned (.tuple #[.int .i64 0, .bool true, .int .i64 0]) ∧ Below V.heap.size V w' := by
  have := find_any 1 (smallAt s) smallW V h
  unfold FindPost at this
  rw [small_f.1, small_f.2, small_chk] at this
  exact this
theorem small_on (s : Nat) (V : World) (h : Wd.Has V (smallAt s) smallW) : Calls Try.prog 39 #[.agg (Wd.cells (smallAt s) smallW).toArray, .agg #[.int .i64 2, .int .i64 0]] V fun e w' => e = .returned (.tuple #[.int .i64 0, .bool false, .int .i64 0]) ∧ Below V.heap.size V w' := by
  have := on_any ⟨2, 0⟩ (smallAt s) smallW V h
  unfold FindPost at this
  rw [small_o.1, small_o.2, small_chk] at this
  exact this
theorem small_near (s : Nat) (V : World) (h : Wd.Has V (smallAt s) smallW) : Calls Try.prog 40 #[.agg (Wd.cells (smallAt s) smallW).toArray, .agg #[.int .i64 0, .int .i64 0], .int .i64 1] V
    fun e w' => ∃ A k f, e = .returned (.tuple #[.slice A 1 k, .int .i64 0]) ∧ repI.SOwn 3 8 w' V.heap.size f A k [1] ∧ Below V.heap.size V w' := by
  refine (near_any ⟨0, 0⟩ 1 (smallAt s) smallW V h).mono ?_
  rintro e w' ⟨A, k, l, f, he, hl, hso, hb⟩
  rw [small_n.1, small_n.2, if_pos rfl] at hl
  rw [small_n.1] at he
  subst hl
  exact ⟨A, k, f, he, hso, hb⟩
set_option maxRecDepth 100000 in
set_option maxHeartbeats 4000000 in
theorem tlives_any (w : World) : Calls Try.prog 38 #[] w fun e w' => e = .returned (.bool true) ∧ Below w.heap.size w w' := by
  have HS := Lib.hid (fun V => small_any V)
  have HF := Lib.hid (fun s V h => small_find s V h)
  have HO := Lib.hid (fun s V h => small_on s V h)
  have HN := Lib.hid (fun s V h => small_near s V h)
  go_enter Try.func38, Try.ntmps38
  go_wp2_with fail
  refine (HS.out _).mono ?_; rintro e w1 ⟨rfl, hh1, hb1⟩
  go_wp2_with fail
  refine (HF.out _ _ hh1).mono ?_; rintro e w2 ⟨rfl, hb2⟩
  have t2 := hb1.trans (hb2.mono hb1.size)
  clear hh1
  go_wp2_with fail
  refine (HS.out _).mono ?_; rintro e w3 ⟨rfl, hh3, hb3⟩
  have t3 := t2.trans (hb3.mono t2.size)
  go_wp2_with fail
  refine (HO.out _ _ hh3).mono ?_; rintro e w4 ⟨rfl, hb4⟩
  have t4 := t3.trans (hb4.mono t3.size)
  clear hh3
  go_wp2_with fail
  refine (HS.out _).mono ?_; rintro e w5 ⟨rfl, hh5, hb5⟩
  have t5 := t4.trans (hb5.mono t4.size)
  go_wp2_with fail
  refine (HN.out _ _ hh5).mono ?_; rintro e w6 ⟨A, k, f, rfl, hso, hb6⟩
  have t6 := t5.trans (hb6.mono t5.size)
  have hb7 := below_alloc0 w6 (.cells #[.int .i64 1] 3)
  have t7 := t6.trans (hb7.mono t6.size)
  have HEQ := Lib.hid (equal_I A (some ⟨w6.heap.size, 0, none⟩) k 1 8 8 [1] [1] _ (hso.has.keep hb7) (has_of_blk (R := repI) (Blk.new w6 [.int .i64 1] 3 (0, 0)) (l := [1]) (ess := [[.int .i64 1]]) rfl ⟨⟨rfl, rfl⟩, trivial⟩ (by decide) (by decide)))
  clear hh5 hso hb1 hb2 hb3 hb4 hb5 hb6 hb7 t2 t3 t4 t5 t6
  go_wp2_with fail
  refine HEQ.out.mono ?_; rintro e w8 ⟨rfl, hb8⟩
  go_wp2_with fail
  go_ret
  exact ⟨rfl, t7.trans (hb8.mono t7.size)⟩
end Go.Proofs.Ythjolbdjokopnaa
