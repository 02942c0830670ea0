/-
  The walk of vote.Cast where it is cast.
-/
import Derived.Test.YtclobldldddjnaaVoteE
import Derived.Test.YtclobldldddjnaaShelf
set_option linter.unusedVariables false
namespace Go.Proofs.Ytclobldldddjnaa.Vote
open Go.RowKit Go.Proofs.Ytclobldldddjnaa Go.Proofs.Ytclobldldddjnaa.Bv

/-- The parameter's block, and the result's. -/
structure Box (w w1 : World) (x y : List Value) : Prop where
  one : Blk w1 w.heap.size x 46 (0, 0)
  two : Blk w1 (w.heap.size + 1) y 46 (0, 0)
  below : Below w.heap.size w w1
theorem Box.new (w : World) (x y : List Value) : Box w ((w.alloc (.cells x.toArray 46)).alloc (.cells y.toArray 46)) x y := by
  have h1 := Blk.new w x 46 (0, 0)
  have hb : Below w.heap.size w (w.alloc (.cells x.toArray 46)) := (Below.refl w.heap.size w).alloc (Nat.le_refl _) _
  have h2 := Blk.new (w.alloc (.cells x.toArray 46)) y 46 (0, 0)
  have hb2 := hb.alloc hb.size (.cells y.toArray 46)
  exact ⟨h1.later ((Below.refl _ _).alloc (Nat.le_refl _) _), by simpa using h2, hb2⟩
theorem Box.later {w w1 w2 : World} {x y : List Value} (h : Box w w1 x y) (hb : Below w1.heap.size w1 w2) : Box w w2 x y :=
  ⟨h.one.later hb, h.two.later hb, h.below.trans (hb.mono h.below.size)⟩
theorem Box.drew {w w1 : World} {x y : List Value} (h : Box w w1 x y) : Box w w1.drew x y := ⟨h.one, h.two, h.below.drew⟩
theorem Box.cells {w w1 : World} {a b c d : Value} (h : Box w w1 [a, b] [c, d]) :
    w1.cell? ⟨w.heap.size, 0, none⟩ = some a ∧ w1.cell? ⟨w.heap.size, 1, none⟩ = some b ∧ w1.cell? ⟨w.heap.size + 1, 0, none⟩ = some c ∧ w1.cell? ⟨w.heap.size + 1, 1, none⟩ = some d :=
  ⟨h.one.cell 0, h.one.cell 1, h.two.cell 0, h.two.cell 1⟩
theorem infoU32 : (Try.prog.info? 42).map (fun i => (i.zero, i.size, i.bytes)) = some (some (.int .u32 0), 1, 4) := by kernel_rfl

theorem leaveL_lt (l : List Nat) (k : Nat) (h : l.length = 16) : ∀ z ∈ leaveL l k, z < 4294967296 := by
  rw [leaveL_eq l k h]
  intro z hz
  obtain ⟨x, _, rfl⟩ := List.mem_map.1 hz
  exact diff_lt _ _
theorem sets_of {w : World} {base r c : Nat} {l : List Nat} (h : w.ownsRow base 42 1 (.slice (some ⟨r, 0, none⟩) 16 c) 16 (cellsU l)) (hn : l.length = 16) (hs : ∀ z ∈ l, z < 4294967296) : Sets w r 0 l :=
  fun k hk => ⟨by rw [Nat.zero_add, h.cellAt k (by omega), cellsU_get l k hk], hs _ (List.getElem_mem hk)⟩
/-- How many cells of a row are not 0. -/
def nzW (w : World) (r : Nat) : Nat := ((List.range 16).filter fun j => match w.cell? ⟨r, j, none⟩ with | some (.int _ n) => n != 0 | _ => false).length
theorem nz_range (l : List Nat) : nz l = ((List.range l.length).filter fun j => l.getD j 0 != 0).length := by
  have e : l = (List.range l.length).map fun j => l.getD j 0 := by
    apply List.ext_getElem
    · simp
    · intro i h1 h2; simp [h1]
  unfold nz
  conv => lhs; rw [e]
  rw [List.filter_map, List.length_map]
  rfl
theorem nzW_eq {w : World} {base r c : Nat} {l : List Nat} (h : w.ownsRow base 42 1 (.slice (some ⟨r, 0, none⟩) 16 c) 16 (cellsU l)) (hn : l.length = 16) : nzW w r = nz l := by
  rw [nz_range, hn]
  unfold nzW
  congr 1
  apply List.filter_congr
  intro j hj
  have hj' : j < l.length := by rw [hn]; exact List.mem_range.1 hj
  rw [h.cellAt j (by omega), cellsU_get l j hj']
  rw [List.getD_eq_getElem?_getD, List.getElem?_eq_getElem hj']
  by_cases h0 : l[j] = 0
  · simp [h0]
  · have h1 : ((l[j] : Nat) : Int) ≠ 0 := by omega
    show (((l[j] : Nat) : Int) != 0) = (l[j] != 0)
    rw [bne_iff_ne.2 h1, bne_iff_ne.2 h0]
set_option maxHeartbeats 800000 in
set_option maxRecDepth 100000 in
theorem cast_good (m : Nat) (hm : m < 4294967296) (l : List Nat) (hn : l.length = 16) (b o c p q : Nat) (hp : p < 16) (hq : q < 16) (w : World) (hl : Sets w b o l)
    (hc : check m l = 0) (h1 : memb m (p : Int) = true) (h2 : memb m (q : Int) = true) (hpq : p ≠ q) (hbit : (l[q]).testBit p = false) :
    Calls Try.prog 26 #[.agg #[.int .u32 (m : Int), .slice (some ⟨b, o, none⟩) 16 c], .int .i64 (p : Int), .int .i64 (q : Int)] w fun e w' =>
      ∃ r c', e = .returned (.tuple #[.agg #[.int .u32 ((purge 16 m (l.set q (l[q] ||| 2 ^ p))).1 : Int), .slice (some ⟨r, 0, none⟩) 16 c'], .bool (!memb (purge 16 m (l.set q (l[q] ||| 2 ^ p))).1 (q : Int)), .int .i64 0]) ∧ Below w.heap.size w w' ∧
        w'.ownsRow w.heap.size 42 1 (.slice (some ⟨r, 0, none⟩) 16 c') 16 (cellsU (purge 16 m (l.set q (l[q] ||| 2 ^ p))).2) := by
  obtain ⟨i0, hi, hz0, hz1, hz2⟩ := info_parts infoU32
  obtain ⟨hp1, hx⟩ := hl q (by omega)
  have e1 := bit_num l[q] p hx
  rw [hbit] at e1
  have e3 : ((l[q] / 2 ^ p : Nat) : Int) = (l[q] : Int) / 2 ^ p := by simp
  rw [e3] at e1
  have hpq2 : ((p : Int) == (q : Int)) = false := by simp; omega
  have hB := Box.new w [.int .u32 (m : Int), .slice (some ⟨b, o, none⟩) 16 c] [.int .u32 0, .slice none 0 0]
  obtain ⟨x, HX⟩ : ∃ x, Hid (l[q] = x) := ⟨_, Lib.hid rfl⟩
  rw [HX.out] at e1 hx hp1 ⊢
  obtain ⟨y, HYY⟩ : ∃ y, Hid (x ||| 2 ^ p = y) := ⟨_, Lib.hid rfl⟩
  rw [HYY.out]
  obtain ⟨l0, HL0⟩ : ∃ l0, Hid (l.set q y = l0) := ⟨_, Lib.hid rfl⟩
  rw [HL0.out]
  clear e3 hbit
  go_enter Try.func26, Try.ntmps26
  go_wp2_with fail
  refine (check_any m hm l b o c _ (hl.later (((Below.refl _ _).alloc (Nat.le_refl _) _).alloc (by simp) _)) hn).mono ?_
  rintro e w1 ⟨rfl, hb⟩
  replace hB := hB.later hb
  rw [hc]
  clear hb
  obtain ⟨k1, k2, k3, k4⟩ := hB.cells
  go_wp2_with fail
  refine (member_any m hm _ _ _ _ _).mono ?_
  rintro e w2 ⟨rfl, hb⟩
  replace hB := hB.later hb
  rw [h1]
  clear hb k1 k2 k3 k4
  obtain ⟨k1, k2, k3, k4⟩ := hB.cells
  go_wp2_with fail
  refine (member_any m hm _ _ _ _ _).mono ?_
  rintro e w3 ⟨rfl, hb⟩
  replace hB := hB.later hb
  rw [h2]
  clear hb k1 k2 k3 k4
  obtain ⟨k1, k2, k3, k4⟩ := hB.cells
  have hl3 := hl.later hB.below
  have hp3 := (hl3 q (by omega)).1
  rw [HX.out] at hp3
  have hcl : ∀ j u, (cellsU l)[j]? = some u → w3.cell? ⟨b, o + j, none⟩ = some u := by
    intro j u hu
    have hjl : j < l.length := by have := (List.getElem?_eq_some_iff.1 hu).1; rwa [cellsU_len] at this
    rw [cellsU_get l j hjl] at hu
    rw [(hl3 j hjl).1]; exact hu
  go_wp2_with fail
  refine (Try.slices_Clone i0 (.int .u32 0) 1 4 hi hz0 hz1 hz2 rfl (by decide) (by intro w; rfl) b o 16 c (cellsU l) w3 (by rw [cellsU_len]; omega) (by decide) (by decide) hcl ?_).mono ?_
  · intro u hu
    unfold cellsU at hu
    obtain ⟨x, _, rfl⟩ := List.mem_map.1 hu
    rfl
  have hbase : w.heap.size + 1 < w3.heap.size := hB.two.lt
  rintro e w4 ⟨v', rfl, hown, hnil, hb⟩
  obtain ⟨r, c', rfl, hr⟩ : ∃ r c', v' = .slice (some ⟨r, 0, none⟩) 16 c' ∧ w3.heap.size ≤ r := by
    rcases hown.2 with ⟨h, _⟩ | ⟨g, cap, cur, h, hg, _⟩
    · exact absurd h hnil
    · exact ⟨g, cap, h, hg⟩
  replace hB := hB.later hb
  clear hb k1 k2 k3 k4 hcl hnil hp3 hl3
  obtain ⟨k1, k2, k3, k4⟩ := hB.cells
  have f1 : w4.frozen? ⟨w.heap.size, 1, none⟩ = false := hB.one.free 1 (.inr (Nat.zero_le _))
  have hB5 : Box w (w4.setCell ⟨w.heap.size, 1, none⟩ (.slice (some ⟨r, 0, none⟩) 16 c')) [.int .u32 (m : Int), .slice (some ⟨r, 0, none⟩) 16 c'] [.int .u32 0, .slice none 0 0] :=
    ⟨hB.one.set 1 _, hB.two.other (by omega) 1 _, hB.below.setCell (p := ⟨w.heap.size, 1, none⟩) (Nat.le_refl _) _⟩
  have hown5 : (w4.setCell ⟨w.heap.size, 1, none⟩ (.slice (some ⟨r, 0, none⟩) 16 c')).ownsRow w3.heap.size 42 1 (.slice (some ⟨r, 0, none⟩) 16 c') 16 (cellsU l) := ownsRow_setCell_below hown (a := ⟨w.heap.size, 1, none⟩) (by show w.heap.size < _; omega) _
  have HB5 := Lib.hid hB5
  have HO5 := Lib.hid hown5
  clear hB5 hown5 hown
  go_wp2_with fail
  generalize w4.setCell ⟨w.heap.size, 1, none⟩ (.slice (some ⟨r, 0, none⟩) 16 c') = W5 at *
  have hB5 := HB5.out
  have hown5 := HO5.out
  clear hB k1 k2 k3 k4 f1
  obtain ⟨k1, k2, k3, k4⟩ := hB5.cells
  have hrl := (hown5.lt r rfl).2
  have q1 : W5.cell? ⟨r, q, none⟩ = some (.int .u32 (x : Int)) := by
    rw [hown5.cellAt q (by omega), cellsU_get l q (by omega), HX.out]
  have q2 : W5.frozen? ⟨r, q, none⟩ = false := hown5.frozenAt q
  have hP := one_lt (k := p) (by omega)
  have hw : IntKind.u32.wrap (2 ^ p : Int) = ((2 ^ p : Nat) : Int) := by
    have e : (2 ^ p : Int) = ((2 ^ p : Nat) : Int) := by simp
    rw [e]; exact wraps_u32 _ (Int.natCast_nonneg _) (by rw [show (2 : Int) ^ 32 = ((4294967296 : Nat) : Int) from rfl]; exact Int.ofNat_lt.2 hP)
  have hor := or_num x (2 ^ p) hx hP
  have hy := lt_or hx hP
  rw [HYY.out] at hor hy
  generalize hPP : 2 ^ p = P at hw hor hP
  go_region
  have hl0 : (l.set q y).length = 16 := by rw [List.length_set]; exact hn
  have hs0 : ∀ z ∈ l.set q y, z < 4294967296 := by
    intro z hz
    rcases List.mem_or_eq_of_mem_set hz with h | h
    · obtain ⟨j, hj, rfl⟩ := List.mem_iff_getElem.1 h; exact (hl j hj).2
    · rw [h]; exact hy
  have hB6 : Box w (W5.setCell ⟨r, q, none⟩ (.int .u32 (y : Int))).drew [.int .u32 (m : Int), .slice (some ⟨r, 0, none⟩) 16 c'] [.int .u32 0, .slice none 0 0] :=
    ⟨hB5.one.other (by omega) q _, hB5.two.other (by omega) q _, (hB5.below.setCell (p := ⟨r, q, none⟩) (by show w.heap.size ≤ r; omega) _).drew⟩
  have hown6 : (W5.setCell ⟨r, q, none⟩ (.int .u32 (y : Int))).drew.ownsRow w3.heap.size 42 1 (.slice (some ⟨r, 0, none⟩) 16 c') 16 (cellsU (l.set q y)) := by
    have h := (hown5.stored q (.int .u32 (y : Int))).1
    rw [cellsU_set] at h
    exact h
  generalize (W5.setCell ⟨r, q, none⟩ (.int .u32 (y : Int))).drew = W6 at *
  rw [HL0.out] at hl0 hs0 hown6
  clear hB5 hown5 HB5 HO5 k1 k2 k3 k4 q1 q2 hw hor hrl hPP hP e1 hpq2 hc h1 hp1
  obtain ⟨k1, k2, k3, k4⟩ := hB6.cells
  have hou := outvoted_any m hm l0 r 0 c' W6 (sets_of hown6 hl0 hs0) (by omega) (by omega)
  rw [hl0, show outIdx ((size m : Int) / 2 + 1) l0 0 = worst m l0 from rfl] at hou
  go_wp2_with fail
  refine hou.mono ?_
  rintro e W7 ⟨rfl, hb⟩
  replace hB6 := hB6.later hb
  replace hown6 := ownsRow_later hown6 hb
  clear hb k1 k2 k3 k4
  go_wp2_with fail
  go_loopw [10] (fun v wr => ∃ (f m1 : Nat) (l1 : List Nat), v = .int .i64 (worst m1 l1) ∧ m1 < 4294967296 ∧ l1.length = 16 ∧ (∀ z ∈ l1, z < 4294967296) ∧ Box w wr [.int .u32 (m1 : Int), .slice (some ⟨r, 0, none⟩) 16 c'] [.int .u32 0, .slice none 0 0] ∧ wr.ownsRow w3.heap.size 42 1 (.slice (some ⟨r, 0, none⟩) 16 c') 16 (cellsU l1) ∧ nz l1 ≤ f ∧ Hid (purge f m1 l1 = purge 16 m l0)) (fun _ wr => nzW wr r)
  case atStart => exact ⟨16, m, l0, rfl, hm, hl0, hs0, hB6, hown6, by have := nz_le l0; omega, rfl⟩
  case round =>
    clear hB6 hown6
    obtain ⟨f, m1, l1, rfl, hm1, hl1, hs1, hB, hown, hf, HP⟩ := hrel
    by_cases hw0 : 0 ≤ worst m1 l1
    · obtain ⟨k, hk, hkl, hks⟩ := worst_at hw0
      have hless := leave_less hl1 hkl hks
      obtain ⟨f', rfl⟩ : ∃ f', f = f' + 1 := ⟨f - 1, by omega⟩
      have HP2 : Hid (purge f' (diff m1 (2 ^ k)) (leaveL l1 k) = purge 16 m l0) := by
        have h := HP.out
        unfold purge at h
        rw [if_pos hw0, hk] at h
        exact h
      have hnw := nzW_eq hown hl1
      rw [hk]
      go_wp2_with fail
      refine (leave_any m1 hm1 l1 hl1 hs1 w.heap.size r c' w3.heap.size k (by omega) wr hB.one (by omega) hown (w.heap.size + 1) _ hB.two (by omega) hbase).mono ?_
      rintro e W8 ⟨rfl, hb8, hA8, hown8, hY8⟩
      have hB8 : Box w W8 [.int .u32 (diff m1 (2 ^ k) : Int), .slice (some ⟨r, 0, none⟩) 16 c'] [.int .u32 0, .slice none 0 0] := ⟨hA8, hY8, hB.below.trans hb8⟩
      have hl8 := leaveL_len l1 k hl1
      have hs8 := leaveL_lt l1 k hl1 
      generalize leaveL l1 k = l2 at *
      generalize hm2 : diff m1 (2 ^ k) = m2 at *
      have hm2' : m2 < 4294967296 := by rw [← hm2]; exact diff_lt _ _
      clear hA8 hY8 hb8 hB hown
      obtain ⟨k1, k2, k3, k4⟩ := hB8.cells
      have hou := outvoted_any m2 hm2' l2 r 0 c' W8 (sets_of hown8 hl8 hs8) (by omega) (by omega)
      rw [hl8, show outIdx ((size m2 : Int) / 2 + 1) l2 0 = worst m2 l2 from rfl] at hou
      go_wp2_with fail
      refine hou.mono ?_
      rintro e W9 ⟨rfl, hb9⟩
      have hB9 := hB8.later hb9
      have hown9 := ownsRow_later hown8 hb9
      have hnw9 := nzW_eq hown9 hl8
      clear k1 k2 k3 k4 hb9 hB8 hown8 hou
      go_wp2_with fail
      exact ⟨⟨f', m2, l2, rfl, hm2', hl8, hs8, hB9, hown9, by omega, HP2.out⟩, by rw [hnw9, hnw]; exact hless⟩
    · have hend : purge 16 m l0 = (m1, l1) := by
        rw [← HP.out]
        cases f with
        | zero => rfl
        | succ f => unfold purge; rw [if_neg hw0]
      have HE := Lib.hid hend
      obtain ⟨k1, k2, k3, k4⟩ := hB.cells
      have f1 : wr.frozen? ⟨w.heap.size + 1, 0, none⟩ = false := hB.two.free 0 (.inr (Nat.zero_le _))
      have f2 : wr.frozen? ⟨w.heap.size + 1, 1, none⟩ = false := hB.two.free 1 (.inr (Nat.zero_le _))
      clear hend hou hs0 hl0
      go_wp2_with fail
      go_region_with ((go_at_call 47; refine (member_any m1 hm1 _ _ _ _ _).mono ?_; rintro e w9 ⟨rfl, hb9⟩; first | (have hB9 := (Box.drew hB).later hb9; obtain ⟨j1, j2, j3, j4⟩ := hB9.cells; have g1 := hB9.two.free 0 (.inr (Nat.zero_le _)); have g2 := hB9.two.free 1 (.inr (Nat.zero_le _))) | skip))
      all_goals have hT : Blk ((w9.setCell ⟨w.heap.size + 1, 0, none⟩ (.int .u32 (m1 : Int))).setCell ⟨w.heap.size + 1, 1, none⟩ (.slice (some ⟨r, 0, none⟩) 16 c')) (w.heap.size + 1) [.int .u32 (m1 : Int), .slice (some ⟨r, 0, none⟩) 16 c'] 46 (0, 0) := (hB9.two.set 0 _).set 1 _
      all_goals have hO : ((w9.setCell ⟨w.heap.size + 1, 0, none⟩ (.int .u32 (m1 : Int))).setCell ⟨w.heap.size + 1, 1, none⟩ (.slice (some ⟨r, 0, none⟩) 16 c')).ownsRow w3.heap.size 42 1 (.slice (some ⟨r, 0, none⟩) 16 c') 16 (cellsU l1) := ownsRow_setCell_below (ownsRow_setCell_below (ownsRow_later (hown.drew) hb9) (a := ⟨w.heap.size + 1, 0, none⟩) hbase _) (a := ⟨w.heap.size + 1, 1, none⟩) hbase _
      all_goals have hW : Below w.heap.size w ((w9.setCell ⟨w.heap.size + 1, 0, none⟩ (.int .u32 (m1 : Int))).setCell ⟨w.heap.size + 1, 1, none⟩ (.slice (some ⟨r, 0, none⟩) 16 c')) := (hB9.below.setCell (p := ⟨w.heap.size + 1, 0, none⟩) (Nat.le_succ _) _).setCell (p := ⟨w.heap.size + 1, 1, none⟩) (Nat.le_succ _) _
      all_goals have y1 := hT.cell 0
      all_goals have y2 := hT.cell 1
      all_goals simp only [List.getElem?_cons_zero, List.getElem?_cons_succ] at y1 y2
      all_goals go_wp2_with fail
      all_goals (refine bodyPost_ret (v := .tuple #[.agg #[.int .u32 (m1 : Int), .slice (some ⟨r, 0, none⟩) 16 c'], .bool (!memb m1 (q : Int)), .int .i64 0]) ?_ rfl ?_)
      all_goals first | (refine ⟨r, c', ?_, hW, ?_⟩ <;> rw [HE.out] <;> first | exact ownsRow_mono hO (by omega) | rfl) | (unfold results; rw [show Try.f26.results = #[.cell 6 46, .tmp 7, .tmp 8] from rfl]; go_simp)
end Go.Proofs.Ytclobldldddjnaa.Vote
