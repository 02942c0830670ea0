/-
  The walk of vote.Back.
-/
import Derived.Test.YtclobldldddjnaaVoteG
set_option linter.unusedVariables false
namespace Go.Proofs.Ytclobldldddjnaa.Vote
open Go.RowKit Go.Proofs.Ytclobldldddjnaa Go.Proofs.Ytclobldldddjnaa.Bv

/-- What Back answers where nothing is taken back. -/
def BackNay (k : Int) (w : World) (e : Ending) (w' : World) : Prop :=
  e = .returned (.tuple #[.agg #[.int .u32 0, .slice none 0 0], .int .i64 k]) ∧ Below w.heap.size w w'

set_option maxHeartbeats 1000000 in
set_option maxRecDepth 100000 in
theorem back_nay (m : Nat) (hm : m < 4294967296) (A : Option Addr) (n c : Nat) (p q : Int) (w : World) (k : Int)
    (h : (k ≠ 0 ∧ Says w m A n c k) ∨ (Says w m A n c 0 ∧ memb m p = false ∧ k = 7) ∨ (Says w m A n c 0 ∧ memb m p = true ∧ memb m q = false ∧ k = 7) ∨
      (Says w m A n c 0 ∧ memb m p = true ∧ memb m q = true ∧ k = 7 ∧ ∃ (b o i j x : Nat), A = some ⟨b, o, none⟩ ∧ p = (i : Int) ∧ q = (j : Int) ∧ i < 16 ∧ j < 16 ∧ n = 16 ∧ w.cell? ⟨b, o + j, none⟩ = some (.int .u32 (x : Int)) ∧ x < 4294967296 ∧ x.testBit i = false)) :
    Calls Try.prog 29 #[.agg #[.int .u32 (m : Int), .slice A n c], .int .i64 p, .int .i64 q] w (BackNay k w) := by
  have hB := Box.new w [.int .u32 (m : Int), .slice A n c] [.int .u32 0, .slice none 0 0]
  have hb0 : Below w.heap.size w ((w.alloc (.cells #[.int .u32 (m : Int), .slice A n c] 46)).alloc (.cells #[.int .u32 0, .slice none 0 0] 46)) := hB.below
  rcases h with ⟨hk, hs⟩ | ⟨hs, h1, rfl⟩ | ⟨hs, h1, h2, rfl⟩ | ⟨hs, h1, h2, rfl, b, o, i, j, x, rfl, rfl, rfl, hi, hj, rfl, hx, hx2, hbit⟩
  · have hk2 : (k != 0) = true := by rw [bne_iff_ne]; exact hk
    go_enter Try.func29, Try.ntmps29
    go_wp2_with fail
    refine (hs _ hb0).mono ?_
    rintro e w1 ⟨rfl, hb⟩
    replace hB := hB.later hb
    clear hb
    obtain ⟨k1, k2, k3, k4⟩ := hB.cells
    have f1 : w1.frozen? ⟨w.heap.size + 1, 0, none⟩ = false := hB.two.free 0 (.inr (Nat.zero_le _))
    have f2 : w1.frozen? ⟨w.heap.size + 1, 1, none⟩ = false := hB.two.free 1 (.inr (Nat.zero_le _))
    have hT : Blk ((w1.setCell ⟨w.heap.size + 1, 0, none⟩ (.int .u32 0)).setCell ⟨w.heap.size + 1, 1, none⟩ (.slice none 0 0)) (w.heap.size + 1) [.int .u32 0, .slice none 0 0] 46 (0, 0) := (hB.two.set 0 _).set 1 _
    have y1 := hT.cell 0
    have y2 := hT.cell 1
    simp only [List.getElem?_cons_zero, List.getElem?_cons_succ] at y1 y2
    have hW : Below w.heap.size w ((w1.setCell ⟨w.heap.size + 1, 0, none⟩ (.int .u32 0)).setCell ⟨w.heap.size + 1, 1, none⟩ (.slice none 0 0)) := (hB.below.setCell (p := ⟨w.heap.size + 1, 0, none⟩) (Nat.le_succ _) _).setCell (p := ⟨w.heap.size + 1, 1, none⟩) (Nat.le_succ _) _
    go_wp2_with fail
    refine bodyPost_ret (v := .tuple #[.agg #[.int .u32 0, .slice none 0 0], .int .i64 k]) ?_ rfl ⟨rfl, hW⟩
    unfold results
    rw [show Try.f29.results = #[.cell 6 46, .tmp 7] from rfl]
    go_simp
  · go_enter Try.func29, Try.ntmps29
    go_wp2_with fail
    refine (hs _ hb0).mono ?_
    rintro e w1 ⟨rfl, hb⟩
    replace hB := hB.later hb
    clear hb
    obtain ⟨k1, k2, k3, k4⟩ := hB.cells
    go_wp2_with fail
    refine (member_any m hm _ _ _ _ _).mono ?_
    rintro e w2 ⟨rfl, hb⟩
    rw [h1]
    replace hB := hB.later hb
    clear hb k1 k2 k3 k4 w1
    obtain ⟨k1, k2, k3, k4⟩ := hB.cells
    have f1 := hB.two.free 0 (.inr (Nat.zero_le _))
    have f2 := hB.two.free 1 (.inr (Nat.zero_le _))
    have hT : Blk ((w2.setCell ⟨w.heap.size + 1, 0, none⟩ (.int .u32 0)).setCell ⟨w.heap.size + 1, 1, none⟩ (.slice none 0 0)) (w.heap.size + 1) [.int .u32 0, .slice none 0 0] 46 (0, 0) := (hB.two.set 0 _).set 1 _
    have y1 := hT.cell 0
    have y2 := hT.cell 1
    simp only [List.getElem?_cons_zero, List.getElem?_cons_succ] at y1 y2
    have hW : Below w.heap.size w ((w2.setCell ⟨w.heap.size + 1, 0, none⟩ (.int .u32 0)).setCell ⟨w.heap.size + 1, 1, none⟩ (.slice none 0 0)) := (hB.below.setCell (p := ⟨w.heap.size + 1, 0, none⟩) (Nat.le_succ _) _).setCell (p := ⟨w.heap.size + 1, 1, none⟩) (Nat.le_succ _) _
    go_wp2_with fail
    refine bodyPost_ret (v := .tuple #[.agg #[.int .u32 0, .slice none 0 0], .int .i64 7]) ?_ rfl ⟨rfl, hW⟩
    unfold results
    rw [show Try.f29.results = #[.cell 6 46, .tmp 7] from rfl]
    go_simp
  · go_enter Try.func29, Try.ntmps29
    go_wp2_with fail
    refine (hs _ hb0).mono ?_
    rintro e w1 ⟨rfl, hb⟩
    replace hB := hB.later hb
    clear hb
    obtain ⟨k1, k2, k3, k4⟩ := hB.cells
    go_wp2_with fail
    refine (member_any m hm _ _ _ _ _).mono ?_
    rintro e w2 ⟨rfl, hb⟩
    rw [h1]
    replace hB := hB.later hb
    clear hb k1 k2 k3 k4 w1
    obtain ⟨k1, k2, k3, k4⟩ := hB.cells
    go_wp2_with fail
    refine (member_any m hm _ _ _ _ _).mono ?_
    rintro e w3 ⟨rfl, hb⟩
    rw [h2]
    replace hB := hB.later hb
    clear hb k1 k2 k3 k4 w2
    obtain ⟨k1, k2, k3, k4⟩ := hB.cells
    have f1 := hB.two.free 0 (.inr (Nat.zero_le _))
    have f2 := hB.two.free 1 (.inr (Nat.zero_le _))
    have hT : Blk ((w3.setCell ⟨w.heap.size + 1, 0, none⟩ (.int .u32 0)).setCell ⟨w.heap.size + 1, 1, none⟩ (.slice none 0 0)) (w.heap.size + 1) [.int .u32 0, .slice none 0 0] 46 (0, 0) := (hB.two.set 0 _).set 1 _
    have y1 := hT.cell 0
    have y2 := hT.cell 1
    simp only [List.getElem?_cons_zero, List.getElem?_cons_succ] at y1 y2
    have hW : Below w.heap.size w ((w3.setCell ⟨w.heap.size + 1, 0, none⟩ (.int .u32 0)).setCell ⟨w.heap.size + 1, 1, none⟩ (.slice none 0 0)) := (hB.below.setCell (p := ⟨w.heap.size + 1, 0, none⟩) (Nat.le_succ _) _).setCell (p := ⟨w.heap.size + 1, 1, none⟩) (Nat.le_succ _) _
    go_wp2_with fail
    refine bodyPost_ret (v := .tuple #[.agg #[.int .u32 0, .slice none 0 0], .int .i64 7]) ?_ rfl ⟨rfl, hW⟩
    unfold results
    rw [show Try.f29.results = #[.cell 6 46, .tmp 7] from rfl]
    go_simp
  · have e1 := bit_num x i hx2
    rw [hbit] at e1
    have e3 : ((x / 2 ^ i : Nat) : Int) = (x : Int) / 2 ^ i := by simp
    rw [e3] at e1
    clear e3 hbit
    go_enter Try.func29, Try.ntmps29
    go_wp2_with fail
    refine (hs _ hb0).mono ?_
    rintro e w1 ⟨rfl, hb⟩
    replace hB := hB.later hb
    clear hb
    obtain ⟨k1, k2, k3, k4⟩ := hB.cells
    go_wp2_with fail
    refine (member_any m hm _ _ _ _ _).mono ?_
    rintro e w2 ⟨rfl, hb⟩
    rw [h1]
    replace hB := hB.later hb
    clear hb k1 k2 k3 k4 w1
    obtain ⟨k1, k2, k3, k4⟩ := hB.cells
    go_wp2_with fail
    refine (member_any m hm _ _ _ _ _).mono ?_
    rintro e w3 ⟨rfl, hb⟩
    rw [h2]
    replace hB := hB.later hb
    clear hb k1 k2 k3 k4 w2
    obtain ⟨k1, k2, k3, k4⟩ := hB.cells
    have f1 := hB.two.free 0 (.inr (Nat.zero_le _))
    have f2 := hB.two.free 1 (.inr (Nat.zero_le _))
    have hx := cell_later hB.below hx
    have hT : Blk ((w3.setCell ⟨w.heap.size + 1, 0, none⟩ (.int .u32 0)).setCell ⟨w.heap.size + 1, 1, none⟩ (.slice none 0 0)) (w.heap.size + 1) [.int .u32 0, .slice none 0 0] 46 (0, 0) := (hB.two.set 0 _).set 1 _
    have y1 := hT.cell 0
    have y2 := hT.cell 1
    simp only [List.getElem?_cons_zero, List.getElem?_cons_succ] at y1 y2
    have hW : Below w.heap.size w ((w3.setCell ⟨w.heap.size + 1, 0, none⟩ (.int .u32 0)).setCell ⟨w.heap.size + 1, 1, none⟩ (.slice none 0 0)) := (hB.below.setCell (p := ⟨w.heap.size + 1, 0, none⟩) (Nat.le_succ _) _).setCell (p := ⟨w.heap.size + 1, 1, none⟩) (Nat.le_succ _) _
    go_wp2_with fail
    refine bodyPost_ret (v := .tuple #[.agg #[.int .u32 0, .slice none 0 0], .int .i64 7]) ?_ rfl ⟨rfl, hW⟩
    unfold results
    rw [show Try.f29.results = #[.cell 6 46, .tmp 7] from rfl]
    go_simp

/-- What Back answers where one is taken back. -/
def BackYea (m : Nat) (l : List Nat) (w : World) (e : Ending) (w' : World) : Prop :=
  ∃ r c', e = .returned (.tuple #[.agg #[.int .u32 (m : Int), .slice (some ⟨r, 0, none⟩) 16 c'], .int .i64 0]) ∧ Below w.heap.size w w' ∧ w'.ownsRow w.heap.size 42 1 (.slice (some ⟨r, 0, none⟩) 16 c') 16 (cellsU l)
set_option maxHeartbeats 1000000 in
set_option maxRecDepth 100000 in
theorem back_yea (m : Nat) (hm : m < 4294967296) (l : List Nat) (hn : l.length = 16) (b o c p q : Nat) (hp : p < 16) (hq : q < 16) (w : World) (hl : Sets w b o l)
    (hc : check m l = 0) (h1 : memb m (p : Int) = true) (h2 : memb m (q : Int) = true) (hbit : (l[q]).testBit p = true) :
    Calls Try.prog 29 #[.agg #[.int .u32 (m : Int), .slice (some ⟨b, o, none⟩) 16 c], .int .i64 (p : Int), .int .i64 (q : Int)] w (BackYea m (l.set q (diff l[q] (2 ^ p))) w) := by
  obtain ⟨i0, hi, hz0, hz1, hz2⟩ := info_parts infoU32
  obtain ⟨hp1, hx⟩ := hl q (by omega)
  have e1 := bit_num l[q] p hx
  rw [hbit] at e1
  have e3 : ((l[q] / 2 ^ p : Nat) : Int) = (l[q] : Int) / 2 ^ p := by simp
  rw [e3] at e1
  have hB := Box.new w [.int .u32 (m : Int), .slice (some ⟨b, o, none⟩) 16 c] [.int .u32 0, .slice none 0 0]
  obtain ⟨x, HX⟩ : ∃ x, Hid (l[q] = x) := ⟨_, Lib.hid rfl⟩
  rw [HX.out] at e1 hx hp1 ⊢
  obtain ⟨y, HYY⟩ : ∃ y, Hid (diff x (2 ^ p) = y) := ⟨_, Lib.hid rfl⟩
  rw [HYY.out]
  clear e3 hbit
  go_enter Try.func29, Try.ntmps29
  go_wp2_with fail
  refine (check_any m hm l b o c _ (hl.later (((Below.refl _ _).alloc (Nat.le_refl _) _).alloc (by simp) _)) hn).mono ?_
  rintro e w1 ⟨rfl, hb⟩
  replace hB := hB.later hb
  rw [hc]
  clear hb
  obtain ⟨k1, k2, k3, k4⟩ := hB.cells
  go_wp2_with fail
  refine (member_any m hm _ _ _ _ _).mono ?_
  rintro e w2 ⟨rfl, hb⟩
  replace hB := hB.later hb
  rw [h1]
  clear hb k1 k2 k3 k4
  obtain ⟨k1, k2, k3, k4⟩ := hB.cells
  go_wp2_with fail
  refine (member_any m hm _ _ _ _ _).mono ?_
  rintro e w3 ⟨rfl, hb⟩
  replace hB := hB.later hb
  rw [h2]
  clear hb k1 k2 k3 k4
  obtain ⟨k1, k2, k3, k4⟩ := hB.cells
  have hl3 := hl.later hB.below
  have hp3 := (hl3 q (by omega)).1
  rw [HX.out] at hp3
  have hcl : ∀ j u, (cellsU l)[j]? = some u → w3.cell? ⟨b, o + j, none⟩ = some u := by
    intro j u hu
    have hjl : j < l.length := by have := (List.getElem?_eq_some_iff.1 hu).1; rwa [cellsU_len] at this
    rw [cellsU_get l j hjl] at hu
    rw [(hl3 j hjl).1]; exact hu
  go_wp2_with fail
  refine (Try.slices_Clone i0 (.int .u32 0) 1 4 hi hz0 hz1 hz2 rfl (by decide) (by intro w; rfl) b o 16 c (cellsU l) w3 (by rw [cellsU_len]; omega) (by decide) (by decide) hcl ?_).mono ?_
  · intro u hu
    unfold cellsU at hu
    obtain ⟨x, _, rfl⟩ := List.mem_map.1 hu
    rfl
  have hbase : w.heap.size + 1 < w3.heap.size := hB.two.lt
  rintro e w4 ⟨v', rfl, hown, hnil, hb⟩
  obtain ⟨r, c', rfl, hr⟩ : ∃ r c', v' = .slice (some ⟨r, 0, none⟩) 16 c' ∧ w3.heap.size ≤ r := by
    rcases hown.2 with ⟨h, _⟩ | ⟨g, cap, cur, h, hg, _⟩
    · exact absurd h hnil
    · exact ⟨g, cap, h, hg⟩
  replace hB := hB.later hb
  clear hb k1 k2 k3 k4 hcl hnil hp3 hl3
  obtain ⟨k1, k2, k3, k4⟩ := hB.cells
  have f1 : w4.frozen? ⟨w.heap.size, 1, none⟩ = false := hB.one.free 1 (.inr (Nat.zero_le _))
  have hB5 : Box w (w4.setCell ⟨w.heap.size, 1, none⟩ (.slice (some ⟨r, 0, none⟩) 16 c')) [.int .u32 (m : Int), .slice (some ⟨r, 0, none⟩) 16 c'] [.int .u32 0, .slice none 0 0] :=
    ⟨hB.one.set 1 _, hB.two.other (by omega) 1 _, hB.below.setCell (p := ⟨w.heap.size, 1, none⟩) (Nat.le_refl _) _⟩
  have hown5 : (w4.setCell ⟨w.heap.size, 1, none⟩ (.slice (some ⟨r, 0, none⟩) 16 c')).ownsRow w3.heap.size 42 1 (.slice (some ⟨r, 0, none⟩) 16 c') 16 (cellsU l) := ownsRow_setCell_below hown (a := ⟨w.heap.size, 1, none⟩) (by show w.heap.size < _; omega) _
  have HB5 := Lib.hid hB5
  have HO5 := Lib.hid hown5
  clear hB5 hown5 hown
  go_wp2_with fail
  generalize w4.setCell ⟨w.heap.size, 1, none⟩ (.slice (some ⟨r, 0, none⟩) 16 c') = W5 at *
  have hB5 := HB5.out
  have hown5 := HO5.out
  clear hB k1 k2 k3 k4 f1
  obtain ⟨k1, k2, k3, k4⟩ := hB5.cells
  have hrl := (hown5.lt r rfl).2
  have q1 : W5.cell? ⟨r, q, none⟩ = some (.int .u32 (x : Int)) := by
    rw [hown5.cellAt q (by omega), cellsU_get l q (by omega), HX.out]
  have q2 : W5.frozen? ⟨r, q, none⟩ = false := hown5.frozenAt q
  have hP := one_lt (k := p) (by omega)
  have hw : IntKind.u32.wrap (2 ^ p : Int) = ((2 ^ p : Nat) : Int) := by
    have e : (2 ^ p : Int) = ((2 ^ p : Nat) : Int) := by simp
    rw [e]; exact wraps_u32 _ (Int.natCast_nonneg _) (by rw [show (2 : Int) ^ 32 = ((4294967296 : Nat) : Int) from rfl]; exact Int.ofNat_lt.2 hP)
  have hor := diff_num x (2 ^ p)
  rw [HYY.out] at hor
  generalize hPP : 2 ^ p = P at hw hor hP
  go_region
  have hB6 : Box w (W5.setCell ⟨r, q, none⟩ (.int .u32 (y : Int))).drew [.int .u32 (m : Int), .slice (some ⟨r, 0, none⟩) 16 c'] [.int .u32 0, .slice none 0 0] :=
    ⟨hB5.one.other (by omega) q _, hB5.two.other (by omega) q _, (hB5.below.setCell (p := ⟨r, q, none⟩) (by show w.heap.size ≤ r; omega) _).drew⟩
  have hown6 : (W5.setCell ⟨r, q, none⟩ (.int .u32 (y : Int))).drew.ownsRow w3.heap.size 42 1 (.slice (some ⟨r, 0, none⟩) 16 c') 16 (cellsU (l.set q y)) := by
    have h := (hown5.stored q (.int .u32 (y : Int))).1
    rw [cellsU_set] at h
    exact h
  generalize (W5.setCell ⟨r, q, none⟩ (.int .u32 (y : Int))).drew = W6 at *
  clear hB5 hown5 HB5 HO5 k1 k2 k3 k4 q1 q2 hw hor hrl hPP hP e1 hc h1 hp1
  obtain ⟨k1, k2, k3, k4⟩ := hB6.cells
  have g1 := hB6.two.free 0 (.inr (Nat.zero_le _))
  have g2 := hB6.two.free 1 (.inr (Nat.zero_le _))
  have hT : Blk ((W6.setCell ⟨w.heap.size + 1, 0, none⟩ (.int .u32 (m : Int))).setCell ⟨w.heap.size + 1, 1, none⟩ (.slice (some ⟨r, 0, none⟩) 16 c')) (w.heap.size + 1) [.int .u32 (m : Int), .slice (some ⟨r, 0, none⟩) 16 c'] 46 (0, 0) := (hB6.two.set 0 _).set 1 _
  have hO : ((W6.setCell ⟨w.heap.size + 1, 0, none⟩ (.int .u32 (m : Int))).setCell ⟨w.heap.size + 1, 1, none⟩ (.slice (some ⟨r, 0, none⟩) 16 c')).ownsRow w3.heap.size 42 1 (.slice (some ⟨r, 0, none⟩) 16 c') 16 (cellsU (l.set q y)) := ownsRow_setCell_below (ownsRow_setCell_below hown6 (a := ⟨w.heap.size + 1, 0, none⟩) hbase _) (a := ⟨w.heap.size + 1, 1, none⟩) hbase _
  have hW : Below w.heap.size w ((W6.setCell ⟨w.heap.size + 1, 0, none⟩ (.int .u32 (m : Int))).setCell ⟨w.heap.size + 1, 1, none⟩ (.slice (some ⟨r, 0, none⟩) 16 c')) := (hB6.below.setCell (p := ⟨w.heap.size + 1, 0, none⟩) (Nat.le_succ _) _).setCell (p := ⟨w.heap.size + 1, 1, none⟩) (Nat.le_succ _) _
  have y1 := hT.cell 0
  have y2 := hT.cell 1
  simp only [List.getElem?_cons_zero, List.getElem?_cons_succ] at y1 y2
  have HO := Lib.hid (ownsRow_mono hO (show w.heap.size ≤ w3.heap.size by omega))
  clear hown6 hO
  go_wp2_with fail
  refine bodyPost_ret (v := .tuple #[.agg #[.int .u32 (m : Int), .slice (some ⟨r, 0, none⟩) 16 c'], .int .i64 0]) ?_ rfl ⟨r, c', rfl, hW, HO.out⟩
  unfold results
  rw [show Try.f29.results = #[.cell 6 46, .tmp 7] from rfl]
  go_simp
end Go.Proofs.Ytclobldldddjnaa.Vote
