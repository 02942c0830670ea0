/-
  The walks of vote.Check at whatever length, of vote.Cast where nothing is cast, and of vote.Back.
-/
import Derived.Test.YtclobldldddjnaaVoteF
set_option linter.unusedVariables false
namespace Go.Proofs.Ytclobldldddjnaa.Vote
open Go.RowKit Go.Proofs.Ytclobldldddjnaa Go.Proofs.Ytclobldldddjnaa.Bv

set_option maxRecDepth 100000 in
theorem check_len (m : Nat) (hm : m < 4294967296) (A : Option Addr) (n c : Nat) (hn : n ≠ 16) (w : World) :
    Calls Try.prog 24 #[.agg #[.int .u32 (m : Int), .slice A n c]] w fun e w' => e = .returned (.int .i64 (if m = 0 ∨ 65536 ≤ m then 1 else 4)) ∧ Below w.heap.size w w' := by
  have hb1 : Below w.heap.size w (w.alloc (.cells #[.int .u32 (m : Int), .slice A n c] 46)) := (Below.refl w.heap.size w).alloc (Nat.le_refl _) _
  have hn2 : ((n : Int) != 16) = true := by rw [bne_iff_ne]; omega
  by_cases h0 : m = 0
  · rw [if_pos (.inl h0)]
    have hz : ((m : Int) == 0) = true := by simp [h0]
    clear h0
    go_enter Try.func24, Try.ntmps24
    go_wp2_with fail
    go_ret
    exact ⟨rfl, hb1⟩
  · have hz : ((m : Int) == 0) = false := by simp [h0]
    by_cases h1 : 65536 ≤ m
    · rw [if_pos (.inr h1)]
      have hx : ((m : Int) / 65536 != 0) = true := by simp; omega
      go_enter Try.func24, Try.ntmps24
      go_wp2_with fail
      go_ret
      exact ⟨rfl, hb1⟩
    · have hx : ((m : Int) / 65536 != 0) = false := by simp; omega
      rw [if_neg (by omega)]
      clear h0 h1
      go_enter Try.func24, Try.ntmps24
      go_wp2_with fail
      go_ret
      exact ⟨rfl, hb1⟩

/-- What Check says of the votes at hand, wherever they lie unchanged. -/
def Says (w : World) (m : Nat) (A : Option Addr) (n c : Nat) (k : Int) : Prop :=
  ∀ w1, Below w.heap.size w w1 → Calls Try.prog 24 #[.agg #[.int .u32 (m : Int), .slice A n c]] w1 fun e w' => e = .returned (.int .i64 k) ∧ Below w1.heap.size w1 w'
/-- What Cast answers where nothing is cast. -/
def Nay (k : Int) (w : World) (e : Ending) (w' : World) : Prop :=
  e = .returned (.tuple #[.agg #[.int .u32 0, .slice none 0 0], .bool false, .int .i64 k]) ∧ Below w.heap.size w w'

set_option maxHeartbeats 1000000 in
set_option maxRecDepth 100000 in
theorem cast_nay (m : Nat) (hm : m < 4294967296) (A : Option Addr) (n c : Nat) (p q : Int) (w : World) (k : Int)
    (h : (k ≠ 0 ∧ Says w m A n c k) ∨ (Says w m A n c 0 ∧ memb m p = false ∧ k = 7) ∨ (Says w m A n c 0 ∧ memb m p = true ∧ memb m q = false ∧ k = 7) ∨ (Says w m A n c 0 ∧ memb m p = true ∧ memb m q = true ∧ p = q ∧ k = 1) ∨
      (Says w m A n c 0 ∧ memb m p = true ∧ memb m q = true ∧ p ≠ q ∧ k = 8 ∧ ∃ (b o i j x : Nat), A = some ⟨b, o, none⟩ ∧ p = (i : Int) ∧ q = (j : Int) ∧ i < 16 ∧ j < 16 ∧ n = 16 ∧ w.cell? ⟨b, o + j, none⟩ = some (.int .u32 (x : Int)) ∧ x < 4294967296 ∧ x.testBit i = true)) :
    Calls Try.prog 26 #[.agg #[.int .u32 (m : Int), .slice A n c], .int .i64 p, .int .i64 q] w (Nay k w) := by
  have hB := Box.new w [.int .u32 (m : Int), .slice A n c] [.int .u32 0, .slice none 0 0]
  have hb0 : Below w.heap.size w ((w.alloc (.cells #[.int .u32 (m : Int), .slice A n c] 46)).alloc (.cells #[.int .u32 0, .slice none 0 0] 46)) := hB.below
  rcases h with ⟨hk, hs⟩ | ⟨hs, h1, rfl⟩ | ⟨hs, h1, h2, rfl⟩ | ⟨hs, h1, h2, h3, rfl⟩ | ⟨hs, h1, h2, h3, rfl, b, o, i, j, x, rfl, rfl, rfl, hi, hj, rfl, hx, hx2, hbit⟩
  · have hk2 : (k != 0) = true := by rw [bne_iff_ne]; exact hk
    go_enter Try.func26, Try.ntmps26
    go_wp2_with fail
    refine (hs _ hb0).mono ?_
    rintro e w1 ⟨rfl, hb⟩
    replace hB := hB.later hb
    clear hb
    obtain ⟨k1, k2, k3, k4⟩ := hB.cells
    have f1 : w1.frozen? ⟨w.heap.size + 1, 0, none⟩ = false := hB.two.free 0 (.inr (Nat.zero_le _))
    have f2 : w1.frozen? ⟨w.heap.size + 1, 1, none⟩ = false := hB.two.free 1 (.inr (Nat.zero_le _))
    have hT : Blk ((w1.setCell ⟨w.heap.size + 1, 0, none⟩ (.int .u32 0)).setCell ⟨w.heap.size + 1, 1, none⟩ (.slice none 0 0)) (w.heap.size + 1) [.int .u32 0, .slice none 0 0] 46 (0, 0) := (hB.two.set 0 _).set 1 _
    have y1 := hT.cell 0
    have y2 := hT.cell 1
    simp only [List.getElem?_cons_zero, List.getElem?_cons_succ] at y1 y2
    have hW : Below w.heap.size w ((w1.setCell ⟨w.heap.size + 1, 0, none⟩ (.int .u32 0)).setCell ⟨w.heap.size + 1, 1, none⟩ (.slice none 0 0)) := (hB.below.setCell (p := ⟨w.heap.size + 1, 0, none⟩) (Nat.le_succ _) _).setCell (p := ⟨w.heap.size + 1, 1, none⟩) (Nat.le_succ _) _
    go_wp2_with fail
    refine bodyPost_ret (v := .tuple #[.agg #[.int .u32 0, .slice none 0 0], .bool false, .int .i64 k]) ?_ rfl ⟨rfl, hW⟩
    unfold results
    rw [show Try.f26.results = #[.cell 6 46, .tmp 7, .tmp 8] from rfl]
    go_simp
  · have hk2 : ((0 : Int) != 0) = false := rfl
    go_enter Try.func26, Try.ntmps26
    go_wp2_with fail
    refine (hs _ hb0).mono ?_
    rintro e w1 ⟨rfl, hb⟩
    replace hB := hB.later hb
    clear hb
    obtain ⟨k1, k2, k3, k4⟩ := hB.cells
    go_wp2_with fail
    refine (member_any m hm _ _ _ _ _).mono ?_
    rintro e w2 ⟨rfl, hb⟩
    rw [h1]
    replace hB := hB.later hb
    clear hb k1 k2 k3 k4 w1
    obtain ⟨k1, k2, k3, k4⟩ := hB.cells
    have f1 := hB.two.free 0 (.inr (Nat.zero_le _))
    have f2 := hB.two.free 1 (.inr (Nat.zero_le _))
    have hT : Blk ((w2.setCell ⟨w.heap.size + 1, 0, none⟩ (.int .u32 0)).setCell ⟨w.heap.size + 1, 1, none⟩ (.slice none 0 0)) (w.heap.size + 1) [.int .u32 0, .slice none 0 0] 46 (0, 0) := (hB.two.set 0 _).set 1 _
    have y1 := hT.cell 0
    have y2 := hT.cell 1
    simp only [List.getElem?_cons_zero, List.getElem?_cons_succ] at y1 y2
    have hW : Below w.heap.size w ((w2.setCell ⟨w.heap.size + 1, 0, none⟩ (.int .u32 0)).setCell ⟨w.heap.size + 1, 1, none⟩ (.slice none 0 0)) := (hB.below.setCell (p := ⟨w.heap.size + 1, 0, none⟩) (Nat.le_succ _) _).setCell (p := ⟨w.heap.size + 1, 1, none⟩) (Nat.le_succ _) _
    go_wp2_with fail
    refine bodyPost_ret (v := .tuple #[.agg #[.int .u32 0, .slice none 0 0], .bool false, .int .i64 7]) ?_ rfl ⟨rfl, hW⟩
    unfold results
    rw [show Try.f26.results = #[.cell 6 46, .tmp 7, .tmp 8] from rfl]
    go_simp
  · go_enter Try.func26, Try.ntmps26
    go_wp2_with fail
    refine (hs _ hb0).mono ?_
    rintro e w1 ⟨rfl, hb⟩
    replace hB := hB.later hb
    clear hb
    obtain ⟨k1, k2, k3, k4⟩ := hB.cells
    go_wp2_with fail
    refine (member_any m hm _ _ _ _ _).mono ?_
    rintro e w2 ⟨rfl, hb⟩
    rw [h1]
    replace hB := hB.later hb
    clear hb k1 k2 k3 k4 w1
    obtain ⟨k1, k2, k3, k4⟩ := hB.cells
    go_wp2_with fail
    refine (member_any m hm _ _ _ _ _).mono ?_
    rintro e w3 ⟨rfl, hb⟩
    rw [h2]
    replace hB := hB.later hb
    clear hb k1 k2 k3 k4 w2
    obtain ⟨k1, k2, k3, k4⟩ := hB.cells
    have f1 := hB.two.free 0 (.inr (Nat.zero_le _))
    have f2 := hB.two.free 1 (.inr (Nat.zero_le _))
    have hT : Blk ((w3.setCell ⟨w.heap.size + 1, 0, none⟩ (.int .u32 0)).setCell ⟨w.heap.size + 1, 1, none⟩ (.slice none 0 0)) (w.heap.size + 1) [.int .u32 0, .slice none 0 0] 46 (0, 0) := (hB.two.set 0 _).set 1 _
    have y1 := hT.cell 0
    have y2 := hT.cell 1
    simp only [List.getElem?_cons_zero, List.getElem?_cons_succ] at y1 y2
    have hW : Below w.heap.size w ((w3.setCell ⟨w.heap.size + 1, 0, none⟩ (.int .u32 0)).setCell ⟨w.heap.size + 1, 1, none⟩ (.slice none 0 0)) := (hB.below.setCell (p := ⟨w.heap.size + 1, 0, none⟩) (Nat.le_succ _) _).setCell (p := ⟨w.heap.size + 1, 1, none⟩) (Nat.le_succ _) _
    go_wp2_with fail
    refine bodyPost_ret (v := .tuple #[.agg #[.int .u32 0, .slice none 0 0], .bool false, .int .i64 7]) ?_ rfl ⟨rfl, hW⟩
    unfold results
    rw [show Try.f26.results = #[.cell 6 46, .tmp 7, .tmp 8] from rfl]
    go_simp
  · have hpq : (p == q) = true := by rw [beq_iff_eq]; exact h3
    clear h3
    go_enter Try.func26, Try.ntmps26
    go_wp2_with fail
    refine (hs _ hb0).mono ?_
    rintro e w1 ⟨rfl, hb⟩
    replace hB := hB.later hb
    clear hb
    obtain ⟨k1, k2, k3, k4⟩ := hB.cells
    go_wp2_with fail
    refine (member_any m hm _ _ _ _ _).mono ?_
    rintro e w2 ⟨rfl, hb⟩
    rw [h1]
    replace hB := hB.later hb
    clear hb k1 k2 k3 k4 w1
    obtain ⟨k1, k2, k3, k4⟩ := hB.cells
    go_wp2_with fail
    refine (member_any m hm _ _ _ _ _).mono ?_
    rintro e w3 ⟨rfl, hb⟩
    rw [h2]
    replace hB := hB.later hb
    clear hb k1 k2 k3 k4 w2
    obtain ⟨k1, k2, k3, k4⟩ := hB.cells
    have f1 := hB.two.free 0 (.inr (Nat.zero_le _))
    have f2 := hB.two.free 1 (.inr (Nat.zero_le _))
    have hT : Blk ((w3.setCell ⟨w.heap.size + 1, 0, none⟩ (.int .u32 0)).setCell ⟨w.heap.size + 1, 1, none⟩ (.slice none 0 0)) (w.heap.size + 1) [.int .u32 0, .slice none 0 0] 46 (0, 0) := (hB.two.set 0 _).set 1 _
    have y1 := hT.cell 0
    have y2 := hT.cell 1
    simp only [List.getElem?_cons_zero, List.getElem?_cons_succ] at y1 y2
    have hW : Below w.heap.size w ((w3.setCell ⟨w.heap.size + 1, 0, none⟩ (.int .u32 0)).setCell ⟨w.heap.size + 1, 1, none⟩ (.slice none 0 0)) := (hB.below.setCell (p := ⟨w.heap.size + 1, 0, none⟩) (Nat.le_succ _) _).setCell (p := ⟨w.heap.size + 1, 1, none⟩) (Nat.le_succ _) _
    go_wp2_with fail
    refine bodyPost_ret (v := .tuple #[.agg #[.int .u32 0, .slice none 0 0], .bool false, .int .i64 1]) ?_ rfl ⟨rfl, hW⟩
    unfold results
    rw [show Try.f26.results = #[.cell 6 46, .tmp 7, .tmp 8] from rfl]
    go_simp
  · have hpq : ((i : Int) == (j : Int)) = false := by rw [beq_eq_false_iff_ne]; exact h3
    have e1 := bit_num x i hx2
    rw [hbit] at e1
    have e3 : ((x / 2 ^ i : Nat) : Int) = (x : Int) / 2 ^ i := by simp
    rw [e3] at e1
    clear e3 hbit
    go_enter Try.func26, Try.ntmps26
    go_wp2_with fail
    refine (hs _ hb0).mono ?_
    rintro e w1 ⟨rfl, hb⟩
    replace hB := hB.later hb
    clear hb
    obtain ⟨k1, k2, k3, k4⟩ := hB.cells
    go_wp2_with fail
    refine (member_any m hm _ _ _ _ _).mono ?_
    rintro e w2 ⟨rfl, hb⟩
    rw [h1]
    replace hB := hB.later hb
    clear hb k1 k2 k3 k4 w1
    obtain ⟨k1, k2, k3, k4⟩ := hB.cells
    go_wp2_with fail
    refine (member_any m hm _ _ _ _ _).mono ?_
    rintro e w3 ⟨rfl, hb⟩
    rw [h2]
    clear h3
    replace hB := hB.later hb
    clear hb k1 k2 k3 k4 w2
    obtain ⟨k1, k2, k3, k4⟩ := hB.cells
    have f1 := hB.two.free 0 (.inr (Nat.zero_le _))
    have f2 := hB.two.free 1 (.inr (Nat.zero_le _))
    have hx := cell_later hB.below hx
    have hT : Blk ((w3.setCell ⟨w.heap.size + 1, 0, none⟩ (.int .u32 0)).setCell ⟨w.heap.size + 1, 1, none⟩ (.slice none 0 0)) (w.heap.size + 1) [.int .u32 0, .slice none 0 0] 46 (0, 0) := (hB.two.set 0 _).set 1 _
    have y1 := hT.cell 0
    have y2 := hT.cell 1
    simp only [List.getElem?_cons_zero, List.getElem?_cons_succ] at y1 y2
    have hW : Below w.heap.size w ((w3.setCell ⟨w.heap.size + 1, 0, none⟩ (.int .u32 0)).setCell ⟨w.heap.size + 1, 1, none⟩ (.slice none 0 0)) := (hB.below.setCell (p := ⟨w.heap.size + 1, 0, none⟩) (Nat.le_succ _) _).setCell (p := ⟨w.heap.size + 1, 1, none⟩) (Nat.le_succ _) _
    go_wp2_with fail
    refine bodyPost_ret (v := .tuple #[.agg #[.int .u32 0, .slice none 0 0], .bool false, .int .i64 8]) ?_ rfl ⟨rfl, hW⟩
    unfold results
    rw [show Try.f26.results = #[.cell 6 46, .tmp 7, .tmp 8] from rfl]
    go_simp
end Go.Proofs.Ytclobldldddjnaa.Vote
