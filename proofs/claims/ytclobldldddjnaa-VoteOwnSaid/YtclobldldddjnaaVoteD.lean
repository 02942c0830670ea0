/-
  The walks of vote.member and vote.leave.
-/
import Derived.Test.YtclobldldddjnaaVoteC
set_option linter.unusedVariables false
namespace Go.Proofs.Ytclobldldddjnaa.Vote
open Go.RowKit Go.Proofs.Ytclobldldddjnaa Go.Proofs.Ytclobldldddjnaa.Bv

def memb (m : Nat) (k : Int) : Bool := decide (0 ≤ k) && (decide (k < 16) && m.testBit k.toNat)
theorem ret_b {a b : Bool} (h : a = b) : Ending.returned (.bool a) = .returned (.bool b) := by rw [h]
theorem member_any (m : Nat) (hm : m < 4294967296) (s0 : Option Addr) (n c : Nat) (k : Int) (w : World) :
    Calls Try.prog 47 #[.agg #[.int .u32 (m : Int), .slice s0 n c], .int .i64 k] w fun e w' => e = .returned (.bool (memb m k)) ∧ Below w.heap.size w w' := by
  have hb1 : Below w.heap.size w (w.alloc (.cells #[.int .u32 (m : Int), .slice s0 n c] 46)) := (Below.refl w.heap.size w).alloc (Nat.le_refl _) _
  by_cases h0 : 0 ≤ k
  · by_cases h1 : k < 16
    · obtain ⟨j, rfl⟩ := Int.eq_ofNat_of_zero_le h0
      have hj : j < 16 := by omega
      have e2 := bit_num m j hm
      have e4 : ((m / 2 ^ j : Nat) : Int) = (m : Int) / 2 ^ j := by simp
      rw [e4] at e2
      have hx : memb m (j : Int) = m.testBit j := by
        unfold memb
        rw [decide_eq_true h0, decide_eq_true h1]
        rfl
      rw [hx]
      clear hx e4 h0 h1
      cases hB : m.testBit j with
      | true =>
        rw [if_pos hB] at e2
        clear hB
        go_enter Try.func47, Try.ntmps47
        go_wp2_with fail
        go_ret
        exact ⟨rfl, hb1⟩
      | false =>
        rw [if_neg (by rw [hB]; decide)] at e2
        clear hB
        go_enter Try.func47, Try.ntmps47
        go_wp2_with fail
        go_ret
        exact ⟨rfl, hb1⟩
    · have hx : memb m k = false := by unfold memb; simp [h1]
      rw [hx]
      clear hx
      go_enter Try.func47, Try.ntmps47
      go_wp2_with fail
      go_ret
      exact ⟨by first | rfl | exact ret_b (decide_eq_false (by omega)), hb1⟩
  · have hx : memb m k = false := by unfold memb; simp [h0]
    rw [hx]
    clear hx
    go_enter Try.func47, Try.ntmps47
    go_wp2_with fail
    go_ret
    exact ⟨by first | rfl | exact ret_b (decide_eq_false (by omega)), hb1⟩

/-- What is left behind one's leaving. -/
def out1 (k x : Nat) : Nat := diff x (2 ^ k)
def cellsU (l : List Nat) : List Value := l.map fun x : Nat => Value.int .u32 (x : Int)
theorem cellsU_get (l : List Nat) (i : Nat) (h : i < l.length) : (cellsU l)[i]? = some (.int .u32 ((l[i] : Nat) : Int)) := by unfold cellsU; simp [h]
/-- Half of them are done. -/
def part (k : Nat) (l : List Nat) (i : Nat) : List Nat := (l.take i).map (out1 k) ++ l.drop i
theorem part_len (k : Nat) (l : List Nat) (i : Nat) : (part k l i).length = l.length := by unfold part; simp; omega
theorem part_at (k : Nat) (l : List Nat) (i : Nat) (h : i < l.length) : (part k l i)[i]? = some l[i] := by
  unfold part
  have e : ((l.take i).map (out1 k)).length = i := by rw [List.length_map, List.length_take]; omega
  rw [List.getElem?_append_right (by rw [e]; exact Nat.le_refl _), e, Nat.sub_self, List.getElem?_drop, Nat.add_zero, List.getElem?_eq_getElem h]
theorem part_set (k : Nat) (l : List Nat) (i : Nat) (h : i < l.length) : (part k l i).set i (out1 k l[i]) = part k l (i + 1) := by
  unfold part
  have e : ((l.take i).map (out1 k)).length = i := by rw [List.length_map, List.length_take]; omega
  rw [List.set_append_right _ _ (by rw [e]; exact Nat.le_refl _), e, Nat.sub_self, List.take_succ_eq_append_getElem h, List.map_append, List.drop_eq_getElem_cons h, List.set_cons_zero, List.append_assoc]
  rfl
theorem cellsU_set (l : List Nat) (i y : Nat) : (cellsU l).set i (.int .u32 (y : Int)) = cellsU (l.set i y) := by
  unfold cellsU
  rw [List.map_set]
theorem cellsU_len (l : List Nat) : (cellsU l).length = l.length := by unfold cellsU; simp
def leaveL (l : List Nat) (k : Nat) : List Nat := part k (l.set k 0) 16

set_option maxHeartbeats 4000000 in
set_option maxRecDepth 100000 in
theorem leave_any (m : Nat) (hm : m < 4294967296) (l : List Nat) (hl : l.length = 16) (hb32 : ∀ x ∈ l, x < 4294967296) (g r c base : Nat) (k : Nat) (hk : k < 16) (w : World)
    (hA : Blk w g [.int .u32 (m : Int), .slice (some ⟨r, 0, none⟩) 16 c] 46 (0, 0)) (hg : g < base)
    (hown : w.ownsRow base 42 1 (.slice (some ⟨r, 0, none⟩) 16 c) 16 (cellsU l))
    (h : Nat) (ys : List Value) (hY : Blk w h ys 46 (0, 0)) (hhg : h ≠ g) (hhb : h < base) :
    Calls Try.prog 48 #[.pointer (some ⟨g, 0, none⟩), .int .i64 (k : Int)] w fun e w' => e = .returned (.tuple #[]) ∧ Below g w w' ∧
      Blk w' g [.int .u32 (diff m (2 ^ k) : Int), .slice (some ⟨r, 0, none⟩) 16 c] 46 (0, 0) ∧ w'.ownsRow base 42 1 (.slice (some ⟨r, 0, none⟩) 16 c) 16 (cellsU (leaveL l k)) ∧ Blk w' h ys 46 (0, 0) := by
  have q1 : w.cell? ⟨g, 0, none⟩ = some (.int .u32 (m : Int)) := hA.cell 0
  have q2 : w.cell? ⟨g, 1, none⟩ = some (.slice (some ⟨r, 0, none⟩) 16 c) := hA.cell 1
  have q3 : w.frozen? ⟨g, 0, none⟩ = false := hA.free 0 (.inr (Nat.zero_le _))
  have hd := diff_num m (2 ^ k)
  have e1 : IntKind.u32.wrap (2 ^ k : Int) = ((2 ^ k : Nat) : Int) := by
    have := one_lt (k := k) (by omega)
    have e : (2 ^ k : Int) = ((2 ^ k : Nat) : Int) := by simp
    rw [e]; exact wraps_u32 _ (Int.natCast_nonneg _) (by rw [show (2 : Int) ^ 32 = ((4294967296 : Nat) : Int) from rfl]; exact Int.ofNat_lt.2 this)
  generalize hpk : 2 ^ k = P at hd e1
  generalize diff m P = m' at hd
  go_enter Try.func48, Try.ntmps48
  go_wp2_with fail
  go_region
  have hrl := hown.lt r rfl
  have hA1 : Blk (w.setCell ⟨g, 0, none⟩ (.int .u32 (m' : Int))).drew g [.int .u32 (m' : Int), .slice (some ⟨r, 0, none⟩) 16 c] 46 (0, 0) := hA.set 0 _
  have hown1 : (w.setCell ⟨g, 0, none⟩ (.int .u32 (m' : Int))).drew.ownsRow base 42 1 (.slice (some ⟨r, 0, none⟩) 16 c) 16 (cellsU l) := ownsRow_setCell_below hown (a := ⟨g, 0, none⟩) hg _
  have hY1 : Blk (w.setCell ⟨g, 0, none⟩ (.int .u32 (m' : Int))).drew h ys 46 (0, 0) := hY.other hhg 0 _
  have hb1 : Below g w (w.setCell ⟨g, 0, none⟩ (.int .u32 (m' : Int))).drew := ((Below.refl g w).setCell (p := ⟨g, 0, none⟩) (Nat.le_refl _) _).drew
  generalize (w.setCell ⟨g, 0, none⟩ (.int .u32 (m' : Int))).drew = W1 at *
  clear q1 q2 q3 hown hA hd hY
  have q2 : W1.cell? ⟨g, 1, none⟩ = some (.slice (some ⟨r, 0, none⟩) 16 c) := hA1.cell 1
  have q8 : W1.cell? ⟨r, k, none⟩ = some (.int .u32 ((l[k] : Nat) : Int)) := by
    rw [hown1.cellAt k (by omega)]
    exact cellsU_get l k (by omega)
  have q4 : W1.frozen? ⟨r, k, none⟩ = false := hown1.frozenAt k
  have HB : Hid (Below g w (W1.setCell ⟨r, k, none⟩ (.int .u32 0))) := hb1.setCell (p := ⟨r, k, none⟩) (by show g ≤ r; omega) _
  have HA : Hid (Blk (W1.setCell ⟨r, k, none⟩ (.int .u32 0)) g [.int .u32 (m' : Int), .slice (some ⟨r, 0, none⟩) 16 c] 46 (0, 0)) := hA1.other (by omega) k _
  have HO : Hid ((W1.setCell ⟨r, k, none⟩ (.int .u32 0)).ownsRow base 42 1 (.slice (some ⟨r, 0, none⟩) 16 c) 16 (cellsU (part k (l.set k 0) 0))) := by
    have h := (hown1.stored k (.int .u32 ((0 : Nat) : Int))).1
    rw [cellsU_set] at h
    exact h
  have HY : Hid (Blk (W1.setCell ⟨r, k, none⟩ (.int .u32 0)) h ys 46 (0, 0)) := hY1.other (by omega) k _
  have q7 : (W1.setCell ⟨r, k, none⟩ (.int .u32 0)).cell? ⟨g, 1, none⟩ = some (.slice (some ⟨r, 0, none⟩) 16 c) := HA.out.cell 1
  clear hb1 hA1 hown1 hY1
  go_wp2_with fail
  have hlen : (l.set k 0).length = 16 := by rw [List.length_set]; exact hl
  go_loopw [25] (fun i wr => ∃ j : Nat, j ≤ 16 ∧ i = .int .i64 (j : Int) ∧ Below g w wr ∧ Blk wr g [.int .u32 (m' : Int), .slice (some ⟨r, 0, none⟩) 16 c] 46 (0, 0) ∧ wr.ownsRow base 42 1 (.slice (some ⟨r, 0, none⟩) 16 c) 16 (cellsU (part k (l.set k 0) j)) ∧ Blk wr h ys 46 (0, 0)) (fun i _ => 16 - (intOf i).toNat)
  case atStart => exact ⟨0, Nat.zero_le _, rfl, HB.out, HA.out, HO.out, HY.out⟩
  case round =>
    obtain ⟨j, hj, rfl, hb, hA, hown, hY⟩ := hrel
    have q2 : wr.cell? ⟨g, 1, none⟩ = some (.slice (some ⟨r, 0, none⟩) 16 c) := hA.cell 1
    by_cases hlt : j < 16
    · obtain ⟨x, HX⟩ : ∃ x, Hid ((l.set k 0)[j]'(by rw [hlen]; exact hlt) = x) := ⟨_, Lib.hid rfl⟩
      have hat := part_at k (l.set k 0) j (by rw [hlen]; exact hlt)
      have hset := part_set k (l.set k 0) j (by rw [hlen]; exact hlt)
      rw [HX.out] at hat hset
      have q5 : wr.cell? ⟨r, j, none⟩ = some (.int .u32 (x : Int)) := by
        rw [hown.cellAt j (by omega)]
        unfold cellsU
        rw [List.getElem?_map, hat]; rfl
      have q6 : wr.frozen? ⟨r, j, none⟩ = false := hown.frozenAt j
      have hd := diff_num x P
      have hy : diff x P = out1 k x := by unfold out1; rw [hpk]
      rw [hy] at hd
      have hst := (hown.stored j (.int .u32 ((out1 k x : Nat) : Int))).1
      rw [cellsU_set, hset] at hst
      have HB2 : Hid (Below g w (wr.setCell ⟨r, j, none⟩ (.int .u32 ((out1 k x : Nat) : Int)))) := hb.setCell (p := ⟨r, j, none⟩) (by show g ≤ r; omega) _
      have HA2 : Hid (Blk (wr.setCell ⟨r, j, none⟩ (.int .u32 ((out1 k x : Nat) : Int))) g [.int .u32 (m' : Int), .slice (some ⟨r, 0, none⟩) 16 c] 46 (0, 0)) := hA.other (by omega) j _
      have HO2 := Lib.hid hst
      have HY2 : Hid (Blk (wr.setCell ⟨r, j, none⟩ (.int .u32 ((out1 k x : Nat) : Int))) h ys 46 (0, 0)) := hY.other (by omega) j _
      clear hst hat hset hy hown hA hb hY
      generalize out1 k x = y at *
      go_wp2_with fail
      go_region
      go_wp2_with fail
      exact ⟨⟨j + 1, by omega, by go_num, HB2.out.drew, HA2.out, HO2.out, HY2.out⟩, by simp [intOf]; omega⟩
    · obtain rfl : j = 16 := by omega
      go_wp2_with fail
      first | exact ⟨.tuple #[], rfl, rfl, hb, hA, hown, hY⟩ | (simp [bodyPost]; exact ⟨.tuple #[], rfl, rfl, hb, hA, hown, hY⟩) | (simp [bodyPost, results, Try.f48]; exact ⟨hb, hA, hown, hY⟩) | (go_ret; trace_state; sorry)
end Go.Proofs.Ytclobldldddjnaa.Vote
