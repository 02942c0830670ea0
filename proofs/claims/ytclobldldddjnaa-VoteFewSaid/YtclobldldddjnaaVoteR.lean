/-
  The document's own look at votes: has, size, tooMany, VotesRight where all is right.
-/
import Derived.Test.YtclobldldddjnaaVoteQ
import Derived.Test.YtclobldldddjnaaVoteMeet
set_option linter.unusedVariables false
namespace Go.Proofs.Ytclobldldddjnaa.Vote
open Go.RowKit Go.Proofs.Ytclobldldddjnaa Go.Proofs.Ytclobldldddjnaa.Bv

theorem between_31 (k : Nat) (hk : k < 32) (w : World) : Calls Try.prog 57 #[.int .i64 (k : Int), .int .i64 0, .int .i64 31] w fun e w' => e = .returned (.bool true) ∧ w = w' := by
  go_enter Try.func57, Try.ntmps57
  go_wp2_with fail
  go_ret
  exact ⟨by first | rfl | exact ret_b (decide_eq_true (by omega)), rfl⟩
theorem bit_rem (n k : Nat) : ((n : Int) / (2 ^ k : Nat)) % 2 = if n.testBit k then 1 else 0 := by
  rw [Nat.testBit_eq_decide_div_mod_eq]
  have h : ((n : Int) / (2 ^ k : Nat)) % 2 = ((n / 2 ^ k % 2 : Nat) : Int) := by rw [Int.natCast_emod, Int.natCast_ediv]; rfl
  rw [h]
  rcases Nat.mod_two_eq_zero_or_one (n / 2 ^ k) with e | e <;> simp [e]
set_option maxRecDepth 100000 in
theorem has_any (n : Nat) (hn : n < 4294967296) (k : Nat) (hk : k < 32) (w : World) :
    Calls Try.prog 49 #[.int .u32 (n : Int), .int .i64 (k : Int)] w fun e w' => e = .returned (.bool (n.testBit k)) ∧ w = w' := by
  have hP := one_lt (k := k) (by omega)
  have hP0 : 0 < 2 ^ k := Nat.two_pow_pos k
  have hr := bit_rem n k
  have hw : IntKind.i64.wrap (2 ^ k : Int) = ((2 ^ k : Nat) : Int) := by
    have e : (2 ^ k : Int) = ((2 ^ k : Nat) : Int) := by simp
    rw [e]; exact IntWalk.i64_in _ (by omega)
  have hq : n / 2 ^ k < 4294967296 := Nat.lt_of_le_of_lt (Nat.div_le_self _ _) hn
  have hd : (n : Int) / ((2 ^ k : Nat) : Int) = ((n / 2 ^ k : Nat) : Int) := by rw [Int.natCast_ediv]
  rw [hd] at hr
  generalize n / 2 ^ k = Q at hr hd hq
  generalize 2 ^ k = P at hw hP hP0 hd
  cases hb : n.testBit k with
  | true =>
    rw [if_pos hb] at hr
    clear hb
    go_enter Try.func49, Try.ntmps49
    go_wp2_with fail
    refine (between_31 k hk _).mono ?_
    rintro e w' ⟨rfl, rfl⟩
    go_wp2_with fail
    go_ret
    exact ⟨rfl, rfl⟩
  | false =>
    rw [if_neg (by rw [hb]; decide)] at hr
    clear hb
    go_enter Try.func49, Try.ntmps49
    go_wp2_with fail
    refine (between_31 k hk _).mono ?_
    rintro e w' ⟨rfl, rfl⟩
    go_wp2_with fail
    go_ret
    exact ⟨rfl, rfl⟩

/-- How many of the first k bits are set. -/
def upTo (n k : Nat) : Nat := cnt k n
theorem upTo_succ (n k : Nat) : upTo n (k + 1) = upTo n k + if n.testBit k then 1 else 0 := by
  unfold upTo
  rw [cnt_add]
  have e : cnt 1 (n / 2 ^ k) = n / 2 ^ k % 2 := by rw [show cnt 1 (n / 2 ^ k) = n / 2 ^ k % 2 + cnt 0 (n / 2 ^ k / 2) from rfl]; rfl
  rw [e, Nat.testBit_eq_decide_div_mod_eq]
  rcases Nat.mod_two_eq_zero_or_one (n / 2 ^ k) with e | e <;> simp [e]
set_option maxRecDepth 100000 in
theorem size_any (n : Nat) (hn : n < 4294967296) (w : World) :
    Calls Try.prog 58 #[.int .u32 (n : Int)] w fun e w' => e = .returned (.int .i64 (size n : Int)) ∧ w = w' := by
  go_enter Try.func58, Try.ntmps58
  go_wp2_with fail
  go_loop [3, 5] (fun t i => ∃ k : Nat, k ≤ 32 ∧ i = .int .i64 (k : Int) ∧ t = .int .i64 (upTo n k : Int)) (fun _ i => 32 - (intOf i).toNat)
  case atStart => exact ⟨0, Nat.zero_le _, rfl, rfl⟩
  case round =>
    obtain ⟨k, hk, rfl, rfl⟩ := hrel
    by_cases hlt : k < 32
    · have hs := upTo_succ n k
      have hle := cnt_le k n
      have hh := has_any n hn k hlt
      have hle : upTo n k ≤ k := hle
      cases hb : n.testBit k with
      | true =>
        rw [if_pos hb] at hs
        simp only [hb] at hh
        have HS := Lib.hid hs
        clear hb hs
        generalize upTo n k = t at *
        go_wp2_with fail
        refine (hh _).mono ?_
        rintro e w' ⟨rfl, rfl⟩
        go_wp2_with fail
        go_round
        case rel => exact ⟨k + 1, by omega, by go_num, by rw [HS.out]; go_num⟩
        case measure => simp [intOf]; omega
      | false =>
        rw [if_neg (by rw [hb]; decide)] at hs
        simp only [hb] at hh
        have HS := Lib.hid hs
        clear hb hs
        generalize upTo n k = t at *
        go_wp2_with fail
        refine (hh _).mono ?_
        rintro e w' ⟨rfl, rfl⟩
        go_wp2_with fail
        go_round
        case rel => exact ⟨k + 1, by omega, by go_num, by rw [HS.out]; go_num⟩
        case measure => simp [intOf]; omega
    · obtain rfl : k = 32 := by omega
      go_wp2_with fail
      go_ret
      exact ⟨rfl, rfl⟩

set_option maxHeartbeats 1000000 in
set_option maxRecDepth 100000 in
theorem tooMany_no (m : Nat) (hm : m < 4294967296) (l : List Nat) (hl : l.length = 16) (b o c : Nat) (w : World) (hs : Sets w b o l) (hno : ∀ j, j < l.length → 2 * size (l.getD j 0) ≤ size m) :
    Calls Try.prog 50 #[.agg #[.int .u32 (m : Int), .slice (some ⟨b, o, none⟩) 16 c]] w fun e w' => e = .returned (.int .i64 (-1)) ∧ Below w.heap.size w w' := by
  have hb1 : Below w.heap.size w (w.alloc (.cells #[.int .u32 (m : Int), .slice (some ⟨b, o, none⟩) 16 c] 46)) := (Below.refl w.heap.size w).alloc (Nat.le_refl _) _
  have hA := Blk.new w [.int .u32 (m : Int), .slice (some ⟨b, o, none⟩) 16 c] 46 (0, 0)
  go_enter Try.func50, Try.ntmps50
  go_wp2_with fail
  go_loopw [4] (fun i wr => ∃ k : Nat, k ≤ 16 ∧ i = .int .i64 (k : Int) ∧ Below w.heap.size w wr ∧ Blk wr w.heap.size [.int .u32 (m : Int), .slice (some ⟨b, o, none⟩) 16 c] 46 (0, 0)) (fun i _ => 16 - (intOf i).toNat)
  case atStart => exact ⟨0, Nat.zero_le _, rfl, hb1, hA⟩
  case round =>
    obtain ⟨k, hk, rfl, hb, hA⟩ := hrel
    by_cases hlt : k < 16
    · obtain ⟨p1, p2⟩ := (hs.later hb) k (by omega)
      have hno := hno k (by omega)
      have hx : l.getD k 0 = l[k]'(by omega) := by rw [List.getD_eq_getElem?_getD, List.getElem?_eq_getElem (by omega)]; rfl
      rw [hx] at hno
      have q1 : wr.cell? ⟨w.heap.size, 0, none⟩ = some (.int .u32 (m : Int)) := hA.cell 0
      have q2 : wr.cell? ⟨w.heap.size, 1, none⟩ = some (.slice (some ⟨b, o, none⟩) 16 c) := hA.cell 1
      clear hx
      have hs32 : size m ≤ 32 := cnt_le 32 m
      generalize l[k]'(by omega) = x at *
      have hx32 : size x ≤ 32 := cnt_le 32 x
      have c1 := size_any x p2
      have c2 := size_any m hm
      have hi1 : (0 : Int) ≤ (k : Int) := by omega
      have hi2 : (k : Int) < ((16 : Nat) : Int) := by omega
      have hw : IntKind.i64.wrap (2 * (size x : Int)) = 2 * (size x : Int) := IntWalk.i64_in _ (by omega)
      have hdec : decide ((size m : Int) < 2 * (size x : Int)) = false := decide_eq_false (by omega)
      clear hno
      generalize size x = sx at *
      generalize size m = sm at *
      go_wp2_with fail
      go_quiet ((go_at_call 58; first | (with_reducible exact quiet_of (c1 _)) | (with_reducible exact quiet_of (c2 _))))
      go_wp2_with fail
      exact ⟨⟨k + 1, by omega, by go_num, below_drewN hb _, hA.drewN _⟩, by simp [intOf]; omega⟩
    · obtain rfl : k = 16 := by omega
      go_wp2_with fail
      go_ret
      exact ⟨rfl, hb⟩

set_option maxHeartbeats 1000000 in
set_option maxRecDepth 100000 in
theorem right_any (m : Nat) (hm0 : m ≠ 0) (l : List Nat) (g : Good0 m l) (hw : worst m l < 0) (b o c : Nat) (w : World) (hs : Sets w b o l) :
    Calls Try.prog 27 #[.agg #[.int .u32 (m : Int), .slice (some ⟨b, o, none⟩) 16 c]] w fun e w' => e = .returned (.int .i64 0) ∧ Below w.heap.size w w' := by
  have hm16 := g.m16
  have hm : m < 4294967296 := by omega
  have hl := g.len
  have hno : ∀ j, j < l.length → 2 * size (l.getD j 0) ≤ size m := by
    intro j hj
    have := worst_neg hw j hj
    omega
  have hz : ((m : Int) == 0) = false := by rw [beq_eq_false_iff_ne]; omega
  have hb1 : Below w.heap.size w (w.alloc (.cells #[.int .u32 (m : Int), .slice (some ⟨b, o, none⟩) 16 c] 46)) := (Below.refl w.heap.size w).alloc (Nat.le_refl _) _
  have hA := Blk.new w [.int .u32 (m : Int), .slice (some ⟨b, o, none⟩) 16 c] 46 (0, 0)
  have HL := Lib.hid hl
  clear hl
  go_enter Try.func27, Try.ntmps27
  go_wp2_with fail
  clear hz
  go_loopw [17] (fun i wr => ∃ k : Nat, k ≤ 16 ∧ i = .int .i64 (k : Int) ∧ Below w.heap.size w wr ∧ Blk wr w.heap.size [.int .u32 (m : Int), .slice (some ⟨b, o, none⟩) 16 c] 46 (0, 0)) (fun i _ => 16 - (intOf i).toNat)
  case atStart => exact ⟨0, Nat.zero_le _, rfl, hb1, hA⟩
  case round =>
    obtain ⟨k, hk, rfl, hb, hA⟩ := hrel
    by_cases hlt : k < 16
    · have hkl : k < l.length := by rw [HL.out]; exact hlt
      obtain ⟨p1, p2⟩ := (hs.later hb) k hkl
      have hx : l.getD k 0 = l[k] := by rw [List.getD_eq_getElem?_getD, List.getElem?_eq_getElem hkl]; rfl
      have gs := g.sub k
      have gf := g.self k
      have gm := g.mem k
      rw [hx] at gs gf gm
      clear hx
      generalize l[k] = x at *
      have GF := Lib.hid gf
      clear gf
      obtain ⟨wo, rfl⟩ : ∃ wo : World, wo = wr := ⟨_, rfl⟩
      have hb0 := hb
      have hd : decide ((k : Int) < 16) = true := decide_eq_true (by omega)
      go_wp2_with fail
      go_loopw [20] (fun i wr => ∃ j : Nat, j ≤ 32 ∧ i = .int .i64 (j : Int) ∧ wr = wo) (fun i _ => 32 - (intOf i).toNat)
      case atStart => exact ⟨0, Nat.zero_le _, rfl, rfl⟩
      case round =>
        obtain ⟨j, hj, rfl, rfl⟩ := hrel
        have q1 : wr.cell? ⟨w.heap.size, 0, none⟩ = some (.int .u32 (m : Int)) := hA.cell 0
        have q2 : wr.cell? ⟨w.heap.size, 1, none⟩ = some (.slice (some ⟨b, o, none⟩) 16 c) := hA.cell 1
        by_cases hlj : j < 32
        · have c1 := has_any x p2 j hlj
          have c2 := has_any m hm k (by omega)
          have c3 := has_any m hm j hlj
          cases hbit : x.testBit j with
          | false =>
            simp only [hbit] at c1
            clear hbit
            go_wp2_with fail
            refine (c1 _).mono ?_
            rintro e w' ⟨rfl, rfl⟩
            go_wp2_with fail
            go_roundw
            case rel => exact ⟨j + 1, by omega, by go_num, trivial⟩
            case measure => simp [intOf]; omega
          | true =>
            have hmj := gs j hbit
            have hmk := gm (by rintro rfl; rw [Nat.zero_testBit] at hbit; cases hbit)
            have hjk : ((j : Int) == (k : Int)) = false := by
              rw [beq_eq_false_iff_ne]
              intro e
              have e : j = k := by omega
              subst e
              rw [GF.out] at hbit; cases hbit
            simp only [hbit] at c1
            simp only [hmk] at c2
            simp only [hmj] at c3
            clear hbit hmj hmk gm
            go_wp2_with fail
            refine (c1 _).mono ?_
            rintro e w' ⟨rfl, rfl⟩
            go_wp2_with fail
            refine (c2 _).mono ?_
            rintro e w' ⟨rfl, rfl⟩
            go_wp2_with fail
            refine (c3 _).mono ?_
            rintro e w' ⟨rfl, rfl⟩
            go_wp2_with fail
            go_roundw
            case rel => exact ⟨j + 1, by omega, by go_num, trivial⟩
            case measure => simp [intOf]; omega
        · obtain rfl : j = 32 := by omega
          clear gm
          go_wp2_with fail
          go_roundw
          case rel => exact ⟨k + 1, by omega, by go_num, hb0, hA⟩
          case measure => simp [intOf]; omega
    · obtain rfl : k = 16 := by omega
      have q1 : wr.cell? ⟨w.heap.size, 0, none⟩ = some (.int .u32 (m : Int)) := hA.cell 0
      have q2 : wr.cell? ⟨w.heap.size, 1, none⟩ = some (.slice (some ⟨b, o, none⟩) 16 c) := hA.cell 1
      go_wp2_with fail
      refine (tooMany_no m hm l HL.out b o c wr (hs.later hb) hno).mono ?_
      rintro e w' ⟨rfl, hb2⟩
      go_wp2_with fail
      go_ret
      exact ⟨rfl, hb.trans (hb2.mono hb.size)⟩
end Go.Proofs.Ytclobldldddjnaa.Vote
