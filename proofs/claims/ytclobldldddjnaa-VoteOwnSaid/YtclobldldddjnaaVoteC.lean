/-
  The walks of vote.Check and vote.member.
-/
import Derived.Test.YtclobldldddjnaaVoteW
import Derived.Test.YtclobldldddjnaaVoteB
set_option linter.unusedVariables false
namespace Go.Proofs.Ytclobldldddjnaa.Vote
open Go.RowKit Go.Proofs.Ytclobldldddjnaa Go.Proofs.Ytclobldldddjnaa.Bv

/-- Is what is against one member right? -/
def okSet (m x k : Nat) : Bool := diff x m == 0 && !x.testBit k && (x == 0 || m.testBit k)
def okSets (m : Nat) : List Nat → Nat → Bool
  | [], _ => true
  | x :: xs, k => okSet m x k && okSets m xs (k + 1)
theorem okSets_drop (m : Nat) (l : List Nat) (k : Nat) (h : k < l.length) : okSets m (l.drop k) k = (okSet m l[k] k && okSets m (l.drop (k + 1)) (k + 1)) := by
  rw [List.drop_eq_getElem_cons h]; rfl
def check (m : Nat) (l : List Nat) : Int :=
  if m = 0 ∨ 65536 ≤ m then 1 else if okSets m l 0 = false then 4 else if 0 ≤ outIdx ((size m : Int) / 2 + 1) l 0 then 4 else 0
theorem ret_e {a b : Int} (h : a = b) : Ending.returned (.int .i64 a) = .returned (.int .i64 b) := by rw [h]

theorem check_bad {m : Nat} {l : List Nat} {k x : Nat} (hc : check m l = if okSets m l 0 = false then 4 else if 0 ≤ outIdx ((size m : Int) / 2 + 1) l 0 then 4 else 0) (h : okSets m l 0 = okSets m (l.drop k) k)
    (hd : okSets m (l.drop k) k = (okSet m x k && okSets m (l.drop (k + 1)) (k + 1))) (hx : okSet m x k = false) : check m l = 4 := by
  rw [hc, h, hd, hx]; rfl
theorem check_next {m : Nat} {l : List Nat} {k x : Nat} (h : okSets m l 0 = okSets m (l.drop k) k)
    (hd : okSets m (l.drop k) k = (okSet m x k && okSets m (l.drop (k + 1)) (k + 1))) (hx : okSet m x k = true) : okSets m l 0 = okSets m (l.drop (k + 1)) (k + 1) := by
  rw [h, hd, hx]; rfl
set_option maxHeartbeats 4000000 in
set_option maxRecDepth 100000 in
theorem check_any (m : Nat) (hm : m < 4294967296) (l : List Nat) (b o c : Nat) (w : World) (hl : Sets w b o l) (hn : l.length = 16) :
    Calls Try.prog 24 #[.agg #[.int .u32 (m : Int), .slice (some ⟨b, o, none⟩) 16 c]] w fun e w' => e = .returned (.int .i64 (check m l)) ∧ Below w.heap.size w w' := by
  have hb1 : Below w.heap.size w (w.alloc (.cells #[.int .u32 (m : Int), .slice (some ⟨b, o, none⟩) 16 c] 46)) := (Below.refl w.heap.size w).alloc (Nat.le_refl _) _
  have hA := Blk.new w [.int .u32 (m : Int), .slice (some ⟨b, o, none⟩) 16 c] 46 (0, 0)
  have HN := Lib.hid hn
  clear hn
  by_cases h0 : m = 0
  · have hc : check m l = 1 := if_pos (.inl h0)
    rw [hc]
    have hz : ((m : Int) == 0) = true := by simp [h0]
    clear h0 hc
    go_enter Try.func24, Try.ntmps24
    go_wp2_with fail
    go_ret
    exact ⟨rfl, hb1⟩
  · have hz : ((m : Int) == 0) = false := by simp [h0]
    by_cases h1 : 65536 ≤ m
    · have hc : check m l = 1 := if_pos (.inr h1)
      rw [hc]
      have hx : ((m : Int) / 65536 != 0) = true := by simp; omega
      clear hc
      go_enter Try.func24, Try.ntmps24
      go_wp2_with fail
      go_ret
      exact ⟨rfl, hb1⟩
    · have hx : ((m : Int) / 65536 != 0) = false := by simp; omega
      have hc : check m l = if okSets m l 0 = false then 4 else if 0 ≤ outIdx ((size m : Int) / 2 + 1) l 0 then 4 else 0 := if_neg (by omega)
      have HC := Lib.hid hc
      clear hc h0 h1
      go_enter Try.func24, Try.ntmps24
      go_wp2_with fail
      go_loopw [21] (fun i wr => ∃ k : Nat, k ≤ 16 ∧ i = .int .i64 (k : Int) ∧ Below w.heap.size w wr ∧ Blk wr w.heap.size [.int .u32 (m : Int), .slice (some ⟨b, o, none⟩) 16 c] 46 (0, 0) ∧ Hid (okSets m l 0 = okSets m (l.drop k) k)) (fun i _ => 16 - (intOf i).toNat)
      case atStart => exact ⟨0, Nat.zero_le _, rfl, hb1, hA, rfl⟩
      case round =>
        obtain ⟨k, hk, rfl, hb, hA, HO⟩ := hrel
        have q1 : wr.cell? ⟨w.heap.size, 0, none⟩ = some (.int .u32 (m : Int)) := hA.cell 0
        have q2 : wr.cell? ⟨w.heap.size, 1, none⟩ = some (.slice (some ⟨b, o, none⟩) 16 c) := hA.cell 1
        by_cases hlt : k < 16
        · have hkl : k < l.length := by rw [HN.out]; exact hlt
          obtain ⟨p1, p2⟩ := (hl.later hb) k hkl
          have hd := okSets_drop m l k hkl
          generalize l[k] = x at p1 p2 hd
          have hdn := diff_num x m
          have e1 := bit_num x k p2
          have e2 := bit_num m k hm
          have e3 : ((x / 2 ^ k : Nat) : Int) = (x : Int) / 2 ^ k := by simp
          have e4 : ((m / 2 ^ k : Nat) : Int) = (m : Int) / 2 ^ k := by simp
          rw [e3] at e1
          rw [e4] at e2
          clear e3 e4 hx hz
          have ho : okSet m x k = (diff x m == 0 && !x.testBit k && (x == 0 || m.testBit k)) := rfl
          by_cases A : diff x m = 0
          · rw [A] at hdn ho
            by_cases B : x.testBit k = true
            · rw [if_pos B] at e1
              have HB := Lib.hid (check_bad HC.out HO.out hd (by rw [ho, B]; rfl))
              clear hd ho A B HO HC e2
              go_wp2_with fail
              go_ret
              exact ⟨ret_e HB.out.symm, hb⟩
            · rw [if_neg B] at e1
              have B' : x.testBit k = false := by simpa using B
              by_cases C : x = 0
              · have HB := Lib.hid (check_next HO.out hd (by rw [ho, B', C]; rfl))
                have hz : ((x : Int) != 0) = false := by simp [C]
                clear hd ho A B B' HO HC e2 C
                go_wp2_with fail
                exact ⟨⟨k + 1, by omega, by go_num, hb, hA, HB.out⟩, by simp [intOf]; omega⟩
              · have hz : ((x : Int) != 0) = true := by simp [C]
                by_cases D : m.testBit k = true
                · rw [if_pos D] at e2
                  have HB := Lib.hid (check_next HO.out hd (by rw [ho, B', D]; simp))
                  clear hd ho A B B' HO HC D C
                  go_wp2_with fail
                  exact ⟨⟨k + 1, by omega, by go_num, hb, hA, HB.out⟩, by simp [intOf]; omega⟩
                · rw [if_neg D] at e2
                  have D' : m.testBit k = false := by simpa using D
                  have HB := Lib.hid (check_bad HC.out HO.out hd (by rw [ho, B', D']; simp [C]))
                  clear hd ho A B B' HO HC D D' C
                  go_wp2_with fail
                  go_ret
                  exact ⟨ret_e HB.out.symm, hb⟩
          · have HB := Lib.hid (check_bad HC.out HO.out hd (by rw [ho]; simp [A]))
            have hz : (((diff x m : Nat) : Int) != 0) = true := by simp [A]
            generalize diff x m = y at hdn hz
            clear hd ho A HO HC e1 e2
            go_wp2_with fail
            go_ret
            exact ⟨ret_e HB.out.symm, hb⟩
        · obtain rfl : k = 16 := by omega
          have hok : okSets m l 0 = true := by rw [HO.out, ← HN.out, List.drop_length]; rfl
          have hou := outvoted_any m hm l b o c wr (hl.later hb) (by rw [HN.out]; decide) (by rw [HN.out]; decide)
          rw [HN.out] at hou
          have hfin : check m l = if 0 ≤ outIdx ((size m : Int) / 2 + 1) l 0 then 4 else 0 := by rw [HC.out, hok]; rfl
          obtain ⟨t, HT⟩ : ∃ t, Hid (outIdx ((size m : Int) / 2 + 1) l 0 = t) := ⟨_, Lib.hid rfl⟩
          rw [HT.out] at hfin hou
          have hq : t < 0 ∨ 0 ≤ t := by omega
          have HF := Lib.hid hfin
          clear hfin hok HC HO hx hz
          go_wp2_with fail
          refine hou.mono ?_
          rintro e w2 ⟨rfl, hb2⟩
          rcases hq with hq | hq
          · go_wp2_with fail
            go_ret
            exact ⟨ret_e (by rw [HF.out, if_neg (by omega)]), hb.trans (hb2.mono hb.size)⟩
          · go_wp2_with fail
            go_ret
            exact ⟨ret_e (by rw [HF.out, if_pos hq]), hb.trans (hb2.mono hb.size)⟩
end Go.Proofs.Ytclobldldddjnaa.Vote
