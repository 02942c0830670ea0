/-
  VoteBack: a vote that is taken back is as if it had not been cast.
-/
import Derived.Test.YtclobldldddjnaaVoteQ
import Derived.Test.YtclobldldddjnaaVoteL
set_option linter.unusedVariables false
namespace Go.Proofs.Ytclobldldddjnaa.Vote
open Go.RowKit Go.Proofs.Ytclobldldddjnaa Go.Proofs.Ytclobldldddjnaa.Bv

theorem vrow_zero (w : World) : VRow w none 0 0 [] := ⟨Nat.le_refl _, by decide, rfl, fun h => absurd h (by decide), fun _ => rfl⟩
theorem back_zero (w : World) (a b : Int) : Calls Try.prog 29 #[.agg #[.int .u32 0, .slice none 0 0], .int .i64 a, .int .i64 b] w (BackNay 1 w) :=
  back_nay 0 (by decide) none 0 0 a b w 1 (.inl ⟨by decide, fun w1 hb => check_len 0 (by decide) none 0 0 (by decide) w1⟩)
theorem row_of {w : World} {base r c : Nat} {l : List Nat} (h : w.ownsRow base 42 1 (.slice (some ⟨r, 0, none⟩) 16 c) 16 (cellsU l)) (hn : l.length = 16) (hs : ∀ k, l.getD k 0 < 4294967296) : Sets w r 0 l :=
  fun k hk => ⟨by rw [Nat.zero_add, h.cellAt k (by omega), cellsU_get l k hk], by have := hs k; simp [hk] at this; exact this⟩

set_option maxRecDepth 100000 in
set_option maxHeartbeats 2000000 in
theorem voteBack_any (c0 : Array Value) (a1 : Int) (a2 : Int) (w : World) (h0 : (.cons (.int .u32) (.cons (.slice (.int .u32) 4) .nil) : Sh).Ok w c0.toList) (w1 : (Lit.int .i64 a1).wf = true) (w2 : (Lit.int .i64 a2).wf = true) :
    Calls Try.prog 11 #[.agg c0, .int .i64 a1, .int .i64 a2] w fun e w' => e = .returned (.bool true) ∧ Below w.heap.size w w' := by
  obtain ⟨m, A, n, c, l, rfl, hm, hv⟩ := votes_open h0
  clear w1 w2 h0
  have hb0 : Below w.heap.size w (w.alloc (.cells #[.int .u32 (m : Int), .slice A n c] 46)) := (Below.refl w.heap.size w).alloc (Nat.le_refl _) _
  have hA := Blk.new w [.int .u32 (m : Int), .slice A n c] 46 (0, 0)
  rcases cast_cases hm hv a1 a2 with ⟨k, hk, hcast⟩ | ⟨p, q, g, o, rfl, rfl, rfl, rfl, hst, hcan, hpq, hbit⟩
  · have hk2 : (k != 0) = true := by rw [bne_iff_ne]; exact hk
    go_enter Try.func11, Try.ntmps11
    go_wp2_with fail
    refine (hcast _ hb0).mono ?_
    rintro e w1 ⟨rfl, hb1⟩
    go_wp2_with fail
    have hb2 := (hb0.trans (hb1.mono hb0.size)).alloc (hb0.trans (hb1.mono hb0.size)).size (.cells #[.int .u32 0, .slice none 0 0] 46)
    refine (back_zero _ _ _).mono ?_
    rintro e w3 ⟨rfl, hb3⟩
    have hb4 := hb2.trans (hb3.mono hb2.size)
    go_wp2_with fail
    have hb5 := hb4.alloc hb4.size (.cells #[.int .u32 0, .slice none 0 0] 46)
    refine (lives_any _).mono ?_
    rintro e w5 ⟨rfl, hb6⟩
    have hb7 := hb5.trans (hb6.mono hb5.size)
    go_wp2_with fail
    refine (lives_any _).mono ?_
    rintro e w6 ⟨rfl, hb8⟩
    have hb9 := hb7.trans (hb8.mono hb7.size)
    go_wp2_with fail
    go_ret
    exact ⟨rfl, hb9⟩
  · have hl : (l.take 16).length = 16 := hcan.len
    have hlt := hst.lt
    have hpg := cast_purged hl hlt hcan.check hcan.by_ hcan.at_ hpq
    have hstay := fun h => purge_stays hl hlt hcan.check hcan.by_ hcan.at_ hpq h
    have hback := take_back hl hlt hcan.p16 hcan.q16 hbit
    have hcast := fun w1 (hb : Below w.heap.size w w1) => cast_good m hm (l.take 16) hl g o c p q hcan.p16 hcan.q16 w1 (hst.later hb) hcan.check hcan.by_ hcan.at_ hpq (by
      have := hcan.q16
      rw [List.getD_eq_getElem?_getD, List.getElem?_eq_getElem (by omega)] at hbit
      exact hbit)
    have hgd : (l.take 16)[q]'(by rw [hl]; exact hcan.q16) = (l.take 16).getD q 0 := by
      have := hcan.q16
      rw [List.getD_eq_getElem?_getD, List.getElem?_eq_getElem (by omega)]; rfl
    have hq16 := hcan.q16
    have hp16 := hcan.p16
    have hm1 := hcan.by_
    have hm2 := hcan.at_
    simp only [hgd] at hcast
    generalize l.take 16 = L at *
    generalize hL0 : L.set q (L.getD q 0 ||| 2 ^ p) = L0 at *
    obtain ⟨r1, r2, hr⟩ : ∃ r1 r2, purge 16 m L0 = (r1, r2) := ⟨_, _, rfl⟩
    rw [hr] at hpg
    simp only [hr] at hcast
    have hr1 : r1 < 4294967296 := by have := hpg.good.m16; simp at this; omega
    have hr2 : r2.length = 16 := hpg.good.len
    have hr3 : ∀ k, r2.getD k 0 < 4294967296 := hpg.good.lt
    have hrc : check r1 r2 = 0 := hpg.check
    cases hleft : memb r1 (q : Int) with
    | false =>
      have Hl := Lib.hid hleft
      clear hstay hback hbit hgd hcan hleft
      simp only [Hl.out] at hcast
      go_enter Try.func11, Try.ntmps11
      go_wp2_with fail
      refine (hcast _ hb0).mono ?_
      rintro e w1 ⟨r, c', rfl, hb1, hown⟩
      have hb2 := (hb0.trans (hb1.mono hb0.size)).alloc (hb0.trans (hb1.mono hb0.size)).size (.cells #[.int .u32 (r1 : Int), .slice (some ⟨r, 0, none⟩) 16 c'] 46)
      have hS := (row_of hown hr2 hr3).later ((Below.refl w1.heap.size w1).alloc (Nat.le_refl _) (.cells #[.int .u32 (r1 : Int), .slice (some ⟨r, 0, none⟩) 16 c'] 46))
      clear hown hcast
      go_wp2_with fail
      refine (back_nay r1 hr1 (some ⟨r, 0, none⟩) 16 c' p q _ 7 ?_).mono ?_
      · have hsay : Says (w1.alloc (.cells #[.int .u32 (r1 : Int), .slice (some ⟨r, 0, none⟩) 16 c'] 46)) r1 (some ⟨r, 0, none⟩) 16 c' 0 := by
          intro w2 hb
          have := check_any r1 hr1 r2 r 0 c' w2 (hS.later hb) hr2
          rw [hrc] at this
          exact this
        cases hmp : memb r1 (p : Int) with
        | false => exact .inr (.inl ⟨hsay, rfl, rfl⟩)
        | true => exact .inr (.inr (.inl ⟨hsay, rfl, Hl.out, rfl⟩))
      rintro e w3 ⟨rfl, hb3⟩
      have hb4 := hb2.trans (hb3.mono hb2.size)
      have hb5 := hb4.alloc hb4.size (.cells #[.int .u32 0, .slice none 0 0] 46)
      clear hr hS
      go_wp2_with fail
      refine (lives_any _).mono ?_
      rintro e w5 ⟨rfl, hb6⟩
      have hb7 := hb5.trans (hb6.mono hb5.size)
      go_wp2_with fail
      refine (lives_any _).mono ?_
      rintro e w6 ⟨rfl, hb8⟩
      have hb9 := hb7.trans (hb8.mono hb7.size)
      go_wp2_with fail
      go_ret
      exact ⟨rfl, hb9⟩
    | true =>
      have hst2 := hstay (by rw [hr]; exact hleft)
      rw [hr] at hst2
      obtain ⟨rfl, rfl⟩ := Prod.mk.inj hst2
      have Hl := Lib.hid hleft
      have hq2 : r2.getD q 0 = L.getD q 0 ||| 2 ^ p := by rw [← hL0, set_get _ _ _ _ (by omega)]; simp
      have hbit2 : (r2[q]'(by omega)).testBit p = true := by
        have e : r2[q]'(by omega) = r2.getD q 0 := by rw [List.getD_eq_getElem?_getD, List.getElem?_eq_getElem (by omega)]; rfl
        rw [e, hq2, Nat.testBit_or, Nat.testBit_two_pow]; simp
      have hbk : r2.set q (diff (r2[q]'(by omega)) (2 ^ p)) = L := by
        have e : r2[q]'(by omega) = r2.getD q 0 := by rw [List.getD_eq_getElem?_getD, List.getElem?_eq_getElem (by omega)]; rfl
        rw [e, hq2]; exact hback
      have Hb := Lib.hid hbk
      have Hm1 := Lib.hid hm1
      have Hm2 := Lib.hid hm2
      have Hrc := Lib.hid hrc
      have Hbit := Lib.hid hbit2
      clear hstay hback hbit hgd hleft hst2 hL0 hr hq2 hbk hm1 hm2 hrc hbit2
      simp only [Hl.out] at hcast
      go_enter Try.func11, Try.ntmps11
      go_wp2_with fail
      refine (hcast _ hb0).mono ?_
      rintro e w1 ⟨r, c', rfl, hb1, hown⟩
      have hb2 := (hb0.trans (hb1.mono hb0.size)).alloc (hb0.trans (hb1.mono hb0.size)).size (.cells #[.int .u32 (r1 : Int), .slice (some ⟨r, 0, none⟩) 16 c'] 46)
      have hS := (row_of hown hr2 hr3).later ((Below.refl w1.heap.size w1).alloc (Nat.le_refl _) (.cells #[.int .u32 (r1 : Int), .slice (some ⟨r, 0, none⟩) 16 c'] 46))
      have hA1 := hA.later hb1
      have hA2 := hA1.later ((Below.refl w1.heap.size w1).alloc (Nat.le_refl _) (.cells #[.int .u32 (r1 : Int), .slice (some ⟨r, 0, none⟩) 16 c'] 46))
      have hP := Blk.new w1 [.int .u32 (r1 : Int), .slice (some ⟨r, 0, none⟩) 16 c'] 46 (0, 0)
      have hbk := back_yea r1 hm r2 hr2 r 0 c' p q hp16 hq16 _ hS Hrc.out Hm1.out Hm2.out Hbit.out
      rw [Hb.out] at hbk
      clear hown hcast
      go_wp2_with fail
      refine hbk.mono ?_
      rintro e w3 ⟨r', c'', rfl, hb3, hown3⟩
      have hb4 := hb2.trans (hb3.mono hb2.size)
      have hb5 := hb4.alloc hb4.size (.cells #[.int .u32 (r1 : Int), .slice (some ⟨r', 0, none⟩) 16 c''] 46)
      have hL : L.length = 16 := hl
      have hN := (Below.refl w3.heap.size w3).alloc (Nat.le_refl _) (.cells #[.int .u32 (r1 : Int), .slice (some ⟨r', 0, none⟩) 16 c''] 46)
      have hS4 := (row_of hown3 hL hlt).later hN
      have hA4 := (hA2.later hb3).later hN
      have hP4 := (hP.later hb3).later hN
      have hQ4 := Blk.new w3 [.int .u32 (r1 : Int), .slice (some ⟨r', 0, none⟩) 16 c''] 46 (0, 0)
      have hV4 := hst.later hb5
      clear hown3 hbk hS hA1 hA2 hP
      go_wp2_with fail
      refine (lives_any _).mono ?_
      rintro e w5 ⟨rfl, hb6⟩
      have hb7 := hb5.trans (hb6.mono hb5.size)
      have hS5 := hS4.later hb6
      have hA5 := hA4.later hb6
      have hP5 := hP4.later hb6
      have hQ5 := hQ4.later hb6
      have hV5 := hV4.later hb6
      have y1 : w5.cell? ⟨w.heap.size, 0, none⟩ = some (.int .u32 (r1 : Int)) := hA5.cell 0
      have y2 : w5.cell? ⟨w.heap.size, 1, none⟩ = some (.slice (some ⟨g, o, none⟩) 16 c) := hA5.cell 1
      have y3 : w5.cell? ⟨w3.heap.size, 0, none⟩ = some (.int .u32 (r1 : Int)) := hQ5.cell 0
      have y4 : w5.cell? ⟨w3.heap.size, 1, none⟩ = some (.slice (some ⟨r', 0, none⟩) 16 c'') := hQ5.cell 1
      clear hS4 hA4 hP4 hQ4 hV4
      go_wp2_with fail
      refine (same_any r1 L hL r' 0 c'' g o c w5 hS5 hV5).mono ?_
      rintro e w6 ⟨rfl, hb8⟩
      have hb9 := hb7.trans (hb8.mono hb7.size)
      have z1 : w6.cell? ⟨w.heap.size, 0, none⟩ = some (.int .u32 (r1 : Int)) := (hA5.later hb8).cell 0
      have z2 : w6.cell? ⟨w1.heap.size, 0, none⟩ = some (.int .u32 (r1 : Int)) := (hP5.later hb8).cell 0
      have hmm : ((r1 : Int) == (r1 : Int)) = true := by simp
      go_wp2_with fail
      go_ret
      exact ⟨rfl, hb9⟩
end Go.Proofs.Ytclobldldddjnaa.Vote
