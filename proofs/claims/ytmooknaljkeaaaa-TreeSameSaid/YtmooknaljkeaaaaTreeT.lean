/-
  The walk of tree.trail and tree.Trail.
-/
import Derived.Test.YtmooknaljkeaaaaTreeC
import Derived.Test.YtmooknaljkeaaaaStep
set_option linter.unusedVariables false
namespace Go.Proofs.Ytmooknaljkeaaaa.Tree
open Go.RowKit Go.Proofs.Ytmooknaljkeaaaa Go.Proofs.Ytmooknaljkeaaaa.Bv Go.Proofs.Ytmooknaljkeaaaa.Mark

def trailF : Nat → List (List UInt8) → Nat → List W
  | 0, _, _ => []
  | f + 1, l, at_ => if l.length = 1 then [] else
    if at_ < splitN l.length then trailF f (l.take (splitN l.length)) at_ ++ [rootL (l.drop (splitN l.length))]
    else trailF f (l.drop (splitN l.length)) (at_ - splitN l.length) ++ [rootL (l.take (splitN l.length))]
def TrailPost (w : World) (t : List W) (e : Ending) (w' : World) : Prop := ∃ A c, e = .returned (.slice A t.length c) ∧ Own w' w.heap.size 30 1 GW (.slice A t.length c) t.length (cellsW t) ∧ Below w.heap.size w w'
theorem trailF_len (f : Nat) (l : List (List UInt8)) (at_ : Nat) : (trailF f l at_).length ≤ f := by
  induction f generalizing l at_ with
  | zero => simp [trailF]
  | succ f ih =>
    rw [trailF]
    split
    · simp
    · split
      · have := ih (l.take (splitN l.length)) at_; simp; omega
      · have := ih (l.drop (splitN l.length)) (at_ - splitN l.length); simp; omega
theorem rd_new (w : World) (x : W) (q : Nat) : Rd ((w.alloc (.cells #[.int .u64 (U x)] 30)).drewN q) 1 (some ⟨w.heap.size, 0, none⟩) 1 [.int .u64 (U x)] :=
  Rd.drewN ⟨rfl, fun _ => ⟨w.heap.size, 0, rfl, fun q u hq => by
    match q, hq with
    | 0, hq => simp at hq; subst hq; simp⟩⟩ q
theorem gw_zero : ∀ j u, (Value.int .u64 0).cells[j]? = some u → GW j u := fun j u hu => by match j, hu with | 0, hu => exact ⟨0, (Option.some.inj hu).symm⟩
theorem one_cell {x : W} : ∀ u ∈ [Value.int .u64 (U x)], u.oneCell' = true := by intro u hu; simp at hu; subst hu; rfl
theorem gw_one {x : W} : ∀ j u, [Value.int .u64 (U x)][j]? = some u → GW (j % 1) u := fun q u hq => by match q, hq with | 0, hq => exact ⟨_, (Option.some.inj hq).symm⟩
theorem trail_below {w wT w5 : World} {x : W} {q n : Nat} {vA : Value} {xs : List Value} (hbT : Below w.drew.heap.size w.drew wT)
    (ho : Own ((wT.alloc (.cells #[.int .u64 (U x)] 30)).drewN q) w.heap.size 30 1 GW vA n xs) (hg : ((wT.alloc (.cells #[.int .u64 (U x)] 30)).drewN q).grownBy w5 vA.ownBlock) : Below w.heap.size w w5 := by
  have h1 : Below w.heap.size w wT := ((Below.refl w.heap.size w).drew).trans hbT
  have h2 := below_drewN (h1.alloc h1.size (.cells #[.int .u64 (U x)] 30)) q
  exact h2.grown hg h2.size (fun k hk => (ho.row.lt k hk).1)
set_option maxRecDepth 100000 in
set_option maxHeartbeats 4000000 in
theorem trail_any (f : Nat) : ∀ (A : Option Addr) (n c at_ : Nat) (l : List ByteArray) (w : World), n ≤ f → f ≤ 256 → 1 ≤ n → at_ < n → n ≤ c → c ≤ 9223372036854775807 → Short l → Rd w 1 A n (cellsS l) →
    Calls Try.prog 51 #[.slice A n c, .int .i64 (at_ : Int)] w (TrailPost w (trailF f (lists l) at_)) := by
  induction f with
  | zero => intro A n c at_ l w h1 h2 h3; omega
  | succ f ih =>
    intro A n c at_ l w hf h256 h1 hat hnc hc hs hr
    have hl : l.length = n := by have := hr.1; rw [cellsS_len] at this; omega
    have hll : (lists l).length = n := by rw [lists_len]; exact hl
    by_cases hn : n = 1
    · subst hn
      have he : trailF (f + 1) (lists l) at_ = [] := by rw [trailF, if_pos hll]
      rw [he]
      have hone : (((1 : Nat) : Int) == 1) = true := rfl
      clear ih hr he hl hll
      go_enter Try.func51, Try.ntmps51
      go_wp2_with fail
      go_ret
      exact ⟨none, 0, rfl, Own.nil _ _ _ _ _, Below.refl _ _⟩
    · have hn1 : ((n : Int) == 1) = false := by rw [beq_eq_false_iff_ne]; omega
      obtain ⟨b, o, rfl, _⟩ := hr.2 (by omega)
      obtain ⟨i0, hi, hz0, hz1, hz2⟩ := info_parts infoU64
      have hsp := split_lt (n := n) (by omega)
      have hspl := split_any n (by omega) (by omega)
      have hcut := Rd.cut hr (splitN n) (by omega)
      have ht : lists (l.take (splitN n)) = (lists l).take (splitN n) := by unfold lists; rw [List.map_take]
      have hd : lists (l.drop (splitN n)) = (lists l).drop (splitN n) := by unfold lists; rw [List.map_drop]
      have hs1 : Short (l.take (splitN n)) := fun s h => hs s (List.mem_of_mem_take h)
      have hs2 : Short (l.drop (splitN n)) := fun s h => hs s (List.mem_of_mem_drop h)
      have he : trailF (f + 1) (lists l) at_ = if at_ < splitN n then trailF f (lists (l.take (splitN n))) at_ ++ [rootL (lists (l.drop (splitN n)))] else trailF f (lists (l.drop (splitN n))) (at_ - splitN n) ++ [rootL (lists (l.take (splitN n)))] := by
        rw [trailF, if_neg (by rw [hll]; exact hn), hll, ht, hd]
      rw [he]
      by_cases hlt : at_ < splitN n
      · rw [if_pos hlt]
        have hT := fun W (hW : Rd W 1 (some ⟨b, o, none⟩) (splitN n) (cellsS (l.take (splitN n)))) => ih (some ⟨b, o, none⟩) (splitN n) c at_ (l.take (splitN n)) W (by omega) (by omega) hsp.1 hlt (by omega) hc hs1 hW
        have hR := fun W (hW : Rd W 1 (some ⟨b, o + splitN n, none⟩) (n - splitN n) (cellsS (l.drop (splitN n)))) => root_any (n - splitN n) (some ⟨b, o + splitN n, none⟩) (n - splitN n) (c - splitN n) (l.drop (splitN n)) W (Nat.le_refl _) (by omega) (by omega) (by omega) hs2 hW
        have hlen := trailF_len f (lists (l.take (splitN n))) at_
        generalize trailF f (lists (l.take (splitN n))) at_ = tr at *
        generalize rootL (lists (l.drop (splitN n))) = rt at *
        unfold TrailPost at hT
        obtain ⟨C1, C2⟩ := hcut
        clear ht hd he ih hr hl hll hn hs1 hs2
        generalize l.take (splitN n) = la at *
        generalize l.drop (splitN n) = lb at *
        have hsx : splitN n < n := hsp.2.1
        generalize splitN n = s at *
        have hsc : s ≤ c := by omega
        have hsn : s ≤ n := by omega
        have hcs : ¬ c = s := by omega
        go_enter Try.func51, Try.ntmps51
        go_wp2_with fail
        refine (hspl _).mono ?_
        rintro e w' ⟨rfl, rfl⟩
        clear hspl
        go_wp2_with fail
        go_region_law (first
          | (refine step_call rfl 51 _ Try.func51 (by kernel_rfl) (by kernel_rfl) _ _ rfl #[.slice (some ⟨b, o, none⟩) s c, .int .i64 (at_ : Int)] (by simp [Act.eval, Act.put]) ?_; refine (hT w.drew (C1.later (Below.refl w.heap.size w).drew)).mono ?_; rintro e wT ⟨vA, vc, rfl, hownT, hbT⟩; refine ⟨_, rfl, ?_⟩)
          | (refine step_call rfl 48 _ Try.func48 (by kernel_rfl) (by kernel_rfl) _ _ rfl #[.slice (some ⟨b, o + s, none⟩) (n - s) (c - s)] (by simp [Act.eval]) ?_; refine (hR wT (C2.later ((Below.refl w.heap.size w).drew.trans hbT))).mono ?_; rintro e wR ⟨rfl, qR, rfl⟩; have HOW := Lib.hid (show Own ((wT.alloc (.cells #[.int .u64 (U rt)] 30)).drewN qR) w.heap.size 30 1 GW (.slice vA tr.length vc) tr.length (cellsW tr) from ((hownT.later ((Below.refl wT.heap.size wT).alloc (Nat.le_refl _) _)).drewN qR)); have HRD := Lib.hid (show Rd ((wT.alloc (.cells #[.int .u64 (U rt)] 30)).drewN qR) 1 (some ⟨wT.heap.size, 0, none⟩) 1 [.int .u64 (U rt)] from rd_new wT rt qR); refine ⟨_, rfl, ?_⟩)
          | (refine step_append_all _ rfl _ _ _ rfl w.heap.size 30 i0 (.int .u64 0) 1 8 Try.underlying23 hi hz0 hz1 hz2 rfl (by decide) GW gw_zero _ tr.length (cellsW tr) rfl HOW.out (some ⟨wT.heap.size, 0, none⟩) 1 1 [.int .u64 (U rt)] rfl HRD.out one_cell gw_one (by unfold maxLen; omega) (by omega) (by have := hbT.size; simp at this ⊢; omega) ?_; intro v5 w5 hown5 hgrow5 _ hat5))
        have hb5 := trail_below hbT HOW.out hgrow5
        have hown5 : Own w5 w.heap.size 30 1 GW v5 (tr ++ [rt]).length (cellsW (tr ++ [rt])) := by rw [List.length_append, cellsW_snoc]; exact hown5
        clear hgrow5 hat5 hownT HOW HRD
        have HO5 := Lib.hid hown5
        obtain ⟨A5, c5, rfl, _⟩ := hown5.shape
        clear hown5
        go_wp2_with fail
        go_ret
        exact ⟨A5, c5, rfl, HO5.out, hb5⟩
      · rw [if_neg hlt]
        have hT := fun W (hW : Rd W 1 (some ⟨b, o + splitN n, none⟩) (n - splitN n) (cellsS (l.drop (splitN n)))) => ih (some ⟨b, o + splitN n, none⟩) (n - splitN n) (c - splitN n) (at_ - splitN n) (l.drop (splitN n)) W (by omega) (by omega) (by omega) (by omega) (by omega) (by omega) hs2 hW
        have hR := fun W (hW : Rd W 1 (some ⟨b, o, none⟩) (splitN n) (cellsS (l.take (splitN n)))) => root_any (splitN n) (some ⟨b, o, none⟩) (splitN n) c (l.take (splitN n)) W (Nat.le_refl _) (by omega) (by omega) hc hs1 hW
        have hlen := trailF_len f (lists (l.drop (splitN n))) (at_ - splitN n)
        generalize trailF f (lists (l.drop (splitN n))) (at_ - splitN n) = tr at *
        generalize rootL (lists (l.take (splitN n))) = rt at *
        unfold TrailPost at hT
        have hsub : ((at_ - splitN n : Nat) : Int) = (at_ : Int) - (splitN n : Int) := by omega
        rw [hsub] at hT
        have hwrap : IntKind.i64.wrap ((at_ : Int) - (splitN n : Int)) = (at_ : Int) - (splitN n : Int) := IntWalk.i64_in _ (by omega)
        obtain ⟨C2, C1⟩ := hcut
        clear hsub
        clear ht hd he ih hr hl hll hn hs1 hs2
        generalize l.take (splitN n) = la at *
        generalize l.drop (splitN n) = lb at *
        have hsx : splitN n < n := hsp.2.1
        generalize splitN n = s at *
        have hsc : s ≤ c := by omega
        have hsn : s ≤ n := by omega
        have hcs : ¬ c = s := by omega
        go_enter Try.func51, Try.ntmps51
        go_wp2_with fail
        refine (hspl _).mono ?_
        rintro e w' ⟨rfl, rfl⟩
        clear hspl
        go_wp2_with fail
        go_region_law (first
          | (refine step_call rfl 51 _ Try.func51 (by kernel_rfl) (by kernel_rfl) _ _ rfl #[.slice (some ⟨b, o + s, none⟩) (n - s) (c - s), .int .i64 ((at_ : Int) - (s : Int))] (by simp [Act.eval, Act.put]) ?_; refine (hT w.drew (C1.later (Below.refl w.heap.size w).drew)).mono ?_; rintro e wT ⟨vA, vc, rfl, hownT, hbT⟩; refine ⟨_, rfl, ?_⟩)
          | (refine step_call rfl 48 _ Try.func48 (by kernel_rfl) (by kernel_rfl) _ _ rfl #[.slice (some ⟨b, o, none⟩) s c] (by simp [Act.eval]) ?_; refine (hR wT (C2.later ((Below.refl w.heap.size w).drew.trans hbT))).mono ?_; rintro e wR ⟨rfl, qR, rfl⟩; have HOW := Lib.hid (show Own ((wT.alloc (.cells #[.int .u64 (U rt)] 30)).drewN qR) w.heap.size 30 1 GW (.slice vA tr.length vc) tr.length (cellsW tr) from ((hownT.later ((Below.refl wT.heap.size wT).alloc (Nat.le_refl _) _)).drewN qR)); have HRD := Lib.hid (show Rd ((wT.alloc (.cells #[.int .u64 (U rt)] 30)).drewN qR) 1 (some ⟨wT.heap.size, 0, none⟩) 1 [.int .u64 (U rt)] from rd_new wT rt qR); refine ⟨_, rfl, ?_⟩)
          | (refine step_append_all _ rfl _ _ _ rfl w.heap.size 30 i0 (.int .u64 0) 1 8 Try.underlying23 hi hz0 hz1 hz2 rfl (by decide) GW gw_zero _ tr.length (cellsW tr) rfl HOW.out (some ⟨wT.heap.size, 0, none⟩) 1 1 [.int .u64 (U rt)] rfl HRD.out one_cell gw_one (by unfold maxLen; omega) (by omega) (by have := hbT.size; simp at this ⊢; omega) ?_; intro v5 w5 hown5 hgrow5 _ hat5))
        have hb5 := trail_below hbT HOW.out hgrow5
        have hown5 : Own w5 w.heap.size 30 1 GW v5 (tr ++ [rt]).length (cellsW (tr ++ [rt])) := by rw [List.length_append, cellsW_snoc]; exact hown5
        clear hgrow5 hat5 hownT HOW HRD
        have HO5 := Lib.hid hown5
        obtain ⟨A5, c5, rfl, _⟩ := hown5.shape
        clear hown5
        go_wp2_with fail
        go_ret
        exact ⟨A5, c5, rfl, HO5.out, hb5⟩
end Go.Proofs.Ytmooknaljkeaaaa.Tree
