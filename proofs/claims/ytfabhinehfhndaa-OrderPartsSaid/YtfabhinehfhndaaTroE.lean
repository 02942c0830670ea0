/-
  troop.players. (Printed by bin/troE.py.)
-/
import Derived.Test.YtfabhinehfhndaaTroA4
set_option linter.unusedVariables false
set_option linter.unusedSimpArgs false
namespace Go.Proofs.Ytfabhinehfhndaa
open Go.RowKit

set_option maxRecDepth 100000 in
set_option maxHeartbeats 4000000 in
theorem players_any (a : Wd.At) (W : Wd) (w : World) (hW : Wd.Has w a W) (h0 : W.field.chk = 0) (h8 : W.bases.length ≤ 8) :
    Calls Try.prog 77 #[.agg (Wd.cells a W).toArray] w fun e w' => e = .returned (.bool W.players) ∧ Below w.heap.size w w' := by
  obtain ⟨aP, aB, aS, aM, aT, kP, kB, kS, kM, kT⟩ := a
  show Calls _ _ #[.agg #[.int .i64 W.field.wide, .int .i64 W.field.high, .slice aP W.field.places.length kP, .slice aB W.bases.length kB, .slice aS W.stocks.length kS, .slice aM W.mines.length kM, .slice aT W.troops.length kT, .int .i64 W.next, .int .i64 W.now]] _ _
  obtain ⟨nb, HNB⟩ : ∃ n, Hid (W.bases.length = n) := ⟨_, Lib.hid rfl⟩
  obtain ⟨ns, HNS⟩ : ∃ n, Hid (W.stocks.length = n) := ⟨_, Lib.hid rfl⟩
  have h8 : nb ≤ 8 := by rw [← HNB.out]; exact h8
  have hb0 := below_alloc0 w (.cells (Wd.cells ⟨aP, aB, aS, aM, aT, kP, kB, kS, kM, kT⟩ W).toArray 82)
  have HA := Lib.hid (Blk.new w (Wd.cells ⟨aP, aB, aS, aM, aT, kP, kB, kS, kM, kT⟩ W) 82 (0, 0))
  have HH := Lib.hid (hW.keep hb0)
  have H0 := Lib.hid h0
  obtain ⟨w0, HW0⟩ : ∃ w0, Hid (w.alloc (.cells (Wd.cells ⟨aP, aB, aS, aM, aT, kP, kB, kS, kM, kT⟩ W).toArray 82) = w0) := ⟨_, Lib.hid rfl⟩
  rw [HW0.out] at hb0 HH
  have HA : Hid (Blk w0 w.heap.size (Wd.cells ⟨aP, aB, aS, aM, aT, kP, kB, kS, kM, kT⟩ W) 82 (0, 0)) := by rw [← HW0.out]; exact HA
  have HW1 : Hid (w.alloc (.cells #[.int .i64 W.field.wide, .int .i64 W.field.high, .slice aP W.field.places.length kP, .slice aB nb kB, .slice aS ns kS, .slice aM W.mines.length kM, .slice aT W.troops.length kT, .int .i64 W.next, .int .i64 W.now] 82) = w0) := by rw [← HW0.out, ← HNB.out, ← HNS.out]; rfl
  obtain ⟨c0, c1, c2, c3, c4, c5, c6, c7, c8⟩ := Wd.wblk HA.out
  rw [HNB.out] at c3
  rw [HNS.out] at c4
  clear hW h0
  by_cases hlen : ns = nb
  · subst hlen
    have HOK : Hid (∀ j, j < 0 → W.okBase j = true) := Lib.hid fun j hj => absurd hj (by omega)
    go_enter Try.func77, Try.ntmps77
    rw [HNB.out, HNS.out]
    go_wp2_with fail
    rw [HW1.out]
    go_loopw [3, 4, 15] (fun _ _ iv wr => ∃ k : Nat, k ≤ ns ∧ iv = .int .i64 (k : Int) ∧ Hid (∀ j, j < k → W.okBase j = true) ∧ Below w0.heap.size w0 wr) (fun _ _ iv _ => ns - (intOf iv).toNat)
    case atStart => exact ⟨0, Nat.zero_le _, rfl, HOK, Below.refl _ _⟩
    case round =>
      clear HOK c0 c1 c2 c3 c4 c5 c6 c7 c8
      obtain ⟨k, hk, rfl, HK, hb⟩ := hrel
      by_cases hlt : k < ns
      · obtain ⟨p, hp⟩ := get_of (l := W.bases) (i := k) (by rw [HNB.out]; exact hlt)
        obtain ⟨st, hs⟩ := get_of (l := W.stocks) (i := k) (by rw [HNS.out]; exact hlt)
        have hHr := HH.out.keep hb
        have hAr := HA.out.later hb
        have hHB : Cel.rep.SHas 16 wr aB kB W.bases := hHr.B
        have hHP : repI.SHas 8 wr aP kP W.field.places := hHr.P
        have hHS : repI.SHas 8 wr aS kS W.stocks := hHr.S
        have hcap : (ns : Int) ≤ (kB : Int) := by have := hHB.1; rw [HNB.out] at this; omega
        obtain ⟨b, o, rfl, hcell⟩ := Cel.at_ hHB (by rw [HNB.out]; omega)
        obtain ⟨p0, p1⟩ := hcell k p hp
        obtain ⟨bs, os, rfl, hcells⟩ := repI_at hHS (by rw [HNS.out]; omega)
        have s0 := hcells k st hs
        obtain ⟨c0, c1, c2, c3, c4, c5, c6, c7, c8⟩ := Wd.wblk hAr
        rw [HNB.out] at c3
        rw [HNS.out] at c4
        have hok : W.okBase k = (W.field.ground p && !(W.bases.take k).contains p && inB st 0 1000000) := by
          unfold Wd.okBase
          rw [List.getD_eq_getElem?_getD, hp, List.getD_eq_getElem?_getD, hs]; rfl
        have hb1 := below_alloc0 wr (.cells #[.int .i64 p.x, .int .i64 p.y] 90)
        have hBC := Blk.new wr p.cells 90 (0, 0)
        obtain ⟨w1, HWA⟩ : ∃ w1, Hid (wr.alloc (.cells #[.int .i64 p.x, .int .i64 p.y] 90) = w1) := ⟨_, Lib.hid rfl⟩
        rw [HWA.out] at hb1
        have hBC : Blk w1 wr.heap.size p.cells 90 (0, 0) := by rw [← HWA.out]; exact hBC
        obtain ⟨r0, r1⟩ := Cel.blk hBC
        have HG := Lib.hid (fun (V : World) (h : Below w1.heap.size w1 V) => ground_any W.field p aP kP V ((hHP.keep hb1).keep h) H0.out)
        have HC := Lib.hid (fun (V : World) (h : Below w1.heap.size w1 V) => has_cell p (some ⟨b, o, none⟩) kB (W.bases.take k) V (((hHB.take_ k).keep hb1).keep h))
        have hkl : (W.bases.take k).length = k := by rw [List.length_take, HNB.out]; omega
        rw [hkl] at HC
        have HI := Lib.hid (fun (V : World) => within_any st 0 1000000 V)
        have HOKE := Lib.hid hok
        have hbr := Below.refl w1.heap.size w1
        have hbB := hb.trans (hb1.mono hb.size)
        have hki : (k : Int) < (ns : Int) := by omega
        have hk0 : (0 : Int) ≤ (k : Int) := by omega
        have hkc : (k : Int) ≤ (kB : Int) := by omega
        have hkn : k ≤ kB := by omega
        clear hHr hAr hcell hcells hp hs hok hkl hHB hHP hHS
        go_wp2_with fail
        rw [HWA.out]
        have c0 := cell_later hb1 c0; have c1 := cell_later hb1 c1; have c2 := cell_later hb1 c2; have c3 := cell_later hb1 c3; have c4 := cell_later hb1 c4; have s0 := cell_later hb1 s0
        have HS := Lib.hid (fun (wx : World) (h : Below w1.heap.size w1 wx) => (⟨trivial, cell_later h c0, cell_later h c1, cell_later h c2, cell_later h c3, cell_later h c4, cell_later h r0, cell_later h r1, cell_later h s0⟩ : True ∧ wx.cell? ⟨w.heap.size, 0, none⟩ = some (.int .i64 W.field.wide) ∧ wx.cell? ⟨w.heap.size, 1, none⟩ = some (.int .i64 W.field.high) ∧ wx.cell? ⟨w.heap.size, 2, none⟩ = some (.slice aP W.field.places.length kP) ∧ wx.cell? ⟨w.heap.size, 3, none⟩ = some (.slice (some ⟨b, o, none⟩) ns kB) ∧ wx.cell? ⟨w.heap.size, 4, none⟩ = some (.slice (some ⟨bs, os, none⟩) ns kS) ∧ wx.cell? ⟨wr.heap.size, 0, none⟩ = some (.int .i64 p.x) ∧ wx.cell? ⟨wr.heap.size, 1, none⟩ = some (.int .i64 p.y) ∧ wx.cell? ⟨bs, os + k, none⟩ = some (.int .i64 st)))
        clear p0 p1 c5 c6 c7 c8 hBC
        cases h1 : W.field.ground p with
        | false =>
          rw [h1] at HG
          have HF : Hid (W.players = false) := Wd.players_bad (k := k) (by rw [HNB.out]; exact hlt) (by rw [HOKE.out, h1]; rfl)
          clear h1
          refine wp_region_below (by kernel_rfl) (by kernel_rfl) ?_
          repeat (first
            | go_big_quiet_skip
            | (go_big_quiet_want
               first
               | (go_big_quiet_op; go_big_quiet_on)
               | (apply Exists.intro
                  refine ⟨fun wq hq => ?_, ?_⟩
                  · first
                    | (obtain ⟨_, qq0, qq1, qq2, qq3, qq4, qq5, qq6, qq7⟩ := HS.out wq hq
                       apply quiet_val2
                       · (go_simp; rfl)
                       · rfl)
                    | (apply quiet_call2
                       · (go_simp; rfl)
                       · rfl
                       · first
                         | (with_reducible refine (HG.out _ hq).mono ?_; rintro e w2 ⟨rfl, hb2⟩; exact ⟨rfl, below_on hq hb2⟩)
                         | (with_reducible refine (HC.out _ hq).mono ?_; rintro e w2 ⟨rfl, hb2⟩; exact ⟨rfl, below_on hq hb2⟩)
                         | (with_reducible refine (HI.out _).mono ?_; rintro e w2 ⟨rfl, rfl⟩; exact ⟨rfl, hq⟩)
                       )
                  go_big_quiet_on
                  simp only [Act.put, List.setIfInBounds_toArray, List.set_cons_zero, List.set_cons_succ])))
          refine wpQuiet_nil ?_
          intro wz hz
          go_wp2_with fail
          go_ret
          exact ⟨ret_bool HF.out.symm, hb0.trans ((hbB.trans (Below.mono hz hbB.size)).mono hb0.size)⟩
        | true =>
          rw [h1] at HG
          cases h2 : (W.bases.take k).contains p with
          | true =>
            rw [h2] at HC
            have HF : Hid (W.players = false) := Wd.players_bad (k := k) (by rw [HNB.out]; exact hlt) (by rw [HOKE.out, h1, h2]; rfl)
            clear h1 h2
            refine wp_region_below (by kernel_rfl) (by kernel_rfl) ?_
            repeat (first
              | go_big_quiet_skip
              | (go_big_quiet_want
                 first
                 | (go_big_quiet_op; go_big_quiet_on)
                 | (apply Exists.intro
                    refine ⟨fun wq hq => ?_, ?_⟩
                    · first
                      | (obtain ⟨_, qq0, qq1, qq2, qq3, qq4, qq5, qq6, qq7⟩ := HS.out wq hq
                         apply quiet_val2
                         · (go_simp; rfl)
                         · rfl)
                      | (apply quiet_call2
                         · (go_simp; rfl)
                         · rfl
                         · first
                           | (with_reducible refine (HG.out _ hq).mono ?_; rintro e w2 ⟨rfl, hb2⟩; exact ⟨rfl, below_on hq hb2⟩)
                           | (with_reducible refine (HC.out _ hq).mono ?_; rintro e w2 ⟨rfl, hb2⟩; exact ⟨rfl, below_on hq hb2⟩)
                           | (with_reducible refine (HI.out _).mono ?_; rintro e w2 ⟨rfl, rfl⟩; exact ⟨rfl, hq⟩)
                         )
                    go_big_quiet_on
                    simp only [Act.put, List.setIfInBounds_toArray, List.set_cons_zero, List.set_cons_succ])))
            refine wpQuiet_nil ?_
            intro wz hz
            go_wp2_with fail
            go_ret
            exact ⟨ret_bool HF.out.symm, hb0.trans ((hbB.trans (Below.mono hz hbB.size)).mono hb0.size)⟩
          | false =>
            rw [h2] at HC
            cases h3 : inB st 0 1000000 with
            | false =>
              rw [h3] at HI
              have HF : Hid (W.players = false) := Wd.players_bad (k := k) (by rw [HNB.out]; exact hlt) (by rw [HOKE.out, h3, Bool.and_false])
              clear h1 h2 h3
              refine wp_region_below (by kernel_rfl) (by kernel_rfl) ?_
              repeat (first
                | go_big_quiet_skip
                | (go_big_quiet_want
                   first
                   | (go_big_quiet_op; go_big_quiet_on)
                   | (apply Exists.intro
                      refine ⟨fun wq hq => ?_, ?_⟩
                      · first
                        | (obtain ⟨_, qq0, qq1, qq2, qq3, qq4, qq5, qq6, qq7⟩ := HS.out wq hq
                           apply quiet_val2
                           · (go_simp; rfl)
                           · rfl)
                        | (apply quiet_call2
                           · (go_simp; rfl)
                           · rfl
                           · first
                             | (with_reducible refine (HG.out _ hq).mono ?_; rintro e w2 ⟨rfl, hb2⟩; exact ⟨rfl, below_on hq hb2⟩)
                             | (with_reducible refine (HC.out _ hq).mono ?_; rintro e w2 ⟨rfl, hb2⟩; exact ⟨rfl, below_on hq hb2⟩)
                             | (with_reducible refine (HI.out _).mono ?_; rintro e w2 ⟨rfl, rfl⟩; exact ⟨rfl, hq⟩)
                           )
                      go_big_quiet_on
                      simp only [Act.put, List.setIfInBounds_toArray, List.set_cons_zero, List.set_cons_succ])))
              refine wpQuiet_nil ?_
              intro wz hz
              go_wp2_with fail
              go_ret
              exact ⟨ret_bool HF.out.symm, hb0.trans ((hbB.trans (Below.mono hz hbB.size)).mono hb0.size)⟩
            | true =>
              rw [h3] at HI
              have HK2 : Hid (∀ j, j < k + 1 → W.okBase j = true) := by
                intro j hj
                by_cases hjk : j < k
                · exact HK.out j hjk
                · obtain rfl : j = k := by omega
                  rw [HOKE.out, h1, h2, h3]; rfl
              clear h1 h2 h3
              refine wp_region_below (by kernel_rfl) (by kernel_rfl) ?_
              repeat (first
                | go_big_quiet_skip
                | (go_big_quiet_want
                   first
                   | (go_big_quiet_op; go_big_quiet_on)
                   | (apply Exists.intro
                      refine ⟨fun wq hq => ?_, ?_⟩
                      · first
                        | (obtain ⟨_, qq0, qq1, qq2, qq3, qq4, qq5, qq6, qq7⟩ := HS.out wq hq
                           apply quiet_val2
                           · (go_simp; rfl)
                           · rfl)
                        | (apply quiet_call2
                           · (go_simp; rfl)
                           · rfl
                           · first
                             | (with_reducible refine (HG.out _ hq).mono ?_; rintro e w2 ⟨rfl, hb2⟩; exact ⟨rfl, below_on hq hb2⟩)
                             | (with_reducible refine (HC.out _ hq).mono ?_; rintro e w2 ⟨rfl, hb2⟩; exact ⟨rfl, below_on hq hb2⟩)
                             | (with_reducible refine (HI.out _).mono ?_; rintro e w2 ⟨rfl, rfl⟩; exact ⟨rfl, hq⟩)
                           )
                      go_big_quiet_on
                      simp only [Act.put, List.setIfInBounds_toArray, List.set_cons_zero, List.set_cons_succ])))
              refine wpQuiet_nil ?_
              intro wz hz
              go_wp2_with fail
              go_roundw
              case rel => exact ⟨k + 1, by omega, by go_num, HK2, hbB.trans (Below.mono hz hbB.size)⟩
              case measure => simp [intOf]; omega
      · have HT : Hid (W.players = true) := Wd.players_ok (by rw [HNS.out, HNB.out]) fun j hj => HK.out j (by rw [HNB.out] at hj; omega)
        clear HK
        go_wp2_with fail
        go_ret
        exact ⟨ret_bool HT.out.symm, hb0.trans (hb.mono hb0.size)⟩
  · have HT : Hid (W.players = false) := Wd.players_no (by rw [HNS.out, HNB.out]; exact hlen)
    have hd : ((ns : Int) != (nb : Int)) = true := by simp; omega
    rw [HT.out]
    go_enter Try.func77, Try.ntmps77
    rw [HNB.out, HNS.out]
    go_wp2_with fail
    go_ret
    rw [HW1.out]
    exact ⟨rfl, hb0⟩
end Go.Proofs.Ytfabhinehfhndaa
