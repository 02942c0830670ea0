/-
  troop.mines. (Printed by bin/troF.py.)
-/
import Derived.Test.YtfabhinehfhndaaTroE
set_option linter.unusedVariables false
set_option linter.unusedSimpArgs false
namespace Go.Proofs.Ytfabhinehfhndaa
open Go.RowKit

set_option maxRecDepth 100000 in
set_option maxHeartbeats 4000000 in
theorem mines_any (a : Wd.At) (W : Wd) (w : World) (hW : Wd.Has w a W) :
    Calls Try.prog 78 #[.agg (Wd.cells a W).toArray] w fun e w' => e = .returned (.bool W.minesOk) ∧ Below w.heap.size w w' := by
  obtain ⟨aP, aB, aS, aM, aT, kP, kB, kS, kM, kT⟩ := a
  show Calls _ _ #[.agg #[.int .i64 W.field.wide, .int .i64 W.field.high, .slice aP W.field.places.length kP, .slice aB W.bases.length kB, .slice aS W.stocks.length kS, .slice aM W.mines.length kM, .slice aT W.troops.length kT, .int .i64 W.next, .int .i64 W.now]] _ _
  have hb0 := below_alloc0 w (.cells (Wd.cells ⟨aP, aB, aS, aM, aT, kP, kB, kS, kM, kT⟩ W).toArray 82)
  have HA := Lib.hid (Blk.new w (Wd.cells ⟨aP, aB, aS, aM, aT, kP, kB, kS, kM, kT⟩ W) 82 (0, 0))
  have HH := Lib.hid (hW.keep hb0)
  obtain ⟨w0, HW0⟩ : ∃ w0, Hid (w.alloc (.cells (Wd.cells ⟨aP, aB, aS, aM, aT, kP, kB, kS, kM, kT⟩ W).toArray 82) = w0) := ⟨_, Lib.hid rfl⟩
  rw [HW0.out] at hb0 HH
  have HA : Hid (Blk w0 w.heap.size (Wd.cells ⟨aP, aB, aS, aM, aT, kP, kB, kS, kM, kT⟩ W) 82 (0, 0)) := by rw [← HW0.out]; exact HA
  obtain ⟨nm, HNM⟩ : ∃ n, Hid (W.mines.length = n) := ⟨_, Lib.hid rfl⟩
  obtain ⟨np, HNP⟩ : ∃ n, Hid (W.field.places.length = n) := ⟨_, Lib.hid rfl⟩
  have hle : nm ≤ 9223372036854775807 := by have := hW.M.len_le; rw [HNM.out] at this; exact this
  have HW1 : Hid (w.alloc (.cells #[.int .i64 W.field.wide, .int .i64 W.field.high, .slice aP np kP, .slice aB W.bases.length kB, .slice aS W.stocks.length kS, .slice aM nm kM, .slice aT W.troops.length kT, .int .i64 W.next, .int .i64 W.now] 82) = w0) := by rw [← HW0.out, ← HNM.out, ← HNP.out]; rfl
  obtain ⟨c0, c1, c2, c3, c4, c5, c6, c7, c8⟩ := Wd.wblk HA.out
  rw [HNP.out] at c2
  rw [HNM.out] at c5
  clear hW
  by_cases hlen : nm = np
  · subst hlen
    have HOK : Hid (∀ j, j < 0 → W.okMine j = true) := Lib.hid fun j hj => absurd hj (by omega)
    go_enter Try.func78, Try.ntmps78
    rw [HNP.out, HNM.out]
    go_wp2_with fail
    rw [HW1.out]
    go_loopw [3, 4, 16] (fun _ _ iv wr => ∃ k : Nat, k ≤ nm ∧ iv = .int .i64 (k : Int) ∧ Hid (∀ j, j < k → W.okMine j = true) ∧ Hid (wr = w0)) (fun _ _ iv _ => nm - (intOf iv).toNat)
    case atStart => exact ⟨0, Nat.zero_le _, rfl, HOK, rfl⟩
    case round =>
      clear HOK c0 c1 c2 c3 c4 c5 c6 c7 c8
      obtain ⟨k, hk, rfl, HK, HWR⟩ := hrel
      obtain ⟨c0, c1, c2, c3, c4, c5, c6, c7, c8⟩ := Wd.wblk (show Blk wr w.heap.size (Wd.cells ⟨aP, aB, aS, aM, aT, kP, kB, kS, kM, kT⟩ W) 82 (0, 0) by rw [HWR.out]; exact HA.out)
      rw [HNP.out] at c2
      rw [HNM.out] at c5
      have hbw : Below w.heap.size w wr := by rw [HWR.out]; exact hb0
      by_cases hlt : k < nm
      · obtain ⟨p, hp⟩ := get_of (l := W.field.places) (i := k) (by rw [HNP.out]; exact hlt)
        obtain ⟨m, hm⟩ := get_of (l := W.mines) (i := k) (by rw [HNM.out]; exact hlt)
        have hHP : repI.SHas 8 wr aP kP W.field.places := by rw [HWR.out]; exact HH.out.P
        have hHM : repI.SHas 8 wr aM kM W.mines := by rw [HWR.out]; exact HH.out.M
        obtain ⟨b, o, rfl, hcell⟩ := repI_at hHP (by rw [HNP.out]; omega)
        have p0 := hcell k p hp
        obtain ⟨bm, om, rfl, hcellm⟩ := repI_at hHM (by rw [HNM.out]; omega)
        have m0 := hcellm k m hm
        have hok : W.okMine k = (inB m 0 1000000 && (decide (m ≤ 0) || p == 3)) := by
          unfold Wd.okMine
          rw [List.getD_eq_getElem?_getD, hm, List.getD_eq_getElem?_getD, hp]; rfl
        have HI := Lib.hid (fun (V : World) => within_any m 0 1000000 V)
        have HOKE := Lib.hid hok
        have hki : (k : Int) < (nm : Int) := by omega
        have hk0 : (0 : Int) ≤ (k : Int) := by omega
        clear hHP hHM hcell hcellm hp hm hok
        cases h1 : inB m 0 1000000 with
        | false =>
          rw [h1] at HI
          have HF : Hid (W.minesOk = false) := Wd.mines_bad (k := k) (by rw [HNM.out]; exact hlt) (by rw [HOKE.out, h1]; rfl)
          clear h1
          go_wp2_with fail
          refine (HI.out _).mono ?_; rintro e w' ⟨rfl, rfl⟩
          go_wp2_with fail
          go_ret
          exact ⟨ret_bool HF.out.symm, hbw⟩
        | true =>
          rw [h1] at HI
          by_cases h2 : m ≤ 0
          · have hd : decide (0 < m) = false := by simp; omega
            have HK2 : Hid (∀ j, j < k + 1 → W.okMine j = true) := by
              intro j hj
              by_cases hjk : j < k
              · exact HK.out j hjk
              · obtain rfl : j = k := by omega
                rw [HOKE.out, h1, decide_eq_true h2]; rfl
            clear h1
            go_wp2_with fail
            refine (HI.out _).mono ?_; rintro e w' ⟨rfl, rfl⟩
            go_wp2_with fail
            go_roundw
            case rel => exact ⟨k + 1, by omega, by go_num, HK2, HWR⟩
            case measure => simp [intOf]; omega
          · have hd : decide (0 < m) = true := by simp; omega
            by_cases h3 : p = 3
            · subst h3
              have HK2 : Hid (∀ j, j < k + 1 → W.okMine j = true) := by
                intro j hj
                by_cases hjk : j < k
                · exact HK.out j hjk
                · obtain rfl : j = k := by omega
                  rw [HOKE.out, h1]; simp
              clear h1 h2
              go_wp2_with fail
              refine (HI.out _).mono ?_; rintro e w' ⟨rfl, rfl⟩
              go_wp2_with fail
              go_roundw
              case rel => exact ⟨k + 1, by omega, by go_num, HK2, HWR⟩
              case measure => simp [intOf]; omega
            · have HF : Hid (W.minesOk = false) := Wd.mines_bad (k := k) (by rw [HNM.out]; exact hlt) (by rw [HOKE.out, decide_eq_false h2, beq_false_of_ne h3]; simp)
              have hd2 : (p == 3) = false := by simpa using h3
              clear h1 h2 h3
              go_wp2_with fail
              refine (HI.out _).mono ?_; rintro e w' ⟨rfl, rfl⟩
              go_wp2_with fail
              go_ret
              exact ⟨ret_bool HF.out.symm, hbw⟩
      · have HT : Hid (W.minesOk = true) := Wd.mines_ok (by rw [HNM.out, HNP.out]) fun j hj => HK.out j (by rw [HNM.out] at hj; omega)
        clear HK
        go_wp2_with fail
        go_ret
        exact ⟨ret_bool HT.out.symm, hbw⟩
  · have HT : Hid (W.minesOk = false) := Wd.mines_no (by rw [HNM.out, HNP.out]; exact hlen)
    have hd : ((nm : Int) != (np : Int)) = true := by simp; omega
    rw [HT.out]
    go_enter Try.func78, Try.ntmps78
    rw [HNP.out, HNM.out]
    go_wp2_with fail
    go_ret
    rw [HW1.out]
    exact ⟨rfl, hb0⟩
end Go.Proofs.Ytfabhinehfhndaa
