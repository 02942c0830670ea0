/-
  troop.Check; which; Find; On. (Printed by bin/troH.py.)
-/
import Derived.Test.YtfabhinehfhndaaTroG
set_option linter.unusedVariables false
set_option linter.unusedSimpArgs false
namespace Go.Proofs.Ytfabhinehfhndaa
open Go.RowKit

set_option maxRecDepth 100000 in
set_option maxHeartbeats 4000000 in
theorem check_any (a : Wd.At) (W : Wd) (w : World) (hW : Wd.Has w a W) :
    Calls Try.prog 61 #[.agg (Wd.cells a W).toArray] w fun e w' => e = .returned (.int .i64 W.chk) ∧ Below w.heap.size w w' := by
  have hpl := fun h0 h8 V (h : Wd.Has V a W) => players_any a W V h h0 h8
  have hmi := fun V (h : Wd.Has V a W) => mines_any a W V h
  have htr := fun h0 h8 h100 V (h : Wd.Has V a W) => troops_any a W V h h0 h8 h100
  obtain ⟨aP, aB, aS, aM, aT, kP, kB, kS, kM, kT⟩ := a
  show Calls _ _ #[.agg #[.int .i64 W.field.wide, .int .i64 W.field.high, .slice aP W.field.places.length kP, .slice aB W.bases.length kB, .slice aS W.stocks.length kS, .slice aM W.mines.length kM, .slice aT W.troops.length kT, .int .i64 W.next, .int .i64 W.now]] _ _
  have hb0 := below_alloc0 w (.cells (Wd.cells ⟨aP, aB, aS, aM, aT, kP, kB, kS, kM, kT⟩ W).toArray 82)
  have HA := Lib.hid (Blk.new w (Wd.cells ⟨aP, aB, aS, aM, aT, kP, kB, kS, kM, kT⟩ W) 82 (0, 0))
  have HH := Lib.hid (hW.keep hb0)
  obtain ⟨w0, HW0⟩ : ∃ w0, Hid (w.alloc (.cells (Wd.cells ⟨aP, aB, aS, aM, aT, kP, kB, kS, kM, kT⟩ W).toArray 82) = w0) := ⟨_, Lib.hid rfl⟩
  rw [HW0.out] at hb0 HH
  have HA : Hid (Blk w0 w.heap.size (Wd.cells ⟨aP, aB, aS, aM, aT, kP, kB, kS, kM, kT⟩ W) 82 (0, 0)) := by rw [← HW0.out]; exact HA
  have hf := fldCheck W.field aP kP w0 HH.out.P
  have HW1 : Hid (w.alloc (.cells #[.int .i64 W.field.wide, .int .i64 W.field.high, .slice aP W.field.places.length kP, .slice aB W.bases.length kB, .slice aS W.stocks.length kS, .slice aM W.mines.length kM, .slice aT W.troops.length kT, .int .i64 W.next, .int .i64 W.now] 82) = w0) := by rw [← HW0.out]; rfl
  obtain ⟨c0, c1, c2, c3, c4, c5, c6, c7, c8⟩ := Wd.wblk HA.out
  clear hW
  by_cases hf0 : W.field.chk = 0
  · by_cases hlg : 8 < W.bases.length ∨ 100 < W.troops.length
    · rw [Wd.chk_large hf0 hlg]
      rw [hf0] at hf
      have HLG := Lib.hid hlg
      clear hlg hf0 hpl hmi htr
      generalize W.field.places.length = np at *
      generalize W.bases.length = nb at *
      generalize W.stocks.length = ns at *
      generalize W.mines.length = nm at *
      generalize W.troops.length = nt at *
      go_enter Try.func61, Try.ntmps61
      go_wp2_with fail
      rw [HW1.out]
      refine hf.mono ?_; rintro e w2 ⟨rfl, hb2⟩
      have d3 := cell_later hb2 c3
      have d6 := cell_later hb2 c6
      have key : decide ((8 : Int) < (nb : Int)) = true ∨ (decide ((8 : Int) < (nb : Int)) = false ∧ decide ((100 : Int) < (nt : Int)) = true) := by
        have := HLG.out
        simp; omega
      clear c0 c1 c2 c3 c4 c5 c6 c7 c8
      rcases key with h | ⟨h, h2⟩
      all_goals
        go_wp2_with fail
        go_ret
        exact ⟨rfl, hb0.trans (hb2.mono hb0.size)⟩
    · rw [Wd.chk_all hf0 hlg]
      have h8 : W.bases.length ≤ 8 := by omega
      have h100 : W.troops.length ≤ 100 := by omega
      have hpl := hpl hf0 h8
      have htr := htr hf0 h8 h100
      rw [hf0] at hf
      have g1 : decide ((8 : Int) < (W.bases.length : Int)) = false := by simp; omega
      have g2 : decide ((100 : Int) < (W.troops.length : Int)) = false := by simp; omega
      have HPL := Lib.hid (fun V (h : Below w0.heap.size w0 V) => hpl V (HH.out.keep h))
      have HMI := Lib.hid (fun V (h : Below w0.heap.size w0 V) => hmi V (HH.out.keep h))
      have HTR := Lib.hid (fun V (h : Below w0.heap.size w0 V) => htr V (HH.out.keep h))
      rw [Wd.cells_eq] at HPL HMI HTR
      have HPL : Hid (∀ V, Below w0.heap.size w0 V → Calls Try.prog 77 #[.agg #[.int .i64 W.field.wide, .int .i64 W.field.high, .slice aP W.field.places.length kP, .slice aB W.bases.length kB, .slice aS W.stocks.length kS, .slice aM W.mines.length kM, .slice aT W.troops.length kT, .int .i64 W.next, .int .i64 W.now]] V fun e w' => e = .returned (.bool W.players) ∧ Below V.heap.size V w') := HPL
      have HMI : Hid (∀ V, Below w0.heap.size w0 V → Calls Try.prog 78 #[.agg #[.int .i64 W.field.wide, .int .i64 W.field.high, .slice aP W.field.places.length kP, .slice aB W.bases.length kB, .slice aS W.stocks.length kS, .slice aM W.mines.length kM, .slice aT W.troops.length kT, .int .i64 W.next, .int .i64 W.now]] V fun e w' => e = .returned (.bool W.minesOk) ∧ Below V.heap.size V w') := HMI
      have HTR : Hid (∀ V, Below w0.heap.size w0 V → Calls Try.prog 79 #[.agg #[.int .i64 W.field.wide, .int .i64 W.field.high, .slice aP W.field.places.length kP, .slice aB W.bases.length kB, .slice aS W.stocks.length kS, .slice aM W.mines.length kM, .slice aT W.troops.length kT, .int .i64 W.next, .int .i64 W.now]] V fun e w' => e = .returned (.bool W.troopsOk) ∧ Below V.heap.size V w') := HTR
      clear hlg hf0 hpl hmi htr h8 h100
      generalize W.players = r1 at *
      generalize W.minesOk = r2 at *
      generalize W.troopsOk = r3 at *
      generalize W.field.places.length = np at *
      generalize W.bases.length = nb at *
      generalize W.stocks.length = ns at *
      generalize W.mines.length = nm at *
      generalize W.troops.length = nt at *
      have q0 := hf
      clear hf
      cases r1 with
      | false =>
        go_enter Try.func61, Try.ntmps61
        go_wp2_with fail
        rw [HW1.out]
        refine q0.mono ?_; rintro e w2 ⟨rfl, hb2⟩
        have c0 := cell_later hb2 c0
        have c1 := cell_later hb2 c1
        have c2 := cell_later hb2 c2
        have c3 := cell_later hb2 c3
        have c4 := cell_later hb2 c4
        have c5 := cell_later hb2 c5
        have c6 := cell_later hb2 c6
        have c7 := cell_later hb2 c7
        have c8 := cell_later hb2 c8
        go_wp2_with fail
        refine (HPL.out _ hb2).mono ?_; rintro e w3 ⟨rfl, hb3⟩
        go_wp2_with fail
        go_ret
        exact ⟨rfl, hb0.trans ((below_on hb2 hb3).mono hb0.size)⟩
      | true =>
        cases r2 with
        | false =>
          go_enter Try.func61, Try.ntmps61
          go_wp2_with fail
          rw [HW1.out]
          refine q0.mono ?_; rintro e w2 ⟨rfl, hb2⟩
          have c0 := cell_later hb2 c0
          have c1 := cell_later hb2 c1
          have c2 := cell_later hb2 c2
          have c3 := cell_later hb2 c3
          have c4 := cell_later hb2 c4
          have c5 := cell_later hb2 c5
          have c6 := cell_later hb2 c6
          have c7 := cell_later hb2 c7
          have c8 := cell_later hb2 c8
          go_wp2_with fail
          refine (HPL.out _ hb2).mono ?_; rintro e w3 ⟨rfl, hb3⟩
          have hb23 := below_on hb2 hb3
          have c0 := cell_later hb3 c0
          have c1 := cell_later hb3 c1
          have c2 := cell_later hb3 c2
          have c3 := cell_later hb3 c3
          have c4 := cell_later hb3 c4
          have c5 := cell_later hb3 c5
          have c6 := cell_later hb3 c6
          have c7 := cell_later hb3 c7
          have c8 := cell_later hb3 c8
          go_wp2_with fail
          refine (HMI.out _ hb23).mono ?_; rintro e w4 ⟨rfl, hb4⟩
          go_wp2_with fail
          go_ret
          exact ⟨rfl, hb0.trans ((below_on hb23 hb4).mono hb0.size)⟩
        | true =>
          cases r3 with
          | false =>
            go_enter Try.func61, Try.ntmps61
            go_wp2_with fail
            rw [HW1.out]
            refine q0.mono ?_; rintro e w2 ⟨rfl, hb2⟩
            have c0 := cell_later hb2 c0
            have c1 := cell_later hb2 c1
            have c2 := cell_later hb2 c2
            have c3 := cell_later hb2 c3
            have c4 := cell_later hb2 c4
            have c5 := cell_later hb2 c5
            have c6 := cell_later hb2 c6
            have c7 := cell_later hb2 c7
            have c8 := cell_later hb2 c8
            go_wp2_with fail
            refine (HPL.out _ hb2).mono ?_; rintro e w3 ⟨rfl, hb3⟩
            have hb23 := below_on hb2 hb3
            have c0 := cell_later hb3 c0
            have c1 := cell_later hb3 c1
            have c2 := cell_later hb3 c2
            have c3 := cell_later hb3 c3
            have c4 := cell_later hb3 c4
            have c5 := cell_later hb3 c5
            have c6 := cell_later hb3 c6
            have c7 := cell_later hb3 c7
            have c8 := cell_later hb3 c8
            go_wp2_with fail
            refine (HMI.out _ hb23).mono ?_; rintro e w4 ⟨rfl, hb4⟩
            have hb24 := below_on hb23 hb4
            have c0 := cell_later hb4 c0
            have c1 := cell_later hb4 c1
            have c2 := cell_later hb4 c2
            have c3 := cell_later hb4 c3
            have c4 := cell_later hb4 c4
            have c5 := cell_later hb4 c5
            have c6 := cell_later hb4 c6
            have c7 := cell_later hb4 c7
            have c8 := cell_later hb4 c8
            go_wp2_with fail
            refine (HTR.out _ hb24).mono ?_; rintro e w5 ⟨rfl, hb5⟩
            go_wp2_with fail
            go_ret
            exact ⟨rfl, hb0.trans ((below_on hb24 hb5).mono hb0.size)⟩
          | true =>
            go_enter Try.func61, Try.ntmps61
            go_wp2_with fail
            rw [HW1.out]
            refine q0.mono ?_; rintro e w2 ⟨rfl, hb2⟩
            have c0 := cell_later hb2 c0
            have c1 := cell_later hb2 c1
            have c2 := cell_later hb2 c2
            have c3 := cell_later hb2 c3
            have c4 := cell_later hb2 c4
            have c5 := cell_later hb2 c5
            have c6 := cell_later hb2 c6
            have c7 := cell_later hb2 c7
            have c8 := cell_later hb2 c8
            go_wp2_with fail
            refine (HPL.out _ hb2).mono ?_; rintro e w3 ⟨rfl, hb3⟩
            have hb23 := below_on hb2 hb3
            have c0 := cell_later hb3 c0
            have c1 := cell_later hb3 c1
            have c2 := cell_later hb3 c2
            have c3 := cell_later hb3 c3
            have c4 := cell_later hb3 c4
            have c5 := cell_later hb3 c5
            have c6 := cell_later hb3 c6
            have c7 := cell_later hb3 c7
            have c8 := cell_later hb3 c8
            go_wp2_with fail
            refine (HMI.out _ hb23).mono ?_; rintro e w4 ⟨rfl, hb4⟩
            have hb24 := below_on hb23 hb4
            have c0 := cell_later hb4 c0
            have c1 := cell_later hb4 c1
            have c2 := cell_later hb4 c2
            have c3 := cell_later hb4 c3
            have c4 := cell_later hb4 c4
            have c5 := cell_later hb4 c5
            have c6 := cell_later hb4 c6
            have c7 := cell_later hb4 c7
            have c8 := cell_later hb4 c8
            go_wp2_with fail
            refine (HTR.out _ hb24).mono ?_; rintro e w5 ⟨rfl, hb5⟩
            go_wp2_with fail
            go_ret
            exact ⟨rfl, hb0.trans ((below_on hb24 hb5).mono hb0.size)⟩
  · rw [Wd.chk_field hf0]
    have hd : (W.field.chk == 0) = false := by simpa using hf0
    have hd2 : (W.field.chk != 0) = true := by simpa using hf0
    clear hf0 hpl hmi htr
    generalize W.field.chk = k at *
    go_enter Try.func61, Try.ntmps61
    go_wp2_with fail
    rw [HW1.out]
    refine hf.mono ?_; rintro e w2 ⟨rfl, hb2⟩
    go_wp2_with fail
    go_ret
    exact ⟨rfl, hb0.trans (hb2.mono hb0.size)⟩
end Go.Proofs.Ytfabhinehfhndaa
