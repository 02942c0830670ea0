/-
  goods.own: a copy of a world. (Printed by bin/wown.py.)
-/
import Derived.Test.YticfnngppcmidaaClone
import Derived.Test.YticfnngppcmidaaWld
import Derived.Deep.RegionLaw
import Derived.Deep.Cut
import Derived.Deep.DeepCutAuto
set_option linter.unusedVariables false
set_option linter.unusedSimpArgs false
namespace Go.Proofs.Yticfnngppcmidaa
open Go.RowKit

set_option maxRecDepth 100000 in
set_option maxHeartbeats 2000000 in
theorem own_any (a : Wd.At) (W : Wd) (w : World) (hW : Wd.Has w a W) :
    Calls Try.prog 51 #[.agg (Wd.cells a W).toArray] w fun e w' => ∃ a' : Wd.At, e = .returned (.agg (Wd.cells a' W).toArray) ∧ WOwn w' w.heap.size a' W ∧ Below w.heap.size w w' := by
  obtain ⟨aP, aB, aS, aM, aT, kP, kB, kS, kM, kT⟩ := a
  show Calls _ _ #[.agg #[.int .i64 W.field.wide, .int .i64 W.field.high, .slice aP W.field.places.length kP, .slice aB W.bases.length kB, .slice aS W.stocks.length kS, .slice aM W.mines.length kM, .slice aT W.troops.length kT, .int .i64 W.next, .int .i64 W.now]] _ _
  have hb0 := below_alloc0 w (.cells #[.int .i64 W.field.wide, .int .i64 W.field.high, .slice aP W.field.places.length kP, .slice aB W.bases.length kB, .slice aS W.stocks.length kS, .slice aM W.mines.length kM, .slice aT W.troops.length kT, .int .i64 W.next, .int .i64 W.now] 28)
  have hA := Blk.new w [.int .i64 W.field.wide, .int .i64 W.field.high, .slice aP W.field.places.length kP, .slice aB W.bases.length kB, .slice aS W.stocks.length kS, .slice aM W.mines.length kM, .slice aT W.troops.length kT, .int .i64 W.next, .int .i64 W.now] 28 (0, 0)
  obtain ⟨w0, HW0⟩ : ∃ w0, Hid (w.alloc (.cells #[.int .i64 W.field.wide, .int .i64 W.field.high, .slice aP W.field.places.length kP, .slice aB W.bases.length kB, .slice aS W.stocks.length kS, .slice aM W.mines.length kM, .slice aT W.troops.length kT, .int .i64 W.next, .int .i64 W.now] 28) = w0) := ⟨_, Lib.hid rfl⟩
  rw [HW0.out] at hb0
  have HA : Hid (Blk w0 w.heap.size [.int .i64 W.field.wide, .int .i64 W.field.high, .slice aP W.field.places.length kP, .slice aB W.bases.length kB, .slice aS W.stocks.length kS, .slice aM W.mines.length kM, .slice aT W.troops.length kT, .int .i64 W.next, .int .i64 W.now] 28 (0, 0)) := by rw [← HW0.out]; exact hA
  have hsz0 : w0.heap.size = w.heap.size + 1 := by rw [← HW0.out]; simp
  have hbr0 := below_alloc0 w0 (.cells #[.int .i64 0, .int .i64 0, .slice none 0 0, .slice none 0 0, .slice none 0 0, .slice none 0 0, .slice none 0 0, .int .i64 0, .int .i64 0] 28)
  have hR := Blk.new w0 [.int .i64 0, .int .i64 0, .slice none 0 0, .slice none 0 0, .slice none 0 0, .slice none 0 0, .slice none 0 0, .int .i64 0, .int .i64 0] 28 (0, 0)
  rw [hsz0] at hR
  obtain ⟨wz, HWZ⟩ : ∃ wz, Hid (w0.alloc (.cells #[.int .i64 0, .int .i64 0, .slice none 0 0, .slice none 0 0, .slice none 0 0, .slice none 0 0, .slice none 0 0, .int .i64 0, .int .i64 0] 28) = wz) := ⟨_, Lib.hid rfl⟩
  rw [HWZ.out] at hbr0
  have HR : Hid (Blk wz (w.heap.size + 1) [.int .i64 0, .int .i64 0, .slice none 0 0, .slice none 0 0, .slice none 0 0, .slice none 0 0, .slice none 0 0, .int .i64 0, .int .i64 0] 28 (0, 0)) := by rw [← HWZ.out]; exact hR
  have HA := Lib.hid (HA.out.later hbr0)
  have hb0 := hb0.trans (hbr0.mono hb0.size)
  have hW0 := hW.keep hb0
  have HP := Lib.hid (fun V (h : Below wz.heap.size wz V) => clone_I aP kP W.field.places V (hW0.P.keep h))
  have HB := Lib.hid (fun V (h : Below w.heap.size w V) => clone_C aB kB W.bases V (hW.B.keep h))
  have HS := Lib.hid (fun V (h : Below w.heap.size w V) => clone_I aS kS W.stocks V (hW.S.keep h))
  have HM := Lib.hid (fun V (h : Below w.heap.size w V) => clone_I aM kM W.mines V (hW.M.keep h))
  have HT := Lib.hid (fun V (h : Below w.heap.size w V) => clone_T aT kT W.troops V (hW.T.keep h))
  have HN := Lib.hid hW.nums
  clear hW hW0 hA
  go_enter Try.func51, Try.ntmps51
  go_wp2_with fail
  rw [HW0.out, HWZ.out]
  go_wp2_with fail
  refine (HP.out _ (Below.refl _ _)).mono ?_; rintro e w1 ⟨pA, pC, rfl, hsP, _, hb1⟩
  have hA1 := HA.out.later hb1
  have hlt1 := hA1.lt
  obtain ⟨c0, c1, c2, c3, c4, c5, c6, c7, c8⟩ := wcells hA1
  have f2 := hA1.free 2 (.inr (Nat.zero_le _))
  have hb2 : Below w.heap.size w (w1.setCell ⟨w.heap.size, 2, none⟩ (.slice pA W.field.places.length pC)) := (hb0.trans (hb1.mono hb0.size)).setCell (p := ⟨w.heap.size, 2, none⟩) (Nat.le_refl _) _
  have hR2 := (HR.out.later hb1).other (show w.heap.size + 1 ≠ w.heap.size by omega) 2 (.slice pA W.field.places.length pC)
  have hA2 := hA1.set 2 (.slice pA W.field.places.length pC)
  have hpn : w.heap.size ∉ Rep.blkOf pA := nin hsP (by have := HA.out.lt; omega)
  have hpn1 : w.heap.size + 1 ∉ Rep.blkOf pA := nin hsP (by have := HR.out.lt; omega)
  have hP2 := hsP.other (p := ⟨w.heap.size, 2, none⟩) hpn (.slice pA W.field.places.length pC)
  obtain ⟨w2, HW2⟩ : ∃ w2, Hid (w1.setCell ⟨w.heap.size, 2, none⟩ (.slice pA W.field.places.length pC) = w2) := ⟨_, Lib.hid rfl⟩
  rw [HW2.out] at hb2 hA2 hP2 hR2
  have hP2 := hP2.down (show w.heap.size ≤ _ from hb0.size)
  go_wp2_with fail
  rw [HW2.out]
  go_wp2_with fail
  clear c0 c1 c2 c3 c4 c5 c6 c7 c8 f2 hsP hA1 hb1
  obtain ⟨c0, c1, c2, c3, c4, c5, c6, c7, c8⟩ := wcells hA2
  have HA2 := Lib.hid hA2
  have HP2 := Lib.hid hP2
  have PN : Hid (w.heap.size ∉ Rep.blkOf pA) := Lib.hid hpn
  have PN1 : Hid (w.heap.size + 1 ∉ Rep.blkOf pA) := Lib.hid hpn1
  have HR2 := Lib.hid hR2
  have hszR := HR2.out.lt
  clear hA2 hP2 hR2 hpn hpn1
  have hbr := Below.refl w2.heap.size w2
  have hszS := HA2.out.lt
  go_cut [9] (fun _ wx => Half w wx pA pC W aM kM aT kT w2.heap.size)
  case first =>
   go_region_law (first
    | (refine step_call rfl 27 _ Try.func27 (by kernel_rfl) (by kernel_rfl) _ _ rfl #[.slice aB W.bases.length kB] (by simp [Act.eval, Act.put]) ?_
       refine (HB.out _ hb2.drew).mono ?_
       rintro e w3 ⟨bA, bC, rfl, hsB, _, hb3⟩
       have hb23 : Below w2.heap.size w2 w3 := below_onD hbr hb3
       have c4 := cell_later hb23 c4
       refine ⟨_, rfl, ?_⟩)
    | (refine step_call rfl 26 _ Try.func26 (by kernel_rfl) (by kernel_rfl) _ _ rfl #[.slice aS W.stocks.length kS] (by simp [Act.eval, Act.put]) ?_
       refine (HS.out _ (hb2.trans (hb23.mono hb2.size))).mono ?_
       rintro e w4 ⟨sA, sC, rfl, hsS, _, hb4⟩
       have hb24 : Below w2.heap.size w2 w4 := below_on hb23 hb4
       obtain ⟨d0, d1, d2, d3, d4, d5, d6, d7, d8⟩ := wcells (HA2.out.later hb24)
       have f3 := (HA2.out.later hb24).free 3 (.inr (Nat.zero_le _))
       have f4 := (HA2.out.later hb24).free 4 (.inr (Nat.zero_le _))
       refine ⟨_, rfl, ?_⟩))
   all_goals
    have hSz : w.heap.size < w4.heap.size := by have := hb24.size; omega
    have hR4 := HR2.out.later hb24
    have hA4 := HA2.out.later hb24
    have hP4 := HP2.out.later hb24
    have hB4 := hsB.later hb4
    have hbw2 := hb2.trans (hb24.mono hb2.size)
    have hA5 := (hA4.set 3 (.slice bA W.bases.length bC)).set 4 (.slice sA W.stocks.length sC)
    have hR5 := (hR4.other (show w.heap.size + 1 ≠ w.heap.size by omega) 3 (.slice bA W.bases.length bC)).other (show w.heap.size + 1 ≠ w.heap.size by omega) 4 (.slice sA W.stocks.length sC)
    have hP5 := (hP4.other (p := ⟨w.heap.size, 3, none⟩) PN.out (.slice bA W.bases.length bC)).other (p := ⟨w.heap.size, 4, none⟩) PN.out (.slice sA W.stocks.length sC)
    have hB5 := (hB4.other (p := ⟨w.heap.size, 3, none⟩) (nin hsB (by show w.heap.size < w2.heap.size; omega)) (.slice bA W.bases.length bC)).other (p := ⟨w.heap.size, 4, none⟩) (nin hsB (by show w.heap.size < w2.heap.size; omega)) (.slice sA W.stocks.length sC)
    have hS5 := (hsS.other (p := ⟨w.heap.size, 3, none⟩) (nin hsS (by have := hb23.size; show w.heap.size < w3.heap.size; omega)) (.slice bA W.bases.length bC)).other (p := ⟨w.heap.size, 4, none⟩) (nin hsS (by have := hb23.size; show w.heap.size < w3.heap.size; omega)) (.slice sA W.stocks.length sC)
    have hb5 : Below w.heap.size w ((w4.setCell ⟨w.heap.size, 3, none⟩ (.slice bA W.bases.length bC)).setCell ⟨w.heap.size, 4, none⟩ (.slice sA W.stocks.length sC)) := (hbw2.setCell (p := ⟨w.heap.size, 3, none⟩) (Nat.le_refl _) _).setCell (p := ⟨w.heap.size, 4, none⟩) (Nat.le_refl _) _
    have HF : Hid (Half w ((w4.setCell ⟨w.heap.size, 3, none⟩ (.slice bA W.bases.length bC)).setCell ⟨w.heap.size, 4, none⟩ (.slice sA W.stocks.length sC)) pA pC W aM kM aT kT w2.heap.size) := Lib.hid ⟨bA, bC, sA, sC, w3.heap.size, w4.heap.size, hA5, hR5, hP5, hB5, hS5, hsB.lt, hsS.lt, hb5, hb23.size, hb4.size, by simp [World.setCell]⟩
    clear hA5 hR5 hP5 hB5 hS5 hb5 hsB hsS hR4 hA4 hP4 hB4 hbw2 hb23 hb24 hb3 hb4 c0 c1 c2 c3 c4 c5 c6 c7 c8 d0 d1 d2 d3 d4 d5 d6 d7 d8 f3 f4 hbr
    go_wp2_with fail
    go_meet
    exact HF.out
  case rest =>
    obtain ⟨bA, bC, sA, sC, n3, n4, hA5, hR5, hP5, hB5, hS5, rB, rS, hb5, o1, o2, o3⟩ := hcut
    obtain ⟨w5, HW5⟩ : ∃ w5 : World, Hid (w5 = wc) := ⟨wc, Lib.hid rfl⟩
    rw [← HW5.out] at hA5 hR5 hP5 hB5 hS5 hb5 o3 ⊢
    have RP := Lib.hid HP2.out.lt
    have RB := Lib.hid rB
    have RS := Lib.hid rS
    have HP5 := Lib.hid hP5
    have HB5 := Lib.hid hB5
    have HS5 := Lib.hid hS5
    have HR5 := Lib.hid hR5
    have HA5 := Lib.hid hA5
    clear hA5 hR5 hP5 hB5 hS5 rB rS c0 c1 c2 c3 c4 c5 c6 c7 c8 hbr
    obtain ⟨c0, c1, c2, c3, c4, c5, c6, c7, c8⟩ := wcells HA5.out
    have hbr := Below.refl w5.heap.size w5
    go_wp2_with fail
    go_region_law (first
      | (refine step_call rfl 26 _ Try.func26 (by kernel_rfl) (by kernel_rfl) _ _ rfl #[.slice aM W.mines.length kM] (by simp [Act.eval, Act.put]) ?_
         refine (HM.out _ hb5.drew).mono ?_
         rintro e w6 ⟨mA, mC, rfl, hsM, _, hb6⟩
         have hb56 : Below w5.heap.size w5 w6 := below_onD hbr hb6
         have c6 := cell_later hb56 c6
         refine ⟨_, rfl, ?_⟩)
      | (refine step_call rfl 25 _ Try.func25 (by kernel_rfl) (by kernel_rfl) _ _ rfl #[.slice aT W.troops.length kT] (by simp [Act.eval, Act.put]) ?_
         refine (HT.out _ (hb5.trans (hb56.mono hb5.size))).mono ?_
         rintro e w7 ⟨tA, tC, rfl, hsT, _, hb7⟩
         have hb57 : Below w5.heap.size w5 w7 := below_on hb56 hb7
         obtain ⟨d0, d1, d2, d3, d4, d5, d6, d7, d8⟩ := wcells (HA5.out.later hb57)
         have f5 := (HA5.out.later hb57).free 5 (.inr (Nat.zero_le _))
         have f6 := (HA5.out.later hb57).free 6 (.inr (Nat.zero_le _))
         refine ⟨_, rfl, ?_⟩))
    all_goals
      have hz57 := hb57.size
      have hz56 := hb56.size
      have hbw5 := hb5.trans (hb57.mono hb5.size)
      have x0 : w.heap.size < w6.heap.size := by omega
      have x1 : w.heap.size < w5.heap.size := by omega
      have hA8 := ((HA5.out.later hb57).set 5 (.slice mA W.mines.length mC)).set 6 (.slice tA W.troops.length tC)
      have hR8 := ((HR5.out.later hb57).other (show w.heap.size + 1 ≠ w.heap.size by omega) 5 (.slice mA W.mines.length mC)).other (show w.heap.size + 1 ≠ w.heap.size by omega) 6 (.slice tA W.troops.length tC)
      have hP8 := ((HP5.out.later hb57).other (p := ⟨w.heap.size, 5, none⟩) PN.out (.slice mA W.mines.length mC)).other (p := ⟨w.heap.size, 6, none⟩) PN.out (.slice tA W.troops.length tC)
      have hB8 := ((HB5.out.later hb57).other (p := ⟨w.heap.size, 5, none⟩) (fun h => by have := (RB.out _ h).1; simp at this; omega) (.slice mA W.mines.length mC)).other (p := ⟨w.heap.size, 6, none⟩) (fun h => by have := (RB.out _ h).1; simp at this; omega) (.slice tA W.troops.length tC)
      have hS8 := ((HS5.out.later hb57).other (p := ⟨w.heap.size, 5, none⟩) (fun h => by have := (RS.out _ h).1; simp at this; omega) (.slice mA W.mines.length mC)).other (p := ⟨w.heap.size, 6, none⟩) (fun h => by have := (RS.out _ h).1; simp at this; omega) (.slice tA W.troops.length tC)
      have hM8 := ((hsM.later hb7).other (p := ⟨w.heap.size, 5, none⟩) (fun h => by have := (hsM.lt _ h).1; simp at this; omega) (.slice mA W.mines.length mC)).other (p := ⟨w.heap.size, 6, none⟩) (fun h => by have := (hsM.lt _ h).1; simp at this; omega) (.slice tA W.troops.length tC)
      have hT8 := (hsT.other (p := ⟨w.heap.size, 5, none⟩) (fun h => by have := (hsT.lt _ h).1; simp at this; omega) (.slice mA W.mines.length mC)).other (p := ⟨w.heap.size, 6, none⟩) (fun h => by have := (hsT.lt _ h).1; simp at this; omega) (.slice tA W.troops.length tC)
      have hb8 : Below w.heap.size w ((w7.setCell ⟨w.heap.size, 5, none⟩ (.slice mA W.mines.length mC)).setCell ⟨w.heap.size, 6, none⟩ (.slice tA W.troops.length tC)) := (hbw5.setCell (p := ⟨w.heap.size, 5, none⟩) (Nat.le_refl _) _).setCell (p := ⟨w.heap.size, 6, none⟩) (Nat.le_refl _) _
      have hnd : (Rep.blkOf pA ++ Rep.blkOf bA ++ Rep.blkOf sA ++ Rep.blkOf mA ++ Rep.blkOf tA).Nodup := by
        have h1 := app_nodup (m := n3) ⟨blk_nodup pA, fun g hg => (RP.out g hg).2⟩ (blk_nodup bA) RB.out o1
        have h2 := app_nodup h1 (blk_nodup sA) RS.out o2
        have h3 := app_nodup (n := w5.heap.size) (m := w6.heap.size) ⟨h2.1, fun g hg => by have := h2.2 g hg; omega⟩ (blk_nodup mA) hsM.lt hz56
        exact (app_nodup h3 (blk_nodup tA) hsT.lt (by have := hb7.size; omega)).1
      obtain ⟨w8, HW8⟩ : ∃ w8, Hid ((w7.setCell ⟨w.heap.size, 5, none⟩ (.slice mA W.mines.length mC)).setCell ⟨w.heap.size, 6, none⟩ (.slice tA W.troops.length tC) = w8) := ⟨_, Lib.hid rfl⟩
      rw [HW8.out] at hb8 hA8 hR8 hP8 hB8 hS8 hM8 hT8 ⊢
      have HFIN := Lib.hid (show WOwn w8 w.heap.size ⟨pA, bA, sA, mA, tA, pC, bC, sC, mC, tC⟩ W from ⟨hP8, hB8.down (by show w.heap.size ≤ w2.heap.size; omega), hS8.down (by omega), hM8.down (by show w.heap.size ≤ w5.heap.size; omega), hT8.down (by omega), hnd, HN.out⟩)
      have HNF : Hid (w.heap.size + 1 ∉ WOwn.foot ⟨pA, bA, sA, mA, tA, pC, bC, sC, mC, tC⟩) := Lib.hid (fun h => by
        unfold WOwn.foot at h
        simp only [List.mem_append] at h
        rcases h with (((h | h) | h) | h) | h
        · exact PN1.out h
        · have := (RB.out _ h).1; omega
        · have := (RS.out _ h).1; omega
        · have := (hsM.lt _ h).1; (try simp at this); omega
        · have := (hsT.lt _ h).1; (try simp at this); omega)
      have HR8 := Lib.hid hR8
      have HA8 : Hid (Blk w8 w.heap.size [.int .i64 W.field.wide, .int .i64 W.field.high, .slice pA W.field.places.length pC, .slice bA W.bases.length bC, .slice sA W.stocks.length sC, .slice mA W.mines.length mC, .slice tA W.troops.length tC, .int .i64 W.next, .int .i64 W.now] 28 (0, 0)) := Lib.hid hA8
      clear hA8 hR8 hP8 hB8 hS8 hM8 hT8 hnd hsM hsT hb7 hb6 hb57 hb56 c0 c1 c2 c3 c4 c5 c6 c7 c8 d0 d1 d2 d3 d4 d5 d6 d7 d8 f5 f6
      obtain ⟨c0, c1, c2, c3, c4, c5, c6, c7, c8⟩ := wcells HA8.out
      obtain ⟨e0, e1, e2, e3, e4, e5, e6, e7, e8⟩ := wcells HR8.out
      have fr := fun j => HR8.out.free j (.inr (Nat.zero_le _))
      have fr0 := fr 0; have fr1 := fr 1; have fr2 := fr 2; have fr3 := fr 3; have fr4 := fr 4; have fr5 := fr 5; have fr6 := fr 6; have fr7 := fr 7; have fr8 := fr 8
      clear fr
      go_wp2_with fail
      obtain ⟨w9, HW9⟩ : ∃ w9, Hid ((((((((((w8.setCell ⟨w.heap.size + 1, 0, none⟩ (.int .i64 W.field.wide)).setCell ⟨w.heap.size + 1, 1, none⟩ (.int .i64 W.field.high)).setCell ⟨w.heap.size + 1, 2, none⟩ (.slice pA W.field.places.length pC)).setCell ⟨w.heap.size + 1, 3, none⟩ (.slice bA W.bases.length bC)).setCell ⟨w.heap.size + 1, 4, none⟩ (.slice sA W.stocks.length sC)).setCell ⟨w.heap.size + 1, 5, none⟩ (.slice mA W.mines.length mC)).setCell ⟨w.heap.size + 1, 6, none⟩ (.slice tA W.troops.length tC)).setCell ⟨w.heap.size + 1, 7, none⟩ (.int .i64 W.next)).setCell ⟨w.heap.size + 1, 8, none⟩ (.int .i64 W.now)) = w9) := ⟨_, Lib.hid rfl⟩
      have hR9 := nine_blk HR8.out (.int .i64 W.field.wide) (.int .i64 W.field.high) (.slice pA W.field.places.length pC) (.slice bA W.bases.length bC) (.slice sA W.stocks.length sC) (.slice mA W.mines.length mC) (.slice tA W.troops.length tC) (.int .i64 W.next) (.int .i64 W.now)
      have hO9 := HFIN.out.nine HNF.out (.int .i64 W.field.wide) (.int .i64 W.field.high) (.slice pA W.field.places.length pC) (.slice bA W.bases.length bC) (.slice sA W.stocks.length sC) (.slice mA W.mines.length mC) (.slice tA W.troops.length tC) (.int .i64 W.next) (.int .i64 W.now)
      have hb9 := below_nine hb8 (show w.heap.size ≤ w.heap.size + 1 by omega) (.int .i64 W.field.wide) (.int .i64 W.field.high) (.slice pA W.field.places.length pC) (.slice bA W.bases.length bC) (.slice sA W.stocks.length sC) (.slice mA W.mines.length mC) (.slice tA W.troops.length tC) (.int .i64 W.next) (.int .i64 W.now)
      rw [HW9.out] at hR9 hO9 hb9 ⊢
      obtain ⟨v0, v1, v2, v3, v4, v5, v6, v7, v8⟩ := wcells hR9
      refine bodyPost_ret (v := .agg #[.int .i64 W.field.wide, .int .i64 W.field.high, .slice pA W.field.places.length pC, .slice bA W.bases.length bC, .slice sA W.stocks.length sC, .slice mA W.mines.length mC, .slice tA W.troops.length tC, .int .i64 W.next, .int .i64 W.now]) ?_ rfl ⟨⟨pA, bA, sA, mA, tA, pC, bC, sC, mC, tC⟩, rfl, hO9, hb9⟩
      simp [results, Try.results51, go_sem, v0, v1, v2, v3, v4, v5, v6, v7, v8]
end Go.Proofs.Yticfnngppcmidaa
