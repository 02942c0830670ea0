/-
  TroopOne. (Printed by bin/troL.py.)
-/
import Derived.Test.YthjolbdjokopnaaTroK
import Derived.Test.YthjolbdjokopnaaTroP
set_option linter.unusedVariables false
namespace Go.Proofs.Ythjolbdjokopnaa
open Go.RowKit

set_option maxRecDepth 100000 in
set_option maxHeartbeats 4000000 in
theorem troopOne_walk (a1 : Int) (a : Wd.At) (W : Wd) (w : World) (hW : Wd.Has w a W) :
    Calls Try.prog 13 #[.agg (Wd.cells a W).toArray, .int .i64 a1] w fun e w' => e = .returned (.bool true) ∧ Below w.heap.size w w' := by
  have hfi := fun V (h : Wd.Has V a W) => find_any a1 a W V h
  have hon := fun p V (h : Wd.Has V a W) => on_any p a W V h
  have hne := fun p r V (h : Wd.Has V a W) => near_any p r a W V h
  unfold FindPost at hfi hon
  unfold NearPost at hne
  obtain ⟨aP, aB, aS, aM, aT, kP, kB, kS, kM, kT⟩ := a
  show Calls _ _ #[.agg #[.int .i64 W.field.wide, .int .i64 W.field.high, .slice aP W.field.places.length kP, .slice aB W.bases.length kB, .slice aS W.stocks.length kS, .slice aM W.mines.length kM, .slice aT W.troops.length kT, .int .i64 W.next, .int .i64 W.now], .int .i64 a1] _ _
  have hb0 := below_alloc0 w (.cells (Wd.cells ⟨aP, aB, aS, aM, aT, kP, kB, kS, kM, kT⟩ W).toArray 81)
  have HA := Lib.hid (Blk.new w (Wd.cells ⟨aP, aB, aS, aM, aT, kP, kB, kS, kM, kT⟩ W) 81 (0, 0))
  have HH := Lib.hid (hW.keep hb0)
  obtain ⟨w0, HW0⟩ : ∃ w0, Hid (w.alloc (.cells (Wd.cells ⟨aP, aB, aS, aM, aT, kP, kB, kS, kM, kT⟩ W).toArray 81) = w0) := ⟨_, Lib.hid rfl⟩
  rw [HW0.out] at hb0 HH
  have HA : Hid (Blk w0 w.heap.size (Wd.cells ⟨aP, aB, aS, aM, aT, kP, kB, kS, kM, kT⟩ W) 81 (0, 0)) := by rw [← HW0.out]; exact HA
  have HW1 : Hid (w.alloc (.cells #[.int .i64 W.field.wide, .int .i64 W.field.high, .slice aP W.field.places.length kP, .slice aB W.bases.length kB, .slice aS W.stocks.length kS, .slice aM W.mines.length kM, .slice aT W.troops.length kT, .int .i64 W.next, .int .i64 W.now] 81) = w0) := by rw [← HW0.out]; rfl
  have HFI := Lib.hid (hfi w0 HH.out)
  have HON := Lib.hid (fun p V (h : Below w0.heap.size w0 V) => hon p V (HH.out.keep h))
  have HNE := Lib.hid (fun p r V (h : Below w0.heap.size w0 V) => hne p r V (HH.out.keep h))
  rw [Wd.cells_eq] at HFI HON HNE
  have HFI : Hid (Calls Try.prog 37 #[.agg #[.int .i64 W.field.wide, .int .i64 W.field.high, .slice aP W.field.places.length kP, .slice aB W.bases.length kB, .slice aS W.stocks.length kS, .slice aM W.mines.length kM, .slice aT W.troops.length kT, .int .i64 W.next, .int .i64 W.now], .int .i64 a1] w0 fun e w' => e = .returned (.tuple #[.int .i64 (whichI W (isId a1)), .bool (whichB W (isId a1)), .int .i64 W.chk]) ∧ Below w0.heap.size w0 w') := HFI
  have HLV := Lib.hid (fun V => tlives_any V)
  obtain ⟨c0, c1, c2, c3, c4, c5, c6, c7, c8⟩ := Wd.wblk HA.out
  clear hW hfi hon hne
  by_cases hok : W.chk = 0 ∧ 0 ≤ idxI (isId a1) W.troops
  · obtain ⟨h0, hix⟩ := hok
    obtain ⟨e1, e2⟩ := which_ok h0 (isId a1)
    rcases idxI_cases (isId a1) W.troops with ⟨hm, _⟩ | ⟨k, hk, hke, hkp, hkr⟩
    · omega
    rw [hke] at e1 e2
    have e3 : whichI W (isId a1) = (k : Int) := by rw [e1]; omega
    have e4 : whichB W (isId a1) = true := by rw [e2]; simp
    obtain ⟨t, ht⟩ := get_of hk
    have htid : t.id = a1 := by
      obtain ⟨_, h2⟩ := List.getElem?_eq_some_iff.1 ht
      rw [h2] at hkp
      simpa [isId] using hkp
    subst htid
    obtain ⟨o1, o2⟩ := which_ok h0 (isAt t.spot)
    rw [on_same h0 ht] at o1 o2
    have o3 : whichI W (isAt t.spot) = (k : Int) := by rw [o1]; omega
    have o4 : whichB W (isAt t.spot) = true := by rw [o2]; simp
    have n1 : nearE W 0 = 0 := by unfold nearE; rw [h0]; rfl
    have n2 := near_one h0 ht
    have HON1 := Lib.hid (HON.out t.spot)
    have HNE1 := Lib.hid (HNE.out t.spot 0)
    rw [e3, e4, h0] at HFI
    rw [o3, o4, h0] at HON1
    rw [n1, if_pos rfl, n2] at HNE1
    have HON1 : Hid (∀ V, Below w0.heap.size w0 V → Calls Try.prog 39 #[.agg #[.int .i64 W.field.wide, .int .i64 W.field.high, .slice aP W.field.places.length kP, .slice aB W.bases.length kB, .slice aS W.stocks.length kS, .slice aM W.mines.length kM, .slice aT W.troops.length kT, .int .i64 W.next, .int .i64 W.now], .agg #[.int .i64 t.spot.x, .int .i64 t.spot.y]] V fun e w' => e = .returned (.tuple #[.int .i64 (k : Int), .bool true, .int .i64 0]) ∧ Below V.heap.size V w') := HON1
    have HNE1 : Hid (∀ V, Below w0.heap.size w0 V → Calls Try.prog 40 #[.agg #[.int .i64 W.field.wide, .int .i64 W.field.high, .slice aP W.field.places.length kP, .slice aB W.bases.length kB, .slice aS W.stocks.length kS, .slice aM W.mines.length kM, .slice aT W.troops.length kT, .int .i64 W.next, .int .i64 W.now], .agg #[.int .i64 t.spot.x, .int .i64 t.spot.y], .int .i64 0] V fun e w' => ∃ (A : Option Addr) (k : Nat) (l : List Int) (f : List Nat), e = .returned (.tuple #[.slice A l.length k, .int .i64 0]) ∧ l = [t.id] ∧ repI.SOwn 3 8 w' V.heap.size f A k l ∧ Below V.heap.size V w') := HNE1
    obtain ⟨nt, HNT⟩ : ∃ n, Hid (W.troops.length = n) := ⟨_, Lib.hid rfl⟩
    have hkn : k < nt := by rw [← HNT.out]; exact hk
    have h100 : nt ≤ 100 := by rw [← HNT.out]; exact (good_spots h0).2.2.1
    have hHT : Trp.rep.SHas 56 w0 aT kT W.troops := HH.out.T
    obtain ⟨b, o, rfl, hcell⟩ := Trp.at_ hHT (by omega)
    have hok : t.ok := Trp.all_ok hHT t (List.mem_of_getElem? ht)
    obtain ⟨p0, p1, p2, p3, p4, p5, p6⟩ := hcell k t ht
    have HOK := Lib.hid hok
    rw [HNT.out] at HFI HON1 HNE1 c6 HW1
    have hki : (k : Int) < (nt : Int) := by omega
    have hk0 : (0 : Int) ≤ (k : Int) := by omega
    clear e1 e2 e3 e4 o1 o2 o3 o4 n1 n2 h0 hix hke hkp hkr ht hcell HON HNE hHT hk hok
    generalize W.field.places.length = np at *
    generalize W.bases.length = nb at *
    generalize W.stocks.length = ns at *
    generalize W.mines.length = nm at *
    go_enter Try.func13, Try.ntmps13
    rw [HNT.out]
    go_wp2_with fail
    rw [HW1.out]
    go_wp2_with fail
    refine HFI.out.mono ?_; rintro e w2 ⟨rfl, hb2⟩
    go_wp2_with fail
    refine (HLV.out _).mono ?_; rintro e w3 ⟨rfl, hb3⟩
    have t3 := below_on hb2 hb3
    have d0 := cell_later t3 c0
    have d1 := cell_later t3 c1
    have d2 := cell_later t3 c2
    have d3 := cell_later t3 c3
    have d4 := cell_later t3 c4
    have d5 := cell_later t3 c5
    have d6 := cell_later t3 c6
    have d7 := cell_later t3 c7
    have d8 := cell_later t3 c8
    have r0 := cell_later t3 p0
    have r1 := cell_later t3 p1
    have r2 := cell_later t3 p2
    have r3 := cell_later t3 p3
    have r4 := cell_later t3 p4
    have r5 := cell_later t3 p5
    have r6 := cell_later t3 p6
    have hb4 := below_alloc0 w3 (.cells #[.int .i64 t.id, .int .i64 t.owner, .int .i64 t.kind, .int .i64 t.spot.x, .int .i64 t.spot.y, .int .i64 t.life, .int .i64 t.load] 87)
    obtain ⟨w4, HW4⟩ : ∃ w4, Hid (w3.alloc (.cells #[.int .i64 t.id, .int .i64 t.owner, .int .i64 t.kind, .int .i64 t.spot.x, .int .i64 t.spot.y, .int .i64 t.life, .int .i64 t.load] 87) = w4) := ⟨_, Lib.hid rfl⟩
    have hBT := Blk.new w3 t.cells 87 (0, 0)
    rw [HW4.out] at hb4
    have HBT : Hid (Blk w4 w3.heap.size t.cells 87 (0, 0)) := by rw [← HW4.out]; exact hBT
    have t4 := below_on t3 hb4
    have hbsz : w.heap.size < w3.heap.size := World.block_lt_of_cell? w3 _ d0
    clear c0 c1 c2 c3 c4 c5 c6 c7 c8 p0 p1 p2 p3 p4 p5 p6 hb2 hb3 hBT
    go_wp2_with fail
    rw [HW4.out]
    refine (HON1.out _ t4).mono ?_; rintro e w5 ⟨rfl, hb5⟩
    have t5 := below_on t4 hb5
    have b45 := below_on hb4 hb5
    clear r0 r1 r2 r3 r4 r5 r6
    have d0 := cell_later b45 d0
    have d1 := cell_later b45 d1
    have d2 := cell_later b45 d2
    have d3 := cell_later b45 d3
    have d4 := cell_later b45 d4
    have d5 := cell_later b45 d5
    have d6 := cell_later b45 d6
    have d7 := cell_later b45 d7
    have d8 := cell_later b45 d8
    obtain ⟨q0, q1, q2, q3, q4, q5, q6⟩ := Trp.blk (HBT.out.later hb5)
    go_wp2_with fail
    refine (HNE1.out _ t5).mono ?_; rintro e w6 ⟨A, kk, l, f, rfl, rfl, hso, hb6⟩
    have t6 := below_on t5 hb6
    have q0 := cell_later hb6 q0
    have hb7 := below_alloc0 w6 (.cells #[.int .i64 t.id] 3)
    have t7 := below_on t6 hb7
    have HEQ := Lib.hid (equal_I A (some ⟨w6.heap.size, 0, none⟩) kk 1 8 8 [t.id] [t.id] _ (hso.has.keep hb7) (has_of_blk (R := repI) (Blk.new w6 [.int .i64 t.id] 3 (0, 0)) (l := [t.id]) (ess := [[.int .i64 t.id]]) rfl ⟨⟨rfl, HOK.out.1⟩, trivial⟩ (Nat.le_of_ble_eq_true rfl) (Nat.le_of_ble_eq_true rfl)))
    have HT7 := Lib.hid (hb0.trans (t7.mono hb0.size))
    rw [decide_eq_true rfl] at HEQ
    clear d0 d1 d2 d3 d4 d5 d6 d7 d8 q1 q2 q3 q4 q5 q6 hso hb4 hb5 hb6 hb7 b45 t3 t4 t5 t6 t7
    go_wp2_with fail
    refine HEQ.out.mono ?_; rintro e w8 ⟨rfl, hb8⟩
    go_wp2_with fail
    go_ret
    exact ⟨rfl, HT7.out.trans (hb8.mono HT7.out.size)⟩
  · have hcase : (whichI W (isId a1) = 0) ∧ (W.chk = 0 ∧ whichB W (isId a1) = false ∨ ((W.chk == 0) = false ∧ (W.chk != 0) = true)) := by
      by_cases h0 : W.chk = 0
      · have hix : ¬ 0 ≤ idxI (isId a1) W.troops := fun h => hok ⟨h0, h⟩
        obtain ⟨e1, e2⟩ := which_ok h0 (isId a1)
        exact ⟨by rw [e1]; omega, .inl ⟨h0, by rw [e2]; simpa using hix⟩⟩
      · obtain ⟨e1, e2⟩ := which_bad h0 (isId a1)
        exact ⟨e1, .inr ⟨by simpa using h0, by simpa using h0⟩⟩
    obtain ⟨e1, hcase⟩ := hcase
    rw [e1] at HFI
    clear e1 hok HON HNE
    generalize whichB W (isId a1) = r1 at *
    generalize W.chk = r2 at *
    generalize W.field.places.length = np at *
    generalize W.bases.length = nb at *
    generalize W.stocks.length = ns at *
    generalize W.mines.length = nm at *
    generalize W.troops.length = nt at *
    rcases hcase with ⟨rfl, rfl⟩ | ⟨h1, h2⟩
    all_goals
      go_enter Try.func13, Try.ntmps13
      go_wp2_with fail
      rw [HW1.out]
      go_wp2_with fail
      refine HFI.out.mono ?_; rintro e w2 ⟨rfl, hb2⟩
      go_wp2_with fail
      refine (HLV.out _).mono ?_; rintro e w3 ⟨rfl, hb3⟩
      have t3 := below_on hb2 hb3
      go_wp2_with fail
      refine (HLV.out _).mono ?_; rintro e w4 ⟨rfl, hb4⟩
      have t4 := below_on t3 hb4
      go_wp2_with fail
      go_ret
      exact ⟨rfl, hb0.trans (t4.mono hb0.size)⟩
theorem troopOne_any (c0 : Array Value) (a1 : Int) (w : World) (h0 : (.cons (.cons (.int .i64) (.cons (.int .i64) (.cons (.slice (.int .i64) 8) .nil))) (.cons (.slice (.cons (.int .i64) (.cons (.int .i64) .nil)) 16) (.cons (.slice (.int .i64) 8) (.cons (.slice (.int .i64) 8) (.cons (.slice (.cons (.int .i64) (.cons (.int .i64) (.cons (.int .i64) (.cons (.cons (.int .i64) (.cons (.int .i64) .nil)) (.cons (.int .i64) (.cons (.int .i64) .nil)))))) 56) (.cons (.int .i64) (.cons (.int .i64) .nil)))))) : Sh).Ok w c0.toList) (w1 : (Lit.int .i64 a1).wf = true) :
    Calls Try.prog 13 #[.agg c0, .int .i64 a1] w fun e w' => e = .returned (.bool true) ∧ Below w.heap.size w w' := by
  obtain ⟨a, W, e, hW⟩ := Wd.opens w _ (show Wd.sh.Ok w c0.toList from h0)
  have hc : c0 = (Wd.cells a W).toArray := by rw [← e]
  subst hc
  exact troopOne_walk a1 a W w hW
end Go.Proofs.Ythjolbdjokopnaa
