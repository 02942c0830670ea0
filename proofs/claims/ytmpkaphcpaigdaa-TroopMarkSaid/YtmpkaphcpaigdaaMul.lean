import Derived.Test.YtmpkaphcpaigdaaGolC
import Derived.Test.YtmpkaphcpaigdaaCelK
import Derived.Test.YtmpkaphcpaigdaaEqI
import Derived.Shelf.Bits.Mul64
set_option linter.unusedVariables false
set_option linter.unusedSimpArgs false
set_option maxRecDepth 100000
set_option maxHeartbeats 4000000
namespace Go.Proofs.Ytmpkaphcpaigdaa
section
open Go.RowKit
theorem within_v {n lo hi : Int} {b : Bool} (h : inB n lo hi = b) (w : World) : Calls Try.prog 54 #[.int .i64 n, .int .i64 lo, .int .i64 hi] w λ e w' => e = .returned (.bool b) ∧ w = w' := by
 have := within_any n lo hi w
 rw [h] at this
 exact this
theorem MapIs.drewN {κ : Type} {key : κ → Value} {w : World} {b : Nat} {l : List (κ × Int × Nat)} {clock : Nat} (h : MapIs key w b l clock) (n : Nat) : MapIs key (w.drewN n) b l clock := ⟨h.blk, h.born, h.stamps⟩
theorem drew1 (w : World) : w.drewN 1 = w.drew := rfl
theorem Blk.of_heap {w w' : World} {g : Nat} {cur : List Value} {e : TypeId} {fr : Nat × Nat} (h : Blk w g cur e fr) (hh : w'.heap[g]? = w.heap[g]?) : Blk w' g cur e fr := hh.trans h
theorem entryFacts {w : World} {b : Nat} {l : List (Cel × Int × Nat)} {clk : Nat} (h : MapIs Cel.key w b l clk) (hw : ∀ e ∈ l, e.1.ok) (hn : (l.map (·.1)).Nodup) (x : Cel) (hx : x.ok) (v : Int) (hv : (MapIs.get l x).getD 0 = v) :
  ∃ (st : Nat) (l1 : List (Cel × Int × Nat)) (c1 : Nat) (wE wS : World),
   (∀ n, (Instr.lookup 118 (.map (some b)) (.agg #[.int .i64 x.x, .int .i64 x.y]) false).run Try.prog (w.drewN n) = .ok (.int .i64 v) (w.drewN n)) ∧
   (∀ n, (Instr.mapEntry 118 (.map (some b)) (.agg #[.int .i64 x.x, .int .i64 x.y])).run Try.prog (w.drewN n) = .ok (.tuple #[.int .i64 v, .int .i64 (st : Int)]) (wE.drewN n)) ∧
   (∀ n, (Instr.lookup 118 (.map (some b)) (.agg #[.int .i64 x.x, .int .i64 x.y]) false).run Try.prog (wE.drewN n) = .ok (.int .i64 v) (wE.drewN n)) ∧
   (∀ n, (Instr.entryStore 118 (.map (some b)) (.int .i64 (st : Int)) (.int .i64 (v + 1))).run Try.prog (wE.drewN n) = .ok () (wS.drewN n)) ∧
   (∀ n, (Instr.lookup 118 (.map (some b)) (.agg #[.int .i64 x.x, .int .i64 x.y]) false).run Try.prog (wS.drewN n) = .ok (.int .i64 (v + 1)) (wS.drewN n)) ∧
   MapIs Cel.key wS b (MapIs.put l clk x (v + 1)) (MapIs.tick l clk x) ∧
   (∀ p : Addr, p.block ≠ b → wE.cell? p = w.cell? p) ∧ (∀ p : Addr, p.block ≠ b → wS.cell? p = w.cell? p) ∧
   ∀ {B : Nat} {a : World}, B ≤ b → (Below B a w → Below B a wS) ∧ (∀ g, g ≠ b → wS.heap[g]? = w.heap[g]?) := by
 obtain ⟨st, l1, k1, e1, e2, e3, e4, e5, e6⟩ := MapIs.entry Cel.key_ok Try.underlying118 Try.zeroValue3 h hw hn x hx
 have hlook := λ n => (MapIs.lookup (w := w.drewN n) Cel.key_ok Try.underlying118 (Try.zeroValue3 _) (h.drewN n) hw hn x hx).1
 have hlook2 := λ n => (MapIs.lookup (w := (setMap w b (l1.map (entOf Cel.key)).toArray k1).drewN n) Cel.key_ok Try.underlying118 (Try.zeroValue3 _) (e2.drewN n) e3 e4 x hx).1
 have hp := (e6 (v + 1) 0).2
 have hlook3 := λ n => (MapIs.lookup (w := (setMap w b ((MapIs.put l clk x (v + 1)).map (entOf Cel.key)).toArray (MapIs.tick l clk x)).drewN n) Cel.key_ok Try.underlying118 (Try.zeroValue3 _) (hp.drewN n) (MapIs.mem_put hw hx) (MapIs.keys_put hn clk x (v + 1)) x hx).1
 simp only [e5, hv, Option.getD_some] at hlook hlook2 e1
 simp only [MapIs.get_put, if_pos, Option.getD_some] at hlook3
 exact ⟨st, l1, k1, _, _, hlook, e1, hlook2, λ n => (e6 (v + 1) n).1, hlook3, hp, λ p hp => World.cell?_of_block (setMap_other hp), λ p hp => World.cell?_of_block (setMap_other hp),
  fun {B a} hB => ⟨λ hb => setMap_below hb hB, λ g hg => setMap_other hg⟩⟩
theorem troops_any (a : Wd.At) (W : Wd) (w : World) (hW : Wd.Has w a W) (h0 : W.field.chk = 0) (h8 : W.bases.length ≤ 8) (h100 : W.troops.length ≤ 100) :
  Calls Try.prog 47 #[.agg (Wd.cells a W).toArray] w λ e w' => e = .returned (.bool W.troopsOk) ∧ Below w.heap.size w w' := by
 obtain ⟨aP, aB, aS, aM, aT, kP, kB, kS, kM, kT⟩ := a
 show Calls _ _ #[.agg #[.int .i64 W.field.wide, .int .i64 W.field.high, .slice aP W.field.places.length kP, .slice aB W.bases.length kB, .slice aS W.stocks.length kS, .slice aM W.mines.length kM, .slice aT W.troops.length kT, .int .i64 W.next, .int .i64 W.now]] _ _
 have hb0 := below_alloc0 w (.cells (Wd.cells ⟨aP, aB, aS, aM, aT, kP, kB, kS, kM, kT⟩ W).toArray 28)
 have HA := Lib.hid (Blk.new w (Wd.cells ⟨aP, aB, aS, aM, aT, kP, kB, kS, kM, kT⟩ W) 28 (0, 0))
 have HH := Lib.hid (hW.keep hb0)
 obtain ⟨w0, HW0⟩ : ∃ w0, Hid (w.alloc (.cells (Wd.cells ⟨aP, aB, aS, aM, aT, kP, kB, kS, kM, kT⟩ W).toArray 28) = w0) := ⟨_, Lib.hid rfl⟩
 rw [HW0.out] at hb0 HH
 have HA : Hid (Blk w0 w.heap.size (Wd.cells ⟨aP, aB, aS, aM, aT, kP, kB, kS, kM, kT⟩ W) 28 (0, 0)) := by rw [← HW0.out]; exact HA
 obtain ⟨nt, HNT⟩ : ∃ n, Hid (W.troops.length = n) := ⟨_, Lib.hid rfl⟩
 obtain ⟨nb, HNB⟩ : ∃ n, Hid (W.bases.length = n) := ⟨_, Lib.hid rfl⟩
 have h8 : nb ≤ 8 := by rw [← HNB.out]; exact h8
 have h100 : nt ≤ 100 := by rw [← HNT.out]; exact h100
 have H0 := Lib.hid h0
 have HW := Lib.hid hW
 obtain ⟨nx, hnx⟩ : ∃ nx, wrap64 (W.next - 1) = nx := ⟨_, rfl⟩
 have HNX := Lib.hid hnx
 have HW1 : Hid (w.alloc (.cells #[.int .i64 W.field.wide, .int .i64 W.field.high, .slice aP W.field.places.length kP, .slice aB nb kB, .slice aS W.stocks.length kS, .slice aM W.mines.length kM, .slice aT nt kT, .int .i64 W.next, .int .i64 W.now] 28) = w0) := by rw [← HW0.out, ← HNB.out, ← HNT.out]; rfl
 obtain ⟨c0, c1, c2, c3, c4, c5, c6, c7, c8⟩ := Wd.wblk HA.out
 rw [HNB.out] at c3
 rw [HNT.out] at c6
 clear hW h0
 have hmm := @run_makeMap Try.prog
 have hmade := MapIs.made (key := Cel.key) w0
 have hbm := below_alloc0 w0 (.map #[] 0)
 obtain ⟨wm, HWM⟩ : ∃ wm, Hid (w0.alloc (.map #[] 0) = wm) := ⟨_, Lib.hid rfl⟩
 rw [HWM.out] at hmade hbm
 have hsz : w0.heap.size = w.heap.size + 1 := by rw [← HW0.out]; simp
 rw [hsz] at hmade
 have HMADE := Lib.hid hmade
 have HOK : Hid (∀ j, j < 0 → W.okTroop j = true) := Lib.hid λ j hj => absurd hj (by omega)
 clear hmade
 go_enter Try.func47, Try.ntmps47
 rw [HNB.out, HNT.out]
 go_wp2_with fail
 rw [HW1.out, HWM.out]
 have HHP : Hid (repI.SHas 8 w aP kP W.field.places) := Lib.hid HW.out.P
 have HHT : Hid (Trp.rep.SHas 56 w aT kT W.troops) := Lib.hid HW.out.T
 have hle100 := h100
 have hA0 := HA.out.later hbm
 have hb0m := hb0.trans (hbm.mono hb0.size)
 clear c0 c1 c2 c3 c4 c5 c6 c7 c8 hmm
 obtain ⟨mb, HMB⟩ : ∃ mb, Hid (w.heap.size + 1 = mb) := ⟨_, Lib.hid rfl⟩
 rw [HMB.out]
 rw [HMB.out] at HMADE
 go_loopw [3, 6, 7, 8, 9, 14] (λ lv _ _ _ _ iv wr => ∃ (k : Nat) (l : List (Cel × Int × Nat)) (clk : Nat), k ≤ nt ∧ iv = .int .i64 (k : Int) ∧ lv = .int .i64 (W.lastId k) ∧ Hid (∀ j, j < k → W.okTroop j = true) ∧ Hid (MapIs Cel.key wr mb l clk) ∧ Hid (∀ e ∈ l, e.1.ok) ∧ Hid ((l.map (·.1)).Nodup) ∧ Hid (∀ c, MapIs.get l c = if (W.spots k).contains c = true then some 1 else none) ∧ Hid (Blk wr w.heap.size (Wd.cells ⟨aP, aB, aS, aM, aT, kP, kB, kS, kM, kT⟩ W) 28 (0, 0)) ∧ Below w.heap.size w wr) (λ _ _ _ _ _ iv _ => nt - (intOf iv).toNat)
 case atStart => exact ⟨0, [], 0, Nat.zero_le _, rfl, rfl, HOK, HMADE, (λ e he => by simp at he), List.nodup_nil, (λ c => by simp [MapIs.get, Wd.spots]), hA0, hb0m⟩
 case round =>
  clear HOK HMADE hA0 hb0m
  obtain ⟨k, l, clk, hk, rfl, rfl, HK, HM, HWF, HKN, HGET, HAR, hbw⟩ := hrel
  obtain ⟨c0, c1, c2, c3, c4, c5, c6, c7, c8⟩ := Wd.wblk HAR.out
  rw [HNB.out] at c3
  rw [HNT.out] at c6
  by_cases hlt : k < nt
  ·obtain ⟨t, ht⟩ := get_of (l := W.troops) (i := k) (by rw [HNT.out]; exact hlt)
   have hHT := HHT.out.keep hbw
   obtain ⟨b, o, rfl, hcell⟩ := Trp.at_ hHT (by rw [HNT.out]; omega)
   obtain ⟨p0, p1, p2, p3, p4, p5, p6⟩ := hcell k t ht
   obtain ⟨lx, hlx⟩ : ∃ lx, wrap64 (W.lastId k + 1) = lx := ⟨_, rfl⟩
   have hok : W.okTroop k = (W.okOne lx nx t && !(W.spots k).contains t.spot) := by
    unfold Wd.okTroop
    rw [List.getD_eq_getElem?_getD, ht, hlx, HNX.out]; rfl
   unfold Wd.okOne at hok
   rw [HNB.out] at hok
   have hnext : W.lastId (k + 1) = t.id := by
    unfold Wd.lastId
    rw [if_neg (by omega), List.getD_eq_getElem?_getD, Nat.add_sub_cancel, ht]; rfl
   have hspots : W.spots (k + 1) = W.spots k ++ [t.spot] := by
    unfold Wd.spots
    rw [List.take_succ_eq_append_getElem (by rw [HNT.out]; exact hlt), List.map_append]
    have : W.troops[k]'(by rw [HNT.out]; exact hlt) = t := by
     rw [List.getElem?_eq_getElem (by rw [HNT.out]; exact hlt)] at ht
     exact Option.some.inj ht
    rw [this]; rfl
   have HNEXT := Lib.hid hnext
   have HSPOTS := Lib.hid hspots
   have hb1 := below_alloc0 wr (.cells #[.int .i64 t.id, .int .i64 t.owner, .int .i64 t.kind, .int .i64 t.spot.x, .int .i64 t.spot.y, .int .i64 t.life, .int .i64 t.load] 37)
   have hBT := Blk.new wr t.cells 37 (0, 0)
   obtain ⟨w1, HW1B⟩ : ∃ w1, Hid (wr.alloc (.cells #[.int .i64 t.id, .int .i64 t.owner, .int .i64 t.kind, .int .i64 t.spot.x, .int .i64 t.spot.y, .int .i64 t.life, .int .i64 t.load] 37) = w1) := ⟨_, Lib.hid rfl⟩
   rw [HW1B.out] at hb1
   have HBT : Hid (Blk w1 wr.heap.size t.cells 37 (0, 0)) := by rw [← HW1B.out]; exact hBT
   have hmbr : mb < wr.heap.size := HM.out.lt
   have hmbw : w.heap.size < mb := by have := HMB.out; omega
   have hki : (k : Int) < (nt : Int) := by omega
   have hk0 : (0 : Int) ≤ (k : Int) := by omega
   have hnb1 : (0 : Int) ≤ (nb : Int) ∧ (nb : Int) ≤ 8 := by omega
   clear hHT hcell ht hnext hspots hBT hnx
   have hnx := HNX.out
   by_cases hk1 : t.kind = 1
   ·have HTK := Lib.hid hk1
    rw [hk1] at p2
    clear hk1
    have HKD := Lib.hid (λ V : World => kind_1 V)
    have hlife : Wd.lifeOf 1 = 10 := rfl
    have hmost : Wd.mostOf 1 = 5 := rfl
    rw [HTK.out, hlife, hmost] at hok
    have HOKE := Lib.hid hok
    clear hlife hmost hok
    have HW1C : Hid (wr.alloc (.cells #[.int .i64 t.id, .int .i64 t.owner, .int .i64 1, .int .i64 t.spot.x, .int .i64 t.spot.y, .int .i64 t.life, .int .i64 t.load] 37) = w1) := by rw [← HW1B.out, HTK.out]; rfl
    go_wp2_with fail
    rw [HW1C.out]
    refine (HKD.out _).mono ?_; rintro e w2 ⟨rfl, hb2⟩
    have hb12 := hb1.trans (hb2.mono hb1.size)
    have hb3 := below_alloc0 w2 (.cells #[.int .i64 10, .int .i64 1, .int .i64 1, .int .i64 5] 120)
    have hKB := Blk.new w2 [.int .i64 10, .int .i64 1, .int .i64 1, .int .i64 5] 120 (0, 0)
    obtain ⟨w3, HW3⟩ : ∃ w3, Hid (w2.alloc (.cells #[.int .i64 10, .int .i64 1, .int .i64 1, .int .i64 5] 120) = w3) := ⟨_, Lib.hid rfl⟩
    rw [HW3.out] at hb3
    have hKB : Blk w3 w2.heap.size [.int .i64 10, .int .i64 1, .int .i64 1, .int .i64 5] 120 (0, 0) := by rw [← HW3.out]; exact hKB
    have kb0 : w3.cell? ⟨w2.heap.size, 0, none⟩ = some (.int .i64 10) := hKB.cell 0
    have hb13 := hb12.trans (hb3.mono hb12.size)
    have HBT3 := Lib.hid ((HBT.out.later hb2).later hb3)
    have HM3 := Lib.hid (HM.out.later hb13)
    have HA3 := Lib.hid (HAR.out.later hb13)
    have hbw3 := hbw.trans (hb13.mono hbw.size)
    have HHP3 := Lib.hid (HHP.out.keep hbw3)
    obtain ⟨t0, t1, t2, t3, t4, t5, t6⟩ := Trp.blk ((HBT.out.later hb2))
    rw [HTK.out] at t2
    clear c0 c1 c2 c3 c4 c5 c6 c7 c8
    obtain ⟨c0, c1, c2, c3, c4, c5, c6, c7, c8⟩ := Wd.wblk (HAR.out.later hb12)
    rw [HNB.out] at c3
    rw [HNT.out] at c6
    have hbsz : wr.heap.size < w2.heap.size := by have := hb2.size; have := HBT.out.lt; omega
    have hbsz2 : w.heap.size < w2.heap.size := by have := hmbr; omega
    go_wp2_with fail
    rw [HW3.out]
    clear t0 t1 t2 t3 t4 t5 t6 c0 c1 c2 c3 c4 c5 c6 c7 c8
    obtain ⟨t0, t1, t2, t3, t4, t5, t6⟩ := Trp.blk HBT3.out
    obtain ⟨c0, c1, c2, c3, c4, c5, c6, c7, c8⟩ := Wd.wblk HA3.out
    rw [HNB.out] at c3
    rw [HNT.out] at c6
    rw [HTK.out] at t2
    clear hb2 hKB hb3 hb12
    cases h0 : inB t.id lx nx with
    | false =>
     have HF : Hid (W.troopsOk = false) := Wd.troops_bad (k := k) (by rw [HNT.out]; exact hlt) (by rw [HOKE.out, h0]; simp)
     have HC0 := Lib.hid h0
     clear h0
     refine (within_v HC0.out _).mono ?_; rintro e w' ⟨rfl, rfl⟩
     go_wp2_with fail
     go_ret
     exact ⟨ret_bool HF.out.symm, hbw3⟩
    | true =>
     have HC0 := Lib.hid h0
     clear h0
     refine (within_v HC0.out _).mono ?_; rintro e w' ⟨rfl, rfl⟩
     go_wp2_with fail
     cases h1 : inB t.owner 0 ((nb : Int) - 1) with
     | false =>
      have HF : Hid (W.troopsOk = false) := Wd.troops_bad (k := k) (by rw [HNT.out]; exact hlt) (by rw [HOKE.out, h1]; simp)
      have HC1 := Lib.hid h1
      clear h1
      refine (within_v HC1.out _).mono ?_; rintro e w' ⟨rfl, rfl⟩
      go_wp2_with fail
      go_ret
      exact ⟨ret_bool HF.out.symm, hbw3⟩
     | true =>
      have HC1 := Lib.hid h1
      clear h1
      refine (within_v HC1.out _).mono ?_; rintro e w' ⟨rfl, rfl⟩
      go_wp2_with fail
      cases h2 : W.field.ground t.spot with
      | false =>
       have HF : Hid (W.troopsOk = false) := Wd.troops_bad (k := k) (by rw [HNT.out]; exact hlt) (by rw [HOKE.out, h2]; simp)
       have HC2 := Lib.hid h2
       clear h2
       have HG := ground_any W.field t.spot aP kP _ HHP3.out H0.out
       rw [HC2.out] at HG
       refine HG.mono ?_; rintro e w4 ⟨rfl, hb4⟩
       have hb14 := hb13.trans (hb4.mono hb13.size)
       have hbw4 := hbw.trans (hb14.mono hbw.size)
       have HBT4 := Lib.hid (HBT3.out.later hb4)
       have HM4 := Lib.hid (HM3.out.later hb4)
       have HA4 := Lib.hid (HA3.out.later hb4)
       clear t0 t1 t2 t3 t4 t5 t6 c0 c1 c2 c3 c4 c5 c6 c7 c8 HG
       obtain ⟨t0, t1, t2, t3, t4, t5, t6⟩ := Trp.blk HBT4.out
       have kb0 := cell_later hb4 kb0
       go_wp2_with fail
       go_ret
       exact ⟨ret_bool HF.out.symm, hbw4⟩
      | true =>
       have HC2 := Lib.hid h2
       clear h2
       have HG := ground_any W.field t.spot aP kP _ HHP3.out H0.out
       rw [HC2.out] at HG
       refine HG.mono ?_; rintro e w4 ⟨rfl, hb4⟩
       have hb14 := hb13.trans (hb4.mono hb13.size)
       have hbw4 := hbw.trans (hb14.mono hbw.size)
       have HBT4 := Lib.hid (HBT3.out.later hb4)
       have HM4 := Lib.hid (HM3.out.later hb4)
       have HA4 := Lib.hid (HA3.out.later hb4)
       clear t0 t1 t2 t3 t4 t5 t6 c0 c1 c2 c3 c4 c5 c6 c7 c8 HG
       obtain ⟨t0, t1, t2, t3, t4, t5, t6⟩ := Trp.blk HBT4.out
       have kb0 := cell_later hb4 kb0
       go_wp2_with fail
       cases h3 : inB t.life 1 10 with
       | false =>
        have HF : Hid (W.troopsOk = false) := Wd.troops_bad (k := k) (by rw [HNT.out]; exact hlt) (by rw [HOKE.out, h3]; simp)
        have HC3 := Lib.hid h3
        clear h3
        refine (within_v HC3.out _).mono ?_; rintro e w' ⟨rfl, rfl⟩
        go_wp2_with fail
        go_ret
        exact ⟨ret_bool HF.out.symm, hbw4⟩
       | true =>
        have HC3 := Lib.hid h3
        clear h3
        refine (within_v HC3.out _).mono ?_; rintro e w' ⟨rfl, rfl⟩
        go_wp2_with fail
        cases h4 : inB t.load 0 5 with
        | false =>
         have HF : Hid (W.troopsOk = false) := Wd.troops_bad (k := k) (by rw [HNT.out]; exact hlt) (by rw [HOKE.out, h4]; simp)
         have HC4 := Lib.hid h4
         clear h4
         refine (within_v HC4.out _).mono ?_; rintro e w' ⟨rfl, rfl⟩
         go_wp2_with fail
         go_ret
         exact ⟨ret_bool HF.out.symm, hbw4⟩
        | true =>
         have HC4 := Lib.hid h4
         clear h4
         refine (within_v HC4.out _).mono ?_; rintro e w' ⟨rfl, rfl⟩
         go_wp2_with fail
         have hspot : t.spot.ok := by
          obtain ⟨i1, i2, i3, i4, i5, i6⟩ := Fld.idx H0.out (Fld.ground_in HC2.out)
          obtain ⟨g1, g2, g3, g4, _, _⟩ := Fld.good H0.out
          exact ⟨okI_iff.2 (by omega), okI_iff.2 (by omega)⟩
         obtain ⟨v, HV⟩ : ∃ v, Hid ((MapIs.get l t.spot).getD 0 = v) := ⟨_, Lib.hid rfl⟩
         obtain ⟨st, l1, k1, wE, wS, HX⟩ := entryFacts HM4.out HWF.out HKN.out t.spot hspot v HV.out
         obtain ⟨hlook, e1, hlook2, f1, hlook3, hm5, hsame1, hsame2, hbE⟩ := HX
         have hv0 : 0 ≤ v ∧ v ≤ 1 := by
          rw [← HV.out, HGET.out]
          split <;> simp
         have HM5 := Lib.hid hm5
         have HS1 := Lib.hid hsame1
         have HS2 := Lib.hid hsame2
         have hbS := (hbE (Nat.le_of_lt hmbw)).1 hbw4
         have HA5 := Lib.hid (HA4.out.of_heap ((hbE (B := 0) (a := w4) (Nat.zero_le _)).2 _ (by omega)))
         have q3 : wE.cell? ⟨wr.heap.size, 3, none⟩ = some (.int .i64 t.spot.x) := (HS1.out _ (by simp; omega)).trans t3
         have q4 : wE.cell? ⟨wr.heap.size, 4, none⟩ = some (.int .i64 t.spot.y) := (HS1.out _ (by simp; omega)).trans t4
         have r0 : wS.cell? ⟨wr.heap.size, 0, none⟩ = some (.int .i64 t.id) := (HS2.out _ (by simp; omega)).trans t0
         have r3 : wS.cell? ⟨wr.heap.size, 3, none⟩ = some (.int .i64 t.spot.x) := (HS2.out _ (by simp; omega)).trans t3
         have r4 : wS.cell? ⟨wr.heap.size, 4, none⟩ = some (.int .i64 t.spot.y) := (HS2.out _ (by simp; omega)).trans t4
         have g1 := hlook 1; have g2 := e1 1; have g3 := hlook2 1; have g4 := f1 1; have g5 := hlook3 1
         clear hm5 hsame1 hsame2 hbE hlook e1 hlook2 f1 hlook3
         simp only [drew1] at g1 g2 g3 g4 g5
         cases hcon : (W.spots k).contains t.spot with
         | true =>
          have hv1 : v = 1 := by rw [← HV.out, HGET.out, hcon]; rfl
          subst hv1
          rw [show (1 : Int) + 1 = 2 from rfl] at g4 g5
          have HF : Hid (W.troopsOk = false) := Wd.troops_bad (k := k) (by rw [HNT.out]; exact hlt) (by rw [HOKE.out, hcon]; simp)
          clear hcon
          go_region
          go_wp2_with fail
          go_ret
          exact ⟨ret_bool HF.out.symm, below_drewN hbS 1⟩
         | false =>
          have hv1 : v = 0 := by rw [← HV.out, HGET.out, hcon]; rfl
          subst hv1
          rw [show (0 : Int) + 1 = 1 from rfl] at g4 g5
          have HK2 : Hid (∀ j, j < k + 1 → W.okTroop j = true) := by
           intro j hj
           by_cases hjk : j < k
           ·exact HK.out j hjk
           ·obtain rfl : j = k := by omega
            rw [HOKE.out, HC0.out, HC1.out, HC2.out, HC3.out, HC4.out, hcon]; rfl
          have HG2 : Hid (∀ c, MapIs.get (MapIs.put l clk t.spot (0 + 1)) c = if (W.spots (k + 1)).contains c = true then some 1 else none) := by
           intro c
           rw [MapIs.get_put, HSPOTS.out, HGET.out]
           by_cases hct : c = t.spot
           ·simp [hct]
           ·rw [if_neg hct]
            simp [hct]
          have HWF2 : Hid (∀ e ∈ MapIs.put l clk t.spot (0 + 1), e.1.ok) := MapIs.mem_put HWF.out hspot
          have HKN2 : Hid (((MapIs.put l clk t.spot (0 + 1)).map (·.1)).Nodup) := MapIs.keys_put HKN.out _ _ _
          clear hcon hspot
          go_region
          go_wp2_with fail
          go_roundw
          case rel => exact ⟨k + 1, _, _, by omega, by go_num, by rw [HNEXT.out], HK2, HM5.out.drewN 1, HWF2, HKN2, HG2, HA5.out.drewN 1, below_drewN hbS 1⟩
          case measure => simp [intOf]; omega
   ·by_cases hk2 : t.kind = 2
    ·have HTK := Lib.hid hk2
     rw [hk2] at p2
     clear hk1 hk2
     have HKD := Lib.hid (λ V : World => kind_2 V)
     have hlife : Wd.lifeOf 2 = 20 := rfl
     have hmost : Wd.mostOf 2 = 0 := rfl
     rw [HTK.out, hlife, hmost] at hok
     have HOKE := Lib.hid hok
     clear hlife hmost hok
     have HW1C : Hid (wr.alloc (.cells #[.int .i64 t.id, .int .i64 t.owner, .int .i64 2, .int .i64 t.spot.x, .int .i64 t.spot.y, .int .i64 t.life, .int .i64 t.load] 37) = w1) := by rw [← HW1B.out, HTK.out]; rfl
     go_wp2_with fail
     rw [HW1C.out]
     refine (HKD.out _).mono ?_; rintro e w2 ⟨rfl, hb2⟩
     have hb12 := hb1.trans (hb2.mono hb1.size)
     have hb3 := below_alloc0 w2 (.cells #[.int .i64 20, .int .i64 2, .int .i64 4, .int .i64 12] 120)
     have hKB := Blk.new w2 [.int .i64 20, .int .i64 2, .int .i64 4, .int .i64 12] 120 (0, 0)
     obtain ⟨w3, HW3⟩ : ∃ w3, Hid (w2.alloc (.cells #[.int .i64 20, .int .i64 2, .int .i64 4, .int .i64 12] 120) = w3) := ⟨_, Lib.hid rfl⟩
     rw [HW3.out] at hb3
     have hKB : Blk w3 w2.heap.size [.int .i64 20, .int .i64 2, .int .i64 4, .int .i64 12] 120 (0, 0) := by rw [← HW3.out]; exact hKB
     have kb0 : w3.cell? ⟨w2.heap.size, 0, none⟩ = some (.int .i64 20) := hKB.cell 0
     have hb13 := hb12.trans (hb3.mono hb12.size)
     have HBT3 := Lib.hid ((HBT.out.later hb2).later hb3)
     have HM3 := Lib.hid (HM.out.later hb13)
     have HA3 := Lib.hid (HAR.out.later hb13)
     have hbw3 := hbw.trans (hb13.mono hbw.size)
     have HHP3 := Lib.hid (HHP.out.keep hbw3)
     obtain ⟨t0, t1, t2, t3, t4, t5, t6⟩ := Trp.blk ((HBT.out.later hb2))
     rw [HTK.out] at t2
     clear c0 c1 c2 c3 c4 c5 c6 c7 c8
     obtain ⟨c0, c1, c2, c3, c4, c5, c6, c7, c8⟩ := Wd.wblk (HAR.out.later hb12)
     rw [HNB.out] at c3
     rw [HNT.out] at c6
     have hbsz : wr.heap.size < w2.heap.size := by have := hb2.size; have := HBT.out.lt; omega
     have hbsz2 : w.heap.size < w2.heap.size := by have := hmbr; omega
     go_wp2_with fail
     rw [HW3.out]
     clear t0 t1 t2 t3 t4 t5 t6 c0 c1 c2 c3 c4 c5 c6 c7 c8
     obtain ⟨t0, t1, t2, t3, t4, t5, t6⟩ := Trp.blk HBT3.out
     obtain ⟨c0, c1, c2, c3, c4, c5, c6, c7, c8⟩ := Wd.wblk HA3.out
     rw [HNB.out] at c3
     rw [HNT.out] at c6
     rw [HTK.out] at t2
     clear hb2 hKB hb3 hb12
     cases h0 : inB t.id lx nx with
     | false =>
      have HF : Hid (W.troopsOk = false) := Wd.troops_bad (k := k) (by rw [HNT.out]; exact hlt) (by rw [HOKE.out, h0]; simp)
      have HC0 := Lib.hid h0
      clear h0
      refine (within_v HC0.out _).mono ?_; rintro e w' ⟨rfl, rfl⟩
      go_wp2_with fail
      go_ret
      exact ⟨ret_bool HF.out.symm, hbw3⟩
     | true =>
      have HC0 := Lib.hid h0
      clear h0
      refine (within_v HC0.out _).mono ?_; rintro e w' ⟨rfl, rfl⟩
      go_wp2_with fail
      cases h1 : inB t.owner 0 ((nb : Int) - 1) with
      | false =>
       have HF : Hid (W.troopsOk = false) := Wd.troops_bad (k := k) (by rw [HNT.out]; exact hlt) (by rw [HOKE.out, h1]; simp)
       have HC1 := Lib.hid h1
       clear h1
       refine (within_v HC1.out _).mono ?_; rintro e w' ⟨rfl, rfl⟩
       go_wp2_with fail
       go_ret
       exact ⟨ret_bool HF.out.symm, hbw3⟩
      | true =>
       have HC1 := Lib.hid h1
       clear h1
       refine (within_v HC1.out _).mono ?_; rintro e w' ⟨rfl, rfl⟩
       go_wp2_with fail
       cases h2 : W.field.ground t.spot with
       | false =>
        have HF : Hid (W.troopsOk = false) := Wd.troops_bad (k := k) (by rw [HNT.out]; exact hlt) (by rw [HOKE.out, h2]; simp)
        have HC2 := Lib.hid h2
        clear h2
        have HG := ground_any W.field t.spot aP kP _ HHP3.out H0.out
        rw [HC2.out] at HG
        refine HG.mono ?_; rintro e w4 ⟨rfl, hb4⟩
        have hb14 := hb13.trans (hb4.mono hb13.size)
        have hbw4 := hbw.trans (hb14.mono hbw.size)
        have HBT4 := Lib.hid (HBT3.out.later hb4)
        have HM4 := Lib.hid (HM3.out.later hb4)
        have HA4 := Lib.hid (HA3.out.later hb4)
        clear t0 t1 t2 t3 t4 t5 t6 c0 c1 c2 c3 c4 c5 c6 c7 c8 HG
        obtain ⟨t0, t1, t2, t3, t4, t5, t6⟩ := Trp.blk HBT4.out
        have kb0 := cell_later hb4 kb0
        go_wp2_with fail
        go_ret
        exact ⟨ret_bool HF.out.symm, hbw4⟩
       | true =>
        have HC2 := Lib.hid h2
        clear h2
        have HG := ground_any W.field t.spot aP kP _ HHP3.out H0.out
        rw [HC2.out] at HG
        refine HG.mono ?_; rintro e w4 ⟨rfl, hb4⟩
        have hb14 := hb13.trans (hb4.mono hb13.size)
        have hbw4 := hbw.trans (hb14.mono hbw.size)
        have HBT4 := Lib.hid (HBT3.out.later hb4)
        have HM4 := Lib.hid (HM3.out.later hb4)
        have HA4 := Lib.hid (HA3.out.later hb4)
        clear t0 t1 t2 t3 t4 t5 t6 c0 c1 c2 c3 c4 c5 c6 c7 c8 HG
        obtain ⟨t0, t1, t2, t3, t4, t5, t6⟩ := Trp.blk HBT4.out
        have kb0 := cell_later hb4 kb0
        go_wp2_with fail
        cases h3 : inB t.life 1 20 with
        | false =>
         have HF : Hid (W.troopsOk = false) := Wd.troops_bad (k := k) (by rw [HNT.out]; exact hlt) (by rw [HOKE.out, h3]; simp)
         have HC3 := Lib.hid h3
         clear h3
         refine (within_v HC3.out _).mono ?_; rintro e w' ⟨rfl, rfl⟩
         go_wp2_with fail
         go_ret
         exact ⟨ret_bool HF.out.symm, hbw4⟩
        | true =>
         have HC3 := Lib.hid h3
         clear h3
         refine (within_v HC3.out _).mono ?_; rintro e w' ⟨rfl, rfl⟩
         go_wp2_with fail
         cases h4 : inB t.load 0 0 with
         | false =>
          have HF : Hid (W.troopsOk = false) := Wd.troops_bad (k := k) (by rw [HNT.out]; exact hlt) (by rw [HOKE.out, h4]; simp)
          have HC4 := Lib.hid h4
          clear h4
          refine (within_v HC4.out _).mono ?_; rintro e w' ⟨rfl, rfl⟩
          go_wp2_with fail
          go_ret
          exact ⟨ret_bool HF.out.symm, hbw4⟩
         | true =>
          have HC4 := Lib.hid h4
          clear h4
          refine (within_v HC4.out _).mono ?_; rintro e w' ⟨rfl, rfl⟩
          go_wp2_with fail
          have hspot : t.spot.ok := by
           obtain ⟨i1, i2, i3, i4, i5, i6⟩ := Fld.idx H0.out (Fld.ground_in HC2.out)
           obtain ⟨g1, g2, g3, g4, _, _⟩ := Fld.good H0.out
           exact ⟨okI_iff.2 (by omega), okI_iff.2 (by omega)⟩
          obtain ⟨v, HV⟩ : ∃ v, Hid ((MapIs.get l t.spot).getD 0 = v) := ⟨_, Lib.hid rfl⟩
          obtain ⟨st, l1, k1, wE, wS, HX⟩ := entryFacts HM4.out HWF.out HKN.out t.spot hspot v HV.out
          obtain ⟨hlook, e1, hlook2, f1, hlook3, hm5, hsame1, hsame2, hbE⟩ := HX
          have hv0 : 0 ≤ v ∧ v ≤ 1 := by
           rw [← HV.out, HGET.out]
           split <;> simp
          have HM5 := Lib.hid hm5
          have HS1 := Lib.hid hsame1
          have HS2 := Lib.hid hsame2
          have hbS := (hbE (Nat.le_of_lt hmbw)).1 hbw4
          have HA5 := Lib.hid (HA4.out.of_heap ((hbE (B := 0) (a := w4) (Nat.zero_le _)).2 _ (by omega)))
          have q3 : wE.cell? ⟨wr.heap.size, 3, none⟩ = some (.int .i64 t.spot.x) := (HS1.out _ (by simp; omega)).trans t3
          have q4 : wE.cell? ⟨wr.heap.size, 4, none⟩ = some (.int .i64 t.spot.y) := (HS1.out _ (by simp; omega)).trans t4
          have r0 : wS.cell? ⟨wr.heap.size, 0, none⟩ = some (.int .i64 t.id) := (HS2.out _ (by simp; omega)).trans t0
          have r3 : wS.cell? ⟨wr.heap.size, 3, none⟩ = some (.int .i64 t.spot.x) := (HS2.out _ (by simp; omega)).trans t3
          have r4 : wS.cell? ⟨wr.heap.size, 4, none⟩ = some (.int .i64 t.spot.y) := (HS2.out _ (by simp; omega)).trans t4
          have g1 := hlook 1; have g2 := e1 1; have g3 := hlook2 1; have g4 := f1 1; have g5 := hlook3 1
          clear hm5 hsame1 hsame2 hbE hlook e1 hlook2 f1 hlook3
          simp only [drew1] at g1 g2 g3 g4 g5
          cases hcon : (W.spots k).contains t.spot with
          | true =>
           have hv1 : v = 1 := by rw [← HV.out, HGET.out, hcon]; rfl
           subst hv1
           rw [show (1 : Int) + 1 = 2 from rfl] at g4 g5
           have HF : Hid (W.troopsOk = false) := Wd.troops_bad (k := k) (by rw [HNT.out]; exact hlt) (by rw [HOKE.out, hcon]; simp)
           clear hcon
           go_region
           go_wp2_with fail
           go_ret
           exact ⟨ret_bool HF.out.symm, below_drewN hbS 1⟩
          | false =>
           have hv1 : v = 0 := by rw [← HV.out, HGET.out, hcon]; rfl
           subst hv1
           rw [show (0 : Int) + 1 = 1 from rfl] at g4 g5
           have HK2 : Hid (∀ j, j < k + 1 → W.okTroop j = true) := by
            intro j hj
            by_cases hjk : j < k
            ·exact HK.out j hjk
            ·obtain rfl : j = k := by omega
             rw [HOKE.out, HC0.out, HC1.out, HC2.out, HC3.out, HC4.out, hcon]; rfl
           have HG2 : Hid (∀ c, MapIs.get (MapIs.put l clk t.spot (0 + 1)) c = if (W.spots (k + 1)).contains c = true then some 1 else none) := by
            intro c
            rw [MapIs.get_put, HSPOTS.out, HGET.out]
            by_cases hct : c = t.spot
            ·simp [hct]
            ·rw [if_neg hct]
             simp [hct]
           have HWF2 : Hid (∀ e ∈ MapIs.put l clk t.spot (0 + 1), e.1.ok) := MapIs.mem_put HWF.out hspot
           have HKN2 : Hid (((MapIs.put l clk t.spot (0 + 1)).map (·.1)).Nodup) := MapIs.keys_put HKN.out _ _ _
           clear hcon hspot
           go_region
           go_wp2_with fail
           go_roundw
           case rel => exact ⟨k + 1, _, _, by omega, by go_num, by rw [HNEXT.out], HK2, HM5.out.drewN 1, HWF2, HKN2, HG2, HA5.out.drewN 1, below_drewN hbS 1⟩
           case measure => simp [intOf]; omega
    ·have hkb : inB t.kind 1 2 = false := inB_not (by omega)
     have HF : Hid (W.troopsOk = false) := Wd.troops_bad (k := k) (by rw [HNT.out]; exact hlt) (by rw [hok, hkb]; rfl)
     have HKD := Lib.hid (λ V : World => kind_no t.kind V hkb)
     have hd1 : (t.kind == 1) = false := by simpa using hk1
     clear hok hkb hk1 hk2
     go_wp2_with fail
     rw [HW1B.out]
     refine (HKD.out _).mono ?_; rintro e w2 ⟨rfl, hb2⟩
     have hb12 := hb1.trans (hb2.mono hb1.size)
     obtain ⟨t0, t1, t2, t3, t4, t5, t6⟩ := Trp.blk ((HBT.out.later hb2))
     clear c0 c1 c2 c3 c4 c5 c6 c7 c8
     obtain ⟨c0, c1, c2, c3, c4, c5, c6, c7, c8⟩ := Wd.wblk (HAR.out.later hb12)
     have hbsz : wr.heap.size < w2.heap.size := by have := hb2.size; have := HBT.out.lt; omega
     have hbsz2 : w.heap.size < w2.heap.size := by have := hmbr; omega
     go_wp2_with fail
     go_ret
     exact ⟨ret_bool HF.out.symm, (hbw.trans (hb12.mono hbw.size)).trans ((below_alloc0 _ _).mono (by omega))⟩
  ·obtain rfl : k = nt := by omega
   have hall : ∀ j, j < W.troops.length → W.okTroop j = true := λ j hj => HK.out j (by rw [HNT.out] at hj; exact hj)
   have htr : W.troopsOk = (inB W.next 1 1000000 && inB W.now 0 1000000) := by
    unfold Wd.troopsOk
    rw [List.all_eq_true.2 (λ j hj => hall j (List.mem_range.1 hj)), Bool.true_and]
   have HTR := Lib.hid htr
   clear hall htr hnx
   cases h1 : inB W.next 1 1000000 with
   | false =>
    have H1 := Lib.hid h1
    clear h1
    go_wp2_with fail
    refine (within_v H1.out _).mono ?_; rintro e w' ⟨rfl, rfl⟩
    go_wp2_with fail
    go_ret
    exact ⟨ret_bool (by rw [HTR.out, H1.out]; rfl), hbw⟩
   | true =>
    have hi2 := λ V => within_any W.now 0 1000000 V
    have H1 := Lib.hid h1
    rw [H1.out, Bool.true_and] at HTR
    clear h1
    generalize inB W.now 0 1000000 = r2 at *
    go_wp2_with fail
    refine (within_v H1.out _).mono ?_; rintro e w' ⟨rfl, rfl⟩
    go_wp2_with fail
    refine (hi2 _).mono ?_; rintro e w' ⟨rfl, rfl⟩
    go_wp2_with fail
    go_ret
    exact ⟨ret_bool HTR.out.symm, hbw⟩
end
section
open Go.RowKit
theorem check_any (a : Wd.At) (W : Wd) (w : World) (hW : Wd.Has w a W) :
  Calls Try.prog 22 #[.agg (Wd.cells a W).toArray] w λ e w' => e = .returned (.int .i64 W.chk) ∧ Below w.heap.size w w' := by
 have hpl := λ h0 h8 V (h : Wd.Has V a W) => players_any a W V h h0 h8
 have hmi := λ V (h : Wd.Has V a W) => mines_any a W V h
 have htr := λ h0 h8 h100 V (h : Wd.Has V a W) => troops_any a W V h h0 h8 h100
 obtain ⟨aP, aB, aS, aM, aT, kP, kB, kS, kM, kT⟩ := a
 show Calls _ _ #[.agg #[.int .i64 W.field.wide, .int .i64 W.field.high, .slice aP W.field.places.length kP, .slice aB W.bases.length kB, .slice aS W.stocks.length kS, .slice aM W.mines.length kM, .slice aT W.troops.length kT, .int .i64 W.next, .int .i64 W.now]] _ _
 have hb0 := below_alloc0 w (.cells (Wd.cells ⟨aP, aB, aS, aM, aT, kP, kB, kS, kM, kT⟩ W).toArray 28)
 have HA := Lib.hid (Blk.new w (Wd.cells ⟨aP, aB, aS, aM, aT, kP, kB, kS, kM, kT⟩ W) 28 (0, 0))
 have HH := Lib.hid (hW.keep hb0)
 obtain ⟨w0, HW0⟩ : ∃ w0, Hid (w.alloc (.cells (Wd.cells ⟨aP, aB, aS, aM, aT, kP, kB, kS, kM, kT⟩ W).toArray 28) = w0) := ⟨_, Lib.hid rfl⟩
 rw [HW0.out] at hb0 HH
 have HA : Hid (Blk w0 w.heap.size (Wd.cells ⟨aP, aB, aS, aM, aT, kP, kB, kS, kM, kT⟩ W) 28 (0, 0)) := by rw [← HW0.out]; exact HA
 have hf := fldCheck W.field aP kP w0 HH.out.P
 have HW1 : Hid (w.alloc (.cells #[.int .i64 W.field.wide, .int .i64 W.field.high, .slice aP W.field.places.length kP, .slice aB W.bases.length kB, .slice aS W.stocks.length kS, .slice aM W.mines.length kM, .slice aT W.troops.length kT, .int .i64 W.next, .int .i64 W.now] 28) = w0) := by rw [← HW0.out]; rfl
 obtain ⟨c0, c1, c2, c3, c4, c5, c6, c7, c8⟩ := Wd.wblk HA.out
 clear hW
 by_cases hf0 : W.field.chk = 0
 ·by_cases hlg : 8 < W.bases.length ∨ 100 < W.troops.length
  ·rw [Wd.chk_large hf0 hlg]
   rw [hf0] at hf
   have HLG := Lib.hid hlg
   clear hlg hf0 hpl hmi htr
   generalize W.field.places.length = np at *
   generalize W.bases.length = nb at *
   generalize W.stocks.length = ns at *
   generalize W.mines.length = nm at *
   generalize W.troops.length = nt at *
   go_enter Try.func22, Try.ntmps22
   go_wp2_with fail
   rw [HW1.out]
   refine hf.mono ?_; rintro e w2 ⟨rfl, hb2⟩
   have d3 := cell_later hb2 c3
   have d6 := cell_later hb2 c6
   have key : decide ((8 : Int) < (nb : Int)) = true ∨ (decide ((8 : Int) < (nb : Int)) = false ∧ decide ((100 : Int) < (nt : Int)) = true) := by
    have := HLG.out
    simp; omega
   clear c0 c1 c2 c3 c4 c5 c6 c7 c8
   rcases key with h | ⟨h, h2⟩
   all_goals
    go_wp2_with fail
    go_ret
    exact ⟨rfl, hb0.trans (hb2.mono hb0.size)⟩
  ·rw [Wd.chk_all hf0 hlg]
   have h8 : W.bases.length ≤ 8 := by omega
   have h100 : W.troops.length ≤ 100 := by omega
   have hpl := hpl hf0 h8
   have htr := htr hf0 h8 h100
   rw [hf0] at hf
   have g1 : decide ((8 : Int) < (W.bases.length : Int)) = false := by simp; omega
   have g2 : decide ((100 : Int) < (W.troops.length : Int)) = false := by simp; omega
   have HPL := Lib.hid (λ V (h : Below w0.heap.size w0 V) => hpl V (HH.out.keep h))
   have HMI := Lib.hid (λ V (h : Below w0.heap.size w0 V) => hmi V (HH.out.keep h))
   have HTR := Lib.hid (λ V (h : Below w0.heap.size w0 V) => htr V (HH.out.keep h))
   rw [Wd.cells_eq] at HPL HMI HTR
   have HPL : Hid (∀ V, Below w0.heap.size w0 V → Calls Try.prog 45 #[.agg #[.int .i64 W.field.wide, .int .i64 W.field.high, .slice aP W.field.places.length kP, .slice aB W.bases.length kB, .slice aS W.stocks.length kS, .slice aM W.mines.length kM, .slice aT W.troops.length kT, .int .i64 W.next, .int .i64 W.now]] V λ e w' => e = .returned (.bool W.players) ∧ Below V.heap.size V w') := HPL
   have HMI : Hid (∀ V, Below w0.heap.size w0 V → Calls Try.prog 46 #[.agg #[.int .i64 W.field.wide, .int .i64 W.field.high, .slice aP W.field.places.length kP, .slice aB W.bases.length kB, .slice aS W.stocks.length kS, .slice aM W.mines.length kM, .slice aT W.troops.length kT, .int .i64 W.next, .int .i64 W.now]] V λ e w' => e = .returned (.bool W.minesOk) ∧ Below V.heap.size V w') := HMI
   have HTR : Hid (∀ V, Below w0.heap.size w0 V → Calls Try.prog 47 #[.agg #[.int .i64 W.field.wide, .int .i64 W.field.high, .slice aP W.field.places.length kP, .slice aB W.bases.length kB, .slice aS W.stocks.length kS, .slice aM W.mines.length kM, .slice aT W.troops.length kT, .int .i64 W.next, .int .i64 W.now]] V λ e w' => e = .returned (.bool W.troopsOk) ∧ Below V.heap.size V w') := HTR
   clear hlg hf0 hpl hmi htr h8 h100
   generalize W.players = r1 at *
   generalize W.minesOk = r2 at *
   generalize W.troopsOk = r3 at *
   generalize W.field.places.length = np at *
   generalize W.bases.length = nb at *
   generalize W.stocks.length = ns at *
   generalize W.mines.length = nm at *
   generalize W.troops.length = nt at *
   have q0 := hf
   clear hf
   cases r1 with
   | false =>
    go_enter Try.func22, Try.ntmps22
    go_wp2_with fail
    rw [HW1.out]
    refine q0.mono ?_; rintro e w2 ⟨rfl, hb2⟩
    have c0 := cell_later hb2 c0
    have c1 := cell_later hb2 c1
    have c2 := cell_later hb2 c2
    have c3 := cell_later hb2 c3
    have c4 := cell_later hb2 c4
    have c5 := cell_later hb2 c5
    have c6 := cell_later hb2 c6
    have c7 := cell_later hb2 c7
    have c8 := cell_later hb2 c8
    go_wp2_with fail
    refine (HPL.out _ hb2).mono ?_; rintro e w3 ⟨rfl, hb3⟩
    go_wp2_with fail
    go_ret
    exact ⟨rfl, hb0.trans ((below_on hb2 hb3).mono hb0.size)⟩
   | true =>
    cases r2 with
    | false =>
     go_enter Try.func22, Try.ntmps22
     go_wp2_with fail
     rw [HW1.out]
     refine q0.mono ?_; rintro e w2 ⟨rfl, hb2⟩
     have c0 := cell_later hb2 c0
     have c1 := cell_later hb2 c1
     have c2 := cell_later hb2 c2
     have c3 := cell_later hb2 c3
     have c4 := cell_later hb2 c4
     have c5 := cell_later hb2 c5
     have c6 := cell_later hb2 c6
     have c7 := cell_later hb2 c7
     have c8 := cell_later hb2 c8
     go_wp2_with fail
     refine (HPL.out _ hb2).mono ?_; rintro e w3 ⟨rfl, hb3⟩
     have hb23 := below_on hb2 hb3
     have c0 := cell_later hb3 c0
     have c1 := cell_later hb3 c1
     have c2 := cell_later hb3 c2
     have c3 := cell_later hb3 c3
     have c4 := cell_later hb3 c4
     have c5 := cell_later hb3 c5
     have c6 := cell_later hb3 c6
     have c7 := cell_later hb3 c7
     have c8 := cell_later hb3 c8
     go_wp2_with fail
     refine (HMI.out _ hb23).mono ?_; rintro e w4 ⟨rfl, hb4⟩
     go_wp2_with fail
     go_ret
     exact ⟨rfl, hb0.trans ((below_on hb23 hb4).mono hb0.size)⟩
    | true =>
     cases r3 with
     | false =>
      go_enter Try.func22, Try.ntmps22
      go_wp2_with fail
      rw [HW1.out]
      refine q0.mono ?_; rintro e w2 ⟨rfl, hb2⟩
      have c0 := cell_later hb2 c0
      have c1 := cell_later hb2 c1
      have c2 := cell_later hb2 c2
      have c3 := cell_later hb2 c3
      have c4 := cell_later hb2 c4
      have c5 := cell_later hb2 c5
      have c6 := cell_later hb2 c6
      have c7 := cell_later hb2 c7
      have c8 := cell_later hb2 c8
      go_wp2_with fail
      refine (HPL.out _ hb2).mono ?_; rintro e w3 ⟨rfl, hb3⟩
      have hb23 := below_on hb2 hb3
      have c0 := cell_later hb3 c0
      have c1 := cell_later hb3 c1
      have c2 := cell_later hb3 c2
      have c3 := cell_later hb3 c3
      have c4 := cell_later hb3 c4
      have c5 := cell_later hb3 c5
      have c6 := cell_later hb3 c6
      have c7 := cell_later hb3 c7
      have c8 := cell_later hb3 c8
      go_wp2_with fail
      refine (HMI.out _ hb23).mono ?_; rintro e w4 ⟨rfl, hb4⟩
      have hb24 := below_on hb23 hb4
      have c0 := cell_later hb4 c0
      have c1 := cell_later hb4 c1
      have c2 := cell_later hb4 c2
      have c3 := cell_later hb4 c3
      have c4 := cell_later hb4 c4
      have c5 := cell_later hb4 c5
      have c6 := cell_later hb4 c6
      have c7 := cell_later hb4 c7
      have c8 := cell_later hb4 c8
      go_wp2_with fail
      refine (HTR.out _ hb24).mono ?_; rintro e w5 ⟨rfl, hb5⟩
      go_wp2_with fail
      go_ret
      exact ⟨rfl, hb0.trans ((below_on hb24 hb5).mono hb0.size)⟩
     | true =>
      go_enter Try.func22, Try.ntmps22
      go_wp2_with fail
      rw [HW1.out]
      refine q0.mono ?_; rintro e w2 ⟨rfl, hb2⟩
      have c0 := cell_later hb2 c0
      have c1 := cell_later hb2 c1
      have c2 := cell_later hb2 c2
      have c3 := cell_later hb2 c3
      have c4 := cell_later hb2 c4
      have c5 := cell_later hb2 c5
      have c6 := cell_later hb2 c6
      have c7 := cell_later hb2 c7
      have c8 := cell_later hb2 c8
      go_wp2_with fail
      refine (HPL.out _ hb2).mono ?_; rintro e w3 ⟨rfl, hb3⟩
      have hb23 := below_on hb2 hb3
      have c0 := cell_later hb3 c0
      have c1 := cell_later hb3 c1
      have c2 := cell_later hb3 c2
      have c3 := cell_later hb3 c3
      have c4 := cell_later hb3 c4
      have c5 := cell_later hb3 c5
      have c6 := cell_later hb3 c6
      have c7 := cell_later hb3 c7
      have c8 := cell_later hb3 c8
      go_wp2_with fail
      refine (HMI.out _ hb23).mono ?_; rintro e w4 ⟨rfl, hb4⟩
      have hb24 := below_on hb23 hb4
      have c0 := cell_later hb4 c0
      have c1 := cell_later hb4 c1
      have c2 := cell_later hb4 c2
      have c3 := cell_later hb4 c3
      have c4 := cell_later hb4 c4
      have c5 := cell_later hb4 c5
      have c6 := cell_later hb4 c6
      have c7 := cell_later hb4 c7
      have c8 := cell_later hb4 c8
      go_wp2_with fail
      refine (HTR.out _ hb24).mono ?_; rintro e w5 ⟨rfl, hb5⟩
      go_wp2_with fail
      go_ret
      exact ⟨rfl, hb0.trans ((below_on hb24 hb5).mono hb0.size)⟩
 ·rw [Wd.chk_field hf0]
  have hd : (W.field.chk == 0) = false := by simpa using hf0
  have hd2 : (W.field.chk != 0) = true := by simpa using hf0
  clear hf0 hpl hmi htr
  generalize W.field.chk = k at *
  go_enter Try.func22, Try.ntmps22
  go_wp2_with fail
  rw [HW1.out]
  refine hf.mono ?_; rintro e w2 ⟨rfl, hb2⟩
  go_wp2_with fail
  go_ret
  exact ⟨rfl, hb0.trans (hb2.mono hb0.size)⟩
end
section
open Go.RowKit
theorem Tmk_el_S_int : ElT Try.prog repI 22 3 8 := ElT.mk_ (z := .int .i64 0) (k := 1) Try.underlying22 info_int rfl rfl (by decide) (λ j u h => raw0I j u h)
theorem Tmk_el_S_uint64 : ElT Try.prog repU 57 29 8 := ElT.mk_ (z := .int .u64 0) (k := 1) Try.underlying57 info_u64 rfl rfl (by decide) (λ j u h => raw0U j u h)
open Go.Proofs.Ytmpkaphcpaigdaa.Bv
theorem leaf_any (l : List Int) (A : Option Addr) (c : Nat) (w : World) (hl : repI.SHas 8 w A c l) :
  Calls Try.prog 23 #[.slice A l.length c] w (λ e w' => e = .returned (.int .u64 (U (leafN l))) ∧ Ext w w') := by
 refine calls_W (n := 12) Try.func23 rfl rfl rfl ?_
 refine sg <| va rfl <| nK <| sg <| vm rfl <| ca eF0 rfl rfl ((pack_leaf l _ _ _ (hl.keep (Ext.rf w))).mono ?_)
 rintro e w_2 ⟨⟨k_1, rfl⟩, x_3⟩
 refine ⟨_, rfl, ?_⟩
 have := x_3.size
 have z_2 := Ext.tr (Ext.rf w) x_3
 refine vm rfl <| vL (ex rfl rfl) <| vL (ex rfl rfl) <| va rfl <| va rfl <| nK <| sg <| vm rfl <| ca eF1 rfl rfl ((leaf_text (packN l) (packN_len _) _).mono ?_)
 rintro e w_5 ⟨rfl, x_6⟩
 refine ⟨_, rfl, ?_⟩
 have := x_6.size
 have z_5 := Ext.tr z_2 x_6
 refine va rfl <| nK <| rt <| tR (.tmp rfl .nil) <| ?_
 exact ⟨rfl, z_5⟩
theorem mark_bad (a : Wd.At) (W : Wd) (w : World) (hW : Wd.Has w a W) (hc : W.chk ≠ 0) :
  Calls Try.prog 8 #[.agg ((Wd.cells a W).toArray)] w (λ e w' => e = .returned (.tuple #[.int .u64 (U (markN W)), .int .i64 W.chk]) ∧ Ext w w') := by
 have kc : (W.chk != 0) = true := by simpa using hc
 refine calls_W (n := 107) Try.func8 rfl rfl rfl ?_
 refine sg <| bx rfl rfl rfl rfl λ w_1 b_2 x_3 l_4 B_5 => ?_
 have := x_3.size
 have z_1 := Ext.tr (Ext.rf w) x_3
 have q_7 := B_5.lt
 refine va rfl <| va rfl <| nK <| sq <| sg <| vL (ld rfl (B_5.all eF2 eF3)) <| ca eF4 rfl rfl ((check_any a W _ (hW.keep z_1)).mono ?_)
 rintro e w_8 ⟨rfl, x_9⟩
 refine ⟨_, rfl, ?_⟩
 have := x_9.size
 have z_8 := Ext.tr z_1 x_9
 refine va rfl <| nK <| sg <| vm rfl <| vL (bne rfl rfl) <| nK <| cT (evb rfl kc) <| sg <| vm rfl <| va rfl <| va rfl <| nK <| rt <| tT <| tR (.tmp rfl (.tmp rfl .nil)) <| ?_
 exact ⟨by unfold markN; rw [if_neg hc]; rfl, z_8⟩
theorem mark_ok (a : Wd.At) (W : Wd) (w : World) (hW : Wd.Has w a W) (hc : W.chk = 0) :
  Calls Try.prog 8 #[.agg ((Wd.cells a W).toArray)] w (λ e w' => e = .returned (.tuple #[.int .u64 (U (markN W)), .int .i64 W.chk]) ∧ Ext w w') := by
 have kc : (W.chk != 0) = false := by simpa using hc
 have hG := Good.of_chk hc
 have g_nb := hG.nb
 have g_nt := hG.nt
 have g_sl := hG.sl
 have g_ml := hG.ml
 have g_16 := Fld.len_le hG.field
 obtain ⟨n1, n2, n3, n4⟩ := hW.nums
 have lB := hW.B.len_le
 have lM := hW.M.len_le
 have lT := hW.T.len_le
 refine calls_W (n := 107) Try.func8 rfl rfl rfl ?_
 refine sg <| bx rfl rfl rfl rfl λ w_1 b_2 x_3 l_4 B_5 => ?_
 have := x_3.size
 have z_1 := Ext.tr (Ext.rf w) x_3
 have q_7 := B_5.lt
 refine va rfl <| va rfl <| nK <| sq <| sg <| vL (ld rfl (B_5.all eF2 eF3)) <| ca eF4 rfl rfl ((check_any a W _ (hW.keep z_1)).mono ?_)
 rintro e w_8 ⟨rfl, x_9⟩
 refine ⟨_, rfl, ?_⟩
 have := x_9.size
 have z_8 := Ext.tr z_1 x_9
 refine va rfl <| nK <| sg <| vm rfl <| vL (bne rfl rfl) <| nK <| cF (evb rfl kc) <| sK <| sg <| vL (fa eF5 rfl) <| vL (fa eF6 rfl) <| ?_
 have B_5 := B_5.later x_9
 refine vL (ld rfl (B_5.one eF7 rfl)) <| vL (fa eF5 rfl) <| vL (fa eF8 rfl) <| vL (ld rfl (B_5.one eF7 rfl)) <| vL (fa eF9 rfl) <| vL (ld rfl (B_5.one eF7 rfl)) <| vL (fa eF10 rfl) <| vL (ld rfl (B_5.one eF7 rfl)) <| bs (e := 3) (cs := [.int .i64 1, .int .i64 W.field.wide, .int .i64 W.field.high, .int .i64 W.next, .int .i64 W.now]) rfl (λ _ => by kernel_rfl) rfl λ w_11 b_12 x_13 l_14 B_15 => ?_
 have := x_13.size
 have z_11 := Ext.tr z_8 x_13
 have q_17 := B_15.lt
 refine vL (fa eF5 rfl) <| vL (fa eF11 rfl) <| ?_
 have B_5 := B_5.later x_13
 refine vL (ld rfl (B_5.one eF12 rfl)) <| ?_
 have O_18 := Blk.ownN (R := repI) (by_ := 8) (B := w.heap.size) (k := [1, W.field.wide, W.field.high, W.next, W.now]) B_15 [[.int .i64 1], [.int .i64 W.field.wide], [.int .i64 W.field.high], [.int .i64 W.next], [.int .i64 W.now]] rfl (⟨⟨rfl, okI_iff.2 (by decide)⟩, ⟨⟨rfl, n1⟩, ⟨⟨rfl, n2⟩, ⟨⟨rfl, n3⟩, ⟨⟨rfl, n4⟩, trivial⟩⟩⟩⟩⟩) (by simp) (by simp) (by decide) (by omega)
 have u_19 := λ q hq => (O_18.lt q hq).2
 have lo_20 : ∀ q ∈ Rep.blkOf (some ⟨b_12, 0, none⟩), b_12 ≤ q := λ q hq => Nat.le_of_eq (List.mem_singleton.1 hq).symm
 refine ap Tmk_el_S_int Rep.flat_bare O_18 (hW.P.keep z_11) rfl rfl (by simp only [List.length_cons, List.length_nil]; omega) (by simp only [List.length_cons, List.length_nil]; omega) z_11.size rfl λ w_21 A_22 c_23 m_24 O_25 g_26 n_27 => ?_
 have := m_24.size
 have z_21 := Ext.mod z_11 m_24 (λ q hq => (O_18.lt q hq).1)
 have u_29 := λ q hq => (O_25.lt q hq).2
 have := m_24.size
 refine ca eF13 rfl rfl ((leaf_any ([1, W.field.wide, W.field.high, W.next, W.now] ++ W.field.places) _ _ _ O_25.has).mono ?_)
 rintro e w_31 ⟨rfl, x_32⟩
 refine ⟨_, rfl, ?_⟩
 have := x_32.size
 have z_31 := Ext.tr z_21 x_32
 refine bs (e := 29) (cs := [.int .u64 (U (leafN ([1, W.field.wide, W.field.high, W.next, W.now] ++ W.field.places)))]) rfl (λ _ => by kernel_rfl) rfl λ w_34 b_35 x_36 l_37 B_38 => ?_
 have := x_36.size
 have z_34 := Ext.tr z_31 x_36
 have q_40 := B_38.lt
 refine va rfl <| nK <| sq <| sg <| vL (fa eF14 rfl) <| ?_
 have d_41 : ∀ q ∈ Rep.blkOf (some ⟨b_12, 0, none⟩), q = b_2 → False := λ q hq hb => by (have := lo_20 q hq; omega)
 have B_5 := B_5.mod m_24 (λ hq => d_41 _ hq rfl)
 have B_5 := B_5.later (Ext.tr x_32 x_36)
 refine vL (ld rfl (B_5.one eF15 rfl)) <| vL (ln Try.underlying25 rfl) <| vm rfl <| nK <| bk <| ?_
 have OL0 := Blk.ownN (R := repU) (by_ := 8) (B := w.heap.size) (k := [mkF W]) B_38 [[.int .u64 (U (mkF W))]] rfl (⟨⟨rfl, trivial⟩, trivial⟩) (by simp) (by simp) (by decide) (by omega)
 have eL0 : ∀ q ∈ Rep.blkOf (some ⟨b_35, 0, none⟩), q = b_35 := λ q hq => List.mem_singleton.1 hq
 refine lp (λ mI EI wI => ∃ k1 : Nat, ∃ L1 : List (BitVec 64), ∃ AL1 : Option Addr, ∃ cL1 : Nat, EI = [(1, .pointer (some ⟨b_2, 0, none⟩)), (2, .int .u64 0), (3, .int .i64 0), (5, .slice AL1 L1.length cL1), (35, .slice a.B W.bases.length a.b), (36, .int .i64 (W.bases.length : Int)), (37, .int .i64 (k1 : Int))] ∧ mI = W.bases.length - k1 ∧ Ext w wI ∧ Blk wI b_2 (Wd.cells a W) 28 (0, 0) ∧ repU.SOwn 29 8 wI w.heap.size (Rep.blkOf AL1) AL1 cL1 L1 ∧ (k1 ≤ W.bases.length) ∧ (L1 = marksB W k1) ∧ (∀ q ∈ Rep.blkOf AL1, q = b_2 → False)) _ _ ⟨0, [mkF W], some ⟨b_35, 0, none⟩, 1, rfl, rfl, z_34, B_5, OL0, by omega, rfl, (λ q hq hb => by (have := eL0 q hq; omega))⟩ (.cons rfl (.cons rfl (.cons rfl (.cons rfl (.cons rfl (.cons rfl (.cons (loI rfl (by first | omega | rfl | (simp <;> omega))) .nil))))))) ?_
 rintro m_44 E_45 w_43 ⟨k1, L1, AL1, cL1, rfl, rfl, z_43, B_5, OLx1, hk1, hL1, d_42⟩
 have := z_43.size
 have q_47 := B_5.lt
 have u_48 := λ q hq => (OLx1.lt q hq).2
 refine sg <| vL (blt rfl rfl) <| nK <| sq <| ?_
 refine clt rfl (λ h_49 => ?_) (λ h_49 => ?_)
 ·obtain ⟨c, hc0⟩ : ∃ c, W.bases.getD k1 default = c := ⟨_, rfl⟩
  obtain ⟨sv, hs0⟩ : ∃ sv, W.stocks.getD k1 0 = sv := ⟨_, rfl⟩
  have ok1 : c.ok := Cel.all_ok hW.B c (by rw [← hc0]; exact mem_dd (by omega))
  have ok2 : okI sv := repI_ok hW.S sv (by rw [← hs0]; exact mem_dd (by omega))
  have hmb : mkB W k1 = leafN [2, (k1 : Int), c.x, c.y, sv] := by unfold mkB; rw [hc0, hs0]
  have hLn : L1.length = k1 + 1 := by rw [hL1, marksB_len]
  refine sK <| sq <| bk <| sg <| vm rfl <| vL (iA k1 Try.underlying25 eF16 rfl rfl ((hW.B.keep z_43).adr (Nat.zero_lt_of_lt (show k1 < _ from (by omega)))) rfl (by omega)) <| vL (ld rfl (Rep.SHas.elt hcC ((hW.B.keep z_43).adh (Nat.zero_lt_of_lt (show k1 < _ from (by omega)))) (show W.bases[k1]? = some c by rw [← hc0]; exact get_d (u := default) (by omega)) eF17 eF16)) <| al rfl eF18 rfl rfl λ w_50 b_51 x_52 l_53 B_54 => ?_
  have := x_52.size
  have z_50 := Ext.tr z_43 x_52
  have q_56 := B_54.lt
  refine va rfl <| st (new := [.int .i64 c.x, .int .i64 c.y]) rfl rfl B_54 rfl eF16 rfl rfl rfl λ w_57 m_58 B_54 => ?_
  have := m_58.size
  have z_57 := Ext.mod z_50 m_58 (ge1 (by omega))
  have := m_58.size
  refine nK <| ?_
  refine rd [(3, 0), (5, 0), (7, 0), (10, 0), (11, 2), (12, 0), (13, 2), (14, 3)] [0, 1, 2, 3, 4, 5, 6, 7, 8, 9, 10, 11, 12, 13, 14, 15] (by kernel_rfl) (by kernel_rfl) ?_
  refine fw1 rfl (λ _ => mv rfl) <| fw1 rfl (λ _ => mv rfl) <| fw1 rfl (λ _ => fa eF19 rfl) <| fq1 rfl (λ _ x => ld rfl ((B_54.later x).one eF7 rfl)) <| fw1 rfl (λ _ => fa eF20 rfl) <| fq1 rfl (λ _ x => ld rfl ((B_54.later x).one eF7 rfl)) <| fw1 rfl (λ _ => fa eF21 rfl) <| ?_
  have B_5 := B_5.later x_52
  have B_5 := B_5.mod m_58 (nm1 (by omega))
  refine fq1 rfl (λ _ x => ld rfl ((B_5.later x).one eF12 rfl)) <| fw1 rfl (λ _ => mv rfl) <| fw1 rfl (λ _ => iA k1 Try.underlying22 eF22 rfl rfl ((hW.S.keep z_57).adr (Nat.zero_lt_of_lt (show k1 < _ from (by omega)))) rfl (by omega)) <| fq1 rfl (λ _ x => ld rfl (Rep.SHas.one' hcI ((hW.S.keep (Ext.tr z_57 x)).adh (Nat.zero_lt_of_lt (show k1 < _ from (by omega)))) (show W.stocks[k1]? = some sv by rw [← hs0]; exact get_d (u := 0) (by omega)) rfl eF7)) <| fx rfl rfl rfl λ w_61 x_62 Q hK => bs (e := 3) (cs := [.int .i64 2, .int .i64 (k1 : Int), .int .i64 c.x, .int .i64 c.y, .int .i64 sv]) rfl (λ _ => by kernel_rfl) rfl λ w_63 b_64 x_65 l_66 B_67 => hK _ _ ⟨Ext.tr x_62 x_65, ?_⟩
  have := x_62.size
  have z_61 := Ext.tr z_57 x_62
  have := x_65.size
  have z_63 := Ext.tr z_61 x_65
  have q_70 := B_67.lt
  refine fc rfl rfl eF13 rfl (λ _ x => leaf_any ([2, (k1 : Int), c.x, c.y, sv]) _ _ _ ((Blk.hasN (R := repI) (by_ := 8) (k := [2, (k1 : Int), c.x, c.y, sv]) B_67 [[.int .i64 2], [.int .i64 (k1 : Int)], [.int .i64 c.x], [.int .i64 c.y], [.int .i64 sv]] rfl (⟨⟨rfl, okI_iff.2 (by decide)⟩, ⟨⟨rfl, okI_iff.2 (by omega)⟩, ⟨⟨rfl, ok1.1⟩, ⟨⟨rfl, ok1.2⟩, ⟨⟨rfl, ok2⟩, trivial⟩⟩⟩⟩⟩) (by simp) (by simp)).keep x)) rfl <| fx rfl rfl rfl λ w_71 x_72 Q hK => bs (e := 29) (cs := [.int .u64 (U (leafN ([2, (k1 : Int), c.x, c.y, sv])))]) rfl (λ _ => by kernel_rfl) rfl λ w_73 b_74 x_75 l_76 B_77 => hK _ _ ⟨Ext.tr x_72 x_75, ?_⟩
  have := x_72.size
  have z_71 := Ext.tr z_63 x_72
  have := x_75.size
  have z_73 := Ext.tr z_71 x_75
  have q_80 := B_77.lt
  have OLx1 := OLx1.later x_52
  have OLx1 := OLx1.mod m_58 (fk1 u_48 (by omega))
  have OLx1 := OLx1.later (Ext.tr x_62 (Ext.tr x_65 (Ext.tr x_72 x_75)))
  refine fb rfl rfl rfl λ w_81 x_82 Q hK => ap Tmk_el_S_uint64 Rep.flat_bare (OLx1.later x_82) ((Blk.has1 (R := repU) (by_ := 8) (q := (leafN ([2, (k1 : Int), c.x, c.y, sv]))) B_77 ⟨rfl, trivial⟩ (by decide)).keep x_82) rfl rfl (by simp only [List.length_cons, List.length_nil]; omega) (by simp only [List.length_cons, List.length_nil]; omega) (by have := x_82.size; omega) rfl λ w_83 A_84 c_85 m_86 O_87 g_88 n_89 => hK _ _ ?_
  have := x_82.size
  have z_81 := Ext.tr z_73 x_82
  have := m_86.size
  have z_83 := Ext.mod z_81 m_86 (λ q hq => Nat.le_trans (by omega) ((OLx1.later x_82).lt q hq).1)
  have u_92 := λ q hq => (O_87.lt q hq).2
  have := m_86.size
  refine fw1 rfl (λ _ => as_ rfl) <| fn λ w_94 x_95 => ?_
  have := x_95.size
  have z_94 := Ext.tr z_83 x_95
  refine nB <| nT <| rg <| vL (bad rfl rfl (inI (by omega))) <| vm rfl <| nl <| ?_
  have B_5 := B_5.later (Ext.tr x_62 (Ext.tr x_65 (Ext.tr x_72 (Ext.tr x_75 x_82))))
  have B_5 := B_5.mod m_86 (λ hq => d_42 _ hq rfl)
  have B_5 := B_5.later x_95
  have O_87 := O_87.later x_95
  exact nI _ _ ⟨k1 + 1, L1 ++ [(leafN ([2, (k1 : Int), c.x, c.y, sv]))], A_84, c_85, rfl, rfl, z_94, B_5, O_87, by omega, by rw [marksB_succ, hL1, hmb], (λ q hq hb => by (exact Or.elim (g_88 q hq) (λ k_97 => by (exact d_42 q k_97 hb)) (λ k_97 => by omega)))⟩ (by omega) (.cons rfl (.cons rfl (.cons rfl (.cons rfl (.cons rfl (.cons rfl (.cons (loI rfl (by first | omega | rfl | (simp <;> omega))) .nil)))))))
 ·refine xt <| xT <| xK <| xB <| nT <| sq <| sg <| vL (fa eF23 rfl) <| vL (ld rfl (B_5.one eF12 rfl)) <| vL (ln Try.underlying22 rfl) <| vm rfl <| nK <| bk <| ?_
  refine lp (λ mI EI wI => ∃ k2 : Nat, ∃ L2 : List (BitVec 64), ∃ AL2 : Option Addr, ∃ cL2 : Nat, EI = [(1, .pointer (some ⟨b_2, 0, none⟩)), (2, .int .u64 0), (3, .int .i64 0), (5, .slice AL2 L2.length cL2), (59, .slice a.M W.mines.length a.m), (60, .int .i64 (W.mines.length : Int)), (61, .int .i64 (k2 : Int))] ∧ mI = W.mines.length - k2 ∧ Ext w wI ∧ Blk wI b_2 (Wd.cells a W) 28 (0, 0) ∧ repU.SOwn 29 8 wI w.heap.size (Rep.blkOf AL2) AL2 cL2 L2 ∧ (k2 ≤ W.mines.length) ∧ (L2 = marksB W W.bases.length ++ mkM W k2) ∧ (∀ q ∈ Rep.blkOf AL2, q = b_2 → False)) _ _ ⟨0, L1, AL1, cL1, rfl, rfl, z_43, B_5, OLx1, by omega, by rw [mkM, List.append_nil, hL1, show k1 = W.bases.length by omega], (λ q hq hb => by (exact d_42 q hq hb))⟩ (.cons rfl (.cons rfl (.cons rfl (.cons rfl (.cons rfl (.cons rfl (.cons (loI rfl (by first | omega | rfl | (simp <;> omega))) .nil))))))) ?_
  rintro m_100 E_101 w_99 ⟨k2, L2, AL2, cL2, rfl, rfl, z_99, B_5, OLx2, hk2, hL2, d_98⟩
  have := z_99.size
  have q_103 := B_5.lt
  have u_104 := λ q hq => (OLx2.lt q hq).2
  refine sg <| vL (blt rfl rfl) <| nK <| sq <| ?_
  refine clt rfl (λ h_105 => ?_) (λ h_105 => ?_)
  ·obtain ⟨mn, hmn0⟩ : ∃ mn, W.mines.getD k2 0 = mn := ⟨_, rfl⟩
   have ok2 : okI mn := repI_ok hW.M mn (by rw [← hmn0]; exact mem_dd (by omega))
   have hLn : L2.length ≤ W.bases.length + 1 + k2 := by rw [hL2, List.length_append, marksB_len]; have := mkM_len W k2; omega
   refine sK <| sq <| bk <| sg <| vm rfl <| vL (iA k2 Try.underlying22 eF22 rfl rfl ((hW.M.keep z_99).adr (Nat.zero_lt_of_lt (show k2 < _ from (by omega)))) rfl (by omega)) <| vL (ld rfl (Rep.SHas.one' hcI ((hW.M.keep z_99).adh (Nat.zero_lt_of_lt (show k2 < _ from (by omega)))) (show W.mines[k2]? = some mn by rw [← hmn0]; exact get_d (u := 0) (by omega)) rfl eF7)) <| va rfl <| va rfl <| nK <| sg <| vm rfl <| vL (bne rfl rfl) <| nK <| ?_
   refine cne rfl (λ h_106 => ?_) (λ h_106 => ?_)
   ·have hm0 : mn ≠ 0 := by simpa using h_106
    refine rg <| vm rfl <| vm rfl <| vm rfl <| bs (e := 3) (cs := [.int .i64 3, .int .i64 (k2 : Int), .int .i64 mn]) rfl (λ _ => by kernel_rfl) rfl λ w_107 b_108 x_109 l_110 B_111 => ?_
    have := x_109.size
    have z_107 := Ext.tr z_99 x_109
    have q_113 := B_111.lt
    refine ca eF13 rfl rfl ((leaf_any ([3, (k2 : Int), mn]) _ _ _ (Blk.hasN (R := repI) (by_ := 8) (k := [3, (k2 : Int), mn]) B_111 [[.int .i64 3], [.int .i64 (k2 : Int)], [.int .i64 mn]] rfl (⟨⟨rfl, okI_iff.2 (by decide)⟩, ⟨⟨rfl, okI_iff.2 (by omega)⟩, ⟨⟨rfl, ok2⟩, trivial⟩⟩⟩) (by simp) (by simp))).mono ?_)
    rintro e w_114 ⟨rfl, x_115⟩
    refine ⟨_, rfl, ?_⟩
    have := x_115.size
    have z_114 := Ext.tr z_107 x_115
    refine bs (e := 29) (cs := [.int .u64 (U (leafN ([3, (k2 : Int), mn])))]) rfl (λ _ => by kernel_rfl) rfl λ w_117 b_118 x_119 l_120 B_121 => ?_
    have := x_119.size
    have z_117 := Ext.tr z_114 x_119
    have q_123 := B_121.lt
    have OLx2 := OLx2.later (Ext.tr x_109 (Ext.tr x_115 x_119))
    refine ap Tmk_el_S_uint64 Rep.flat_bare OLx2 (Blk.has1 (R := repU) (by_ := 8) (q := (leafN ([3, (k2 : Int), mn]))) B_121 ⟨rfl, trivial⟩ (by decide)) rfl rfl (by simp only [List.length_cons, List.length_nil]; omega) (by simp only [List.length_cons, List.length_nil]; omega) (by omega) rfl λ w_124 A_125 c_126 m_127 O_128 g_129 n_130 => ?_
    have := m_127.size
    have z_124 := Ext.mod z_117 m_127 (λ q hq => Nat.le_trans (by omega) (OLx2.lt q hq).1)
    have u_132 := λ q hq => (O_128.lt q hq).2
    have := m_127.size
    refine va rfl <| nl <| nB <| nT <| rg <| vL (bad rfl rfl (inI (by omega))) <| vm rfl <| nl <| ?_
    have B_5 := B_5.later (Ext.tr x_109 (Ext.tr x_115 x_119))
    have B_5 := B_5.mod m_127 (λ hq => d_98 _ hq rfl)
    exact nI _ _ ⟨k2 + 1, L2 ++ [(leafN ([3, (k2 : Int), mn]))], A_125, c_126, rfl, rfl, z_124, B_5, O_128, by omega, by rw [hL2, mkM, hmn0, if_neg hm0]; simp, (λ q hq hb => by (exact Or.elim (g_129 q hq) (λ k_134 => by (exact d_98 q k_134 hb)) (λ k_134 => by omega)))⟩ (by omega) (.cons rfl (.cons rfl (.cons rfl (.cons rfl (.cons rfl (.cons rfl (.cons (loI rfl (by first | omega | rfl | (simp <;> omega))) .nil)))))))
   ·have hm0 : mn = 0 := by simpa using h_106
    refine sk <| nB <| nT <| rg <| vL (bad rfl rfl (inI (by omega))) <| vm rfl <| nl <| ?_
    exact nI _ _ ⟨k2 + 1, L2, AL2, cL2, rfl, rfl, z_99, B_5, OLx2, by omega, by rw [hL2, mkM, hmn0, if_pos hm0]; simp, (λ q hq hb => by (exact d_98 q hq hb))⟩ (by omega) (.cons rfl (.cons rfl (.cons rfl (.cons rfl (.cons rfl (.cons rfl (.cons (loI rfl (by first | omega | rfl | (simp <;> omega))) .nil)))))))
  ·refine xt <| xT <| xK <| xB <| nT <| sq <| sg <| vL (fa eF24 rfl) <| vL (ld rfl (B_5.one eF25 rfl)) <| vL (ln Try.underlying26 rfl) <| vm rfl <| nK <| bk <| ?_
   refine lp (λ mI EI wI => ∃ k3 : Nat, ∃ L3 : List (BitVec 64), ∃ AL3 : Option Addr, ∃ cL3 : Nat, EI = [(2, .int .u64 0), (3, .int .i64 0), (5, .slice AL3 L3.length cL3), (77, .slice a.T W.troops.length a.t), (78, .int .i64 (W.troops.length : Int)), (79, .int .i64 (k3 : Int))] ∧ mI = W.troops.length - k3 ∧ Ext w wI ∧ repU.SOwn 29 8 wI w.heap.size (Rep.blkOf AL3) AL3 cL3 L3 ∧ (k3 ≤ W.troops.length) ∧ (L3 = marksB W W.bases.length ++ mkM W W.mines.length ++ (W.troops.take k3).map mkT)) _ _ ⟨0, L2, AL2, cL2, rfl, rfl, z_99, OLx2, by omega, by rw [hL2, show k2 = W.mines.length by omega]; simp⟩ (.cons rfl (.cons rfl (.cons rfl (.cons rfl (.cons rfl (.cons (loI rfl (by first | omega | rfl | (simp <;> omega))) .nil)))))) ?_
   rintro m_136 E_137 w_135 ⟨k3, L3, AL3, cL3, rfl, rfl, z_135, OLx3, hk3, hL3⟩
   have := z_135.size
   have u_139 := λ q hq => (OLx3.lt q hq).2
   refine sg <| vL (blt rfl rfl) <| nK <| sq <| ?_
   refine clt rfl (λ h_140 => ?_) (λ h_140 => ?_)
   ·obtain ⟨t, ht0⟩ : ∃ t, W.troops.getD k3 default = t := ⟨_, rfl⟩
    obtain ⟨o1, o2, o3, o4, o5, o6, o7⟩ : okI t.id ∧ okI t.owner ∧ okI t.kind ∧ okI t.spot.x ∧ okI t.spot.y ∧ okI t.life ∧ okI t.load := Trp.all_ok hW.T t (by rw [← ht0]; exact mem_dd (by omega))
    have hLn : L3.length ≤ W.bases.length + 1 + W.mines.length + k3 := by rw [hL3, List.length_append, List.length_append, marksB_len, List.length_map, List.length_take]; have := mkM_len W W.mines.length; omega
    refine sK <| sq <| bk <| sg <| vL (iA k3 Try.underlying26 eF26 rfl rfl ((hW.T.keep z_135).adr (Nat.zero_lt_of_lt (show k3 < _ from (by omega)))) rfl (by omega)) <| vL (ld rfl (Rep.SHas.elt hcT ((hW.T.keep z_135).adh (Nat.zero_lt_of_lt (show k3 < _ from (by omega)))) (show W.troops[k3]? = some t by rw [← ht0]; exact get_d (u := default) (by omega)) eF27 eF26)) <| al rfl eF28 rfl rfl λ w_141 b_142 x_143 l_144 B_145 => ?_
    have := x_143.size
    have z_141 := Ext.tr z_135 x_143
    have q_147 := B_145.lt
    refine st (new := [.int .i64 t.id, .int .i64 t.owner, .int .i64 t.kind, .int .i64 t.spot.x, .int .i64 t.spot.y, .int .i64 t.life, .int .i64 t.load]) rfl rfl B_145 rfl eF26 rfl rfl rfl λ w_148 m_149 B_145 => ?_
    have := m_149.size
    have z_148 := Ext.mod z_141 m_149 (ge1 (by omega))
    have := m_149.size
    refine nK <| rg <| vm rfl <| vL (fa eF29 rfl) <| vL (ld rfl (B_145.one eF7 rfl)) <| vL (fa eF30 rfl) <| vL (ld rfl (B_145.one eF7 rfl)) <| vL (fa eF31 rfl) <| vL (ld rfl (B_145.one eF7 rfl)) <| vL (fa eF32 rfl) <| vL (fa eF19 rfl) <| vL (ld rfl (B_145.one eF7 rfl)) <| vL (fa eF32 rfl) <| vL (fa eF20 rfl) <| vL (ld rfl (B_145.one eF7 rfl)) <| vL (fa eF33 rfl) <| vL (ld rfl (B_145.one eF7 rfl)) <| vL (fa eF34 rfl) <| vL (ld rfl (B_145.one eF7 rfl)) <| bs (e := 3) (cs := [.int .i64 4, .int .i64 t.id, .int .i64 t.owner, .int .i64 t.kind, .int .i64 t.spot.x, .int .i64 t.spot.y, .int .i64 t.life, .int .i64 t.load]) rfl (λ _ => by kernel_rfl) rfl λ w_152 b_153 x_154 l_155 B_156 => ?_
    have := x_154.size
    have z_152 := Ext.tr z_148 x_154
    have q_158 := B_156.lt
    refine ca eF13 rfl rfl ((leaf_any ([4, t.id, t.owner, t.kind, t.spot.x, t.spot.y, t.life, t.load]) _ _ _ (Blk.hasN (R := repI) (by_ := 8) (k := [4, t.id, t.owner, t.kind, t.spot.x, t.spot.y, t.life, t.load]) B_156 [[.int .i64 4], [.int .i64 t.id], [.int .i64 t.owner], [.int .i64 t.kind], [.int .i64 t.spot.x], [.int .i64 t.spot.y], [.int .i64 t.life], [.int .i64 t.load]] rfl (⟨⟨rfl, okI_iff.2 (by decide)⟩, ⟨⟨rfl, o1⟩, ⟨⟨rfl, o2⟩, ⟨⟨rfl, o3⟩, ⟨⟨rfl, o4⟩, ⟨⟨rfl, o5⟩, ⟨⟨rfl, o6⟩, ⟨⟨rfl, o7⟩, trivial⟩⟩⟩⟩⟩⟩⟩⟩) (by simp) (by simp))).mono ?_)
    rintro e w_159 ⟨rfl, x_160⟩
    refine ⟨_, rfl, ?_⟩
    have := x_160.size
    have z_159 := Ext.tr z_152 x_160
    refine bs (e := 29) (cs := [.int .u64 (U (leafN ([4, t.id, t.owner, t.kind, t.spot.x, t.spot.y, t.life, t.load])))]) rfl (λ _ => by kernel_rfl) rfl λ w_162 b_163 x_164 l_165 B_166 => ?_
    have := x_164.size
    have z_162 := Ext.tr z_159 x_164
    have q_168 := B_166.lt
    have OLx3 := OLx3.later x_143
    have OLx3 := OLx3.mod m_149 (fk1 u_139 (by omega))
    have OLx3 := OLx3.later (Ext.tr x_154 (Ext.tr x_160 x_164))
    refine ap Tmk_el_S_uint64 Rep.flat_bare OLx3 (Blk.has1 (R := repU) (by_ := 8) (q := (leafN ([4, t.id, t.owner, t.kind, t.spot.x, t.spot.y, t.life, t.load]))) B_166 ⟨rfl, trivial⟩ (by decide)) rfl rfl (by simp only [List.length_cons, List.length_nil]; omega) (by simp only [List.length_cons, List.length_nil]; omega) (by omega) rfl λ w_169 A_170 c_171 m_172 O_173 g_174 n_175 => ?_
    have := m_172.size
    have z_169 := Ext.mod z_162 m_172 (λ q hq => Nat.le_trans (by omega) (OLx3.lt q hq).1)
    have u_177 := λ q hq => (O_173.lt q hq).2
    have := m_172.size
    refine va rfl <| nl <| nB <| nT <| rg <| vL (bad rfl rfl (inI (by omega))) <| vm rfl <| nl <| ?_
    exact nI _ _ ⟨k3 + 1, L3 ++ [(leafN ([4, t.id, t.owner, t.kind, t.spot.x, t.spot.y, t.life, t.load]))], A_170, c_171, rfl, rfl, z_169, O_173, by omega, by rw [hL3, mkT_snoc (by omega) ht0, List.append_assoc]; rfl⟩ (by omega) (.cons rfl (.cons rfl (.cons rfl (.cons rfl (.cons rfl (.cons (loI rfl (by first | omega | rfl | (simp <;> omega))) .nil))))))
   ·refine xt <| xT <| xK <| xB <| nT <| sg <| vm rfl <| ca eF35 rfl rfl ((of_leaf L3 _ _ _ OLx3.has).mono ?_)
    rintro e w_179 ⟨rfl, x_180⟩
    refine ⟨_, rfl, ?_⟩
    have := x_180.size
    have z_179 := Ext.tr z_135 x_180
    refine va rfl <| va rfl <| nK <| rt <| tR (.tmp rfl (.tmp rfl .nil)) <| ?_
    exact ⟨by unfold markN; rw [if_pos hc, hc, hL3, show k3 = W.troops.length by omega, List.take_length]; rfl, z_179⟩
theorem mark_any (a : Wd.At) (W : Wd) (w : World) (hW : Wd.Has w a W) : Calls Try.prog 8 #[.agg (Wd.cells a W).toArray] w (λ e w' => e = .returned (.tuple #[.int .u64 (U (markN W)), .int .i64 W.chk]) ∧ Ext w w') := by
 by_cases hc : W.chk = 0
 ·exact mark_ok a W w hW hc
 ·exact mark_bad a W w hW hc
end
section
open Go.RowKit
def mulRen : Go.Shelf.Ren := ⟨fun | 212 => 86 | 263 => 94 | 264 => 95 | n => n, fun | 46 => 140 | 53 => 29 | 51 => 151 | 146 => 152 | 148 => 154 | n => n, fun | n => n⟩
theorem laysMul : Go.Proofs.Lays.n212 Try.prog mulRen := {
 mixed := by kernel_rfl
 f212 := Try.func86.trans (congrArg some (by kernel_rfl))
 f263 := Try.func94.trans (congrArg some (by kernel_rfl))
 f264 := Try.func95.trans (congrArg some (by kernel_rfl))
 t46 := Try.underlying140
 a46 := Try.isAgg140
 z46 := Try.sizeOf140
 v46 := Try.zeroValue140
 t51 := Try.underlying151
 a51 := Try.isAgg151
 z51 := Try.sizeOf151
 v51 := Try.zeroValue151
 t53 := Try.underlying29
 a53 := Try.isAgg29
 z53 := Try.sizeOf29
 v53 := Try.zeroValue29
 t146 := Try.underlying152
 a146 := Try.isAgg152
 z146 := Try.sizeOf152
 v146 := Try.zeroValue152
 t148 := Try.underlying154
 a148 := Try.isAgg154
 z148 := Try.sizeOf154
 v148 := Try.zeroValue154 }
theorem mul_one (n : Nat) (hn : n < 18446744073709551616) (w : World) : Calls Try.prog 86 #[.int .u64 1, .int .u64 (n : Int)] w (λ e w' => e = .returned (.tuple #[.int .u64 0, .int .u64 (n : Int)]) ∧ Ext w w') := by
 refine (Any.bits_Mul laysMul 1 n (by decide) hn w).mono λ e w' ⟨h1, h2⟩ => ?_
 subst h2
 rw [h1]
 refine ⟨?_, Ext.rf _⟩
 rw [Nat.one_mul, Nat.div_eq_of_lt hn, Nat.mod_eq_of_lt hn]; rfl
end
end Go.Proofs.Ytmpkaphcpaigdaa
