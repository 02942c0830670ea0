import Derived.Test.YtmpkaphcpaigdaaGolC
import Derived.Test.YtmpkaphcpaigdaaTroI
import Derived.Test.YtmpkaphcpaigdaaGol
import Derived.Test.YtmpkaphcpaigdaaBas
import Derived.Test.YtmpkaphcpaigdaaEqI
import Derived.Test.YtmpkaphcpaigdaaPackM
set_option linter.unusedVariables false
set_option linter.unusedSimpArgs false
set_option maxRecDepth 100000
set_option maxHeartbeats 4000000
namespace Go.Proofs.Ytmpkaphcpaigdaa
section
open Go.RowKit
theorem apart_any (n m r : Int) (w : World) (h1 : 0 ≤ m) (h2 : m ≤ 40) (h3 : 0 ≤ r) (h4 : r ≤ 12) : Calls Try.prog 55 #[.int .i64 n, .int .i64 m, .int .i64 r] w λ e w' => e = .returned (.bool (!inB n (m - r) (m + r))) ∧ w = w' := by
 rcases Int.lt_or_le n (m - r) with h | h
 ·rw [inB_not (.inl h)]
  have hd : decide (n < m - r) = true := by simpa using h
  go_enter Try.func55, Try.ntmps55
  go_wp2
  go_ret
  exact ⟨rfl, rfl⟩
 ·have hd : decide (n < m - r) = false := by simpa using h
  rcases Int.lt_or_le (m + r) n with h5 | h5
  ·rw [inB_not (.inr h5)]
   go_enter Try.func55, Try.ntmps55
   go_wp2
   go_ret
   exact ⟨ret_bool (by simp <;> omega), rfl⟩
  ·rw [inB_mk h h5]
   go_enter Try.func55, Try.ntmps55
   go_wp2
   go_ret
   exact ⟨ret_bool (by simp <;> omega), rfl⟩
def NearPost (W : Wd) (c : Cel) (r : Int) (w : World) (e : Ending) (w' : World) : Prop :=
 ∃ (A : Option Addr) (k : Nat) (l : List Int) (f : List Nat), e = .returned (.tuple #[.slice A l.length k, .int .i64 (nearE W r)]) ∧ l = (if nearE W r = 0 then nearIds W c r else []) ∧ repI.SOwn 3 8 w' w.heap.size f A k l ∧ Below w.heap.size w w'
theorem near_any (p : Cel) (r : Int) (a : Wd.At) (W : Wd) (w : World) (hW : Wd.Has w a W) :
  Calls Try.prog 28 #[.agg (Wd.cells a W).toArray, .agg #[.int .i64 p.x, .int .i64 p.y], .int .i64 r] w (NearPost W p r w) := by
 have hch := λ V (h : Wd.Has V a W) => check_any a W V h
 obtain ⟨aP, aB, aS, aM, aT, kP, kB, kS, kM, kT⟩ := a
 show Calls _ _ #[.agg #[.int .i64 W.field.wide, .int .i64 W.field.high, .slice aP W.field.places.length kP, .slice aB W.bases.length kB, .slice aS W.stocks.length kS, .slice aM W.mines.length kM, .slice aT W.troops.length kT, .int .i64 W.next, .int .i64 W.now], .agg #[.int .i64 p.x, .int .i64 p.y], .int .i64 r] _ _
 have hb0 := below_alloc0 w (.cells (Wd.cells ⟨aP, aB, aS, aM, aT, kP, kB, kS, kM, kT⟩ W).toArray 28)
 have HA := Lib.hid (Blk.new w (Wd.cells ⟨aP, aB, aS, aM, aT, kP, kB, kS, kM, kT⟩ W) 28 (0, 0))
 have HH := Lib.hid (hW.keep hb0)
 obtain ⟨w0, HW0⟩ : ∃ w0, Hid (w.alloc (.cells (Wd.cells ⟨aP, aB, aS, aM, aT, kP, kB, kS, kM, kT⟩ W).toArray 28) = w0) := ⟨_, Lib.hid rfl⟩
 rw [HW0.out] at hb0 HH
 have HA : Hid (Blk w0 w.heap.size (Wd.cells ⟨aP, aB, aS, aM, aT, kP, kB, kS, kM, kT⟩ W) 28 (0, 0)) := by rw [← HW0.out]; exact HA
 have hbB := below_alloc0 w0 (.cells #[.int .i64 p.x, .int .i64 p.y] 35)
 have hBB := Blk.new w0 [.int .i64 p.x, .int .i64 p.y] 35 (0, 0)
 have hsz0 : w0.heap.size = w.heap.size + 1 := by rw [← HW0.out]; simp
 rw [hsz0] at hBB
 obtain ⟨w1, HWB⟩ : ∃ w1, Hid (w0.alloc (.cells #[.int .i64 p.x, .int .i64 p.y] 35) = w1) := ⟨_, Lib.hid rfl⟩
 rw [HWB.out] at hbB
 have hBB : Blk w1 (w.heap.size + 1) p.cells 35 (0, 0) := by rw [← HWB.out]; exact hBB
 have HBB := Lib.hid hBB
 have HA1 := Lib.hid (HA.out.later hbB)
 have HCH := Lib.hid (hch w1 (HH.out.keep hbB))
 rw [Wd.cells_eq] at HCH
 have HCH : Hid (Calls Try.prog 22 #[.agg #[.int .i64 W.field.wide, .int .i64 W.field.high, .slice aP W.field.places.length kP, .slice aB W.bases.length kB, .slice aS W.stocks.length kS, .slice aM W.mines.length kM, .slice aT W.troops.length kT, .int .i64 W.next, .int .i64 W.now]] w1 λ e w' => e = .returned (.int .i64 W.chk) ∧ Below w1.heap.size w1 w') := HCH
 have HW1 : Hid (w.alloc (.cells #[.int .i64 W.field.wide, .int .i64 W.field.high, .slice aP W.field.places.length kP, .slice aB W.bases.length kB, .slice aS W.stocks.length kS, .slice aM W.mines.length kM, .slice aT W.troops.length kT, .int .i64 W.next, .int .i64 W.now] 28) = w0) := by rw [← HW0.out]; rfl
 have HHT : Hid (Trp.rep.SHas 56 w1 aT kT W.troops) := Lib.hid (HH.out.keep hbB).T
 obtain ⟨c0, c1, c2, c3, c4, c5, c6, c7, c8⟩ := Wd.wblk HA1.out
 have hb01 := hb0.trans (hbB.mono hb0.size)
 clear hW hch hBB
 by_cases h0 : W.chk = 0
 ·cases hr : inB r 0 12 with
  | false =>
   have HE : Hid (nearE W r = 1) := Lib.hid (by unfold nearE; rw [h0, hr]; rfl)
   have HR := Lib.hid hr
   rw [h0] at HCH
   clear hr h0
   generalize W.field.places.length = np at *
   generalize W.bases.length = nb at *
   generalize W.stocks.length = ns at *
   generalize W.mines.length = nm at *
   generalize W.troops.length = nt at *
   go_enter Try.func28, Try.ntmps28
   go_wp2_with fail
   rw [HW1.out, HWB.out]
   go_wp2_with fail
   refine HCH.out.mono ?_; rintro e w2 ⟨rfl, hb2⟩
   go_wp2_with fail
   refine (within_v HR.out _).mono ?_; rintro e w' ⟨rfl, rfl⟩
   go_wp2_with fail
   go_ret2
   exact ⟨none, 0, [], [], by rw [HE.out]; rfl, by rw [HE.out]; rfl, Rep.SOwn.nil _, hb01.trans (hb2.mono hb01.size)⟩
  | true =>
   have HE : Hid (nearE W r = 0) := Lib.hid (by unfold nearE; rw [h0, hr]; rfl)
   have HR := Lib.hid hr
   have hrb := inB_true hr
   have HC0 := Lib.hid h0
   rw [h0] at HCH
   obtain ⟨nt, HNT⟩ : ∃ n, Hid (W.troops.length = n) := ⟨_, Lib.hid rfl⟩
   have h100 : nt ≤ 100 := by rw [← HNT.out]; exact (good_spots h0).2.2.1
   clear hr h0
   rw [HNT.out] at HCH c6 HW1
   obtain ⟨i0, hi, hz0, hz1, hz2⟩ := info_parts info_int
   have hbb : Below w.heap.size w w1 := hb01
   go_enter Try.func28, Try.ntmps28
   rw [HNT.out]
   go_wp2_with fail
   rw [HW1.out, HWB.out]
   go_wp2_with fail
   refine HCH.out.mono ?_; rintro e w2 ⟨rfl, hb2⟩
   have d6 := cell_later hb2 c6
   have HBB2 := Lib.hid (HBB.out.later hb2)
   have HHT2 := Lib.hid (HHT.out.keep hb2)
   have hb02 := hbb.trans (hb2.mono hbb.size)
   clear c0 c1 c2 c3 c4 c5 c6 c7 c8
   go_wp2_with fail
   refine (within_v HR.out _).mono ?_; rintro e w' ⟨rfl, rfl⟩
   go_wp2_with fail
   clear d6
   go_loopw [9, 11, 23] (λ v _ iv wr => ∃ (k : Nat) (A : Option Addr) (c : Nat) (l : List Int) (f : List Nat), k ≤ nt ∧ iv = .int .i64 (k : Int) ∧ v = .slice A l.length c ∧ Hid (repI.SOwn 3 8 wr w2.heap.size f A c l) ∧ Hid (l = ((W.troops.take k).filter (nearT p r)).map (·.id)) ∧ l.length ≤ k ∧ Below w2.heap.size w2 wr) (λ _ _ iv _ => nt - (intOf iv).toNat)
   case atStart => exact ⟨0, none, 0, [], [], Nat.zero_le _, rfl, rfl, Rep.SOwn.nil _, rfl, Nat.le_refl _, Below.refl _ _⟩
   case round =>
    obtain ⟨k, A, c, l, f, hk, rfl, rfl, HSO, HL, hll, hb⟩ := hrel
    by_cases hlt : k < nt
    ·obtain ⟨t, ht⟩ := get_of (l := W.troops) (i := k) (by rw [HNT.out]; exact hlt)
     have hHT := HHT2.out.keep hb
     obtain ⟨b, o, rfl, hcell⟩ := Trp.at_ hHT (by rw [HNT.out]; omega)
     obtain ⟨p0, p1, p2, p3, p4, p5, p6⟩ := hcell k t ht
     have htake : W.troops.take (k + 1) = W.troops.take k ++ [t] := by
      rw [List.take_succ_eq_append_getElem (by rw [HNT.out]; exact hlt)]
      rw [List.getElem?_eq_getElem (by rw [HNT.out]; exact hlt)] at ht
      rw [Option.some.inj ht]
     obtain ⟨g1, g2, _⟩ := good_troop HC0.out ht
     obtain ⟨i1, i2, i3, i4, i5, i6⟩ := Fld.idx (good_spots HC0.out).1 (Fld.ground_in g1)
     obtain ⟨y1, y2, y3, y4, _, _⟩ := Fld.good (good_spots HC0.out).1
     have hok : t.ok := Trp.all_ok hHT t (List.mem_of_getElem? ht)
     have HTAKE := Lib.hid htake
     have hb1 := below_alloc0 wr (.cells #[.int .i64 t.id, .int .i64 t.owner, .int .i64 t.kind, .int .i64 t.spot.x, .int .i64 t.spot.y, .int .i64 t.life, .int .i64 t.load] 37)
     have hBT := Blk.new wr t.cells 37 (0, 0)
     obtain ⟨w3, HW3⟩ : ∃ w3, Hid (wr.alloc (.cells #[.int .i64 t.id, .int .i64 t.owner, .int .i64 t.kind, .int .i64 t.spot.x, .int .i64 t.spot.y, .int .i64 t.life, .int .i64 t.load] 37) = w3) := ⟨_, Lib.hid rfl⟩
     rw [HW3.out] at hb1
     have hBT : Blk w3 wr.heap.size t.cells 37 (0, 0) := by rw [← HW3.out]; exact hBT
     obtain ⟨t0, t1, t2, t3, t4, t5, t6⟩ := Trp.blk hBT
     obtain ⟨r0, r1⟩ := Cel.blk ((HBB2.out.later hb).later hb1)
     obtain ⟨s0, s1⟩ := Cel.blk (HBB2.out.later hb)
     have hszr : w.heap.size + 1 < wr.heap.size := (HBB2.out.later hb).lt
     have HAP1 := Lib.hid (λ V => apart_any p.x t.spot.x r V (by omega) (by omega) hrb.1 hrb.2)
     have HAP2 := Lib.hid (λ V => apart_any p.y t.spot.y r V (by omega) (by omega) hrb.1 hrb.2)
     have HSO3 := Lib.hid (HSO.out.later hb1)
     have hb23 := hb.trans (hb1.mono hb.size)
     have hki : (k : Int) < (nt : Int) := by omega
     have hk0 : (0 : Int) ≤ (k : Int) := by omega
     have hnear : nearT p r t = (inB p.x (t.spot.x - r) (t.spot.x + r) && inB p.y (t.spot.y - r) (t.spot.y + r)) := rfl
     have HNEAR := Lib.hid hnear
     have HOK := Lib.hid hok
     clear hHT hcell ht htake hBT g1 g2 i1 i2 i3 i4 i5 i6 y1 y2 y3 y4 hok hnear
     cases h1 : inB p.x (t.spot.x - r) (t.spot.x + r) with
     | false =>
      rw [h1] at HAP1
      simp only [Bool.not_false, Bool.not_true] at HAP1
      have HL2 : Hid (l = ((W.troops.take (k + 1)).filter (nearT p r)).map (·.id)) := Lib.hid (by
       rw [HTAKE.out, List.filter_append, List.map_append, ← HL.out]
       simp [HNEAR.out, h1])
      clear h1
      go_wp2_with fail
      rw [HW3.out]
      go_wp2_with fail
      refine (HAP1.out _).mono ?_; rintro e w' ⟨rfl, rfl⟩
      go_wp2_with fail
      go_roundw
      case rel => exact ⟨k + 1, A, c, l, f, by omega, by go_num, rfl, HSO3, HL2, by omega, hb23⟩
      case measure => simp [intOf]; omega
     | true =>
      rw [h1] at HAP1
      cases h2 : inB p.y (t.spot.y - r) (t.spot.y + r) with
      | false =>
       rw [h2] at HAP2
       have HL2 : Hid (l = ((W.troops.take (k + 1)).filter (nearT p r)).map (·.id)) := Lib.hid (by
        rw [HTAKE.out, List.filter_append, List.map_append, ← HL.out]
        simp [HNEAR.out, h2])
       clear h1 h2
       go_wp2_with fail
       rw [HW3.out]
       go_wp2_with fail
       refine (HAP1.out _).mono ?_; rintro e w' ⟨rfl, rfl⟩
       go_wp2_with fail
       refine (HAP2.out _).mono ?_; rintro e w' ⟨rfl, rfl⟩
       go_wp2_with fail
       go_roundw
       case rel => exact ⟨k + 1, A, c, l, f, by omega, by go_num, rfl, HSO3, HL2, by omega, hb23⟩
       case measure => simp [intOf]; omega
      | true =>
       rw [h2] at HAP2
       have HL2 : Hid (l ++ [t.id] = ((W.troops.take (k + 1)).filter (nearT p r)).map (·.id)) := Lib.hid (by
        rw [HTAKE.out, List.filter_append, List.map_append, ← HL.out]
        simp [HNEAR.out, h1, h2])
       have hb4 := below_alloc0 w3 (.cells #[.int .i64 t.id] 3)
       have HSO4 := Lib.hid (HSO3.out.later hb4)
       have HRD : Hid (Rd (w3.alloc (.cells #[.int .i64 t.id] 3)) repI.size (some ⟨w3.heap.size, 0, none⟩) 1 [.int .i64 t.id]) := rd_one _ _ _
       have hb24 := hb23.trans (hb4.mono hb23.size)
       have hbz := hb24.size
       clear h1 h2
       go_wp2_with fail
       rw [HW3.out]
       go_wp2_with fail
       refine (HAP1.out _).mono ?_; rintro e w' ⟨rfl, rfl⟩
       go_wp2_with fail
       refine (HAP2.out _).mono ?_; rintro e w' ⟨rfl, rfl⟩
       go_wp2_with (at_builtin; refine Rep.wpList_append_rep (R := repI) (by_ := 8) rfl _ _ w2.heap.size 22 3 i0 (.int .i64 0) Try.underlying22 hi hz0 hz1 hz2 rfl (by decide) zI f A c l HSO4.out (some ⟨w3.heap.size, 0, none⟩) 1 1 [t.id] [([], [.int .i64 t.id])] ⟨⟨rfl, rfl, HOK.out.1⟩, trivial⟩ rfl HRD.out ?g1 (by omega) (by omega) hbz rfl rfl rfl ?_)
       case g1 => simpa using Rep.SOwn.nodup HSO4.out
       intro A' c' f' w4 hso hgrow hat hfs hnn hbs
       have HSO5 := Lib.hid hso
       have hb25 : Below w2.heap.size w2 w4 := hb24.grown hgrow hb24.size (λ q hq => Rep.SOwn.own_ge HSO4.out hq (Nat.le_refl _))
       clear hso hgrow hat hfs hnn hbs
       go_wp2_with fail
       go_roundw
       case rel => exact ⟨k + 1, A', c', l ++ [t.id], f', by omega, by go_num, by rw [List.length_append]; rfl, HSO5, HL2, by simp; omega, hb25⟩
       case measure => simp [intOf]; omega
    ·obtain rfl : k = nt := by omega
     have hL : l = if nearE W r = 0 then nearIds W p r else [] := by
      rw [if_pos HE.out, HL.out, List.take_of_length_le (by rw [HNT.out]; omega)]; rfl
     have HL2 := Lib.hid hL
     clear HL hL
     go_wp2_with fail
     go_ret2
     exact ⟨A, c, l, f, by rw [HE.out]; rfl, HL2.out, HSO.out.down hb02.size, hb02.trans (hb.mono hb02.size)⟩
 ·have HE : Hid (nearE W r = W.chk) := Lib.hid (by unfold nearE; rw [if_pos h0])
  have hne : ¬ nearE W r = 0 := by rw [HE.out]; exact h0
  have HNE := Lib.hid hne
  have hd : (W.chk == 0) = false := by simpa using h0
  have hd2 : (W.chk != 0) = true := by simpa using h0
  obtain ⟨kc, HKC⟩ : ∃ kc, Hid (W.chk = kc) := ⟨_, Lib.hid rfl⟩
  rw [HKC.out] at HCH hd hd2
  clear h0 hne
  generalize W.field.places.length = np at *
  generalize W.bases.length = nb at *
  generalize W.stocks.length = ns at *
  generalize W.mines.length = nm at *
  generalize W.troops.length = nt at *
  go_enter Try.func28, Try.ntmps28
  go_wp2_with fail
  rw [HW1.out, HWB.out]
  go_wp2_with fail
  refine HCH.out.mono ?_; rintro e w2 ⟨rfl, hb2⟩
  go_wp2_with fail
  go_ret2
  exact ⟨none, 0, [], [], by rw [HE.out, HKC.out]; rfl, by rw [if_neg HNE.out], Rep.SOwn.nil _, hb01.trans (hb2.mono hb01.size)⟩
end
section
open Go.RowKit
theorem has_of_blk {α : Type} {R : Rep α} {by_ : Nat} {w : World} {g : Nat} {cs : List Value} {t : TypeId} {fr : Nat × Nat} (h : Blk w g cs t fr) {l : List α} {ess : List (List Value)} (he : cs = ess.flatten) (ha : All2 (λ es a => R.has w es a) ess l)
  (hl : l.length ≤ 9223372036854775807) (hb : l.length * by_ ≤ 140737488355328) : R.SHas by_ w (some ⟨g, 0, none⟩) l.length l :=
 ⟨Nat.le_refl _, hl, hb, (λ h => by cases h), ess, ha, by rw [flat_len (Rep.lens ha), ha.length], λ _ => ⟨g, 0, rfl, λ j u hu => by rw [Nat.zero_add, h.cell j, he]; exact hu⟩⟩
def smallW : Wd := ⟨⟨3, 1, [0, 0, 3]⟩, [⟨0, 0⟩], [20], [0, 0, 9], [⟨1, 0, 1, ⟨1, 0⟩, 10, 0⟩], 2, 0⟩
def smallAt (s : Nat) : Wd.At := ⟨some ⟨s + 1, 0, none⟩, some ⟨s + 1 + 1, 0, none⟩, some ⟨s + 1 + 1 + 1, 0, none⟩, some ⟨s + 1 + 1 + 1 + 1, 0, none⟩, some ⟨s + 1 + 1 + 1 + 1 + 1, 0, none⟩, 3, 1, 1, 3, 1⟩
theorem small_any (w : World) :
  Calls Try.prog 26 #[] w λ e w' => e = .returned (.agg (Wd.cells (smallAt w.heap.size) smallW).toArray) ∧ Wd.Has w' (smallAt w.heap.size) smallW ∧ Below w.heap.size w w' := by
 obtain ⟨w0, hw0⟩ : ∃ x, x = w.alloc (.cells #[.int .i64 3, .int .i64 1, .slice (some ⟨w.heap.size + 1, 0, none⟩) 3 3, .slice (some ⟨w.heap.size + 1 + 1, 0, none⟩) 1 1, .slice (some ⟨w.heap.size + 1 + 1 + 1, 0, none⟩) 1 1, .slice (some ⟨w.heap.size + 1 + 1 + 1 + 1, 0, none⟩) 3 3, .slice (some ⟨w.heap.size + 1 + 1 + 1 + 1 + 1, 0, none⟩) 1 1, .int .i64 2, .int .i64 0] 28) := ⟨_, rfl⟩
 have hb0 : Below w.heap.size w w0 := by rw [hw0]; exact below_alloc0 _ _
 have B0 : Blk w0 w.heap.size (Wd.cells (smallAt w.heap.size) smallW) 28 (0, 0) := by rw [hw0]; exact Blk.new _ _ _ _
 have s0 : w0.heap.size = w.heap.size + 1 := by rw [hw0]; simp
 obtain ⟨w1, hw1⟩ : ∃ x, x = w0.alloc (.cells #[.int .i64 0, .int .i64 0, .int .i64 3] 3) := ⟨_, rfl⟩
 have hb1 : Below w0.heap.size w0 w1 := by rw [hw1]; exact below_alloc0 _ _
 have B1 : Blk w1 w0.heap.size [.int .i64 0, .int .i64 0, .int .i64 3] 3 (0, 0) := by rw [hw1]; exact Blk.new _ _ _ _
 have s1 : w1.heap.size = w.heap.size + 1 + 1 := by rw [hw1, World.size_alloc, s0]
 rw [s0] at B1
 obtain ⟨w2, hw2⟩ : ∃ x, x = w1.alloc (.cells #[.int .i64 0, .int .i64 0] 35) := ⟨_, rfl⟩
 have hb2 : Below w1.heap.size w1 w2 := by rw [hw2]; exact below_alloc0 _ _
 have B2 : Blk w2 w1.heap.size [.int .i64 0, .int .i64 0] 35 (0, 0) := by rw [hw2]; exact Blk.new _ _ _ _
 have s2 : w2.heap.size = w.heap.size + 1 + 1 + 1 := by rw [hw2, World.size_alloc, s1]
 rw [s1] at B2
 obtain ⟨w3, hw3⟩ : ∃ x, x = w2.alloc (.cells #[.int .i64 20] 3) := ⟨_, rfl⟩
 have hb3 : Below w2.heap.size w2 w3 := by rw [hw3]; exact below_alloc0 _ _
 have B3 : Blk w3 w2.heap.size [.int .i64 20] 3 (0, 0) := by rw [hw3]; exact Blk.new _ _ _ _
 have s3 : w3.heap.size = w.heap.size + 1 + 1 + 1 + 1 := by rw [hw3, World.size_alloc, s2]
 rw [s2] at B3
 obtain ⟨w4, hw4⟩ : ∃ x, x = w3.alloc (.cells #[.int .i64 0, .int .i64 0, .int .i64 9] 3) := ⟨_, rfl⟩
 have hb4 : Below w3.heap.size w3 w4 := by rw [hw4]; exact below_alloc0 _ _
 have B4 : Blk w4 w3.heap.size [.int .i64 0, .int .i64 0, .int .i64 9] 3 (0, 0) := by rw [hw4]; exact Blk.new _ _ _ _
 have s4 : w4.heap.size = w.heap.size + 1 + 1 + 1 + 1 + 1 := by rw [hw4, World.size_alloc, s3]
 rw [s3] at B4
 obtain ⟨w5, hw5⟩ : ∃ x, x = w4.alloc (.cells #[.int .i64 1, .int .i64 0, .int .i64 1, .int .i64 1, .int .i64 0, .int .i64 10, .int .i64 0] 37) := ⟨_, rfl⟩
 have hb5 : Below w4.heap.size w4 w5 := by rw [hw5]; exact below_alloc0 _ _
 have B5 : Blk w5 w4.heap.size [.int .i64 1, .int .i64 0, .int .i64 1, .int .i64 1, .int .i64 0, .int .i64 10, .int .i64 0] 37 (0, 0) := by rw [hw5]; exact Blk.new _ _ _ _
 have s5 : w5.heap.size = w.heap.size + 1 + 1 + 1 + 1 + 1 + 1 := by rw [hw5, World.size_alloc, s4]
 rw [s4] at B5
 have H1 : Rep.SHas repI 8 w5 (some ⟨w.heap.size + 1, 0, none⟩) (List.length ([0, 0, 3] : List Int)) [0, 0, 3] := has_of_blk (R := repI) ((((B1.later hb2).later hb3).later hb4).later hb5) (ess := [[.int .i64 0], [.int .i64 0], [.int .i64 3]]) rfl ⟨⟨rfl, rfl⟩, ⟨rfl, rfl⟩, ⟨rfl, rfl⟩, trivial⟩ (by decide) (by decide)
 have H2 : Rep.SHas Cel.rep 16 w5 (some ⟨w.heap.size + 1 + 1, 0, none⟩) (List.length ([⟨0, 0⟩] : List Cel)) [⟨0, 0⟩] := has_of_blk (R := Cel.rep) (((B2.later hb3).later hb4).later hb5) (ess := [[.int .i64 0, .int .i64 0]]) rfl ⟨⟨rfl, rfl, rfl⟩, trivial⟩ (by decide) (by decide)
 have H3 : Rep.SHas repI 8 w5 (some ⟨w.heap.size + 1 + 1 + 1, 0, none⟩) (List.length ([20] : List Int)) [20] := has_of_blk (R := repI) ((B3.later hb4).later hb5) (ess := [[.int .i64 20]]) rfl ⟨⟨rfl, rfl⟩, trivial⟩ (by decide) (by decide)
 have H4 : Rep.SHas repI 8 w5 (some ⟨w.heap.size + 1 + 1 + 1 + 1, 0, none⟩) (List.length ([0, 0, 9] : List Int)) [0, 0, 9] := has_of_blk (R := repI) (B4.later hb5) (ess := [[.int .i64 0], [.int .i64 0], [.int .i64 9]]) rfl ⟨⟨rfl, rfl⟩, ⟨rfl, rfl⟩, ⟨rfl, rfl⟩, trivial⟩ (by decide) (by decide)
 have H5 : Rep.SHas Trp.rep 56 w5 (some ⟨w.heap.size + 1 + 1 + 1 + 1 + 1, 0, none⟩) (List.length ([⟨1, 0, 1, ⟨1, 0⟩, 10, 0⟩] : List Trp)) [⟨1, 0, 1, ⟨1, 0⟩, 10, 0⟩] := has_of_blk (R := Trp.rep) B5 (ess := [[.int .i64 1, .int .i64 0, .int .i64 1, .int .i64 1, .int .i64 0, .int .i64 10, .int .i64 0]]) rfl ⟨⟨rfl, rfl, rfl, rfl, rfl, rfl, rfl, rfl⟩, trivial⟩ (by decide) (by decide)
 have t1 := hb0.trans (hb1.mono hb0.size)
 have t2 := t1.trans (hb2.mono t1.size)
 have t3 := t2.trans (hb3.mono t2.size)
 have t4 := t3.trans (hb4.mono t3.size)
 have t5 := t4.trans (hb5.mono t4.size)
 have HW := Lib.hid (And.intro (show Wd.Has w5 (smallAt w.heap.size) smallW from ⟨H1, H2, H3, H4, H5, rfl, rfl, rfl, rfl⟩) t5)
 have E := Lib.hid (show w5 = _ from hw5.trans (by rw [hw4, hw3, hw2, hw1, hw0]))
 have HB0 := Lib.hid (((((B0.later hb1).later hb2).later hb3).later hb4).later hb5)
 clear B0 hb0 hb1 hb2 hb3 hb4 hb5 B1 B2 B3 B4 B5 s0 s1 s2 s3 s4 s5 H1 H2 H3 H4 H5 t1 t2 t3 t4 t5 hw0 hw1 hw2 hw3 hw4 hw5
 go_enter Try.func26, Try.ntmps26
 go_wp2_with fail
 refine bodyPost_ret (v := .agg (Wd.cells (smallAt w.heap.size) smallW).toArray) ?_ rfl ?_
 ·rw [← E.out]
  obtain ⟨c0, c1, c2, c3, c4, c5, c6, c7, c8⟩ := Wd.wblk HB0.out
  simp [results, Try.results26, go_sem, c0, c1, c2, c3, c4, c5, c6, c7, c8]
  rfl
 ·rw [← E.out]
  exact ⟨rfl, HW.out.1, HW.out.2⟩
def smallCells (s : Nat) : Value := .agg #[.int .i64 3, .int .i64 1, .slice (some ⟨s + 1, 0, none⟩) 3 3, .slice (some ⟨s + 1 + 1, 0, none⟩) 1 1, .slice (some ⟨s + 1 + 1 + 1, 0, none⟩) 1 1, .slice (some ⟨s + 1 + 1 + 1 + 1, 0, none⟩) 3 3, .slice (some ⟨s + 1 + 1 + 1 + 1 + 1, 0, none⟩) 1 1, .int .i64 2, .int .i64 0]
theorem small_chk : smallW.chk = 0 := by decide +kernel
theorem small_f : whichI smallW (isId 1) = 0 ∧ whichB smallW (isId 1) = true := by decide +kernel
theorem small_o : whichI smallW (isAt ⟨2, 0⟩) = 0 ∧ whichB smallW (isAt ⟨2, 0⟩) = false := by decide +kernel
theorem small_n : nearE smallW 1 = 0 ∧ nearIds smallW ⟨0, 0⟩ 1 = [1] := by decide +kernel
theorem small_find (s : Nat) (V : World) (h : Wd.Has V (smallAt s) smallW) : Calls Try.prog 25 #[.agg (Wd.cells (smallAt s) smallW).toArray, .int .i64 1] V λ e w' => e = .returned (.tuple #[.int .i64 0, .bool true, .int .i64 0]) ∧ Below V.heap.size V w' := by
 have := find_any 1 (smallAt s) smallW V h
 unfold FindPost at this
 rw [small_f.1, small_f.2, small_chk] at this
 exact this
theorem small_on (s : Nat) (V : World) (h : Wd.Has V (smallAt s) smallW) : Calls Try.prog 27 #[.agg (Wd.cells (smallAt s) smallW).toArray, .agg #[.int .i64 2, .int .i64 0]] V λ e w' => e = .returned (.tuple #[.int .i64 0, .bool false, .int .i64 0]) ∧ Below V.heap.size V w' := by
 have := on_any ⟨2, 0⟩ (smallAt s) smallW V h
 unfold FindPost at this
 rw [small_o.1, small_o.2, small_chk] at this
 exact this
theorem small_near (s : Nat) (V : World) (h : Wd.Has V (smallAt s) smallW) : Calls Try.prog 28 #[.agg (Wd.cells (smallAt s) smallW).toArray, .agg #[.int .i64 0, .int .i64 0], .int .i64 1] V
  λ e w' => ∃ A k f, e = .returned (.tuple #[.slice A 1 k, .int .i64 0]) ∧ repI.SOwn 3 8 w' V.heap.size f A k [1] ∧ Below V.heap.size V w' := by
 refine (near_any ⟨0, 0⟩ 1 (smallAt s) smallW V h).mono ?_
 rintro e w' ⟨A, k, l, f, he, hl, hso, hb⟩
 rw [small_n.1, small_n.2, if_pos rfl] at hl
 rw [small_n.1] at he
 subst hl
 exact ⟨A, k, f, he, hso, hb⟩
theorem tlives_any (w : World) : Calls Try.prog 9 #[] w λ e w' => e = .returned (.bool true) ∧ Below w.heap.size w w' := by
 have HS := Lib.hid (λ V => small_any V)
 have HF := Lib.hid (λ s V h => small_find s V h)
 have HO := Lib.hid (λ s V h => small_on s V h)
 have HN := Lib.hid (λ s V h => small_near s V h)
 go_enter Try.func9, Try.ntmps9
 go_wp2_with fail
 refine (HS.out _).mono ?_; rintro e w1 ⟨rfl, hh1, hb1⟩
 go_wp2_with fail
 refine (HF.out _ _ hh1).mono ?_; rintro e w2 ⟨rfl, hb2⟩
 have t2 := hb1.trans (hb2.mono hb1.size)
 clear hh1
 go_wp2_with fail
 refine (HS.out _).mono ?_; rintro e w3 ⟨rfl, hh3, hb3⟩
 have t3 := t2.trans (hb3.mono t2.size)
 go_wp2_with fail
 refine (HO.out _ _ hh3).mono ?_; rintro e w4 ⟨rfl, hb4⟩
 have t4 := t3.trans (hb4.mono t3.size)
 clear hh3
 go_wp2_with fail
 refine (HS.out _).mono ?_; rintro e w5 ⟨rfl, hh5, hb5⟩
 have t5 := t4.trans (hb5.mono t4.size)
 go_wp2_with fail
 refine (HN.out _ _ hh5).mono ?_; rintro e w6 ⟨A, k, f, rfl, hso, hb6⟩
 have t6 := t5.trans (hb6.mono t5.size)
 have hb7 := below_alloc0 w6 (.cells #[.int .i64 1] 3)
 have t7 := t6.trans (hb7.mono t6.size)
 have HEQ := Lib.hid (equal_I A (some ⟨w6.heap.size, 0, none⟩) k 1 8 8 [1] [1] _ (hso.has.keep hb7) (has_of_blk (R := repI) (Blk.new w6 [.int .i64 1] 3 (0, 0)) (l := [1]) (ess := [[.int .i64 1]]) rfl ⟨⟨rfl, rfl⟩, trivial⟩ (by decide) (by decide)))
 clear hh5 hso hb1 hb2 hb3 hb4 hb5 hb6 hb7 t2 t3 t4 t5 t6
 go_wp2_with fail
 refine HEQ.out.mono ?_; rintro e w8 ⟨rfl, hb8⟩
 go_wp2_with fail
 go_ret
 exact ⟨rfl, t7.trans (hb8.mono t7.size)⟩
end
section
open Go.RowKit
theorem clone_T (A : Option Addr) (c : Nat) (l : List Trp) (w : World) (h : Trp.rep.SHas 56 w A c l) :
  Calls Try.prog 11 #[.slice A l.length c] w λ e w' => ∃ A' c', e = .returned (.slice A' l.length c') ∧ Trp.rep.SOwn 37 56 w' w.heap.size (Rep.blkOf A') A' c' l ∧ (A' = none ↔ A = none) ∧ Below w.heap.size w w' := by
 obtain ⟨i0, hi, hz0, hz1, hz2⟩ := info_parts Trp.info
 have qnil : ∀ (w : World) (a : Option Addr) (n c n' c' : Nat), (binOp .eql 26 (.slice a n c) (.slice none n' c')).run Try.prog w = .ok (.bool a.isNone) w := λ w a n c n' c' => Lib.run_eql_slice_nil w _ _ a n c n' c' Try.underlying26
 cases A with
 | none =>
  obtain rfl : c = 0 := h.2.2.2.1 rfl
  obtain rfl : l = [] := List.eq_nil_of_length_eq_zero (by have := h.1; omega)
  go_enter Try.func11, Try.ntmps11
  go_wp2_with fail
  go_ret
  exact ⟨none, 0, rfl, Rep.SOwn.nil _, by simp, Below.refl _ _⟩
 | some a =>
  have hb0 : Below w.heap.size w (w.alloc (.cells #[] 37)) := (Below.refl _ w).alloc (Nat.le_refl _) _
  obtain ⟨n, HN⟩ : ∃ n, Hid (l.length = n) := ⟨_, Lib.hid rfl⟩
  obtain ⟨h1, h2, h3, h4, ess, h5, h6⟩ := h.keep hb0
  have H5 := Lib.hid h5
  have hone : ∀ u ∈ ess.flatten, u.oneCell' = true := by
   intro u hu
   obtain ⟨y, hy, hu⟩ := List.mem_flatten.1 hu
   obtain ⟨a, ha⟩ := h5.left y hy
   exact Trp.rep.one ha u hu
  have hraw : ∀ (j : Nat) u, ess.flatten[j]? = some u → Trp.rep.raw (j % Trp.rep.size) u := λ j u hu => flat_raw h5 (by decide) hu
  rw [HN.out] at h1 h3 h6
  have HR := Lib.hid h6
  have HE := Lib.hid (Own.empty (e := 37) (size := Trp.rep.size) (G := Trp.rep.raw) w (Nat.le_refl w.heap.size))
  clear h h4 h5 h6
  rw [HN.out]
  go_enter Try.func11, Try.ntmps11
  go_wp2_with (at_builtin; refine wpList_append_all _ rfl _ _ 26 rfl w.heap.size 37 i0 Trp.zero Trp.rep.size 56 Try.underlying26 hi hz0 hz1 hz2 rfl (by decide) Trp.rep.raw Trp.zero_raw _ _ _ rfl HE.out (some a) n c ess.flatten rfl HR.out hone hraw ?qc4 ?qc5 ?qc6 ?_)
  case qc4 => unfold maxLen; omega
  case qc5 => omega
  case qc6 => simp
  intro v' w1 hown hgrow hnil hat
  have hb1 := hb0.grown hgrow (by simp) (by intro k hk; simp [Value.ownBlock] at hk; omega)
  obtain ⟨A1, c1, rfl, hle, _, _, _, hnn⟩ := hown.shape
  have hA1 : A1 ≠ none := by
   intro h
   subst h
   exact hnil (hnn rfl)
  have HO : Hid (Trp.rep.SOwn 37 56 w1 w.heap.size (Rep.blkOf A1) A1 c1 l) := Lib.hid (Rep.SOwn.of_plain Trp.plain H5.out (by rw [HN.out]; exact h3) (by rw [HN.out]; simpa using hown))
  have HA1 := Lib.hid hA1
  clear hgrow hnil hat hown hA1 hnn hone hraw
  go_wp2_with fail
  go_ret
  exact ⟨A1, c1, rfl, HO.out, ⟨λ h => absurd h HA1.out, λ h => by cases h⟩, hb1⟩
end
section
open Go.RowKit
def Apart (s t : Trp) : Prop := s.id < t.id ∧ s.spot ≠ t.spot
theorem getD_of {α : Type} [Inhabited α] {l : List α} {i : Nat} {t : α} (h : l[i]? = some t) : l.getD i default = t := by rw [List.getD_eq_getElem?_getD, h]; rfl
theorem Good.ids_up {W : Wd} (hG : Good W) {i j : Nat} {s t : Trp} (hij : i < j) (hs : W.troops[i]? = some s) (ht : W.troops[j]? = some t) : s.id < t.id := by
 induction j generalizing t with
 | zero => omega
 | succ j ih =>
  have hj := (List.getElem?_eq_some_iff.1 ht).1
  obtain ⟨u, hu⟩ := get_of (l := W.troops) (i := j) (by omega)
  have h1 := (hG.ids (j + 1) t ht).1
  have h2 : W.lastId (j + 1) = u.id := by
   unfold Wd.lastId
   rw [if_neg (by omega), Nat.add_sub_cancel, getD_of hu]
  rcases Nat.lt_succ_iff_lt_or_eq.1 hij with h | rfl
  ·have := ih h hu; omega
  ·rw [hs] at hu; injection hu with hu; subst hu; omega
theorem Good.pw {W : Wd} (hG : Good W) : W.troops.Pairwise Apart := by
 rw [List.pairwise_iff_getElem]
 intro i j hi hj hij
 have hs := List.getElem?_eq_getElem hi
 have ht := List.getElem?_eq_getElem hj
 refine ⟨hG.ids_up hij hs ht, λ e => ?_⟩
 have h1 := hG.spots j _ ht
 rw [← e] at h1
 have : (W.spots j).contains (W.troops[i]).spot = true := by
  rw [List.contains_iff_mem]
  unfold Wd.spots
  exact List.mem_map.2 ⟨_, List.mem_iff_getElem?.2 ⟨i, by rw [List.getElem?_take, if_pos hij, hs]⟩, rfl⟩
 rw [this] at h1
 exact nomatch h1
theorem Good.each {W : Wd} (hG : Good W) {t : Trp} (ht : t ∈ W.troops) : 0 < t.id ∧ t.id < W.next ∧ TroopOk W.field W.bases.length t := by
 obtain ⟨i, hi⟩ := List.mem_iff_getElem?.1 ht
 have h1 := hG.ids i t hi
 exact ⟨by omega, h1.2.1, hG.troops i t hi⟩
theorem Good.of_pw {W V : Wd} (hG : Good W) (hf : V.field = W.field) (hb : V.bases = W.bases) (hs : V.stocks = W.stocks) (hm : V.mines = W.mines) (hn : V.next = W.next) (ho : 0 ≤ V.now ∧ V.now ≤ 1000000) (hl : V.troops.length ≤ 100) (hP : V.troops.Pairwise Apart)
  (hall : ∀ t ∈ V.troops, 0 < t.id ∧ t.id < V.next ∧ TroopOk V.field V.bases.length t) : Good V where
 field := by rw [hf]; exact hG.field
 nb := by rw [hb]; exact hG.nb
 nt := hl
 sl := by rw [hs, hb]; exact hG.sl
 bases := by rw [hb, hf]; exact hG.bases
 stocks := by rw [hs]; exact hG.stocks
 ml := by rw [hm, hf]; exact hG.ml
 mines := by rw [hm, hf]; exact hG.mines
 troops := λ i t ht => (hall t (List.mem_of_getElem? ht)).2.2
 ids := λ i t ht => by
  have h1 := hall t (List.mem_of_getElem? ht)
  unfold Wd.lastId
  split
  ·exact ⟨h1.1, h1.2.1, Int.le_refl _⟩
  ·rename_i h0
   have hi := (List.getElem?_eq_some_iff.1 ht).1
   obtain ⟨u, hu⟩ := get_of (l := V.troops) (i := i - 1) (by omega)
   rw [getD_of hu]
   have h2 := hall u (List.mem_of_getElem? hu)
   have h3 := (List.pairwise_iff_getElem.1 hP) (i - 1) i (by omega) hi (by omega)
   have e1 : V.troops[i - 1]'(by omega) = u := (List.getElem?_eq_some_iff.1 hu).2
   have e2 : V.troops[i] = t := (List.getElem?_eq_some_iff.1 ht).2
   rw [e1, e2] at h3
   exact ⟨h3.1, h1.2.1, by omega⟩
 spots := λ i t ht => by
  rw [Bool.eq_false_iff]
  intro hc
  rw [List.contains_iff_mem] at hc
  unfold Wd.spots at hc
  obtain ⟨s, hs1, hs2⟩ := List.mem_map.1 hc
  obtain ⟨j, hj⟩ := List.mem_iff_getElem?.1 hs1
  rw [List.getElem?_take] at hj
  split at hj
  ·rename_i hji
   have hi := (List.getElem?_eq_some_iff.1 ht).1
   have h3 := (List.pairwise_iff_getElem.1 hP) j i (by omega) hi hji
   have e1 : V.troops[j]'(by omega) = s := (List.getElem?_eq_some_iff.1 hj).2
   have e2 : V.troops[i] = t := (List.getElem?_eq_some_iff.1 ht).2
   rw [e1, e2] at h3
   exact h3.2 hs2
  ·exact nomatch hj
 next := by rw [hn]; exact hG.next
 now := ho
end
section
open Go.RowKit
open Go.Proofs.Ytmpkaphcpaigdaa.Bv
theorem mark_T (a : Wd.At) (W : Wd) (w : World) (A : Option Addr) (c : Nat) (l : List Trp) (n : Nat) (hn : n = l.length) (hW : Wd.Has w a W) (hl : Trp.rep.SHas 56 w A c l) :
  Calls Try.prog 8 #[.agg #[.int .i64 W.field.wide, .int .i64 W.field.high, .slice a.P W.field.places.length a.p, .slice a.B W.bases.length a.b, .slice a.S W.stocks.length a.s, .slice a.M W.mines.length a.m, .slice A n c, .int .i64 W.next, .int .i64 W.now]] w (λ e w' => e = .returned (.tuple #[.int .u64 (U (markN { W with troops := l })), .int .i64 ({ W with troops := l }).chk]) ∧ Ext w w') := by
 subst hn
 exact mark_any { a with T := A, t := c } { W with troops := l } w ⟨hW.P, hW.B, hW.S, hW.M, hl, hW.nums⟩
theorem delM_T (w0 : World) (A : Option Addr) (c i j : Nat) (l : List Trp) (x y : Int) (hx : x = (i : Int)) (hy : y = (j : Int)) {w : World} (hx0 : Ext w0 w) (hO : Trp.rep.SOwn 37 56 w w0.heap.size (Rep.blkOf A) A c l) (hij : i < j) (hj : j ≤ l.length) :
  Calls Try.prog 10 #[.slice A l.length c, .int .i64 x, .int .i64 y] w (λ e w' => e = .returned (.slice A (l.take i ++ l.drop j).length c) ∧ Trp.rep.SOwn 37 56 w' w0.heap.size (Rep.blkOf A) A c (l.take i ++ l.drop j) ∧ Mod (Rep.blkOf A) w w') := by
 subst hx; subst hy
 exact delAt_T w0 A c i j l w hx0 hO hij hj
theorem chk_erase {W : Wd} (hc : W.chk = 0) (i : Nat) : ({ W with troops := W.troops.eraseIdx i }).chk = 0 := by
 have hG := Good.of_chk hc
 exact Good.chk (Good.of_pw (V := { W with troops := W.troops.eraseIdx i }) hG rfl rfl rfl rfl rfl hG.now (Nat.le_trans (List.length_eraseIdx_le _ _) hG.nt) (hG.pw.sublist (List.eraseIdx_sublist _ _)) (λ x hx => hG.each (List.mem_of_mem_eraseIdx hx)))
theorem xor_four (X A m B : BitVec 64) : (X ^^^ (A ^^^ (m ^^^ B))) ^^^ (X ^^^ (A ^^^ B)) = m := by
 apply BitVec.eq_of_getLsbD_eq
 intro k hk
 simp only [BitVec.getLsbD_xor]
 cases X.getLsbD k <;> cases A.getLsbD k <;> cases m.getLsbD k <;> cases B.getLsbD k <;> rfl
theorem xor_marks (X A B : List (BitVec 64)) (t : BitVec 64) : Mark.ofF Mark.mix (X ++ (A ++ (t :: B))) ^^^ Mark.ofF Mark.mix (X ++ (A ++ B)) = Mark.mix t := by
 rw [Mark.ofF_append, Mark.ofF_append, Mark.ofF_append, Mark.ofF_append, Mark.ofF_cons]
 exact xor_four _ _ _ _
theorem mkM_same {W V : Wd} (h : V.mines = W.mines) : ∀ k, mkM V k = mkM W k
 | 0 => rfl
 | k + 1 => by rw [mkM, mkM, mkM_same h k, h]
theorem mark_erase {W : Wd} {i : Nat} {t : Trp} (hc : W.chk = 0) (hce : ({ W with troops := W.troops.eraseIdx i }).chk = 0) (ht : W.troops[i]? = some t) : markN W ^^^ markN { W with troops := W.troops.eraseIdx i } = Mark.mix (leafN [4, t.id, t.owner, t.kind, t.spot.x, t.spot.y, t.life, t.load]) := by
 have hi := (List.getElem?_eq_some_iff.1 ht).1
 have e := (List.getElem?_eq_some_iff.1 ht).2
 have e1 : marks W = (marksB W W.bases.length ++ mkM W W.mines.length) ++ ((W.troops.take i).map mkT ++ (mkT t :: (W.troops.drop (i + 1)).map mkT)) := by
  unfold marks
  congr 1
  conv => lhs; rw [← List.take_append_drop i W.troops, List.drop_eq_getElem_cons hi, e]
  rw [List.map_append, List.map_cons]
 have e2 : marks { W with troops := W.troops.eraseIdx i } = (marksB W W.bases.length ++ mkM W W.mines.length) ++ ((W.troops.take i).map mkT ++ (W.troops.drop (i + 1)).map mkT) := by
  unfold marks
  rw [mkM_same (W := W) (V := { W with troops := W.troops.eraseIdx i }) rfl, List.eraseIdx_eq_take_drop_succ, List.map_append]
  rfl
 unfold markN
 rw [if_pos hc, if_pos hce, e1, e2]
 exact xor_marks _ _ _ _
theorem troopMark_A (a : Wd.At) (W : Wd) (p : Int) (w : World) (hW : Wd.Has w a W) (hc : W.chk ≠ 0) :
  Calls Try.prog 3 #[.agg ((Wd.cells a W).toArray), .int .i64 p] w (λ e w' => e = .returned (.bool true) ∧ Ext w w') := by
 have kc : (W.chk != 0) = true := by simpa using hc
 have kd : (W.chk == 0) = false := by simpa using hc
 have ke : ((U (markN W)) == 0) = true := by unfold markN; rw [if_neg hc]; rfl
 refine calls_W (n := 88) Try.func3 rfl rfl rfl ?_
 refine sg <| bx rfl rfl rfl rfl λ w_1 b_2 x_3 l_4 B_5 => ?_
 have := x_3.size
 have z_1 := Ext.tr (Ext.rf w) x_3
 have q_7 := B_5.lt
 refine va rfl <| nK <| sg <| vL (ld rfl (B_5.all eF2 eF3)) <| ca eF45 rfl rfl ((mark_any a W _ (hW.keep z_1)).mono ?_)
 rintro e w_8 ⟨rfl, x_9⟩
 refine ⟨_, rfl, ?_⟩
 have := x_9.size
 have z_8 := Ext.tr z_1 x_9
 refine vm rfl <| vL (ex rfl rfl) <| vL (ex rfl rfl) <| va rfl <| va rfl <| nK <| sq <| sg <| ca eF46 rfl rfl ((tlives_any _).mono ?_)
 rintro e w_11 ⟨rfl, x_12⟩
 refine ⟨_, rfl, ?_⟩
 have := x_12.size
 have z_11 := Ext.tr z_8 x_12
 refine vL (nt rfl) <| vm rfl <| ug rfl rfl rfl <| vm rfl <| ug rfl rfl rfl <| vL (bne rfl rfl) <| vL (pkF rfl (evb rfl kc)) <| vm rfl <| vQ (v := undef) rfl rfl rfl rfl (λ hc => nomatch hc) rfl <| vQ (v := undef) rfl rfl rfl rfl (λ hc => nomatch hc) rfl <| vL (pkT rfl rfl) <| vm rfl <| vQ (v := undef) rfl rfl rfl rfl (λ hc => nomatch hc) rfl <| vQ (v := undef) rfl rfl rfl rfl (λ hc => nomatch hc) rfl <| vQ (v := undef) rfl rfl rfl rfl (λ hc => nomatch hc) rfl <| vQ (v := undef) rfl rfl rfl rfl (λ hc => nomatch hc) rfl <| vQ (v := undef) rfl rfl rfl rfl (λ hc => nomatch hc) rfl <| vL (pkT rfl rfl) <| nK <| cT rfl <| sg <| ca eF46 rfl rfl ((tlives_any _).mono ?_)
 rintro e w_14 ⟨rfl, x_15⟩
 refine ⟨_, rfl, ?_⟩
 have := x_15.size
 have z_14 := Ext.tr z_11 x_15
 refine vm rfl <| ug rfl rfl rfl <| vm rfl <| ug rfl rfl rfl <| vL (beq rfl rfl) <| ug rfl rfl rfl <| vm (evb rfl kd) <| ug rfl rfl rfl <| vm rfl <| ug rfl rfl rfl <| vL (beq rfl rfl) <| ug rfl rfl rfl <| vL (pkF rfl (evb rfl ke)) <| vL (pkT rfl rfl) <| va rfl <| nK <| rt <| tT <| tR (.tmp rfl .nil) <| ?_
 exact ⟨rfl, z_14⟩
theorem troopMark_B (a : Wd.At) (W : Wd) (p : Int) (w : World) (hW : Wd.Has w a W) (hc : W.chk = 0) (hp : p < 0) :
  Calls Try.prog 3 #[.agg ((Wd.cells a W).toArray), .int .i64 p] w (λ e w' => e = .returned (.bool true) ∧ Ext w w') := by
 have kc : (W.chk != 0) = false := by simpa using hc
 have kd : (W.chk == 0) = true := by simpa using hc
 have kp : decide (p < 0) = true := decide_eq_true hp
 refine calls_W (n := 88) Try.func3 rfl rfl rfl ?_
 refine sg <| bx rfl rfl rfl rfl λ w_1 b_2 x_3 l_4 B_5 => ?_
 have := x_3.size
 have z_1 := Ext.tr (Ext.rf w) x_3
 have q_7 := B_5.lt
 refine va rfl <| nK <| sg <| vL (ld rfl (B_5.all eF2 eF3)) <| ca eF45 rfl rfl ((mark_any a W _ (hW.keep z_1)).mono ?_)
 rintro e w_8 ⟨rfl, x_9⟩
 refine ⟨_, rfl, ?_⟩
 have := x_9.size
 have z_8 := Ext.tr z_1 x_9
 refine vm rfl <| vL (ex rfl rfl) <| vL (ex rfl rfl) <| va rfl <| va rfl <| nK <| sq <| sg <| ca eF46 rfl rfl ((tlives_any _).mono ?_)
 rintro e w_11 ⟨rfl, x_12⟩
 refine ⟨_, rfl, ?_⟩
 have := x_12.size
 have z_11 := Ext.tr z_8 x_12
 refine vL (nt rfl) <| vm rfl <| ug rfl rfl rfl <| vm rfl <| ug rfl rfl rfl <| vL (bne rfl rfl) <| vL (pkF rfl (evb rfl kc)) <| vm rfl <| ug rfl rfl rfl <| vm rfl <| ug rfl rfl rfl <| vL (blt rfl rfl) <| vL (pkF rfl (evb rfl kp)) <| vm rfl <| vQ (v := undef) rfl rfl rfl rfl (λ hc => nomatch hc) rfl <| vQ (v := undef) rfl rfl rfl rfl (λ hc => nomatch hc) rfl <| vQ (v := undef) rfl rfl rfl rfl (λ hc => nomatch hc) rfl <| vQ (v := undef) rfl rfl rfl rfl (λ hc => nomatch hc) rfl <| vQ (v := undef) rfl rfl rfl rfl (λ hc => nomatch hc) rfl <| vL (pkT rfl rfl) <| nK <| cT rfl <| sq <| ?_
 refine rg <| ca eF46 rfl rfl ((tlives_any _).mono ?_)
 rintro e w_14 ⟨rfl, x_15⟩
 refine ⟨_, rfl, ?_⟩
 have := x_15.size
 have z_14 := Ext.tr z_11 x_15
 refine vm rfl <| ug rfl rfl rfl <| vm rfl <| ug rfl rfl rfl <| vL (beq rfl rfl) <| ug rfl rfl rfl <| vm (evb rfl kd) <| vQ (v := undef) rfl rfl rfl rfl (λ hc => nomatch hc) rfl <| vQ (v := undef) rfl rfl rfl rfl (λ hc => nomatch hc) rfl <| ug rfl rfl rfl <| vL (pkT rfl rfl) <| vL (pkT rfl rfl) <| va rfl <| nK <| rt <| tT <| tR (.tmp rfl .nil) <| ?_
 exact ⟨rfl, z_14⟩
theorem troopMark_D (a : Wd.At) (W : Wd) (p : Int) (w : World) (hW : Wd.Has w a W) (hc : W.chk = 0) (h0 : ¬ p < 0) (hp : (W.troops.length : Int) ≤ p) :
  Calls Try.prog 3 #[.agg ((Wd.cells a W).toArray), .int .i64 p] w (λ e w' => e = .returned (.bool true) ∧ Ext w w') := by
 have kc : (W.chk != 0) = false := by simpa using hc
 have kd : (W.chk == 0) = true := by simpa using hc
 have kp : decide (p < 0) = false := decide_eq_false (by omega)
 have kq : decide ((W.troops.length : Int) ≤ p) = true := decide_eq_true hp
 refine calls_W (n := 88) Try.func3 rfl rfl rfl ?_
 refine sg <| bx rfl rfl rfl rfl λ w_1 b_2 x_3 l_4 B_5 => ?_
 have := x_3.size
 have z_1 := Ext.tr (Ext.rf w) x_3
 have q_7 := B_5.lt
 refine va rfl <| nK <| sg <| vL (ld rfl (B_5.all eF2 eF3)) <| ca eF45 rfl rfl ((mark_any a W _ (hW.keep z_1)).mono ?_)
 rintro e w_8 ⟨rfl, x_9⟩
 refine ⟨_, rfl, ?_⟩
 have := x_9.size
 have z_8 := Ext.tr z_1 x_9
 refine vm rfl <| vL (ex rfl rfl) <| vL (ex rfl rfl) <| va rfl <| va rfl <| nK <| sq <| sg <| ca eF46 rfl rfl ((tlives_any _).mono ?_)
 rintro e w_11 ⟨rfl, x_12⟩
 refine ⟨_, rfl, ?_⟩
 have := x_12.size
 have z_11 := Ext.tr z_8 x_12
 refine vL (nt rfl) <| vm rfl <| ug rfl rfl rfl <| vm rfl <| ug rfl rfl rfl <| vL (bne rfl rfl) <| vL (pkF rfl (evb rfl kc)) <| vm rfl <| ug rfl rfl rfl <| vm rfl <| ug rfl rfl rfl <| vL (blt rfl rfl) <| vL (pkF rfl (evb rfl kp)) <| vm rfl <| ug rfl rfl rfl <| vm rfl <| ug rfl rfl rfl <| vL (fa eF24 rfl) <| ug rfl rfl rfl <| ?_
 have B_5 := B_5.later (Ext.tr x_9 x_12)
 refine vL (ld rfl (B_5.one eF25 rfl)) <| ug rfl rfl rfl <| vL (ln Try.underlying26 rfl) <| ug rfl rfl rfl <| vL (bge rfl rfl) <| vL (pkF rfl (evb rfl kq)) <| nK <| cT rfl <| sg <| ca eF46 rfl rfl ((tlives_any _).mono ?_)
 rintro e w_14 ⟨rfl, x_15⟩
 refine ⟨_, rfl, ?_⟩
 have := x_15.size
 have z_14 := Ext.tr z_11 x_15
 refine vm rfl <| ug rfl rfl rfl <| vm rfl <| ug rfl rfl rfl <| vL (beq rfl rfl) <| ug rfl rfl rfl <| vm (evb rfl kd) <| vQ (v := undef) rfl rfl rfl rfl (λ hc => nomatch hc) rfl <| vQ (v := undef) rfl rfl rfl rfl (λ hc => nomatch hc) rfl <| ug rfl rfl rfl <| vL (pkT rfl rfl) <| vL (pkT rfl rfl) <| va rfl <| nK <| rt <| tT <| tR (.tmp rfl .nil) <| ?_
 exact ⟨rfl, z_14⟩
theorem troopMark_C (a : Wd.At) (W : Wd) (i : Nat) (w : World) (hW : Wd.Has w a W) (hc : W.chk = 0) (hi : i < W.troops.length) :
  Calls Try.prog 3 #[.agg ((Wd.cells a W).toArray), .int .i64 (i : Int)] w (λ e w' => e = .returned (.bool true) ∧ Ext w w') := by
 have kc : (W.chk != 0) = false := by simpa using hc
 have kd : (W.chk == 0) = true := by simpa using hc
 have kp : decide ((i : Int) < 0) = false := decide_eq_false (by omega)
 have kq : decide ((W.troops.length : Int) ≤ (i : Int)) = false := decide_eq_false (by omega)
 have hce := chk_erase hc i
 have kf : (({ W with troops := W.troops.eraseIdx i }).chk == 0) = true := by rw [hce]; rfl
 obtain ⟨t, ht⟩ : ∃ t, W.troops.getD i default = t := ⟨_, rfl⟩
 have hti : W.troops[i]? = some t := by rw [← ht]; exact get_d (by omega)
 obtain ⟨o1, o2, o3, o4, o5, o6, o7⟩ : okI t.id ∧ okI t.owner ∧ okI t.kind ∧ okI t.spot.x ∧ okI t.spot.y ∧ okI t.life ∧ okI t.load := Trp.all_ok hW.T t (by rw [← ht]; exact mem_dd (by omega))
 have hkm := mark_erase hc hce hti
 have hqi : (i : Int) = (i : Int) := rfl
 have hnt := (Good.of_chk hc).nt
 refine calls_W (n := 88) Try.func3 rfl rfl rfl ?_
 refine sg <| bx rfl rfl rfl rfl λ w_1 b_2 x_3 l_4 B_5 => ?_
 have := x_3.size
 have z_1 := Ext.tr (Ext.rf w) x_3
 have q_7 := B_5.lt
 refine va rfl <| nK <| sg <| vL (ld rfl (B_5.all eF2 eF3)) <| ca eF45 rfl rfl ((mark_any a W _ (hW.keep z_1)).mono ?_)
 rintro e w_8 ⟨rfl, x_9⟩
 refine ⟨_, rfl, ?_⟩
 have := x_9.size
 have z_8 := Ext.tr z_1 x_9
 refine vm rfl <| vL (ex rfl rfl) <| vL (ex rfl rfl) <| va rfl <| va rfl <| nK <| sq <| sg <| ca eF46 rfl rfl ((tlives_any _).mono ?_)
 rintro e w_11 ⟨rfl, x_12⟩
 refine ⟨_, rfl, ?_⟩
 have := x_12.size
 have z_11 := Ext.tr z_8 x_12
 refine vL (nt rfl) <| vm rfl <| ug rfl rfl rfl <| vm rfl <| ug rfl rfl rfl <| vL (bne rfl rfl) <| vL (pkF rfl (evb rfl kc)) <| vm rfl <| ug rfl rfl rfl <| vm rfl <| ug rfl rfl rfl <| vL (blt rfl rfl) <| vL (pkF rfl (evb rfl kp)) <| vm rfl <| ug rfl rfl rfl <| vm rfl <| ug rfl rfl rfl <| vL (fa eF24 rfl) <| ug rfl rfl rfl <| ?_
 have B_5 := B_5.later (Ext.tr x_9 x_12)
 refine vL (ld rfl (B_5.one eF25 rfl)) <| ug rfl rfl rfl <| vL (ln Try.underlying26 rfl) <| ug rfl rfl rfl <| vL (bge rfl rfl) <| vL (pkF rfl (evb rfl kq)) <| nK <| cF rfl <| sK <| sg <| vL (fa eF24 rfl) <| vL (ld rfl (B_5.one eF25 rfl)) <| vm rfl <| vL (iA i Try.underlying26 eF26 rfl rfl ((hW.T.keep z_11).adr (Nat.zero_lt_of_lt (show i < _ from (by omega)))) rfl (by omega)) <| vL (ld rfl (Rep.SHas.elt hcT ((hW.T.keep z_11).adh (Nat.zero_lt_of_lt (show i < _ from (by omega)))) hti eF27 eF26)) <| al rfl eF28 rfl rfl λ w_14 b_15 x_16 l_17 B_18 => ?_
 have := x_16.size
 have z_14 := Ext.tr z_11 x_16
 have q_20 := B_18.lt
 refine st (new := [.int .i64 t.id, .int .i64 t.owner, .int .i64 t.kind, .int .i64 t.spot.x, .int .i64 t.spot.y, .int .i64 t.life, .int .i64 t.load]) rfl rfl B_18 rfl eF26 rfl rfl rfl λ w_21 m_22 B_18 => ?_
 have := m_22.size
 have z_21 := Ext.mod z_14 m_22 (ge1 (by omega))
 have := m_22.size
 refine nK <| sg <| ?_
 have B_5 := B_5.later x_16
 have B_5 := B_5.mod m_22 (nm1 (by omega))
 refine vL (ld rfl (B_5.all eF2 eF3)) <| al rfl eF47 rfl rfl λ w_25 b_26 x_27 l_28 B_29 => ?_
 have := x_27.size
 have z_25 := Ext.tr z_21 x_27
 have q_31 := B_29.lt
 refine st rfl rfl B_29 rfl eF3 rfl rfl rfl λ w_32 m_33 B_29 => ?_
 have := m_33.size
 have z_32 := Ext.mod z_25 m_33 (ge1 (by omega))
 have := m_33.size
 refine nK <| sg <| vL (fa eF24 rfl) <| ?_
 have B_5 := B_5.later x_27
 have B_5 := B_5.mod m_33 (nm1 (by omega))
 refine vL (ld rfl (B_5.one eF25 rfl)) <| ca eF48 rfl rfl ((clone_T _ _ W.troops _ (hW.T.keep z_32)).mono ?_)
 rintro e w_39 ⟨A_36, c_36, rfl, OC_36, hn_36, x_40⟩
 refine ⟨_, rfl, ?_⟩
 have := x_40.size
 have z_39 := Ext.tr z_32 x_40
 have u_37 := λ q hq => (OC_36.lt q hq).2
 have lo_38 := λ q hq => (OC_36.lt q hq).1
 refine vm rfl <| vm rfl <| vL (bad rfl rfl (inI (by omega))) <| ca eF49 rfl rfl ((delM_T w_32 _ _ i (i + 1) _ _ _ hqi (by omega) (by first | exact Ext.rf _ | assumption) OC_36 (by omega) (by omega)).mono ?_)
 rintro e w_44 ⟨rfl, OE_42, m_43⟩
 refine ⟨_, rfl, ?_⟩
 have := m_43.size
 have z_44 := Ext.mod z_39 m_43 (λ q hq => by have := (OC_36.lt q hq).1; omega)
 refine vL (fa eF24 rfl) <| ?_
 have B_29 := B_29.later x_40
 have d_46 : ∀ q ∈ Rep.blkOf A_36, q = b_26 → False := λ q hq hb => by (have := lo_38 q hq; omega)
 have B_29 := B_29.mod m_43 (λ hq => d_46 _ hq rfl)
 refine st (new := [.int .i64 W.field.wide, .int .i64 W.field.high, .slice a.P W.field.places.length a.p, .slice a.B W.bases.length a.b, .slice a.S W.stocks.length a.s, .slice a.M W.mines.length a.m, .slice A_36 ((W.troops.take i ++ W.troops.drop (i + 1)).length) c_36, .int .i64 W.next, .int .i64 W.now]) rfl rfl B_29 rfl eF50 rfl rfl rfl λ w_47 m_48 B_29 => ?_
 have := m_48.size
 have z_47 := Ext.mod z_44 m_48 (ge1 (by omega))
 have := m_48.size
 refine nK <| sg <| vL (ld rfl (B_29.all eF2 eF3)) <| ?_
 have OE_42 := OE_42.mod m_48 (λ q hq h => by have hb := List.mem_singleton.1 h; exfalso; (exact d_46 q hq hb))
 refine ca eF45 rfl rfl ((mark_T a W _ A_36 c_36 (W.troops.eraseIdx i) _ (by rw [List.eraseIdx_eq_take_drop_succ]) (hW.keep z_47) (show Trp.rep.SHas 56 _ _ _ (W.troops.eraseIdx i) from (by rw [List.eraseIdx_eq_take_drop_succ]; exact OE_42.has))).mono ?_)
 rintro e w_51 ⟨rfl, x_52⟩
 refine ⟨_, rfl, ?_⟩
 have := x_52.size
 have z_51 := Ext.tr z_47 x_52
 refine vm rfl <| vL (ex rfl rfl) <| vL (ex rfl rfl) <| va rfl <| va rfl <| nK <| sg <| vm rfl <| vL (beq rfl rfl) <| vm (evb rfl kf) <| ug rfl rfl rfl <| vm rfl <| ug rfl rfl rfl <| vm rfl <| ug rfl rfl rfl <| vL (uxor rfl rfl (Tree.xor_num (markN W) (markN ({ W with troops := W.troops.eraseIdx i })))) <| ug rfl rfl rfl <| vL (fa eF29 rfl) <| ug rfl rfl rfl <| ?_
 have B_18 := B_18.later x_27
 have B_18 := B_18.mod m_33 (nm1 (by omega))
 have B_18 := B_18.later x_40
 have d_54 : ∀ q ∈ Rep.blkOf A_36, q = b_15 → False := λ q hq hb => by (have := lo_38 q hq; omega)
 have B_18 := B_18.mod m_43 (λ hq => d_54 _ hq rfl)
 have B_18 := B_18.mod m_48 (nm1 (by omega))
 have B_18 := B_18.later x_52
 refine vL (ld rfl (B_18.one eF7 rfl)) <| ug rfl rfl rfl <| vL (fa eF30 rfl) <| ug rfl rfl rfl <| vL (ld rfl (B_18.one eF7 rfl)) <| ug rfl rfl rfl <| vL (fa eF31 rfl) <| ug rfl rfl rfl <| vL (ld rfl (B_18.one eF7 rfl)) <| ug rfl rfl rfl <| vL (fa eF32 rfl) <| ug rfl rfl rfl <| vL (fa eF19 rfl) <| ug rfl rfl rfl <| vL (ld rfl (B_18.one eF7 rfl)) <| ug rfl rfl rfl <| vL (fa eF32 rfl) <| ug rfl rfl rfl <| vL (fa eF20 rfl) <| ug rfl rfl rfl <| vL (ld rfl (B_18.one eF7 rfl)) <| ug rfl rfl rfl <| vL (fa eF33 rfl) <| ug rfl rfl rfl <| ?_
 refine vL (ld rfl (B_18.one eF7 rfl)) <| ug rfl rfl rfl <| vL (fa eF34 rfl) <| ug rfl rfl rfl <| vL (ld rfl (B_18.one eF7 rfl)) <| ug rfl rfl rfl <| bs (e := 3) (cs := [.int .i64 4, .int .i64 t.id, .int .i64 t.owner, .int .i64 t.kind, .int .i64 t.spot.x, .int .i64 t.spot.y, .int .i64 t.life, .int .i64 t.load]) rfl (λ _ => by kernel_rfl) rfl λ w_55 b_56 x_57 l_58 B_59 => ?_
 have := x_57.size
 have z_55 := Ext.tr z_51 x_57
 have q_61 := B_59.lt
 refine ug rfl rfl rfl <| ca eF51 rfl rfl ((leafN_any ([4, t.id, t.owner, t.kind, t.spot.x, t.spot.y, t.life, t.load]) _ _ _ (Blk.hasN (R := repI) (by_ := 8) (k := [4, t.id, t.owner, t.kind, t.spot.x, t.spot.y, t.life, t.load]) B_59 [[.int .i64 4], [.int .i64 t.id], [.int .i64 t.owner], [.int .i64 t.kind], [.int .i64 t.spot.x], [.int .i64 t.spot.y], [.int .i64 t.life], [.int .i64 t.load]] rfl (⟨⟨rfl, okI_iff.2 (by decide)⟩, ⟨⟨rfl, o1⟩, ⟨⟨rfl, o2⟩, ⟨⟨rfl, o3⟩, ⟨⟨rfl, o4⟩, ⟨⟨rfl, o5⟩, ⟨⟨rfl, o6⟩, ⟨⟨rfl, o7⟩, trivial⟩⟩⟩⟩⟩⟩⟩⟩) (by simp) (by simp))).mono ?_)
 rintro e w_62 ⟨rfl, x_63⟩
 refine ⟨_, rfl, ?_⟩
 have := x_63.size
 have z_62 := Ext.tr z_55 x_63
 refine ug rfl rfl rfl <| ca eF41 rfl rfl ((mixed_any (leafN ([4, t.id, t.owner, t.kind, t.spot.x, t.spot.y, t.life, t.load])) _).mono ?_)
 rintro e w_65 ⟨rfl, x_66⟩
 refine ⟨_, rfl, ?_⟩
 have := x_66.size
 have z_65 := Ext.tr z_62 x_66
 refine ug rfl rfl rfl <| vL (beq rfl rfl) <| vL (pkT rfl rfl) <| va rfl <| nK <| rt <| tR (.tmp rfl .nil) <| ?_
 exact ⟨ret_true (by rw [beq_iff_eq]; exact congrArg U hkm), z_65⟩
theorem troopMark_any (c0 : Array Value) (a1 : Int) (w : World) (h0 : (.cons (.cons (.int .i64) (.cons (.int .i64) (.cons (.slice (.int .i64) 8) .nil))) (.cons (.slice (.cons (.int .i64) (.cons (.int .i64) .nil)) 16) (.cons (.slice (.int .i64) 8) (.cons (.slice (.int .i64) 8) (.cons (.slice (.cons (.int .i64) (.cons (.int .i64) (.cons (.int .i64) (.cons (.cons (.int .i64) (.cons (.int .i64) .nil)) (.cons (.int .i64) (.cons (.int .i64) .nil)))))) 56) (.cons (.int .i64) (.cons (.int .i64) .nil)))))) : Sh).Ok w c0.toList) (w1 : (Lit.int .i64 a1).wf = true) :
  Calls Try.prog 3 #[.agg c0, .int .i64 a1] w λ e w' => e = .returned (.bool true) ∧ Below w.heap.size w w' := by
 obtain ⟨a, W, e, hW⟩ := Wd.opens w _ (show Wd.sh.Ok w c0.toList from h0)
 have hc : c0 = (Wd.cells a W).toArray := by rw [← e]
 subst hc
 by_cases hc : W.chk = 0
 ·by_cases h0 : a1 < 0
  ·exact troopMark_B a W a1 w hW hc h0
  ·by_cases h1 : (W.troops.length : Int) ≤ a1
   ·exact troopMark_D a W a1 w hW hc h0 h1
   ·have e1 : a1 = ((a1.toNat : Nat) : Int) := by omega
    rw [e1]
    exact troopMark_C a W a1.toNat w hW hc (by omega)
 ·exact troopMark_A a W a1 w hW hc
end
end Go.Proofs.Ytmpkaphcpaigdaa
