/-
  troop.Near. (Printed by bin/troJ.py.)
-/
import Derived.Test.YthjolbdjokopnaaTroI
set_option linter.unusedVariables false
namespace Go.Proofs.Ythjolbdjokopnaa
open Go.RowKit

theorem apart_any (n m r : Int) (w : World) (h1 : 0 ≤ m) (h2 : m ≤ 40) (h3 : 0 ≤ r) (h4 : r ≤ 12) : Calls Try.prog 59 #[.int .i64 n, .int .i64 m, .int .i64 r] w fun e w' => e = .returned (.bool (!inB n (m - r) (m + r))) ∧ w = w' := by
  rcases Int.lt_or_le n (m - r) with h | h
  · rw [inB_not (.inl h)]
    have hd : decide (n < m - r) = true := by simpa using h
    go_enter Try.func59, Try.ntmps59
    go_wp2
    go_ret
    exact ⟨rfl, rfl⟩
  · have hd : decide (n < m - r) = false := by simpa using h
    rcases Int.lt_or_le (m + r) n with h5 | h5
    · rw [inB_not (.inr h5)]
      go_enter Try.func59, Try.ntmps59
      go_wp2
      go_ret
      exact ⟨ret_bool (by simp <;> omega), rfl⟩
    · rw [inB_mk h h5]
      go_enter Try.func59, Try.ntmps59
      go_wp2
      go_ret
      exact ⟨ret_bool (by simp <;> omega), rfl⟩
def nearT (c : Cel) (r : Int) (t : Trp) : Bool := inB c.x (t.spot.x - r) (t.spot.x + r) && inB c.y (t.spot.y - r) (t.spot.y + r)
def nearIds (W : Wd) (c : Cel) (r : Int) : List Int := (W.troops.filter (nearT c r)).map (·.id)
def nearE (W : Wd) (r : Int) : Int := if W.chk ≠ 0 then W.chk else if inB r 0 12 then 0 else 1
/-- What Near tells: a list of one's own. -/
def NearPost (W : Wd) (c : Cel) (r : Int) (w : World) (e : Ending) (w' : World) : Prop :=
  ∃ (A : Option Addr) (k : Nat) (l : List Int) (f : List Nat), e = .returned (.tuple #[.slice A l.length k, .int .i64 (nearE W r)]) ∧ l = (if nearE W r = 0 then nearIds W c r else []) ∧ repI.SOwn 3 8 w' w.heap.size f A k l ∧ Below w.heap.size w w'
theorem zI : ∀ (j : Nat) u, (Value.int .i64 0).cells[j]? = some u → repI.raw j u := by
  intro j u hu
  have hu : (#[Value.int .i64 0] : Array Value)[j]? = some u := hu
  match j, hu with
  | 0, hu => exact ⟨0, (Option.some.inj hu).symm⟩
  | j + 1, hu => cases hu
theorem good_spots {W : Wd} (h : W.chk = 0) : W.field.chk = 0 ∧ W.bases.length ≤ 8 ∧ W.troops.length ≤ 100 ∧ W.players = true ∧ W.minesOk = true ∧ W.troopsOk = true := by
  by_cases h1 : W.field.chk = 0
  · by_cases h2 : 8 < W.bases.length ∨ 100 < W.troops.length
    · rw [Wd.chk_large h1 h2] at h; cases h
    · rw [Wd.chk_all h1 h2] at h
      split at h
      · rename_i h3
        rw [Bool.and_eq_true, Bool.and_eq_true] at h3
        exact ⟨h1, by omega, by omega, h3.1.1, h3.1.2, h3.2⟩
      · cases h
  · rw [Wd.chk_field h1] at h; exact absurd h h1
theorem good_troop {W : Wd} (h : W.chk = 0) {k : Nat} {t : Trp} (ht : W.troops[k]? = some t) : W.field.ground t.spot = true ∧ inB t.kind 1 2 = true ∧ inB t.owner 0 ((W.bases.length : Int) - 1) = true ∧ inB t.life 1 (Wd.lifeOf t.kind) = true ∧ inB t.load 0 (Wd.mostOf t.kind) = true ∧ (W.spots k).contains t.spot = false ∧ inB t.id (wrap64 (W.lastId k + 1)) (wrap64 (W.next - 1)) = true := by
  obtain ⟨h0, _, _, _, _, h6⟩ := good_spots h
  unfold Wd.troopsOk at h6
  rw [Bool.and_eq_true, List.all_eq_true] at h6
  have hk := (List.getElem?_eq_some_iff.1 ht).1
  have h7 := h6.1 k (List.mem_range.2 hk)
  unfold Wd.okTroop Wd.okOne at h7
  rw [List.getD_eq_getElem?_getD, ht] at h7
  simp only [Option.getD_some, Bool.and_eq_true, Bool.not_eq_true'] at h7
  obtain ⟨⟨⟨⟨⟨⟨a1, a2⟩, a3⟩, a4⟩, a5⟩, a6⟩, a7⟩ := h7
  exact ⟨a4, a1, a3, a5, a6, a7, a2⟩
set_option maxRecDepth 100000 in
set_option maxHeartbeats 4000000 in
theorem near_any (p : Cel) (r : Int) (a : Wd.At) (W : Wd) (w : World) (hW : Wd.Has w a W) :
    Calls Try.prog 40 #[.agg (Wd.cells a W).toArray, .agg #[.int .i64 p.x, .int .i64 p.y], .int .i64 r] w (NearPost W p r w) := by
  have hch := fun V (h : Wd.Has V a W) => check_any a W V h
  obtain ⟨aP, aB, aS, aM, aT, kP, kB, kS, kM, kT⟩ := a
  show Calls _ _ #[.agg #[.int .i64 W.field.wide, .int .i64 W.field.high, .slice aP W.field.places.length kP, .slice aB W.bases.length kB, .slice aS W.stocks.length kS, .slice aM W.mines.length kM, .slice aT W.troops.length kT, .int .i64 W.next, .int .i64 W.now], .agg #[.int .i64 p.x, .int .i64 p.y], .int .i64 r] _ _
  have hb0 := below_alloc0 w (.cells (Wd.cells ⟨aP, aB, aS, aM, aT, kP, kB, kS, kM, kT⟩ W).toArray 81)
  have HA := Lib.hid (Blk.new w (Wd.cells ⟨aP, aB, aS, aM, aT, kP, kB, kS, kM, kT⟩ W) 81 (0, 0))
  have HH := Lib.hid (hW.keep hb0)
  obtain ⟨w0, HW0⟩ : ∃ w0, Hid (w.alloc (.cells (Wd.cells ⟨aP, aB, aS, aM, aT, kP, kB, kS, kM, kT⟩ W).toArray 81) = w0) := ⟨_, Lib.hid rfl⟩
  rw [HW0.out] at hb0 HH
  have HA : Hid (Blk w0 w.heap.size (Wd.cells ⟨aP, aB, aS, aM, aT, kP, kB, kS, kM, kT⟩ W) 81 (0, 0)) := by rw [← HW0.out]; exact HA
  have hbB := below_alloc0 w0 (.cells #[.int .i64 p.x, .int .i64 p.y] 85)
  have hBB := Blk.new w0 [.int .i64 p.x, .int .i64 p.y] 85 (0, 0)
  have hsz0 : w0.heap.size = w.heap.size + 1 := by rw [← HW0.out]; simp
  rw [hsz0] at hBB
  obtain ⟨w1, HWB⟩ : ∃ w1, Hid (w0.alloc (.cells #[.int .i64 p.x, .int .i64 p.y] 85) = w1) := ⟨_, Lib.hid rfl⟩
  rw [HWB.out] at hbB
  have hBB : Blk w1 (w.heap.size + 1) p.cells 85 (0, 0) := by rw [← HWB.out]; exact hBB
  have HBB := Lib.hid hBB
  have HA1 := Lib.hid (HA.out.later hbB)
  have HCH := Lib.hid (hch w1 (HH.out.keep hbB))
  rw [Wd.cells_eq] at HCH
  have HCH : Hid (Calls Try.prog 57 #[.agg #[.int .i64 W.field.wide, .int .i64 W.field.high, .slice aP W.field.places.length kP, .slice aB W.bases.length kB, .slice aS W.stocks.length kS, .slice aM W.mines.length kM, .slice aT W.troops.length kT, .int .i64 W.next, .int .i64 W.now]] w1 fun e w' => e = .returned (.int .i64 W.chk) ∧ Below w1.heap.size w1 w') := HCH
  have HW1 : Hid (w.alloc (.cells #[.int .i64 W.field.wide, .int .i64 W.field.high, .slice aP W.field.places.length kP, .slice aB W.bases.length kB, .slice aS W.stocks.length kS, .slice aM W.mines.length kM, .slice aT W.troops.length kT, .int .i64 W.next, .int .i64 W.now] 81) = w0) := by rw [← HW0.out]; rfl
  have HHT : Hid (Trp.rep.SHas 56 w1 aT kT W.troops) := Lib.hid (HH.out.keep hbB).T
  obtain ⟨c0, c1, c2, c3, c4, c5, c6, c7, c8⟩ := Wd.wblk HA1.out
  have hb01 := hb0.trans (hbB.mono hb0.size)
  clear hW hch hBB
  by_cases h0 : W.chk = 0
  · cases hr : inB r 0 12 with
    | false =>
      have HE : Hid (nearE W r = 1) := Lib.hid (by unfold nearE; rw [h0, hr]; rfl)
      have HR := Lib.hid hr
      rw [h0] at HCH
      clear hr h0
      generalize W.field.places.length = np at *
      generalize W.bases.length = nb at *
      generalize W.stocks.length = ns at *
      generalize W.mines.length = nm at *
      generalize W.troops.length = nt at *
      go_enter Try.func40, Try.ntmps40
      go_wp2_with fail
      rw [HW1.out, HWB.out]
      go_wp2_with fail
      refine HCH.out.mono ?_; rintro e w2 ⟨rfl, hb2⟩
      go_wp2_with fail
      refine (within_v HR.out _).mono ?_; rintro e w' ⟨rfl, rfl⟩
      go_wp2_with fail
      go_ret2
      exact ⟨none, 0, [], [], by rw [HE.out]; rfl, by rw [HE.out]; rfl, Rep.SOwn.nil _, hb01.trans (hb2.mono hb01.size)⟩
    | true =>
      have HE : Hid (nearE W r = 0) := Lib.hid (by unfold nearE; rw [h0, hr]; rfl)
      have HR := Lib.hid hr
      have hrb := inB_true hr
      have HC0 := Lib.hid h0
      rw [h0] at HCH
      obtain ⟨nt, HNT⟩ : ∃ n, Hid (W.troops.length = n) := ⟨_, Lib.hid rfl⟩
      have h100 : nt ≤ 100 := by rw [← HNT.out]; exact (good_spots h0).2.2.1
      clear hr h0
      rw [HNT.out] at HCH c6 HW1
      obtain ⟨i0, hi, hz0, hz1, hz2⟩ := info_parts info_int
      have hbb : Below w.heap.size w w1 := hb01
      go_enter Try.func40, Try.ntmps40
      rw [HNT.out]
      go_wp2_with fail
      rw [HW1.out, HWB.out]
      go_wp2_with fail
      refine HCH.out.mono ?_; rintro e w2 ⟨rfl, hb2⟩
      have d6 := cell_later hb2 c6
      have HBB2 := Lib.hid (HBB.out.later hb2)
      have HHT2 := Lib.hid (HHT.out.keep hb2)
      have hb02 := hbb.trans (hb2.mono hbb.size)
      clear c0 c1 c2 c3 c4 c5 c6 c7 c8
      go_wp2_with fail
      refine (within_v HR.out _).mono ?_; rintro e w' ⟨rfl, rfl⟩
      go_wp2_with fail
      clear d6
      go_loopw [9, 11, 23] (fun v _ iv wr => ∃ (k : Nat) (A : Option Addr) (c : Nat) (l : List Int) (f : List Nat), k ≤ nt ∧ iv = .int .i64 (k : Int) ∧ v = .slice A l.length c ∧ Hid (repI.SOwn 3 8 wr w2.heap.size f A c l) ∧ Hid (l = ((W.troops.take k).filter (nearT p r)).map (·.id)) ∧ l.length ≤ k ∧ Below w2.heap.size w2 wr) (fun _ _ iv _ => nt - (intOf iv).toNat)
      case atStart => exact ⟨0, none, 0, [], [], Nat.zero_le _, rfl, rfl, Rep.SOwn.nil _, rfl, Nat.le_refl _, Below.refl _ _⟩
      case round =>
        obtain ⟨k, A, c, l, f, hk, rfl, rfl, HSO, HL, hll, hb⟩ := hrel
        by_cases hlt : k < nt
        · obtain ⟨t, ht⟩ := get_of (l := W.troops) (i := k) (by rw [HNT.out]; exact hlt)
          have hHT := HHT2.out.keep hb
          obtain ⟨b, o, rfl, hcell⟩ := Trp.at_ hHT (by rw [HNT.out]; omega)
          obtain ⟨p0, p1, p2, p3, p4, p5, p6⟩ := hcell k t ht
          have htake : W.troops.take (k + 1) = W.troops.take k ++ [t] := by
            rw [List.take_succ_eq_append_getElem (by rw [HNT.out]; exact hlt)]
            rw [List.getElem?_eq_getElem (by rw [HNT.out]; exact hlt)] at ht
            rw [Option.some.inj ht]
          obtain ⟨g1, g2, _⟩ := good_troop HC0.out ht
          obtain ⟨i1, i2, i3, i4, i5, i6⟩ := Fld.idx (good_spots HC0.out).1 (Fld.ground_in g1)
          obtain ⟨y1, y2, y3, y4, _, _⟩ := Fld.good (good_spots HC0.out).1
          have hok : t.ok := Trp.all_ok hHT t (List.mem_of_getElem? ht)
          have HTAKE := Lib.hid htake
          have hb1 := below_alloc0 wr (.cells #[.int .i64 t.id, .int .i64 t.owner, .int .i64 t.kind, .int .i64 t.spot.x, .int .i64 t.spot.y, .int .i64 t.life, .int .i64 t.load] 87)
          have hBT := Blk.new wr t.cells 87 (0, 0)
          obtain ⟨w3, HW3⟩ : ∃ w3, Hid (wr.alloc (.cells #[.int .i64 t.id, .int .i64 t.owner, .int .i64 t.kind, .int .i64 t.spot.x, .int .i64 t.spot.y, .int .i64 t.life, .int .i64 t.load] 87) = w3) := ⟨_, Lib.hid rfl⟩
          rw [HW3.out] at hb1
          have hBT : Blk w3 wr.heap.size t.cells 87 (0, 0) := by rw [← HW3.out]; exact hBT
          obtain ⟨t0, t1, t2, t3, t4, t5, t6⟩ := Trp.blk hBT
          obtain ⟨r0, r1⟩ := Cel.blk ((HBB2.out.later hb).later hb1)
          obtain ⟨s0, s1⟩ := Cel.blk (HBB2.out.later hb)
          have hszr : w.heap.size + 1 < wr.heap.size := (HBB2.out.later hb).lt
          have HAP1 := Lib.hid (fun V => apart_any p.x t.spot.x r V (by omega) (by omega) hrb.1 hrb.2)
          have HAP2 := Lib.hid (fun V => apart_any p.y t.spot.y r V (by omega) (by omega) hrb.1 hrb.2)
          have HSO3 := Lib.hid (HSO.out.later hb1)
          have hb23 := hb.trans (hb1.mono hb.size)
          have hki : (k : Int) < (nt : Int) := by omega
          have hk0 : (0 : Int) ≤ (k : Int) := by omega
          have hnear : nearT p r t = (inB p.x (t.spot.x - r) (t.spot.x + r) && inB p.y (t.spot.y - r) (t.spot.y + r)) := rfl
          have HNEAR := Lib.hid hnear
          have HOK := Lib.hid hok
          clear hHT hcell ht htake hBT g1 g2 i1 i2 i3 i4 i5 i6 y1 y2 y3 y4 hok hnear
          cases h1 : inB p.x (t.spot.x - r) (t.spot.x + r) with
          | false =>
            rw [h1] at HAP1
            simp only [Bool.not_false, Bool.not_true] at HAP1
            have HL2 : Hid (l = ((W.troops.take (k + 1)).filter (nearT p r)).map (·.id)) := Lib.hid (by
              rw [HTAKE.out, List.filter_append, List.map_append, ← HL.out]
              simp [HNEAR.out, h1])
            clear h1
            go_wp2_with fail
            rw [HW3.out]
            go_wp2_with fail
            refine (HAP1.out _).mono ?_; rintro e w' ⟨rfl, rfl⟩
            go_wp2_with fail
            go_roundw
            case rel => exact ⟨k + 1, A, c, l, f, by omega, by go_num, rfl, HSO3, HL2, by omega, hb23⟩
            case measure => simp [intOf]; omega
          | true =>
            rw [h1] at HAP1
            cases h2 : inB p.y (t.spot.y - r) (t.spot.y + r) with
            | false =>
              rw [h2] at HAP2
              have HL2 : Hid (l = ((W.troops.take (k + 1)).filter (nearT p r)).map (·.id)) := Lib.hid (by
                rw [HTAKE.out, List.filter_append, List.map_append, ← HL.out]
                simp [HNEAR.out, h2])
              clear h1 h2
              go_wp2_with fail
              rw [HW3.out]
              go_wp2_with fail
              refine (HAP1.out _).mono ?_; rintro e w' ⟨rfl, rfl⟩
              go_wp2_with fail
              refine (HAP2.out _).mono ?_; rintro e w' ⟨rfl, rfl⟩
              go_wp2_with fail
              go_roundw
              case rel => exact ⟨k + 1, A, c, l, f, by omega, by go_num, rfl, HSO3, HL2, by omega, hb23⟩
              case measure => simp [intOf]; omega
            | true =>
              rw [h2] at HAP2
              have HL2 : Hid (l ++ [t.id] = ((W.troops.take (k + 1)).filter (nearT p r)).map (·.id)) := Lib.hid (by
                rw [HTAKE.out, List.filter_append, List.map_append, ← HL.out]
                simp [HNEAR.out, h1, h2])
              have hb4 := below_alloc0 w3 (.cells #[.int .i64 t.id] 3)
              have HSO4 := Lib.hid (HSO3.out.later hb4)
              have HRD : Hid (Rd (w3.alloc (.cells #[.int .i64 t.id] 3)) repI.size (some ⟨w3.heap.size, 0, none⟩) 1 [.int .i64 t.id]) := rd_one _ _ _
              have hb24 := hb23.trans (hb4.mono hb23.size)
              have hbz := hb24.size
              clear h1 h2
              go_wp2_with fail
              rw [HW3.out]
              go_wp2_with fail
              refine (HAP1.out _).mono ?_; rintro e w' ⟨rfl, rfl⟩
              go_wp2_with fail
              refine (HAP2.out _).mono ?_; rintro e w' ⟨rfl, rfl⟩
              go_wp2_with (at_builtin; refine Rep.wpList_append_rep (R := repI) (by_ := 8) rfl _ _ w2.heap.size 38 3 i0 (.int .i64 0) Try.underlying38 hi hz0 hz1 hz2 rfl (by decide) zI f A c l HSO4.out (some ⟨w3.heap.size, 0, none⟩) 1 1 [t.id] [([], [.int .i64 t.id])] ⟨⟨rfl, rfl, HOK.out.1⟩, trivial⟩ rfl HRD.out ?g1 (by omega) (by omega) hbz rfl rfl rfl ?_)
              case g1 => simpa using Rep.SOwn.nodup HSO4.out
              intro A' c' f' w4 hso hgrow hat hfs hnn hbs
              have HSO5 := Lib.hid hso
              have hb25 : Below w2.heap.size w2 w4 := hb24.grown hgrow hb24.size (fun q hq => Rep.SOwn.own_ge HSO4.out hq (Nat.le_refl _))
              clear hso hgrow hat hfs hnn hbs
              go_wp2_with fail
              go_roundw
              case rel => exact ⟨k + 1, A', c', l ++ [t.id], f', by omega, by go_num, by rw [List.length_append]; rfl, HSO5, HL2, by simp; omega, hb25⟩
              case measure => simp [intOf]; omega
        · obtain rfl : k = nt := by omega
          have hL : l = if nearE W r = 0 then nearIds W p r else [] := by
            rw [if_pos HE.out, HL.out, List.take_of_length_le (by rw [HNT.out]; omega)]; rfl
          have HL2 := Lib.hid hL
          clear HL hL
          go_wp2_with fail
          go_ret2
          exact ⟨A, c, l, f, by rw [HE.out]; rfl, HL2.out, HSO.out.down hb02.size, hb02.trans (hb.mono hb02.size)⟩
  · have HE : Hid (nearE W r = W.chk) := Lib.hid (by unfold nearE; rw [if_pos h0])
    have hne : ¬ nearE W r = 0 := by rw [HE.out]; exact h0
    have HNE := Lib.hid hne
    have hd : (W.chk == 0) = false := by simpa using h0
    have hd2 : (W.chk != 0) = true := by simpa using h0
    obtain ⟨kc, HKC⟩ : ∃ kc, Hid (W.chk = kc) := ⟨_, Lib.hid rfl⟩
    rw [HKC.out] at HCH hd hd2
    clear h0 hne
    generalize W.field.places.length = np at *
    generalize W.bases.length = nb at *
    generalize W.stocks.length = ns at *
    generalize W.mines.length = nm at *
    generalize W.troops.length = nt at *
    go_enter Try.func40, Try.ntmps40
    go_wp2_with fail
    rw [HW1.out, HWB.out]
    go_wp2_with fail
    refine HCH.out.mono ?_; rintro e w2 ⟨rfl, hb2⟩
    go_wp2_with fail
    go_ret2
    exact ⟨none, 0, [], [], by rw [HE.out, HKC.out]; rfl, by rw [if_neg HNE.out], Rep.SOwn.nil _, hb01.trans (hb2.mono hb01.size)⟩
end Go.Proofs.Ythjolbdjokopnaa
