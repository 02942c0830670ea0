/-
  The walk of seat.Close.
-/
import Derived.Test.YtmooknaljkeaaaaSeatQ
set_option linter.unusedVariables false
namespace Go.Proofs.Ytmooknaljkeaaaa
open Go.RowKit

theorem sclose_bad (A : Option Addr) (n c : Nat) (hs : List Seat.At) (l : List Seat) (most : Int) (w : World) (hl : Seats w A n c hs l) (hbad : Seat.chk l ≠ 0) :
    Calls Try.prog 26 #[.slice A n c, .int .i64 most] w fun e w' => e = .returned (.tuple #[.slice none 0 0, .slice none 0 0, .int .i64 (Seat.chk l)]) ∧ Below w.heap.size w w' := by
  have hc := scheck_any A n c hs l w hl
  generalize Seat.chk l = k at *
  have h1 : (k != 0) = true := by rw [bne_iff_ne]; exact hbad
  have h2 : (k == 0) = false := by rw [beq_eq_false_iff_ne]; exact hbad
  clear hl hbad
  go_enter Try.func26, Try.ntmps26
  go_wp2_with (go_at_call 29; refine hc.mono ?_; rintro e w' ⟨rfl, hb2⟩)
  go_ret3
  exact ⟨rfl, hb2⟩
theorem sclose_arg (A : Option Addr) (n c : Nat) (hs : List Seat.At) (l : List Seat) (most : Int) (w : World) (hl : Seats w A n c hs l) (hgood : Seat.chk l = 0) (hm : most < 1 ∨ 100 < most) :
    Calls Try.prog 26 #[.slice A n c, .int .i64 most] w fun e w' => e = .returned (.tuple #[.slice none 0 0, .slice none 0 0, .int .i64 1]) ∧ Below w.heap.size w w' := by
  have hc := scheck_any A n c hs l w hl
  rw [hgood] at hc
  clear hl hgood
  rcases hm with hm | hm
  · go_enter Try.func26, Try.ntmps26
    go_wp2_with (go_at_call 29; refine hc.mono ?_; rintro e w' ⟨rfl, hb2⟩)
    go_ret3
    exact ⟨rfl, hb2⟩
  · have hm2 : ¬ most < 1 := by omega
    go_enter Try.func26, Try.ntmps26
    go_wp2_with (go_at_call 29; refine hc.mono ?_; rintro e w' ⟨rfl, hb2⟩)
    go_ret3
    exact ⟨rfl, hb2⟩
/-- How Close ends. -/
def ClosePost (w : World) (most n : Nat) (l0 : List Seat) (e : Ending) (w' : World) : Prop :=
  ∃ A c hs l B d out, e = .returned (.tuple #[.slice A n c, .slice B out.length d, .int .i64 0]) ∧ Seat.Closed most l0 l out ∧ Mine w' w.heap.size (.slice A n c) n hs l ∧
    Own w' w.heap.size 59 6 GO (.slice B out.length d) out.length (ordCells out) ∧ Below w.heap.size w w'
set_option maxRecDepth 100000 in
set_option maxHeartbeats 4000000 in
theorem sclose_any (A : Option Addr) (n c : Nat) (hs : List Seat.At) (l : List Seat) (most : Nat) (w : World) (hl : Seats w A n c hs l) (hgood : Seat.chk l = 0) (hm1 : 1 ≤ most) (hm2 : most ≤ 100) (hby : Seat.ByAll l) (hn1 : 1 ≤ n) (hn8 : n ≤ 8)
    (hlate : ∀ s ∈ l, 0 ≤ s.late ∧ s.late ≤ 1000000) :
    Calls Try.prog 26 #[.slice A n c, .int .i64 (most : Int)] w (ClosePost w most n l) := by
  have hc := scheck_any A n c hs l w hl
  rw [hgood] at hc
  have hown := fun W (hW : Seats W A n c hs l) => own_any A n c hs l W hW
  unfold OwnPost at hown
  have HL := Lib.hid hl
  have HBY := Lib.hid hby
  have HLT := Lib.hid hlate
  obtain ⟨i0, hi, hz0, hz1, hz2⟩ := info_parts infoOrd
  have hm3 : ¬ (most : Int) < 1 := by omega
  have hm4 : ¬ 100 < (most : Int) := by omega
  clear hl hgood hby hlate
  go_enter Try.func26, Try.ntmps26
  go_wp2_with fail
  refine hc.mono ?_
  rintro e w1 ⟨rfl, hb1⟩
  go_wp2_with fail
  refine (hown w1 (HL.out.later hb1)).mono ?_
  rintro e w2 ⟨A2, c2, hs2, rfl, hfresh, hb2⟩
  have hmine := hfresh.mine
  clear hfresh
  have hb2 := hb1.trans (hb2.mono hb1.size)
  obtain ⟨g, c2', e, hgc, hgm⟩ := hmine.row.addr (by omega)
  injection e with e1 _ e2
  subst e1; subst e2
  have hmine : Mine w2 w.heap.size (.slice (some ⟨g, 0, none⟩) n c2) n hs2 l := ⟨hmine.len, hmine.hlen, hmine.row.mono hb1.size, hmine.ords, (fun i h1 => by
    rcases hmine.free i h1 with h | ⟨b, o, cur, h, h2, h3⟩
    · exact .inl h
    · exact .inr ⟨b, o, cur, h, Nat.le_trans hb1.size h2, h3⟩), hmine.apart⟩
  have HM := Lib.hid hmine
  have hln : l.length = n := hmine.len
  have hgl : w.heap.size ≤ g ∧ g < w2.heap.size := hmine.row.row.lt g rfl
  clear hc hown hmine hb1
  go_wp2_with fail
  clear hm3 hm4
  go_loopw [8, 9, 29] (fun _ _ iv wr => ∃ (k : Nat) (l2 : List Seat), k ≤ n ∧ iv = .int .i64 (k : Int) ∧ Hid (Mine wr w.heap.size (.slice (some ⟨g, 0, none⟩) n c2) n hs2 l2) ∧ Hid (∀ j (h : j < l2.length) (h0 : j < l.length), l2[j] = if j < k then Seat.lateF l[j] else l[j]) ∧ Below w.heap.size w wr ∧ wr.heap.size = w2.heap.size) (fun _ _ iv _ => n - (intOf iv).toNat)
  case atStart => exact ⟨0, l, Nat.zero_le _, rfl, HM, (fun j h h0 => by rw [if_neg (by omega)]), hb2, rfl⟩
  case round =>
    clear hb2
    obtain ⟨k, l2, hk, rfl, HM2, HK, hb3, hsz⟩ := hrel
    have hl2 : l2.length = n := HM2.out.len
    have hhl2 : hs2.length = n := HM2.out.hlen
    by_cases hlt : k < n
    · obtain ⟨q0, q1, q2, f0, f1⟩ := HM2.out.cells k (by omega) (by omega)
      have hsk : l2[k]'(by omega) = l[k]'(by omega) := by rw [HK.out k (by omega) (by omega), if_neg (by omega)]
      have hlk := HLT.out _ (List.getElem_mem (show k < l.length by omega))
      obtain ⟨s, hs0⟩ : ∃ s, l[k]'(by omega) = s := ⟨_, rfl⟩
      rw [hs0] at hsk hlk
      have hput := fun x => HM2.out.late k (by omega) s hsk x
      have hstep : ∀ x, (⟨s.waits, x, s.gone⟩ : Seat) = Seat.lateF s → ∀ j (h : j < (l2.set k ⟨s.waits, x, s.gone⟩).length) (h0 : j < l.length), (l2.set k ⟨s.waits, x, s.gone⟩)[j] = if j < k + 1 then Seat.lateF l[j] else l[j] := by
        intro x hx j h h0
        rw [List.length_set] at h
        by_cases e : k = j
        · subst e; rw [List.getElem_set_self, if_pos (by omega), hs0]; exact hx
        · rw [List.getElem_set_ne e, HK.out j h h0]
          by_cases hjk : j < k
          · rw [if_pos hjk, if_pos (by omega)]
          · rw [if_neg hjk, if_neg (by omega)]
      rw [hsk] at q0 q1 q2
      have HK2 := Lib.hid hstep
      have HPUT := Lib.hid hput
      have HSK := Lib.hid hsk
      have HS := Lib.hid hs0
      clear hstep hput hsk hs0
      generalize hs2[k]'(by omega) = h at *
      cases hw : s.waits with
      | cons o r =>
        have hm : (0 : Int) < ((s.waits.length : Nat) : Int) := by rw [hw]; simp
        have hlf : (⟨s.waits, 0, s.gone⟩ : Seat) = Seat.lateF s := by unfold Seat.lateF; rw [hw]; rfl
        have HLF := Lib.hid hlf
        clear hw hlf
        generalize s.waits.length = m at *
        go_wp2_with fail
        go_roundw
        case rel => exact ⟨k + 1, _, by omega, by go_num, HPUT.out 0, HK2.out 0 HLF.out, hb3.setCell (p := ⟨g, k * 3 + 1, none⟩) hgl.1 _, by simpa [World.setCell] using hsz⟩
        case measure => simp [intOf]; omega
      | nil =>
        have hm : s.waits.length = 0 := by rw [hw]; rfl
        rw [hm] at q0
        cases hg : s.gone with
        | false =>
          rw [hg] at q2
          have hlf : (⟨s.waits, min (s.late + 1) 1000000, s.gone⟩ : Seat) = Seat.lateF s := by unfold Seat.lateF; rw [hw, hg]; rfl
          have HLF := Lib.hid hlf
          clear hw hlf hm hg
          go_wp2_with fail
          go_roundw
          case rel => exact ⟨k + 1, _, by omega, by go_num, HPUT.out _, HK2.out _ HLF.out, hb3.setCell (p := ⟨g, k * 3 + 1, none⟩) hgl.1 _, by simpa [World.setCell] using hsz⟩
          case measure => simp [intOf]; omega
        | true =>
          rw [hg] at q2
          have hlf : l2[k]'(by omega) = Seat.lateF s := by rw [HSK.out]; unfold Seat.lateF; rw [hw, hg]; rfl
          have HLF := Lib.hid hlf
          clear hw hlf hm hg
          go_wp2_with fail
          go_roundw
          case rel => 
            refine ⟨k + 1, l2, by omega, by go_num, HM2, ?_, hb3, hsz⟩
            intro j h h0
            by_cases e : j = k
            · subst e; rw [if_pos (by omega), HLF.out, HS.out]
            · rw [HK.out j h h0]
              by_cases hjk : j < k
              · rw [if_pos hjk, if_pos (by omega)]
              · rw [if_neg hjk, if_neg (by omega)]
          case measure => simp [intOf]; omega
    · obtain rfl : k = n := by omega
      have hlat : ∀ j (h : j < l2.length) (h0 : j < l.length), l2[j] = Seat.lateF l[j] := fun j h h0 => by rw [HK.out j h h0, if_pos (by omega)]
      have hkept0 : Seat.Kept l l2 [] := by
        refine ⟨by omega, fun j h h0 => ?_, fun j h h0 => ?_, fun o ho => by cases ho⟩
        · rw [hlat j h h0]; exact ⟨rfl, Seat.lateF_gone _⟩
        · rw [hlat j h h0, Seat.lateF_waits]; rfl
      obtain ⟨w3, hw3⟩ : ∃ w3, w3 = wr := ⟨_, rfl⟩
      subst hw3
      have HA0 : Hid (Amid w w3 w3.heap.size g c2 k l hs2 l2 [] (.slice none 0 0)) := ⟨HM2.out, HM2.out.low, Own.nil _ _ _ _ _, hkept0, hb3, Nat.le_refl _, hb3.size⟩
      have HT0 : Hid (Seat.Turn l most l2 [] 0) := Seat.Turn.start hm1
      have HGL : Hid (g < w3.heap.size) := by show _ < _; omega
      have HGW : Hid (w.heap.size ≤ g) := hgl.1
      have hnn : k ≤ 8 := hn8
      clear hlat hkept0 HM2 HK hsz hgl hb3 hlt
      go_wp2_with fail
      go_loopw [10, 11] (fun ov bv wx => ∃ (hs3 : List Seat.At) (l3 : List Seat) (out : List Ord) (b : Bool), bv = .bool b ∧ Hid (Amid w wx w3.heap.size g c2 k l hs3 l3 out ov) ∧ Hid (Seat.Turn l most l3 out 0) ∧ Hid (b = false → ∀ j (h : j < l3.length), l3[j].waits = [] ∨ most ≤ out.length)) (fun ov bv _ => rounds most ov bv)
      case atStart => exact ⟨hs2, l2, [], true, rfl, HA0, HT0, (fun h => by cases h)⟩
      case round =>
        clear HA0 HT0
        obtain ⟨hs3, l3, out0, bg, rfl, HAM, HT, HQ⟩ := hrel
        cases bg with
        | false =>
          obtain ⟨OA, od, hov, _⟩ := HAM.out.outs.shape
          subst hov
          have hcl := HT.out
          have hlen3 : l3.length = k := HAM.out.mine.len
          have hfin : Seat.Closed most l l3 out0 := by
            refine Seat.Turn0.closed (i := l3.length) ?_ (Nat.le_refl _) HAM.out.kept (HQ.out rfl) hcl.2.some
            rcases hcl.1 with h | ⟨h, r, hr⟩
            · exact .inl h
            · refine .inr ⟨h, r, fun j hj => ?_⟩
              have h1 := hr j hj
              rw [if_neg (by omega)] at h1
              rw [if_pos hj]
              rcases HQ.out rfl j hj with h2 | h2
              · exact ⟨by omega, fun h3 => absurd h2 h3⟩
              · omega
          have HF := Lib.hid hfin
          clear hcl hfin
          go_wp2_with fail
          go_ret3
          exact ⟨_, c2, hs3, l3, OA, od, out0, rfl, HF.out, HAM.out.mine, HAM.out.outs.mono HAM.out.base, HAM.out.below⟩
        | true =>
          obtain ⟨wo, hwo⟩ : ∃ wo : World, wo = wr := ⟨_, rfl⟩
          subst hwo
          obtain ⟨OA0, od0, hov, hod0, _⟩ := HAM.out.outs.shape
          subst hov
          have hle0 := HT.out.le
          go_wp2_with fail
          go_loopw [10, 11, 12, 13, 64] (fun ov bv _ _ iv wx => ∃ (i : Nat) (hs3 : List Seat.At) (l3 : List Seat) (out : List Ord) (b : Bool), i ≤ k ∧ iv = .int .i64 (i : Int) ∧ bv = .bool b ∧ Hid (Amid w wx w3.heap.size g c2 k l hs3 l3 out ov) ∧ Hid (Seat.Turn l most l3 out i) ∧ Hid (b = false → ∀ j (hj : j < i) (h : j < l3.length), l3[j].waits = [] ∨ most ≤ out.length) ∧ (b = true → out0.length < out.length) ∧ out0.length ≤ out.length) (fun _ _ _ _ iv _ => k - (intOf iv).toNat)
          case atStart => exact ⟨0, hs3, l3, out0, false, Nat.zero_le _, rfl, rfl, HAM, HT, (fun _ j hj => by omega), (fun h => by cases h), Nat.le_refl _⟩
          case round =>
            clear HAM HT HQ
            obtain ⟨i, hs3, l3, out, bg, hik, rfl, rfl, HAM, HT, HQ, hgrow, hout⟩ := hrel
            have HG := Lib.hid hgrow
            clear hgrow
            have hl3 : l3.length = k := HAM.out.mine.len
            have hh3 : hs3.length = k := HAM.out.mine.hlen
            have hle := HT.out.le
            obtain ⟨OA, od, hov, hodle, hodmax, _⟩ := HAM.out.outs.shape
            subst hov
            unfold maxLen at hodmax
            by_cases hlt : i < k
            · obtain ⟨q0, q1, q2, f0, f1⟩ := HAM.out.mine.cells i (by omega) (by omega)
              obtain ⟨s, hsl⟩ : ∃ s, l3[i]'(by omega) = s := ⟨_, rfl⟩
              obtain ⟨h, hhk⟩ : ∃ h, hs3[i]'(by omega) = h := ⟨_, rfl⟩
              rw [hsl, hhk] at q0
              rw [hsl] at q1 q2
              have hor := HAM.out.mine.ords i (by omega) (by omega)
              rw [hsl, hhk] at hor
              have HSL := Lib.hid hsl
              have HHK := Lib.hid hhk
              clear hsl hhk
              cases hw : s.waits with
              | nil =>
                have hm : s.waits.length = 0 := by rw [hw]; rfl
                rw [hm] at q0
                have HW := Lib.hid hw
                clear hw hm hor
                go_wp2_with fail
                go_roundw
                case rel =>
                  refine ⟨i + 1, hs3, l3, out, bg, by omega, by go_num, rfl, HAM, HT.out.skip (by omega) (by rw [HSL.out]; exact .inl HW.out) HAM.out.kept hm1, ?_, HG.out, hout⟩
                  intro hb j hj h
                  by_cases e : j = i
                  · subst e; rw [HSL.out]; exact .inl HW.out
                  · exact HQ.out hb j (by omega) h
                case measure => simp [intOf]; omega
              | cons x r =>
                obtain ⟨m, hrl⟩ : ∃ m, r.length = m := ⟨_, rfl⟩
                have hwl : s.waits.length = m + 1 := by rw [hw, ← hrl]; rfl
                rw [hwl] at q0
                rw [hwl, hw] at hor
                have hm0 : (0 : Int) < ((m + 1 : Nat) : Int) := by omega
                have hm1' : (1 : Int) ≤ (m : Int) + 1 := by omega
                have HWS := Lib.hid hw
                have HRL := Lib.hid hrl
                have HWL := Lib.hid hwl
                clear hw hrl hwl
                by_cases hfull : out.length < most
                · obtain ⟨b, o, hka, hsix⟩ := hor.at (by omega)
                  obtain ⟨p0, p1, p2, p3, p4, p5⟩ := Ords.six (c := h.c) (n := m + 1) hsix 0 (by simp)
                  simp only [Nat.zero_mul, Nat.add_zero, List.getElem_cons_zero] at p0 p1 p2 p3 p4 p5
                  have hxb : x.by_ = (i : Int) := HAM.out.kept.mem HBY.out (by omega) (by rw [HSL.out, HWS.out]; simp)
                  have HXB := Lib.hid hxb
                  have hcap := hor.cap
                  have htop := hor.top
                  rw [hka] at q0
                  have HKA := Lib.hid hka
                  have HRD := Lib.hid (show Rd ((wr.alloc (.cells #[.int .i64 x.by_, .int .i64 x.kind, .int .i64 x.who, .int .i64 x.x, .int .i64 x.y, .int .i64 x.what] 59)).drew) 6 (some ⟨wr.heap.size, 0, none⟩) 1 x.cells from (rd_ord wr x).drewN 1)
                  have HOW := Lib.hid (show Own ((wr.alloc (.cells #[.int .i64 x.by_, .int .i64 x.kind, .int .i64 x.who, .int .i64 x.x, .int .i64 x.y, .int .i64 x.what] 59)).drew) w3.heap.size 59 6 GO (.slice OA out.length od) out.length (ordCells out) from (HAM.out.outs.later (below_alloc0 _ _)).drew)
                  have HSZ : Hid (w3.heap.size ≤ wr.heap.size) := HAM.out.size
                  have hglt : g < wr.heap.size := (HAM.out.mine.row.row.lt g rfl).2
                  have hgne : ¬ g = wr.heap.size := by omega
                  have hgne2 : ¬ wr.heap.size = g := by omega
                  clear hsix hka hxb hor
                  by_cases hcc : h.c = 1
                  · have HCC := Lib.hid hcc
                    rw [hcc] at q0
                    clear hcc hcap htop
                    go_wp2_with fail
                    go_region_law (first
                      | (refine step_append_all _ rfl _ _ _ rfl w3.heap.size 59 i0 ordZero 6 48 Try.underlying45 hi hz0 hz1 hz2 rfl (by decide) GO ordZero_go (.slice OA out.length od) out.length (ordCells out) rfl HOW.out (some ⟨wr.heap.size, 0, none⟩) 1 1 x.cells rfl HRD.out (ord_one x) (ord_go x) (by unfold maxLen; omega) (by omega) (by have := HSZ.out; simp; omega) ?_
                         intro v5 w5 hown5 hgrow5 _ hat5
                         have h5 := HAM.out.told x hgrow5
                         obtain ⟨q5, _, _, f5, _⟩ := h5.1.cells i (by omega) (by omega)
                         rw [HSL.out, HHK.out, HKA.out, HWL.out, HCC.out] at q5
                         have H5 := Lib.hid h5
                         have HO5 := Lib.hid hown5
                         clear h5 hown5 hgrow5 hat5))
                    all_goals
                      have hm5 := H5.out.1.pop1 i (by omega) (by omega) s HSL.out h HHK.out HWS.out HKA.out HCC.out HRL.out
                      have hb5 := H5.out.2.1
                      have hown6 := (Own.other HO5.out (a := ⟨g, i * 3, none⟩) (fun e => by have := (HO5.out.row.lt g e).1; have := HGL.out; omega) (.slice (some ⟨b, o, none⟩) m 0))
                      have hkept := HAM.out.kept.tell HBY.out (i := i) (by omega) (o := x) (r := r) (by rw [HSL.out]; exact HWS.out)
                      have hturn := HT.out.tell (i := i) (by omega) (o := x) (r := r) (by rw [HSL.out]; exact HWS.out) HXB.out hfull HAM.out.kept
                      simp only [HSL.out] at hkept hturn
                      have HN : Hid (Amid w (w5.setCell ⟨g, i * 3, none⟩ (.slice (some ⟨b, o, none⟩) m 0)) w3.heap.size g c2 k l (hs3.set i ⟨some ⟨b, o, none⟩, 0⟩) (l3.set i ⟨r, s.late, s.gone⟩) (out ++ [x]) v5) := by
                        refine ⟨hm5, HAM.out.low.set i _ (fun a ha => by obtain rfl := Option.some.inj ha; exact HAM.out.low.2 i (by omega) ⟨b, o, none⟩ (by rw [HHK.out]; exact HKA.out)), ?_, hkept, hb5.setCell (p := ⟨g, i * 3, none⟩) HGW.out _, ?_, HAM.out.base⟩
                        · rw [List.length_append, ordCells_app, ordCells_one]; exact hown6
                        · simpa [World.setCell] using H5.out.2.2
                      have HTN := Lib.hid hturn
                      clear hm5 hb5 hown6 hkept hturn
                      go_wp2_with fail
                      go_roundw
                      case rel => exact ⟨i + 1, hs3.set i ⟨some ⟨b, o, none⟩, 0⟩, l3.set i ⟨r, s.late, s.gone⟩, out ++ [x], true, by omega, by go_num, rfl, HN, HTN, (fun h => by cases h), (fun _ => by simp; omega), by simp; omega⟩
                      case measure => simp [intOf]; omega

                  · have HCC := Lib.hid hcc
                    go_wp2_with fail
                    go_region_law (first
                      | (refine step_append_all _ rfl _ _ _ rfl w3.heap.size 59 i0 ordZero 6 48 Try.underlying45 hi hz0 hz1 hz2 rfl (by decide) GO ordZero_go (.slice OA out.length od) out.length (ordCells out) rfl HOW.out (some ⟨wr.heap.size, 0, none⟩) 1 1 x.cells rfl HRD.out (ord_one x) (ord_go x) (by unfold maxLen; omega) (by omega) (by have := HSZ.out; simp; omega) ?_
                         intro v5 w5 hown5 hgrow5 _ hat5
                         have h5 := HAM.out.told x hgrow5
                         obtain ⟨q5, _, _, f5, _⟩ := h5.1.cells i (by omega) (by omega)
                         rw [HSL.out, HHK.out, HKA.out, HWL.out] at q5
                         have H5 := Lib.hid h5
                         have HO5 := Lib.hid hown5
                         clear h5 hown5 hgrow5 hat5))
                    all_goals
                      have hm5 := H5.out.1.pop i (by omega) (by omega) s HSL.out h HHK.out HWS.out HKA.out HCC.out HRL.out
                      have hb5 := H5.out.2.1
                      have hown6 := (Own.other HO5.out (a := ⟨g, i * 3, none⟩) (fun e => by have := (HO5.out.row.lt g e).1; have := HGL.out; omega) (.slice (some ⟨b, o + 6, none⟩) m (h.c - 1)))
                      have hkept := HAM.out.kept.tell HBY.out (i := i) (by omega) (o := x) (r := r) (by rw [HSL.out]; exact HWS.out)
                      have hturn := HT.out.tell (i := i) (by omega) (o := x) (r := r) (by rw [HSL.out]; exact HWS.out) HXB.out hfull HAM.out.kept
                      simp only [HSL.out] at hkept hturn
                      have HN : Hid (Amid w (w5.setCell ⟨g, i * 3, none⟩ (.slice (some ⟨b, o + 6, none⟩) m (h.c - 1))) w3.heap.size g c2 k l (hs3.set i ⟨some ⟨b, o + 6, none⟩, h.c - 1⟩) (l3.set i ⟨r, s.late, s.gone⟩) (out ++ [x]) v5) := by
                        refine ⟨hm5, HAM.out.low.set i _ (fun a ha => by obtain rfl := Option.some.inj ha; exact HAM.out.low.2 i (by omega) ⟨b, o, none⟩ (by rw [HHK.out]; exact HKA.out)), ?_, hkept, hb5.setCell (p := ⟨g, i * 3, none⟩) HGW.out _, ?_, HAM.out.base⟩
                        · rw [List.length_append, ordCells_app, ordCells_one]; exact hown6
                        · simpa [World.setCell] using H5.out.2.2
                      have HTN := Lib.hid hturn
                      clear hm5 hb5 hown6 hkept hturn
                      go_wp2_with fail
                      go_roundw
                      case rel => exact ⟨i + 1, hs3.set i ⟨some ⟨b, o + 6, none⟩, h.c - 1⟩, l3.set i ⟨r, s.late, s.gone⟩, out ++ [x], true, by omega, by go_num, rfl, HN, HTN, (fun h => by cases h), (fun _ => by simp; omega), by simp; omega⟩
                      case measure => simp [intOf]; omega

                · go_wp2_with fail
                  go_roundw
                  case rel =>
                    refine ⟨i + 1, hs3, l3, out, bg, by omega, by go_num, rfl, HAM, HT.out.skip (by omega) (by rw [HSL.out]; exact .inr (by omega)) HAM.out.kept hm1, ?_, HG.out, hout⟩
                    intro hb j hj h
                    by_cases e : j = i
                    · subst e; rw [HSL.out]; exact .inr (by omega)
                    · exact HQ.out hb j (by omega) h
                  case measure => simp [intOf]; omega
            · obtain rfl : i = k := by omega
              have hrm : bg = true → rounds most (.slice OA out.length od) (.bool bg) < rounds most (.slice OA0 out0.length od0) (.bool true) := fun h => by
                subst h
                have := HG.out rfl
                simp [rounds, lenOf]
                omega
              have hrm2 : rounds most (.slice OA out.length od) (.bool bg) < rounds most (.slice OA0 out0.length od0) (.bool true) := by
                cases bg with
                | true => exact hrm rfl
                | false => simp [rounds, lenOf]; omega
              have HRM := Lib.hid hrm2
              clear hrm hrm2
              go_wp2_with fail
              go_roundw
              case rel => exact ⟨hs3, l3, out, bg, rfl, HAM, HT.out.again (by omega), (fun hb j h => HQ.out hb j (by omega) h)⟩
              case measure => exact HRM.out
end Go.Proofs.Ytmooknaljkeaaaa
