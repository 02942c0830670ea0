/-
  SeatRuns: whatever is said, and however often turns are closed: what each player said, as far as it was let, is told in the order in which it was said; each just once.
-/
import Derived.Test.YtmooknaljkeaaaaSeatU
set_option linter.unusedVariables false
namespace Go.Proofs.Ytmooknaljkeaaaa
open Go.RowKit

theorem ints_at {w : World} {A : Option Addr} {n c : Nat} (h : (.slice (.int .i64) 8 : Sh).Ok w [.slice A n c]) (k : Nat) (hk : k < n) : ∃ b o x, A = some ⟨b, o, none⟩ ∧ w.cell? ⟨b, o + k, none⟩ = some (.int .i64 x) ∧ -9223372036854775808 ≤ x ∧ x ≤ 9223372036854775807 := by
  rcases h with h | ⟨a, len, cap, h, hl, hm, hr, hi⟩
  · simp at h
    obtain ⟨_, rfl, _⟩ := h
    omega
  · simp at h
    obtain ⟨rfl, rfl, rfl⟩ := h
    obtain ⟨es, hes, hc, x, rfl, hx⟩ := hi k (by omega)
    have := hc 0 _ rfl
    simp only [Sh.size, Nat.mul_one, Nat.add_zero] at this
    obtain ⟨b, off, spot⟩ := a
    obtain ⟨es0, _, hc0, x0, rfl, _⟩ := hi 0 (by omega)
    have h5 := hc0 0 _ rfl
    have hspot : spot = none := by simpa [Addr.add] using World.cell?_spot h5
    subst hspot
    rw [addAt] at this
    simp [Lit.wf, IntKind.min, IntKind.max, IntKind.signed, IntKind.bits] at hx
    exact ⟨b, off, x, rfl, this, hx.1, by omega⟩
theorem ints_len {w : World} {A : Option Addr} {n c : Nat} (h : (.slice (.int .i64) 8 : Sh).Ok w [.slice A n c]) : n ≤ 9223372036854775807 := by
  rcases h with h | ⟨a, len, cap, h, hl, hm, hr, hi⟩
  · simp at h
    obtain ⟨_, rfl, _⟩ := h
    omega
  · simp at h
    obtain ⟨rfl, rfl, rfl⟩ := h
    unfold maxLen at hm
    omega
theorem ofP_len (j : Nat) (l : List Ord) : (ofP j l).length ≤ l.length := by unfold ofP; exact List.length_filter_le _ _
set_option maxRecDepth 100000 in
set_option maxHeartbeats 8000000 in
theorem seatRuns_any (a0 : Int) (a1 : Option Addr) (len1 cap1 : Nat) (a2 : Option Addr) (len2 cap2 : Nat) (w : World) (w0 : (Lit.int .i64 a0).wf = true) (h1 : (.slice (.cons (.int .i64) (.cons (.int .i64) (.cons (.int .i64) (.cons (.cons (.int .i64) (.cons (.int .i64) .nil)) (.cons (.int .i64) .nil))))) 48 : Sh).Ok w [.slice a1 len1 cap1]) (h2 : (.slice (.int .i64) 8 : Sh).Ok w [.slice a2 len2 cap2]) :
    Calls Try.prog 9 #[.int .i64 a0, .slice a1 len1 cap1, .slice a2 len2 cap2] w fun e w' => e = .returned (.bool true) ∧ Below w.heap.size w w' := by
  obtain ⟨l, hl⟩ := ords_open h1
  have hn2 := ints_len h2
  have hn1 := hl.big
  by_cases hp : a0 < 1 ∨ 8 < a0
  · clear h1 h2 w0
    have hnb := new_bad a0 hp
    clear hp
    go_enter Try.func9, Try.ntmps9
    go_wp2_with fail
    refine (hnb _).mono ?_
    rintro e w1 ⟨rfl, rfl⟩
    clear hnb
    go_wp2_with fail
    refine (slives_any _).mono ?_
    rintro e w2 ⟨rfl, hb2⟩
    go_wp2_with fail
    refine (slives_any _).mono ?_
    rintro e w3 ⟨rfl, hb3⟩
    go_wp2_with fail
    go_ret
    exact ⟨rfl, hb2.trans (hb3.mono hb2.size)⟩
  obtain ⟨p, rfl⟩ := Int.eq_ofNat_of_zero_le (show 0 ≤ a0 by omega)
  have hp1 : 1 ≤ p := by omega
  have hp8 : p ≤ 8 := by omega
  clear hp w0 h1
  have hnew := new_any p hp1 hp8 w
  unfold NewPost at hnew
  by_cases h200 : 200 < len1
  · have h200i : (200 : Int) < (len1 : Int) := by omega
    have hpi : ((p : Int) == 0) = false := by rw [beq_eq_false_iff_ne]; omega
    clear hl h2
    go_enter Try.func9, Try.ntmps9
    go_wp2_with fail
    refine hnew.mono ?_
    rintro e w1 ⟨A, c, hs, rfl, hm, hb1⟩
    clear hnew hm
    go_wp2_with fail
    refine (slives_any _).mono ?_
    rintro e w2 ⟨rfl, hb2⟩
    go_wp2_with fail
    refine (slives_any _).mono ?_
    rintro e w3 ⟨rfl, hb3⟩
    go_wp2_with fail
    go_ret
    exact ⟨rfl, hb1.trans ((hb2.trans (hb3.mono hb2.size)).mono hb1.size)⟩
  have h200n : len1 ≤ 200 := by omega
  have h200i : ¬ (200 : Int) < (len1 : Int) := by omega
  have hln := hl.len
  have HL := Lib.hid hl
  have H2 := Lib.hid h2
  have hlaw0 : Runs p (List.replicate p seat0) [] [] := by
    refine ⟨?_, by simp, fun j hj => by simp only [List.getElem_replicate]; rfl⟩
    refine Seat.chk_of (by simpa using hp1) (by simpa using hp8) ?_ ?_
    · intro j hj; simp only [List.getElem_replicate]; exact Nat.zero_le _
    · intro j hj; simp only [List.getElem_replicate]; rfl
  have HLAW := Lib.hid hlaw0
  obtain ⟨i0, hii, hz0', hz1, hz2⟩ := info_parts infoOrd
  clear hl h2 h200 hlaw0
  go_enter Try.func9, Try.ntmps9
  go_wp2_with fail
  refine hnew.mono ?_
  rintro e w1 ⟨A, c, hs, rfl, hm, hb1⟩
  have HM := Lib.hid hm
  clear hnew hm
  go_wp2_with fail
  refine (slives_any _).mono ?_
  rintro e w2 ⟨rfl, hb2⟩
  have hR0 : Run w w2 p A c hs (List.replicate p seat0) [] [] (.slice none 0 0) (.slice none 0 0) :=
    ⟨HM.out.later hb2, Own.nil _ _ _ _ _, Own.nil _ _ _ _ _, ⟨(fun g hg e => by cases e), (fun i h1 a ha e => by cases e)⟩, ⟨(fun g hg e => by cases e), (fun i h1 a ha e => by cases e)⟩, (fun g hg => by cases hg), hb1.trans (hb2.mono hb1.size), HLAW.out⟩
  have HR0 := Lib.hid hR0
  clear hR0 hb1 hb2
  go_wp2_with fail
  go_loopw [7, 9, 10, 11, 12, 48] (fun sv vs vt _ _ iv wr => ∃ (k : Nat) (A : Option Addr) (c : Nat) (hs : List Seat.At) (ls : List Seat) (said told : List Ord), k ≤ len1 ∧ sv = .slice A p c ∧ iv = .int .i64 (k : Int) ∧ said.length ≤ k ∧ told.length ≤ 100 * k ∧ Hid (Run w wr p A c hs ls said told vs vt)) (fun _ _ _ _ _ iv _ => len1 - (intOf iv).toNat)
  case atStart => exact ⟨0, A, c, hs, _, [], [], Nat.zero_le _, rfl, rfl, Nat.le_refl _, Nat.le_refl _, HR0⟩
  case round =>
    clear HR0
    obtain ⟨k, A, c, hs, ls, said, told, hk, rfl, rfl, hks, hkt, HR⟩ := hrel
    by_cases hlt : k < len1
    · obtain ⟨b, o, hA1, hcell⟩ := (HL.out.later HR.out.below).at (by omega)
      obtain ⟨q0, q1, q2, q3, q4, q5⟩ := Ords.six (c := cap1) (n := len1) hcell k (by omega)
      obtain ⟨x, hx⟩ : ∃ x, l[k]'(by omega) = x := ⟨_, rfl⟩
      rw [hx] at q0 q1 q2 q3 q4 q5
      subst hA1
      have hX := Blk.new wr (ordBlk x) 59 (0, 0)
      have hbX := below_alloc0 wr (.cells (ordBlk x).toArray 59)
      have hsay := say_any A p c hs ls x _ ((HR.out.mine.seats (by omega)).later hbX) (Seat.waits50 HR.out.law.chk) hp8
      rw [Ord.cells_eq] at hsay
      have hki : (k : Int) < (len1 : Int) := by omega
      have hk00 : (0 : Int) ≤ (k : Int) := by omega
      clear hcell hx
      go_wp2_with fail
      refine hsay.mono ?_
      rintro e w3 (⟨hcode, rfl, hb3⟩ | ⟨hcode, A', c', hs', rfl, hm3, hb3⟩)
      · have HR3 := Lib.hid (HR.out.later (hbX.trans (hb3.mono hbX.size)))
        obtain ⟨code, HCD⟩ : ∃ code, Hid (sayCode ls x = code) := ⟨_, Lib.hid rfl⟩
        rw [HCD.out] at hcode ⊢
        have hc1 : (code == 0) = false := by rw [beq_eq_false_iff_ne]; exact hcode
        have hc2 : (code != 0) = true := by rw [bne_iff_ne]; exact hcode
        clear hsay hcode hX hbX hb3 q0 q1 q2 q3 q4 q5
        by_cases hk2 : k < len2
        · obtain ⟨b2, o2, z, hA2, hz, hzlo, hzhi⟩ := ints_at H2.out k hk2
          have hzc := cell_later HR3.out.below hz
          subst hA2
          have hk2i : (k : Int) < (len2 : Int) := by omega
          have hk0 : (0 : Int) ≤ (k : Int) := by omega
          by_cases hz0 : 0 < z
          · obtain ⟨mm, hmm⟩ : ∃ mm : Nat, (mm : Int) = min z 100 := ⟨(min z 100).toNat, by omega⟩
            have hmm1 : 1 ≤ mm := by omega
            have hmm2 : mm ≤ 100 := by omega
            have hch := HR3.out.law.chk
            obtain ⟨g1, g8, gby, glate, gw, _⟩ := Seat.good hch
            have hcl := sclose_any A p c hs ls mm w3 (HR3.out.mine.seats (by omega)) hch hmm1 hmm2 gby hp1 hp8 glate
            unfold ClosePost at hcl
            rw [hmm] at hcl
            have HTO := Lib.hid HR3.out.town
            clear hz hmm gby glate gw g1 g8 hch
            go_wp2_with fail
            refine hcl.mono ?_
            rintro e w6 ⟨A6, c6, hs6, l6, B6, d6, out6, rfl, hclosed, hm6, ho6, hb6⟩
            have hol := hclosed.le
            have HTO := Lib.hid (HTO.out.later hb6)
            have HRD := Lib.hid (ho6.rd rfl)
            have HMC := Lib.hid hclosed
            have HM6 := Lib.hid hm6
            have hsz6 : w.heap.size ≤ w6.heap.size := Nat.le_trans HR3.out.below.size hb6.size
            clear hcl hclosed hm6 ho6
            go_wp2_with (at_builtin; refine wpList_append_all _ rfl _ _ 45 rfl w.heap.size 59 i0 ordZero 6 48 Try.underlying45 hii hz0' hz1 hz2 rfl (by decide) GO ordZero_go _ told.length (ordCells told) rfl HTO.out B6 out6.length d6 (ordCells out6) rfl HRD.out (ordCells_one' _) (ordCells_go _) ?gt4 ?gt5 ?gt6 ?_)
            case gt4 => unfold maxLen; omega
            case gt5 => omega
            case gt6 => exact hsz6
            intro v7 w7 hown7 hgrow7 _ hat7
            have HR7 := Lib.hid (HR3.out.close hb6 HM6.out (Nat.le_refl _) hown7 hgrow7 hat7 HMC.out)
            clear hown7 hgrow7 hat7
            go_wp2_with fail
            go_roundw
            case rel => exact ⟨k + 1, A6, c6, hs6, l6, said, told ++ out6, by omega, rfl, by go_num, (by omega), by rw [List.length_append]; omega, HR7⟩
            case measure => simp [intOf]; omega
          · clear hz
            go_wp2_with fail
            go_roundw
            case rel => exact ⟨k + 1, A, c, hs, ls, said, told, by omega, rfl, by go_num, (by omega), by omega, HR3⟩
            case measure => simp [intOf]; omega
        · have hk2i : ¬ (k : Int) < (len2 : Int) := by omega
          go_wp2_with fail
          go_roundw
          case rel => exact ⟨k + 1, A, c, hs, ls, said, told, by omega, rfl, by go_num, (by omega), by omega, HR3⟩
          case measure => simp [intOf]; omega
      · obtain ⟨p0, p1, p2, p3, p4, p5⟩ := six_of (hX.later hb3)
        have hb23 := hbX.trans (hb3.mono hbX.size)
        have HSO := Lib.hid ((HR.out.sown.later hb23).later (below_alloc0 w3 (.cells (ordBlk x).toArray 59)))
        have HRD := Lib.hid (rd_ord w3 x)
        have HM3 := Lib.hid hm3
        have HCODE := Lib.hid hcode
        have hsz3 : w.heap.size ≤ w3.heap.size := Nat.le_trans HR.out.below.size hb23.size
        clear hsay hcode hX hm3 q0 q1 q2 q3 q4 q5
        go_wp2_with (at_builtin; refine wpList_append_all _ rfl _ _ 45 rfl w.heap.size 59 i0 ordZero 6 48 Try.underlying45 hii hz0' hz1 hz2 rfl (by decide) GO ordZero_go _ said.length (ordCells said) rfl HSO.out (some ⟨w3.heap.size, 0, none⟩) 1 1 x.cells rfl HRD.out (ord_one x) (ord_go x) ?gs4 ?gs5 ?gs6 ?_)
        case gs4 => unfold maxLen; omega
        case gs5 => omega
        case gs6 => simp; omega
        intro v4 w4 hown4 hgrow4 _ hat4
        have HR4 := Lib.hid (HR.out.say hb23 HM3.out (by simp) (below_alloc0 w3 _) hown4 hgrow4 (hat4.imp id fun h => by rw [h]; simp) HCODE.out)
        have hsl : (said ++ [x]).length ≤ k + 1 := by rw [List.length_append]; simp; omega
        clear hown4 hgrow4 hat4 p0 p1 p2 p3 p4 p5 hb3 hb23 hbX
        generalize sayTo ls x = ls' at *
        by_cases hk2 : k < len2
        · obtain ⟨b2, o2, z, hA2, hz, hzlo, hzhi⟩ := ints_at H2.out k hk2
          have hzc := cell_later HR4.out.below hz
          subst hA2
          have hk2i : (k : Int) < (len2 : Int) := by omega
          have hk0 : (0 : Int) ≤ (k : Int) := by omega
          by_cases hz0 : 0 < z
          · obtain ⟨mm, hmm⟩ : ∃ mm : Nat, (mm : Int) = min z 100 := ⟨(min z 100).toNat, by omega⟩
            have hmm1 : 1 ≤ mm := by omega
            have hmm2 : mm ≤ 100 := by omega
            have hch := HR4.out.law.chk
            obtain ⟨g1, g8, gby, glate, gw, _⟩ := Seat.good hch
            have hcl := sclose_any A' p c' hs' ls' mm w4 (HR4.out.mine.seats (by omega)) hch hmm1 hmm2 gby hp1 hp8 glate
            unfold ClosePost at hcl
            rw [hmm] at hcl
            have HTO := Lib.hid HR4.out.town
            clear hz hmm gby glate gw g1 g8 hch
            go_wp2_with fail
            refine hcl.mono ?_
            rintro e w6 ⟨A6, c6, hs6, l6, B6, d6, out6, rfl, hclosed, hm6, ho6, hb6⟩
            have hol := hclosed.le
            have HTO := Lib.hid (HTO.out.later hb6)
            have HRD := Lib.hid (ho6.rd rfl)
            have HMC := Lib.hid hclosed
            have HM6 := Lib.hid hm6
            have hsz6 : w.heap.size ≤ w6.heap.size := Nat.le_trans HR4.out.below.size hb6.size
            clear hcl hclosed hm6 ho6
            go_wp2_with (at_builtin; refine wpList_append_all _ rfl _ _ 45 rfl w.heap.size 59 i0 ordZero 6 48 Try.underlying45 hii hz0' hz1 hz2 rfl (by decide) GO ordZero_go _ told.length (ordCells told) rfl HTO.out B6 out6.length d6 (ordCells out6) rfl HRD.out (ordCells_one' _) (ordCells_go _) ?gt4 ?gt5 ?gt6 ?_)
            case gt4 => unfold maxLen; omega
            case gt5 => omega
            case gt6 => exact hsz6
            intro v7 w7 hown7 hgrow7 _ hat7
            have HR7 := Lib.hid (HR4.out.close hb6 HM6.out (Nat.le_refl _) hown7 hgrow7 hat7 HMC.out)
            clear hown7 hgrow7 hat7
            go_wp2_with fail
            go_roundw
            case rel => exact ⟨k + 1, A6, c6, hs6, l6, (said ++ [x]), told ++ out6, by omega, rfl, by go_num, hsl, by rw [List.length_append]; omega, HR7⟩
            case measure => simp [intOf]; omega
          · clear hz
            go_wp2_with fail
            go_roundw
            case rel => exact ⟨k + 1, A', c', hs', ls', (said ++ [x]), told, by omega, rfl, by go_num, hsl, by omega, HR4⟩
            case measure => simp [intOf]; omega
        · have hk2i : ¬ (k : Int) < (len2 : Int) := by omega
          go_wp2_with fail
          go_roundw
          case rel => exact ⟨k + 1, A', c', hs', ls', (said ++ [x]), told, by omega, rfl, by go_num, hsl, by omega, HR4⟩
          case measure => simp [intOf]; omega
    · obtain rfl : k = len1 := by omega
      obtain ⟨BT, dT, hvt, _⟩ := HR.out.town.shape
      obtain ⟨BS, dS, hvs, _⟩ := HR.out.sown.shape
      subst hvt
      subst hvs
      obtain ⟨wL, hwL⟩ : ∃ wL, wL = wr := ⟨_, rfl⟩
      subst hwL
      have hpi : (p : Int) ≤ 8 := by omega
      go_wp2_with fail
      go_loopw [18, 96] (fun _ jv wx => ∃ j : Nat, j ≤ p ∧ jv = .int .i64 (j : Int) ∧ Below wL.heap.size wL wx) (fun _ jv _ => p - (intOf jv).toNat)
      case atStart => exact ⟨0, Nat.zero_le _, rfl, Below.refl _ _⟩
      case round =>
        obtain ⟨j, hj, rfl, hbj⟩ := hrel
        obtain ⟨wX, hwX⟩ : ∃ wX, wX = wr := ⟨_, rfl⟩
        subst hwX
        have HRX := Lib.hid (HR.out.later hbj)
        by_cases hjl : j < p
        · obtain ⟨sx, hsx⟩ : ∃ s, ls[j]? = some s := ⟨_, List.getElem?_eq_getElem (by rw [HRX.out.law.len]; exact hjl)⟩
          obtain ⟨g, cg, e, _⟩ := HRX.out.mine.row.addr (by omega)
          injection e with e1 _ e2
          subst e1; subst e2
          obtain ⟨h, _, hor, _, _, q0, _, _, _⟩ := HRX.out.mine.get hsx
          have hkp : ofP j told ++ sx.waits = ofP j said := by
            obtain ⟨hjs, rfl⟩ := List.getElem?_eq_some_iff.1 hsx
            exact HRX.out.law.keeps j hjs
          have hT := ords_of_own HRX.out.town rfl (by omega)
          have hS := ords_of_own HRX.out.sown rfl (by omega)
          have hpT := fun W (hW : Ords W BT told.length dT told) => player_any j BT told.length dT told W hW (by omega)
          have hpS := fun W (hW : Ords W BS said.length dS said) => player_any j BS said.length dS said W hW (by omega)
          unfold PlayerPost at hpT hpS
          have hsum : (ofP j told).length + sx.waits.length = (ofP j said).length := by rw [← hkp, List.length_append]
          have hl1 := ofP_len j told
          have hl2 := ofP_len j said
          have HKP := Lib.hid hkp
          have HT := Lib.hid hT
          have HSS := Lib.hid hS
          obtain ⟨pk, HPK⟩ : ∃ pk, Hid ((ofP j told).length = pk) := ⟨_, Lib.hid rfl⟩
          obtain ⟨ms, HMS⟩ : ∃ ms, Hid (sx.waits.length = ms) := ⟨_, Lib.hid rfl⟩
          obtain ⟨mt, HMT⟩ : ∃ mt, Hid ((ofP j said).length = mt) := ⟨_, Lib.hid rfl⟩
          rw [HPK.out] at hpT hsum hl1
          rw [HMS.out] at q0 hsum hor
          rw [HMT.out] at hpS hsum hl2
          have HO1 := Lib.hid hor
          have hji : (j : Int) < (p : Int) := by omega
          have hj0 : (0 : Int) ≤ (j : Int) := by omega
          clear hsx hkp hT hS hor
          go_wp2_with fail
          go_region_held3 (fun wx => Below wX.heap.size wX wx ∧ wx.cell? ⟨g, j * 3, none⟩ = some (.slice h.A ms h.c) ∧ wx.cell? ⟨g, j * 3, none⟩ = some (.slice h.A ms h.c))
            (first | exact ⟨(Below.refl _ _).drew, q0, q0⟩ | assumption | exact hold2q (by assumption) _)
            (first
              | (refine step_call rfl 28 _ Try.func28 (by kernel_rfl) (by kernel_rfl) _ _ rfl #[.slice BT told.length dT, .int .i64 (j : Int)] (by simp [Act.eval]) ?_
                 refine (hpT wX.drew (HT.out.drewN 1)).mono ?_
                 rintro e w3 ⟨A3, c3, rfl, hown3, hb3⟩
                 have hH3 := hold2 (w0 := wX) (by assumption) hb3
                 refine ⟨_, rfl, ?_⟩)
              | (refine step_append_all _ rfl _ _ _ rfl wX.heap.size 59 i0 ordZero 6 48 Try.underlying45 hii hz0' hz1 hz2 rfl (by decide) GO ordZero_go (.slice A3 pk c3) pk (ordCells (ofP j told)) rfl (hown3) h.A ms h.c (ordCells sx.waits) rfl ((HO1.out.later hH3.1).rd) (ordCells_one' _) (ordCells_go _) (by unfold maxLen; omega) (by omega) (hH3.1.size) ?_
                 intro v5 w5 hown5 hgrow5 _ hat5
                 have hH5a := hold2g (a := ⟨g, j * 3, none⟩) (b := ⟨g, j * 3, none⟩) hH3 (hown3) hgrow5 q0 q0 (Nat.le_refl _)
                 rw [← ordCells_app, HKP.out, hsum] at hown5
                 obtain ⟨A5, c5, rfl, hle5, hmx5, hrd5, _, hnn5⟩ := hown5.shape
                 have HO5 : Hid (Ords w5 A5 mt c5 (ofP j said)) := ⟨HMT.out, hle5, by omega, by unfold maxLen at hmx5; omega, fun h => by have := hnn5 h; injection this with _ h1 h2; exact ⟨h1, h2⟩, hrd5⟩
                 clear hown5 hgrow5 hat5 hle5 hmx5 hrd5 hnn5)
              | (refine step_call rfl 28 _ Try.func28 (by kernel_rfl) (by kernel_rfl) _ _ rfl #[.slice BS said.length dS, .int .i64 (j : Int)] (by simp [Act.eval]) ?_
                 refine (hpS w5 (HSS.out.later hH5a.1)).mono ?_
                 rintro e w6 ⟨A6, c6, rfl, hown6, hb6⟩
                 have hH6 := hold2 (w0 := wX) hH5a hb6
                 have HO5b := Lib.hid (HO5.out.later hb6)
                 have HO6 := Lib.hid (ords_of_own hown6 HMT.out (by omega))
                 refine ⟨_, rfl, ?_⟩)
              | (refine step_call rfl 33 _ Try.func33 (by kernel_rfl) (by kernel_rfl) _ _ rfl #[.slice A5 mt c5, .slice A6 mt c6] (by simp [Act.eval]) ?_
                 refine (equalO_same HO5b.out HO6.out).mono ?_
                 rintro e w7 ⟨rfl, q7, rfl⟩
                 refine ⟨_, rfl, ?_⟩)
)
          all_goals
            have hb9 : Below wL.heap.size wL _ := hbj.trans (Below.mono (below_drewN hH6.1 q7) hbj.size)
            clear hH3 hown3
            go_wp2_with fail
            go_roundw
            case rel => exact ⟨j + 1, by omega, by go_num, hb9⟩
            case measure => simp [intOf]; omega
        · have hg := HRX.out.law
          have hsr := sright_ok A p c hs ls wX (HRX.out.mine.seats (by omega)) hp1 hp8 (fun i hi => Seat.waits50 hg.chk _ (List.getElem_mem hi)) (Seat.rights hg.chk)
          clear hg
          go_wp2_with fail
          refine hsr.mono ?_
          rintro e w4 ⟨rfl, hb4⟩
          go_wp2_with fail
          go_ret
          exact ⟨rfl, HRX.out.below.trans (hb4.mono HRX.out.below.size)⟩
end Go.Proofs.Ytmooknaljkeaaaa
