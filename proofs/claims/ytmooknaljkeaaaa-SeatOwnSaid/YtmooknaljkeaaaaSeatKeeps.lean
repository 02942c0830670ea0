/-
  SeatKeeps: nothing is lost, and nothing told twice: of each player what was told, and what waits still, is what waited, in its order.
-/
import Derived.Test.YtmooknaljkeaaaaSeatFair
import Derived.Test.YtmooknaljkeaaaaSeatE
set_option linter.unusedVariables false
namespace Go.Proofs.Ytmooknaljkeaaaa
open Go.RowKit

theorem Seat.rights {l : List Seat} (h : Seat.chk l = 0) : ∀ j (hj : j < l.length), l[j].right (j : Int) = true := by
  intro j hj
  have := (rightAll_iff 0 l).1 (Seat.good h).2.2.2.2.2 j hj
  rwa [Int.zero_add] at this
theorem closed_right {most : Nat} {l0 l : List Seat} {out : List Ord} (h0 : Seat.chk l0 = 0) (h : Seat.Closed most l0 l out) : (∀ j (hj : j < l.length), l[j].waits.length ≤ 50) ∧ ∀ j (hj : j < l.length), l[j].right (j : Int) = true := by
  obtain ⟨g1, g8, gby, glate, g50, _⟩ := Seat.good h0
  have hlen := h.kept.len
  have key : ∀ j (hj : j < l.length) (hj0 : j < l0.length), l[j].waits.length ≤ 50 ∧ l[j].right (j : Int) = true := by
    intro j hj hj0
    have hw := h.kept.waits j hj hj0
    obtain ⟨hl, hg⟩ := h.kept.late j hj hj0
    have hr0 := Seat.rights h0 j hj0
    have h50 := g50 _ (List.getElem_mem hj0)
    have hlt := glate _ (List.getElem_mem hj0)
    have hle : l[j].waits.length ≤ l0[j].waits.length := by rw [← hw, List.length_append]; omega
    refine ⟨by omega, ?_⟩
    unfold Seat.right at hr0 ⊢
    simp only [Bool.and_eq_true, List.all_eq_true] at hr0 ⊢
    refine ⟨⟨?_, ?_⟩, ?_⟩
    · rw [hl]
      unfold Seat.lateF
      split
      · split
        · exact hr0.1.1
        · simp [inB]; omega
      · simp [inB]
    · rw [hg, hl]
      cases hgn : l0[j].gone with
      | false => rfl
      | true =>
        have h2 := hr0.1.2
        rw [hgn] at h2
        simp only [Bool.not_true, Bool.false_or, Bool.and_eq_true] at h2
        have he : l0[j].waits = [] := by simpa using h2.2
        have hn : l[j].waits = [] := List.eq_nil_of_length_eq_zero (by rw [he] at hle; simpa using hle)
        unfold Seat.lateF
        rw [he, hgn, hn]
        simpa using h2.1
    · intro o ho
      exact hr0.2 o (by rw [← hw]; exact List.mem_append_right _ ho)
  exact ⟨fun j hj => (key j hj (by omega)).1, fun j hj => (key j hj (by omega)).2⟩
theorem hold2 {w0 W W' : World} {a b : Addr} {u v : Value} (h : Below w0.heap.size w0 W ∧ W.cell? a = some u ∧ W.cell? b = some v) (hb : Below W.heap.size W W') : Below w0.heap.size w0 W' ∧ W'.cell? a = some u ∧ W'.cell? b = some v :=
  ⟨h.1.trans (hb.mono h.1.size), cell_later hb h.2.1, cell_later hb h.2.2⟩
theorem hold2q {w0 W : World} {a b : Addr} {u v : Value} (h : Below w0.heap.size w0 W ∧ W.cell? a = some u ∧ W.cell? b = some v) (q : Nat) : Below w0.heap.size w0 (W.drewN q) ∧ (W.drewN q).cell? a = some u ∧ (W.drewN q).cell? b = some v := ⟨below_drewN h.1 q, h.2.1, h.2.2⟩
theorem hold2g {w0 W W' : World} {a b : Addr} {u v x : Value} {e : TypeId} {size n base : Nat} {G : Nat → Value → Prop} {xs : List Value} (h : Below w0.heap.size w0 W ∧ W.cell? a = some u ∧ W.cell? b = some v)
    (ho : Own W base e size G x n xs) (hg : W.grownBy W' x.ownBlock) (ha : w0.cell? a = some u) (hb : w0.cell? b = some v) (hbase : w0.heap.size ≤ base) : Below w0.heap.size w0 W' ∧ W'.cell? a = some u ∧ W'.cell? b = some v := by
  have hbw := h.1.grown hg h.1.size (fun k hk => Nat.le_trans hbase (ho.row.lt k hk).1)
  exact ⟨hbw, cell_later hbw ha, cell_later hbw hb⟩
set_option maxRecDepth 100000 in
set_option maxHeartbeats 4000000 in
theorem seatKeeps_any (a0 : Option Addr) (len0 cap0 : Nat) (a1 : Int) (w : World) (h0 : (.slice (.cons (.slice (.cons (.int .i64) (.cons (.int .i64) (.cons (.int .i64) (.cons (.cons (.int .i64) (.cons (.int .i64) .nil)) (.cons (.int .i64) .nil))))) 48) (.cons (.int .i64) (.cons .bool .nil))) 40 : Sh).Ok w [.slice a0 len0 cap0]) (w1 : (Lit.int .i64 a1).wf = true) :
    Calls Try.prog 8 #[.slice a0 len0 cap0, .int .i64 a1] w fun e w' => e = .returned (.bool true) ∧ Below w.heap.size w w' := by
  obtain ⟨hs, l0, hl⟩ := seats_open h0
  clear h0 w1
  by_cases hgood : Seat.chk l0 = 0
  · by_cases hm : a1 < 1 ∨ 100 < a1
    · have hcl := sclose_arg a0 len0 cap0 hs l0 a1 w hl hgood hm
      clear hl hgood hm
      go_enter Try.func8, Try.ntmps8
      go_wp2_with fail
      refine hcl.mono ?_
      rintro e w1 ⟨rfl, hb1⟩
      clear hcl
      go_wp2_with fail
      refine (slives_any _).mono ?_
      rintro e w2 ⟨rfl, hb2⟩
      go_wp2_with fail
      refine (slives_any _).mono ?_
      rintro e w3 ⟨rfl, hb3⟩
      go_wp2_with fail
      go_ret
      exact ⟨rfl, hb1.trans ((hb2.trans (hb3.mono hb2.size)).mono hb1.size)⟩
    · obtain ⟨most, rfl⟩ := Int.eq_ofNat_of_zero_le (show 0 ≤ a1 by omega)
      obtain ⟨g1, g8, gby, glate, gw, _⟩ := Seat.good hgood
      have hl0 := hl.len
      have hcl := sclose_any a0 len0 cap0 hs l0 most w hl hgood (by omega) (by omega) gby (by omega) (by omega) glate
      unfold ClosePost at hcl
      have hn8 : len0 ≤ 8 := by omega
      have hn1 : 1 ≤ len0 := by omega
      have hmost : most ≤ 100 := by omega
      have HCR : Hid (∀ l out, Seat.Closed most l0 l out → (∀ j (hj : j < l.length), l[j].waits.length ≤ 50) ∧ ∀ j (hj : j < l.length), l[j].right (j : Int) = true) := fun l out h => closed_right hgood h
      have HL0 := Lib.hid hl
      have HLN := Lib.hid hl0
      have HGW := Lib.hid gw
      clear hl hgood hm gby glate gw g1 g8 hl0
      go_enter Try.func8, Try.ntmps8
      go_wp2_with fail
      refine hcl.mono ?_
      rintro e w1 ⟨A, c, hs2, l, B, d, out, rfl, hclosed, hmine, hout, hb1⟩
      have HS := Lib.hid (hmine.seats (by omega))
      have HO := Lib.hid hout
      have HC := Lib.hid hclosed
      have hol := hclosed.le
      clear hcl hclosed hmine hout
      go_wp2_with fail
      refine (slives_any _).mono ?_
      rintro e w2 ⟨rfl, hb2⟩
      have HS := Lib.hid (HS.out.later hb2)
      have HO := Lib.hid (HO.out.later hb2)
      have hb2 := hb1.trans (hb2.mono hb1.size)
      have HL2 := Lib.hid (HL0.out.later hb2)
      clear hb1
      have HOR : Hid (Ords w2 B out.length d out) := by
        obtain ⟨A', c', e, hle, hmx, hrd, _, hnn⟩ := HO.out.shape
        injection e with e1 _ e2
        subst e1; subst e2
        exact ⟨rfl, hle, by omega, by unfold maxLen at hmx; omega, fun h => by have := hnn h; injection this with _ h1 h2; exact ⟨h1, h2⟩, hrd⟩
      obtain ⟨i0, hii, hz0, hz1, hz2⟩ := info_parts infoOrd
      go_wp2_with fail
      go_loopw [8, 9, 37] (fun _ _ iv wr => ∃ k : Nat, k ≤ len0 ∧ iv = .int .i64 (k : Int) ∧ Below w2.heap.size w2 wr) (fun _ _ iv _ => len0 - (intOf iv).toNat)
      case atStart => exact ⟨0, Nat.zero_le _, rfl, Below.refl _ _⟩
      case round =>
        obtain ⟨k, hk, rfl, hbr⟩ := hrel
        by_cases hlt : k < len0
        · have hlen := HS.out.len
          obtain ⟨s, hsx⟩ : ∃ s, l[k]? = some s := ⟨_, List.getElem?_eq_getElem (by omega)⟩
          obtain ⟨t, htx⟩ : ∃ t, l0[k]? = some t := ⟨_, List.getElem?_eq_getElem (by have := HLN.out; omega)⟩
          obtain ⟨b, o, h, rfl, _, hor, q0, _, _⟩ := HS.out.get hsx
          obtain ⟨b2, o2, h2, rfl, _, hor2, p0, p1, p2⟩ := HL2.out.get htx
          have q0 := cell_later hbr q0
          have p0 := cell_later hbr p0
          have p1 := cell_later hbr p1
          have p2 := cell_later hbr p2
          have hkept : ofP k out ++ s.waits = t.waits := by
            obtain ⟨hj, rfl⟩ := List.getElem?_eq_some_iff.1 hsx
            obtain ⟨hj0, rfl⟩ := List.getElem?_eq_some_iff.1 htx
            exact HC.out.kept.waits k hj hj0
          have ht50 : t.waits.length ≤ 50 := by
            obtain ⟨hj0, rfl⟩ := List.getElem?_eq_some_iff.1 htx
            exact HGW.out _ (List.getElem_mem hj0)
          have hsum : (ofP k out).length + s.waits.length = t.waits.length := by rw [← hkept, List.length_append]
          have HKP := Lib.hid hkept
          have HO1 := Lib.hid hor
          have HO2 := Lib.hid hor2
          have hX := Blk.new wr [.slice h2.A t.waits.length h2.c, .int .i64 t.late, .bool t.gone] 49 (0, 0)
          have hbX : Below w2.heap.size w2 (wr.alloc (.cells #[.slice h2.A t.waits.length h2.c, .int .i64 t.late, .bool t.gone] 49)) := hbr.alloc hbr.size _
          have q0X := cell_later (below_alloc0 wr (.cells #[.slice h2.A t.waits.length h2.c, .int .i64 t.late, .bool t.gone] 49)) q0
          have hpl := fun W (hW : Ords W B out.length d out) => player_any k B out.length d out W hW (by omega)
          unfold PlayerPost at hpl
          have hpn : (ofP k out).length ≤ out.length := by unfold ofP; exact List.length_filter_le _ _
          have hki : (k : Int) < (len0 : Int) := by omega
          have hk0 : (0 : Int) ≤ (k : Int) := by omega
          clear hsx htx hor hor2 hkept hlen
          obtain ⟨pk, HPK⟩ : ∃ pk, Hid ((ofP k out).length = pk) := ⟨_, Lib.hid rfl⟩
          obtain ⟨ms, HMS⟩ : ∃ ms, Hid (s.waits.length = ms) := ⟨_, Lib.hid rfl⟩
          obtain ⟨mt, HMT⟩ : ∃ mt, Hid (t.waits.length = mt) := ⟨_, Lib.hid rfl⟩
          rw [HPK.out] at hpl hpn hsum
          rw [HMS.out] at q0 q0X hsum
          rw [HMT.out] at p0 hX hbX q0X hsum ht50
          have HO1 : Hid (Ords w2 h.A ms h.c s.waits) := by have := HO1.out; rw [HMS.out] at this; exact this
          have HO2 : Hid (Ords w2 h2.A mt h2.c t.waits) := by have := HO2.out; rw [HMT.out] at this; exact this
          go_wp2_with fail
          obtain ⟨wX, HWX⟩ : ∃ wX, Hid (wr.alloc (.cells #[.slice h2.A mt h2.c, .int .i64 t.late, .bool t.gone] 49) = wX) := ⟨_, Lib.hid rfl⟩
          have hX' : wX.cell? ⟨wr.heap.size, 0, none⟩ = some (.slice h2.A mt h2.c) := by rw [← HWX.out]; exact hX.cell 0
          rw [HWX.out] at hbX q0X ⊢
          clear hX q0 p0 p1 p2
          go_region_held3 (fun wx => Below wX.heap.size wX wx ∧ wx.cell? ⟨b, o + k * 3, none⟩ = some (.slice h.A ms h.c) ∧ wx.cell? ⟨wr.heap.size, 0, none⟩ = some (.slice h2.A mt h2.c))
            (first | exact ⟨(Below.refl _ _).drew, q0X, hX'⟩ | assumption | exact hold2q (by assumption) _)
            (first
              | (refine step_call rfl 28 _ Try.func28 (by kernel_rfl) (by kernel_rfl) _ _ rfl #[.slice B out.length d, .int .i64 (k : Int)] (by simp [Act.eval]) ?_
                 refine (hpl wX.drew ((HOR.out.later hbX).drewN 1)).mono ?_
                 rintro e w3 ⟨A3, c3, rfl, hown3, hb3⟩
                 have hH3 := hold2 (w0 := wX) (by assumption) hb3
                 refine ⟨_, rfl, ?_⟩)
              | (refine step_append_all _ rfl _ _ _ rfl wX.heap.size 59 i0 ordZero 6 48 Try.underlying45 hii hz0 hz1 hz2 rfl (by decide) GO ordZero_go (.slice A3 pk c3) pk (ordCells (ofP k out)) rfl hown3 h.A ms h.c (ordCells s.waits) rfl ((HO1.out.later hbX).later hH3.1).rd (ordCells_one' _) (ordCells_go _) (by unfold maxLen; omega) (by omega) hH3.1.size ?_
                 intro v5 w5 hown5 hgrow5 _ hat5
                 have hH5 := hold2g (a := ⟨b, o + k * 3, none⟩) (b := ⟨wr.heap.size, 0, none⟩) hH3 hown3 hgrow5 q0X hX' (Nat.le_refl _)
                 rw [← ordCells_app, HKP.out, hsum] at hown5
                 obtain ⟨A5, c5, rfl, hle5, hmx5, hrd5, _, hnn5⟩ := hown5.shape
                 have HO5 : Hid (Ords w5 A5 mt c5 t.waits) := ⟨HMT.out, hle5, by omega, by unfold maxLen at hmx5; omega, fun h => by have := hnn5 h; injection this with _ h1 h2; exact ⟨h1, h2⟩, hrd5⟩
                 clear hown5 hgrow5 hat5 hle5 hmx5 hrd5 hnn5)
              | (refine step_call rfl 33 _ Try.func33 (by kernel_rfl) (by kernel_rfl) _ _ rfl #[.slice A5 mt c5, .slice h2.A mt h2.c] (by simp [Act.eval]) ?_
                 refine (equalO_same HO5.out ((HO2.out.later hbX).later hH5.1)).mono ?_
                 rintro e w6 ⟨rfl, q6, rfl⟩
                 refine ⟨_, rfl, ?_⟩))
          all_goals
            have hb9 : Below w2.heap.size w2 (w5.drewN q6) := hbX.trans (Below.mono (below_drewN hH5.1 q6) hbX.size)
            clear hH3 hH5 hown3
            go_wp2_with fail
            go_roundw
            case rel => exact ⟨k + 1, by omega, by go_num, hb9⟩
            case measure => simp [intOf]; omega
        · obtain ⟨h50, hrt⟩ := HCR.out l out HC.out
          have hsr := sright_ok A len0 c hs2 l wr (HS.out.later hbr) hn1 hn8 h50 hrt
          have holi : (out.length : Int) ≤ (most : Int) := by omega
          clear h50 hrt
          go_wp2_with fail
          refine hsr.mono ?_
          rintro e w4 ⟨rfl, hb4⟩
          go_wp2_with fail
          go_ret
          exact ⟨rfl, hb2.trans ((hbr.trans (hb4.mono hbr.size)).mono hb2.size)⟩
  · have hcl := sclose_bad a0 len0 cap0 hs l0 a1 w hl hgood
    have hne : (Seat.chk l0 != 0) = true := by rw [bne_iff_ne]; exact hgood
    have hne2 : (Seat.chk l0 == 0) = false := by rw [beq_eq_false_iff_ne]; exact hgood
    generalize Seat.chk l0 = e0 at *
    clear hl hgood
    go_enter Try.func8, Try.ntmps8
    go_wp2_with fail
    refine hcl.mono ?_
    rintro e w1 ⟨rfl, hb1⟩
    clear hcl
    go_wp2_with fail
    refine (slives_any _).mono ?_
    rintro e w2 ⟨rfl, hb2⟩
    go_wp2_with fail
    refine (slives_any _).mono ?_
    rintro e w3 ⟨rfl, hb3⟩
    go_wp2_with fail
    go_ret
    exact ⟨rfl, hb1.trans ((hb2.trans (hb3.mono hb2.size)).mono hb1.size)⟩
end Go.Proofs.Ytmooknaljkeaaaa
