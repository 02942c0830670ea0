/-
  A load is brought in. (Printed by bin/gooD.py.)
-/
import Derived.Test.YticfnngppcmidaaGooB
set_option linter.unusedVariables false
set_option linter.unusedSimpArgs false
namespace Go.Proofs.Yticfnngppcmidaa
open Go.RowKit

def DropPost (W : Wd) (d : Ded) (w : World) (Z S : Nat) (a : Wd.At) (e : Ending) (w' : World) : Prop :=
  ∃ V, e = .returned (.bool (W.drop d).isSome) ∧ (W.drop d).getD W = V ∧ Shop w' Z S a V ∧ Below Z w w'
theorem drop_eq {W : Wd} {d : Ded} {k : Nat} {t : Trp} {b : Cel} {s : Int} (hf : W.troops.findIdx? (isId d.who) = some k) (ht : W.troops[k]? = some t) (hb : W.bases[t.owner.toNat]? = some b) (hs : W.stocks[t.owner.toNat]? = some s) :
    W.drop d = if t.load != 0 && beside b t.spot && decide (0 < min t.load (1000000 - s)) then
      some { W with stocks := W.stocks.set t.owner.toNat (s + min t.load (1000000 - s)), troops := W.troops.set k (Wd.addLoad t (-(min t.load (1000000 - s)))) } else none := by
  have hg : W.troops.getD k default = t := by rw [List.getD_eq_getElem?_getD, ht]; rfl
  have hg2 : W.bases.getD t.owner.toNat default = b := by rw [List.getD_eq_getElem?_getD, hb]; rfl
  have hg3 : W.stocks.getD t.owner.toNat 0 = s := by rw [List.getD_eq_getElem?_getD, hs]; rfl
  unfold Wd.drop
  rw [hf]
  simp only [hg, hg2, hg3]
theorem set_same {α : Type} {l : List α} {i : Nat} {x : α} (h : l[i]? = some x) : l.set i x = l := by
  apply List.ext_getElem?
  intro j
  by_cases e : i = j
  · subst e
    rw [List.getElem?_set_self (List.getElem?_eq_some_iff.1 h).1, h]
  · rw [List.getElem?_set_ne e]
theorem drop_val {W : Wd} {d : Ded} {k : Nat} {t : Trp} {b : Cel} {s : Int} (ht : W.troops[k]? = some t) (hs : W.stocks[t.owner.toNat]? = some s) (hl : ¬ t.load = 0) (hb : beside b t.spot = true)
    (h : W.drop d = if t.load != 0 && beside b t.spot && decide (0 < min t.load (1000000 - s)) then
      some { W with stocks := W.stocks.set t.owner.toNat (s + min t.load (1000000 - s)), troops := W.troops.set k (Wd.addLoad t (-(min t.load (1000000 - s)))) } else none) (h0 : 0 ≤ min t.load (1000000 - s) := by omega) :
    (W.drop d).isSome = decide (0 < min t.load (1000000 - s)) ∧
    (W.drop d).getD W = { W with stocks := W.stocks.set t.owner.toNat (s + min t.load (1000000 - s)), troops := W.troops.set k (Wd.addLoad t (-(min t.load (1000000 - s)))) } := by
  have hlb : (t.load != 0) = true := by simpa using hl
  rw [h, hlb, hb]
  generalize hn : min t.load (1000000 - s) = n at h0 ⊢
  by_cases hp : 0 < n
  · simp [hp]
  · have hz : n = 0 := by omega
    rw [hz]
    have e1 : s + 0 = s := by omega
    have e2 : Wd.addLoad t (-0) = t := by unfold Wd.addLoad; simp
    rw [e1, e2, set_same hs, set_same ht]
    simp
set_option maxRecDepth 100000 in
set_option maxHeartbeats 4000000 in
theorem drop_any (d : Ded) (w : World) (Z S : Nat) (a : Wd.At) (W : Wd) (h : Shop w Z S a W) (hG : Good W) :
    Calls Try.prog 66 #[.pointer (some ⟨S, 0, none⟩), .agg #[.int .i64 d.kind, .int .i64 d.who, .int .i64 d.spot.x, .int .i64 d.spot.y, .int .i64 d.what]] w (DropPost W d w Z S a) := by
  have hb0 := below_alloc0 w (.cells #[.int .i64 d.kind, .int .i64 d.who, .int .i64 d.spot.x, .int .i64 d.spot.y, .int .i64 d.what] 45)
  have hD := Blk.new w d.cells 45 (0, 0)
  obtain ⟨w0, HW0⟩ : ∃ w0, Hid (w.alloc (.cells #[.int .i64 d.kind, .int .i64 d.who, .int .i64 d.spot.x, .int .i64 d.spot.y, .int .i64 d.what] 45) = w0) := ⟨_, Lib.hid rfl⟩
  rw [HW0.out] at hb0
  have HD0 : Hid (Blk w0 w.heap.size d.cells 45 (0, 0)) := by rw [← HW0.out]; exact hD
  have h0 := h.later hb0
  have hSlt := h.blk.lt
  have HS0 := Lib.hid h0
  have HTR := Lib.hid (shopTroop d.who w0 Z S a W h0)
  have hZ : Z ≤ w.heap.size := by have := h.low; omega
  have HB0 : Hid (Below Z w w0) := Lib.hid (hb0.mono hZ)
  have hZ0 : Z ≤ w0.heap.size := Nat.le_trans hZ hb0.size
  obtain ⟨aP, aB, aS, aM, aT, kP, kB, kS, kM, kT⟩ := a
  have HG := Lib.hid hG
  unfold DropPost
  cases hf : W.troops.findIdx? (isId d.who) with
  | none =>
    have HR : Hid (W.drop d = none) := Lib.hid (by unfold Wd.drop; rw [hf])
    have hto : trOf ⟨aP, aB, aS, aM, aT, kP, kB, kS, kM, kT⟩ W d.who = none := by unfold trOf; rw [hf]
    rw [hto] at HTR
    clear hto hf h h0 hD hG
    go_enter Try.func66, Try.ntmps66
    go_wp2_with fail
    rw [HW0.out]
    refine (HTR.out).mono ?_; rintro e w1 ⟨rfl, hb1⟩
    have hd1 := HD0.out.later hb1
    obtain ⟨e0, e1, e2, e3, e4⟩ := Ded.blk hd1
    have HS1 := Lib.hid (HS0.out.later hb1)
    have hz1 := Below.refl w1.heap.size w1
    clear hd1
    go_wp2_with fail
    have HS := Lib.hid (fun (wx : World) (h : Below w1.heap.size w1 wx) => (⟨trivial, cell_later h e2, cell_later h e3⟩ : True ∧ wx.cell? ⟨w.heap.size, 2, none⟩ = some (.int .i64 d.spot.x) ∧ wx.cell? ⟨w.heap.size, 3, none⟩ = some (.int .i64 d.spot.y)))
    refine wp_region_below (by kernel_rfl) (by kernel_rfl) ?_
    repeat (first
      | go_big_quiet_skip
      | (go_big_quiet_want
         first
         | (go_big_quiet_op; go_big_quiet_on)
         | (apply Exists.intro
            refine ⟨fun wq hq => ?_, ?_⟩
            · first
              | (obtain ⟨_, qq0, qq1⟩ := HS.out wq hq
                 apply quiet_val2
                 · (go_simp; rfl)
                 · rfl)
              | (apply quiet_call2
                 · (go_simp; rfl)
                 · rfl
                 · first
                   | (fail)
                 )
            go_big_quiet_on
            simp only [Act.put, List.setIfInBounds_toArray, List.set_cons_zero, List.set_cons_succ])))
    refine wpQuiet_nil ?_
    intro wz hz
    go_wp2_with fail
    go_ret
    exact ⟨W, by rw [HR.out]; rfl, by rw [HR.out]; rfl, HS1.out.later hz, HB0.out.trans ((hb1.trans (hz.mono hb1.size)).mono hZ0)⟩
  | some k =>
    obtain ⟨t, ht, hid, _⟩ := findId hf
    have hT : Trp.rep.SOwn 39 56 w0 Z (Rep.blkOf aT) aT kT W.troops := h0.own.T
    have hk : k < W.troops.length := (List.getElem?_eq_some_iff.1 ht).1
    obtain ⟨g, rfl⟩ := hT.block (by omega)
    have hgd := hG.troops k t ht
    have ho0 := hgd.owner.1
    have ho1 := hgd.owner.2
    have hsl := hG.sl
    obtain ⟨b, hb⟩ := get_of (l := W.bases) (i := t.owner.toNat) (by omega)
    obtain ⟨s, hs⟩ := get_of (l := W.stocks) (i := t.owner.toNat) (by omega)
    have hBo : Cel.rep.SOwn 37 16 w0 Z (Rep.blkOf aB) aB kB W.bases := h0.own.B
    obtain ⟨gB, rfl⟩ := hBo.block (by omega)
    have hSo : repI.SOwn 3 8 w0 Z (Rep.blkOf aS) aS kS W.stocks := h0.own.S
    obtain ⟨gS, rfl⟩ := hSo.block (by omega)
    have hmq := drop_eq hf ht hb hs
    have hto : trOf ⟨aP, (some ⟨gB, 0, none⟩), (some ⟨gS, 0, none⟩), aM, some ⟨g, 0, none⟩, kP, kB, kS, kM, kT⟩ W d.who = some ⟨g, k * 7, none⟩ := by unfold trOf; rw [hf]; rfl
    rw [hto] at HTR
    have HTT := Lib.hid ht
    have HBB := Lib.hid hb
    have HST := Lib.hid hs
    have HK := Lib.hid hk
    have HMQ := Lib.hid hmq
    obtain ⟨i1, i2, i3, i4, i5, i6⟩ := Fld.idx hG.field (Fld.ground_in (hG.bases _ b hb).1)
    obtain ⟨y1, y2, y3, y4, _, _⟩ := Fld.good hG.field
    have HBE := Lib.hid (fun V => beside_any b t.spot V (by omega) (by omega) (by omega) (by omega))
    have hld : 0 ≤ t.load ∧ t.load ≤ 5 := by
      have := hgd.load
      refine ⟨this.1, ?_⟩
      rcases hgd.kind with e | e <;> (rw [e] at this; have := this.2; simp [Wd.mostOf] at this; omega)
    have hsd := hG.stocks _ s hs
    have hll := hG.nb
    have ho2 : t.owner < (W.stocks.length : Int) := by omega
    clear hto hf h h0 hD hG hsl hT ht hb hs hmq hgd i1 i2 i3 i4 i5 i6 y1 y2 y3 y4 hid hBo hSo
    by_cases hl : t.load = 0
    · have HR : Hid (W.drop d = none) := Lib.hid (by rw [HMQ.out, hl]; rfl)
      have hlz : (t.load == 0) = true := by rw [hl]; rfl
      have hlz2 : decide (t.load = 0) = true := by rw [hl]; rfl
      clear hl
      go_enter Try.func66, Try.ntmps66
      go_wp2_with fail
      rw [HW0.out]
      refine (HTR.out).mono ?_; rintro e w1 ⟨rfl, hb1⟩
      have hs1 := HS0.out.later hb1
      obtain ⟨s0, s1, s2, s3, s4, s5, s6, s7, s8⟩ := Wd.wblk hs1.blk
      obtain ⟨gg, oo, heq, hcell⟩ := Trp.at_ hs1.own.T.has (by omega)
      obtain ⟨qg, qo⟩ := addr_eq heq
      subst qg
      subst qo
      obtain ⟨t0, t1, t2, t3, t4, t5, t6⟩ := hcell k t HTT.out
      obtain ⟨gg, oo, heq, hcell2⟩ := Cel.at_ hs1.own.B.has (by omega)
      obtain ⟨qg, qo⟩ := addr_eq heq
      subst qg
      subst qo
      obtain ⟨b0, b1⟩ := hcell2 t.owner.toNat b HBB.out
      obtain ⟨gg, oo, heq, hcell3⟩ := repI_at hs1.own.S.has (by omega)
      obtain ⟨qg, qo⟩ := addr_eq heq
      subst qg
      subst qo
      have q0 := hcell3 t.owner.toNat s HST.out
      simp only [Nat.zero_add, Nat.add_zero] at t0 t1 t2 t3 t4 t5 t6 b0 b1 q0
      have HS1 := Lib.hid hs1
      have hz1 := Below.refl w1.heap.size w1
      clear hcell hcell2 hcell3 hs1
      go_wp2_with fail
      have HS := Lib.hid (fun (wx : World) (h : Below w1.heap.size w1 wx) => (⟨trivial, cell_later h s3, cell_later h t1, cell_later h t3, cell_later h t4, cell_later h t6, cell_later h b0, cell_later h b1⟩ : True ∧ wx.cell? ⟨S, 3, none⟩ = some (.slice (some ⟨gB, 0, none⟩) W.bases.length kB) ∧ wx.cell? ⟨g, k * 7 + 1, none⟩ = some (.int .i64 t.owner) ∧ wx.cell? ⟨g, k * 7 + 3, none⟩ = some (.int .i64 t.spot.x) ∧ wx.cell? ⟨g, k * 7 + 4, none⟩ = some (.int .i64 t.spot.y) ∧ wx.cell? ⟨g, k * 7 + 6, none⟩ = some (.int .i64 t.load) ∧ wx.cell? ⟨gB, t.owner.toNat * 2, none⟩ = some (.int .i64 b.x) ∧ wx.cell? ⟨gB, t.owner.toNat * 2 + 1, none⟩ = some (.int .i64 b.y)))
      refine wp_region_below (by kernel_rfl) (by kernel_rfl) ?_
      repeat (first
        | go_big_quiet_skip
        | (go_big_quiet_want
           first
           | (go_big_quiet_op; go_big_quiet_on)
           | (apply Exists.intro
              refine ⟨fun wq hq => ?_, ?_⟩
              · first
                | (obtain ⟨_, qq0, qq1, qq2, qq3, qq4, qq5, qq6⟩ := HS.out wq hq
                   apply quiet_val2
                   · (go_simp; rfl)
                   · rfl)
                | (apply quiet_call2
                   · (go_simp; rfl)
                   · rfl
                   · first
                     | (with_reducible refine (HBE.out _).mono ?_; rintro e w2 ⟨rfl, hb2⟩; exact ⟨rfl, below_on hq hb2⟩)
                   )
              go_big_quiet_on
              simp only [Act.put, List.setIfInBounds_toArray, List.set_cons_zero, List.set_cons_succ])))
      refine wpQuiet_nil ?_
      intro wz hz
      go_wp2_with fail
      go_ret
      exact ⟨W, by rw [HR.out]; rfl, by rw [HR.out]; rfl, HS1.out.later hz, HB0.out.trans ((hb1.trans (hz.mono hb1.size)).mono hZ0)⟩
    · have hlz : (t.load == 0) = false := by simpa using hl
      have hlz2 : decide (t.load = 0) = false := by simpa using hl
      cases hbe : beside b t.spot with
      | false =>
        rw [hbe] at HBE
        have HR : Hid (W.drop d = none) := Lib.hid (by rw [HMQ.out, hbe]; simp)
        clear hl hbe
        go_enter Try.func66, Try.ntmps66
        go_wp2_with fail
        rw [HW0.out]
        refine (HTR.out).mono ?_; rintro e w1 ⟨rfl, hb1⟩
        have hs1 := HS0.out.later hb1
        obtain ⟨s0, s1, s2, s3, s4, s5, s6, s7, s8⟩ := Wd.wblk hs1.blk
        obtain ⟨gg, oo, heq, hcell⟩ := Trp.at_ hs1.own.T.has (by omega)
        obtain ⟨qg, qo⟩ := addr_eq heq
        subst qg
        subst qo
        obtain ⟨t0, t1, t2, t3, t4, t5, t6⟩ := hcell k t HTT.out
        obtain ⟨gg, oo, heq, hcell2⟩ := Cel.at_ hs1.own.B.has (by omega)
        obtain ⟨qg, qo⟩ := addr_eq heq
        subst qg
        subst qo
        obtain ⟨b0, b1⟩ := hcell2 t.owner.toNat b HBB.out
        obtain ⟨gg, oo, heq, hcell3⟩ := repI_at hs1.own.S.has (by omega)
        obtain ⟨qg, qo⟩ := addr_eq heq
        subst qg
        subst qo
        have q0 := hcell3 t.owner.toNat s HST.out
        simp only [Nat.zero_add, Nat.add_zero] at t0 t1 t2 t3 t4 t5 t6 b0 b1 q0
        have HS1 := Lib.hid hs1
        have hz1 := Below.refl w1.heap.size w1
        clear hcell hcell2 hcell3 hs1
        go_wp2_with fail
        have HS := Lib.hid (fun (wx : World) (h : Below w1.heap.size w1 wx) => (⟨trivial, cell_later h s3, cell_later h t1, cell_later h t3, cell_later h t4, cell_later h t6, cell_later h b0, cell_later h b1⟩ : True ∧ wx.cell? ⟨S, 3, none⟩ = some (.slice (some ⟨gB, 0, none⟩) W.bases.length kB) ∧ wx.cell? ⟨g, k * 7 + 1, none⟩ = some (.int .i64 t.owner) ∧ wx.cell? ⟨g, k * 7 + 3, none⟩ = some (.int .i64 t.spot.x) ∧ wx.cell? ⟨g, k * 7 + 4, none⟩ = some (.int .i64 t.spot.y) ∧ wx.cell? ⟨g, k * 7 + 6, none⟩ = some (.int .i64 t.load) ∧ wx.cell? ⟨gB, t.owner.toNat * 2, none⟩ = some (.int .i64 b.x) ∧ wx.cell? ⟨gB, t.owner.toNat * 2 + 1, none⟩ = some (.int .i64 b.y)))
        refine wp_region_below (by kernel_rfl) (by kernel_rfl) ?_
        repeat (first
          | go_big_quiet_skip
          | (go_big_quiet_want
             first
             | (go_big_quiet_op; go_big_quiet_on)
             | (apply Exists.intro
                refine ⟨fun wq hq => ?_, ?_⟩
                · first
                  | (obtain ⟨_, qq0, qq1, qq2, qq3, qq4, qq5, qq6⟩ := HS.out wq hq
                     apply quiet_val2
                     · (go_simp; rfl)
                     · rfl)
                  | (apply quiet_call2
                     · (go_simp; rfl)
                     · rfl
                     · first
                       | (with_reducible refine (HBE.out _).mono ?_; rintro e w2 ⟨rfl, hb2⟩; exact ⟨rfl, below_on hq hb2⟩)
                     )
                go_big_quiet_on
                simp only [Act.put, List.setIfInBounds_toArray, List.set_cons_zero, List.set_cons_succ])))
        refine wpQuiet_nil ?_
        intro wz hz
        go_wp2_with fail
        go_ret
        exact ⟨W, by rw [HR.out]; rfl, by rw [HR.out]; rfl, HS1.out.later hz, HB0.out.trans ((hb1.trans (hz.mono hb1.size)).mono hZ0)⟩
      | true =>
        rw [hbe] at HBE
        have HBE2 := Lib.hid hbe
        have HL := Lib.hid hl
        clear hl hbe
        go_enter Try.func66, Try.ntmps66
        go_wp2_with fail
        rw [HW0.out]
        refine (HTR.out).mono ?_; rintro e w1 ⟨rfl, hb1⟩
        have hs1 := HS0.out.later hb1
        obtain ⟨s0, s1, s2, s3, s4, s5, s6, s7, s8⟩ := Wd.wblk hs1.blk
        obtain ⟨gg, oo, heq, hcell⟩ := Trp.at_ hs1.own.T.has (by omega)
        obtain ⟨qg, qo⟩ := addr_eq heq
        subst qg
        subst qo
        obtain ⟨t0, t1, t2, t3, t4, t5, t6⟩ := hcell k t HTT.out
        obtain ⟨gg, oo, heq, hcell2⟩ := Cel.at_ hs1.own.B.has (by omega)
        obtain ⟨qg, qo⟩ := addr_eq heq
        subst qg
        subst qo
        obtain ⟨b0, b1⟩ := hcell2 t.owner.toNat b HBB.out
        obtain ⟨gg, oo, heq, hcell3⟩ := repI_at hs1.own.S.has (by omega)
        obtain ⟨qg, qo⟩ := addr_eq heq
        subst qg
        subst qo
        have q0 := hcell3 t.owner.toNat s HST.out
        simp only [Nat.zero_add, Nat.add_zero] at t0 t1 t2 t3 t4 t5 t6 b0 b1 q0
        have HS1 := Lib.hid hs1
        have hz1 := Below.refl w1.heap.size w1
        clear hcell hcell2 hcell3 hs1
        go_wp2_with fail
        have HS := Lib.hid (fun (wx : World) (h : Below w1.heap.size w1 wx) => (⟨trivial, cell_later h s3, cell_later h t1, cell_later h t3, cell_later h t4, cell_later h t6, cell_later h b0, cell_later h b1⟩ : True ∧ wx.cell? ⟨S, 3, none⟩ = some (.slice (some ⟨gB, 0, none⟩) W.bases.length kB) ∧ wx.cell? ⟨g, k * 7 + 1, none⟩ = some (.int .i64 t.owner) ∧ wx.cell? ⟨g, k * 7 + 3, none⟩ = some (.int .i64 t.spot.x) ∧ wx.cell? ⟨g, k * 7 + 4, none⟩ = some (.int .i64 t.spot.y) ∧ wx.cell? ⟨g, k * 7 + 6, none⟩ = some (.int .i64 t.load) ∧ wx.cell? ⟨gB, t.owner.toNat * 2, none⟩ = some (.int .i64 b.x) ∧ wx.cell? ⟨gB, t.owner.toNat * 2 + 1, none⟩ = some (.int .i64 b.y)))
        refine wp_region_below (by kernel_rfl) (by kernel_rfl) ?_
        repeat (first
          | go_big_quiet_skip
          | (go_big_quiet_want
             first
             | (go_big_quiet_op; go_big_quiet_on)
             | (apply Exists.intro
                refine ⟨fun wq hq => ?_, ?_⟩
                · first
                  | (obtain ⟨_, qq0, qq1, qq2, qq3, qq4, qq5, qq6⟩ := HS.out wq hq
                     apply quiet_val2
                     · (go_simp; rfl)
                     · rfl)
                  | (apply quiet_call2
                     · (go_simp; rfl)
                     · rfl
                     · first
                       | (with_reducible refine (HBE.out _).mono ?_; rintro e w2 ⟨rfl, hb2⟩; exact ⟨rfl, below_on hq hb2⟩)
                     )
                go_big_quiet_on
                simp only [Act.put, List.setIfInBounds_toArray, List.set_cons_zero, List.set_cons_succ])))
        refine wpQuiet_nil ?_
        intro wz hz
        go_wp2_with fail
        have HS2 := Lib.hid (HS1.out.later hz)
        have hb12 := hb1.trans (hz.mono hb1.size)
        obtain ⟨w2, rfl⟩ : ∃ w2 : World, w2 = wz := ⟨_, rfl⟩
        clear s0 s1 s2 s3 s4 s5 s6 s7 s8 b0 b1 q0 t0 t1 t2 t3 t4 t5 t6
        have hs2 := HS2.out
        obtain ⟨s0, s1, s2, s3, s4, s5, s6, s7, s8⟩ := Wd.wblk hs2.blk
        obtain ⟨gg, oo, heq, hcell⟩ := Trp.at_ hs2.own.T.has (by omega)
        obtain ⟨qg, qo⟩ := addr_eq heq
        subst qg
        subst qo
        obtain ⟨t0, t1, t2, t3, t4, t5, t6⟩ := hcell k t HTT.out
        obtain ⟨gg, oo, heq, hcell2⟩ := Cel.at_ hs2.own.B.has (by omega)
        obtain ⟨qg, qo⟩ := addr_eq heq
        subst qg
        subst qo
        obtain ⟨b0, b1⟩ := hcell2 t.owner.toNat b HBB.out
        obtain ⟨gg, oo, heq, hcell3⟩ := repI_at hs2.own.S.has (by omega)
        obtain ⟨qg, qo⟩ := addr_eq heq
        subst qg
        subst qo
        have q0 := hcell3 t.owner.toNat s HST.out
        simp only [Nat.zero_add, Nat.add_zero] at t0 t1 t2 t3 t4 t5 t6 b0 b1 q0
        have hz2 := Below.refl w2.heap.size w2
        clear hcell hcell2 hcell3 hs2
        go_wp2_with fail
        have HSx := Lib.hid (fun (wx : World) (h : Below w2.heap.size w2 wx) => (⟨trivial, cell_later h s4, cell_later h t1, cell_later h t6, cell_later h q0⟩ : True ∧ wx.cell? ⟨S, 4, none⟩ = some (.slice (some ⟨gS, 0, none⟩) W.stocks.length kS) ∧ wx.cell? ⟨g, k * 7 + 1, none⟩ = some (.int .i64 t.owner) ∧ wx.cell? ⟨g, k * 7 + 6, none⟩ = some (.int .i64 t.load) ∧ wx.cell? ⟨gS, t.owner.toNat, none⟩ = some (.int .i64 s)))
        refine wp_region_below (by kernel_rfl) (by kernel_rfl) ?_
        repeat (first
          | go_big_quiet_skip
          | (go_big_quiet_want
             first
             | (go_big_quiet_op; go_big_quiet_on)
             | (apply Exists.intro
                refine ⟨fun wq hq => ?_, ?_⟩
                · first
                  | (obtain ⟨_, qq0, qq1, qq2, qq3⟩ := HSx.out wq hq
                     apply quiet_val2
                     · (go_simp; rfl)
                     · rfl)
                  | (apply quiet_call2
                     · (go_simp; rfl)
                     · rfl
                     · first
                       | (fail)
                     )
                go_big_quiet_on
                simp only [Act.put, List.setIfInBounds_toArray, List.set_cons_zero, List.set_cons_succ])))
        refine wpQuiet_nil ?_
        intro wy hz3
        have hw1 : IntKind.i64.wrap (1000000 - s) = 1000000 - s := by rw [IntKind.wrap_i64]; omega
        rw [hw1]
        obtain ⟨n, hn⟩ : ∃ n : Int, min t.load (1000000 - s) = n := ⟨_, rfl⟩
        obtain ⟨hv1, hv2⟩ := drop_val HTT.out HST.out HL.out HBE2.out HMQ.out
        rw [hn] at hv1 hv2 ⊢
        have hn0 : 0 ≤ n ∧ n ≤ t.load ∧ n ≤ 1000000 - s := by omega
        have HV1 := Lib.hid hv1
        have HV2 := Lib.hid hv2
        clear hv1 hv2
        have HS3 := Lib.hid (HS2.out.later hz3)
        have hb13 := hb12.trans (hz3.mono hb12.size)
        obtain ⟨w3, rfl⟩ : ∃ w3 : World, w3 = wy := ⟨_, rfl⟩
        clear s0 s1 s2 s3 s4 s5 s6 s7 s8 b0 b1 q0 t0 t1 t2 t3 t4 t5 t6
        have hs3 := HS3.out
        obtain ⟨s0, s1, s2, s3, s4, s5, s6, s7, s8⟩ := Wd.wblk hs3.blk
        obtain ⟨gg, oo, heq, hcell⟩ := Trp.at_ hs3.own.T.has (by omega)
        obtain ⟨qg, qo⟩ := addr_eq heq
        subst qg
        subst qo
        obtain ⟨t0, t1, t2, t3, t4, t5, t6⟩ := hcell k t HTT.out
        obtain ⟨gg, oo, heq, hcell2⟩ := Cel.at_ hs3.own.B.has (by omega)
        obtain ⟨qg, qo⟩ := addr_eq heq
        subst qg
        subst qo
        obtain ⟨b0, b1⟩ := hcell2 t.owner.toNat b HBB.out
        obtain ⟨gg, oo, heq, hcell3⟩ := repI_at hs3.own.S.has (by omega)
        obtain ⟨qg, qo⟩ := addr_eq heq
        subst qg
        subst qo
        have q0 := hcell3 t.owner.toNat s HST.out
        simp only [Nat.zero_add, Nat.add_zero] at t0 t1 t2 t3 t4 t5 t6 b0 b1 q0
        have hz4 := Below.refl w3.heap.size w3
        clear hcell hcell2 hcell3 hs3
        have fT := HS3.out.own.T.free (k * 7 + 6)
        have fS := HS3.out.own.S.free t.owner.toNat
        have fS : w3.frozen? ⟨gS, t.owner.toNat, none⟩ = false := fS
        have hST : gS ≠ g := fun e => (HS3.out.own.disj.2.2 gS (by simp [Rep.blkOf])).2.2.2 (by simp [Rep.blkOf, e])
        have hTS : g ≠ gS := fun e => hST e.symm
        have hXT : S ≠ g := fun e => HS3.out.far (foot_mem.2 (by rw [e]; simp [Rep.blkOf]))
        have hTX : g ≠ S := fun e => hXT e.symm
        have hXS : S ≠ gS := fun e => HS3.out.far (foot_mem.2 (by rw [e]; simp [Rep.blkOf]))
        have hSX : gS ≠ S := fun e => hXS e.symm
        have hfin := HS3.out.setLoad rfl HTT.out (n := -n) (okI_iff.2 (by omega))
        rw [show t.load + -n = t.load - n from by omega] at hfin
        have HF := Lib.hid hfin
        have HMB := Lib.hid ((hb13.mono hZ0).setCell (p := ⟨g, k * 7 + 6, none⟩) (HS3.out.own.T.lt g (by simp [Rep.blkOf])).1 (.int .i64 (t.load - n)))
        clear hfin
        go_wp2_with fail
        obtain ⟨w4, HW4⟩ : ∃ w4, Hid (w3.setCell ⟨g, k * 7 + 6, none⟩ (.int .i64 (t.load - n)) = w4) := ⟨_, Lib.hid rfl⟩
        rw [HW4.out]
        rw [HW4.out] at HF HMB
        have hkk : (W.troops.set k (Wd.addLoad t (-n)))[k]? = some (Wd.addLoad t (-n)) := List.getElem?_set_self HK.out
        clear s0 s1 s2 s3 s4 s5 s6 s7 s8 b0 b1 q0 t0 t1 t2 t3 t4 t5 t6
        obtain ⟨s0, s1, s2, s3, s4, s5, s6, s7, s8⟩ := Wd.wblk HF.out.blk
        obtain ⟨gg, oo, heq, hcell⟩ := Trp.at_ HF.out.own.T.has (by rw [List.length_set]; omega)
        obtain ⟨qg, qo⟩ := addr_eq heq
        subst qg
        subst qo
        obtain ⟨t0, t1, t2, t3, t4, t5, t6⟩ := hcell k _ hkk
        obtain ⟨gg, oo, heq, hcell3⟩ := repI_at HF.out.own.S.has (by show 0 < W.stocks.length; omega)
        obtain ⟨qg, qo⟩ := addr_eq heq
        subst qg
        subst qo
        have q0 := hcell3 t.owner.toNat s HST.out
        simp only [Nat.zero_add, Nat.add_zero] at t0 t1 t2 t3 t4 t5 t6 q0
        replace t1 : w4.cell? ⟨g, k * 7 + 1, none⟩ = some (.int .i64 t.owner) := t1
        replace s4 : w4.cell? ⟨S, 4, none⟩ = some (.slice (some ⟨gS, 0, none⟩) W.stocks.length kS) := s4
        clear hcell hcell3 hkk s0 s1 s2 s3 s5 s6 s7 s8 t0 t2 t3 t4 t5 t6
        have fS4 : w4.frozen? ⟨gS, t.owner.toNat, none⟩ = false := HF.out.own.S.free t.owner.toNat
        clear fS fT
        have hw2 : IntKind.i64.wrap (s + n) = s + n := by rw [IntKind.wrap_i64]; omega
        have hsl3 : t.owner.toNat < W.stocks.length := by omega
        have HFIN := Lib.hid ((HF.out.setStock rfl hsl3 (m := s + n) (okI_iff.2 (by omega))).later (Below.refl _ _).drew)
        have HMB2 := Lib.hid ((HMB.out.setCell (p := ⟨gS, t.owner.toNat, none⟩) (HF.out.own.S.lt gS (by simp [Rep.blkOf])).1 (.int .i64 (s + n))).drew)
        go_region_law fail
        all_goals
          go_wp2_with fail
          go_ret
          rw [HV1.out, HV2.out]
          exact ⟨rfl, HFIN.out, HB0.out.trans HMB2.out⟩
end Go.Proofs.Yticfnngppcmidaa
