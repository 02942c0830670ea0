/-
  A load is mined. (Printed by bin/gooB.py.)
-/
import Derived.Test.YticfnngppcmidaaShop
import Derived.Test.YticfnngppcmidaaTroA4
set_option linter.unusedVariables false
set_option linter.unusedSimpArgs false
namespace Go.Proofs.Yticfnngppcmidaa
open Go.RowKit

theorem addr_eq {g b o : Nat} (h : some (⟨g, 0, none⟩ : Addr) = some ⟨b, o, none⟩) : g = b ∧ 0 = o := by
  injection h with h
  injection h with h1 h2
  exact ⟨h1, h2⟩
/-- What a deed leaves. -/
def DeedPost (W : Wd) (V : Option Wd) (w : World) (Z S : Nat) (e : Ending) (w' : World) : Prop :=
  ∃ a', e = .returned (.bool V.isSome) ∧ Shop w' Z S a' (V.getD W) ∧ Below Z w w'
def MinePost (W : Wd) (d : Ded) (w : World) (Z S : Nat) (a : Wd.At) (e : Ending) (w' : World) : Prop :=
  ∃ V, e = .returned (.bool (W.mine d).isSome) ∧ (W.mine d).getD W = V ∧ Shop w' Z S a V ∧ Below Z w w'
theorem mine_eq {W : Wd} {d : Ded} {k : Nat} {t : Trp} (hf : W.troops.findIdx? (isId d.who) = some k) (ht : W.troops[k]? = some t) :
    W.mine d = if t.kind == 1 && decide (t.load < 5) && beside t.spot d.spot && W.field.isIn d.spot && W.mines.getD (W.place d.spot) 0 != 0 then
      some { W with mines := W.mines.set (W.place d.spot) (W.mines.getD (W.place d.spot) 0 - 1), troops := W.troops.set k (Wd.addLoad t 1) } else none := by
  have hg : W.troops.getD k default = t := by rw [List.getD_eq_getElem?_getD, ht]; rfl
  unfold Wd.mine
  rw [hf]
  simp only [hg]
theorem fldAt2 (f : Fld) (p : Cel) (A : Option Addr) (c : Nat) (w : World) (hP : repI.SHas 8 w A c f.places) :
    Calls Try.prog 50 #[.agg #[.int .i64 f.wide, .int .i64 f.high, .slice A f.places.length c], .agg #[.int .i64 p.x, .int .i64 p.y]] w fun e w' => e = .returned (.tuple #[.int .i64 (f.atV p), .int .i64 (f.atE p)]) ∧ Below w.heap.size w w' := fldAt f p A c w hP
set_option maxRecDepth 100000 in
set_option maxHeartbeats 4000000 in
theorem mine_any (d : Ded) (w : World) (Z S : Nat) (a : Wd.At) (W : Wd) (h : Shop w Z S a W) (hG : Good W) :
    Calls Try.prog 65 #[.pointer (some ⟨S, 0, none⟩), .agg #[.int .i64 d.kind, .int .i64 d.who, .int .i64 d.spot.x, .int .i64 d.spot.y, .int .i64 d.what]] w (MinePost W d w Z S a) := by
  have hb0 := below_alloc0 w (.cells #[.int .i64 d.kind, .int .i64 d.who, .int .i64 d.spot.x, .int .i64 d.spot.y, .int .i64 d.what] 45)
  have hD := Blk.new w d.cells 45 (0, 0)
  obtain ⟨w0, HW0⟩ : ∃ w0, Hid (w.alloc (.cells #[.int .i64 d.kind, .int .i64 d.who, .int .i64 d.spot.x, .int .i64 d.spot.y, .int .i64 d.what] 45) = w0) := ⟨_, Lib.hid rfl⟩
  rw [HW0.out] at hb0
  have HD0 : Hid (Blk w0 w.heap.size d.cells 45 (0, 0)) := by rw [← HW0.out]; exact hD
  have h0 := h.later hb0
  have hSlt := h.blk.lt
  have HS0 := Lib.hid h0
  have HTR := Lib.hid (shopTroop d.who w0 Z S a W h0)
  have hZ : Z ≤ w.heap.size := by have := h.low; omega
  have HB0 : Hid (Below Z w w0) := Lib.hid (hb0.mono hZ)
  have hZ0 : Z ≤ w0.heap.size := Nat.le_trans hZ hb0.size
  obtain ⟨aP, aB, aS, aM, aT, kP, kB, kS, kM, kT⟩ := a
  have HG := Lib.hid hG
  unfold MinePost
  cases hf : W.troops.findIdx? (isId d.who) with
  | none =>
    have HR : Hid (W.mine d = none) := Lib.hid (by unfold Wd.mine; rw [hf])
    have hto : trOf ⟨aP, aB, aS, aM, aT, kP, kB, kS, kM, kT⟩ W d.who = none := by unfold trOf; rw [hf]
    rw [hto] at HTR
    clear hto hf h h0 hD hG
    go_enter Try.func65, Try.ntmps65
    go_wp2_with fail
    rw [HW0.out]
    refine (HTR.out).mono ?_; rintro e w1 ⟨rfl, hb1⟩
    have hd1 := HD0.out.later hb1
    obtain ⟨e0, e1, e2, e3, e4⟩ := Ded.blk hd1
    have HS1 := Lib.hid (HS0.out.later hb1)
    have hz1 := Below.refl w1.heap.size w1
    clear hd1
    go_wp2_with fail
    have HS := Lib.hid (fun (wx : World) (h : Below w1.heap.size w1 wx) => (⟨trivial, cell_later h e2, cell_later h e3⟩ : True ∧ wx.cell? ⟨w.heap.size, 2, none⟩ = some (.int .i64 d.spot.x) ∧ wx.cell? ⟨w.heap.size, 3, none⟩ = some (.int .i64 d.spot.y)))
    refine wp_region_below (by kernel_rfl) (by kernel_rfl) ?_
    repeat (first
      | go_big_quiet_skip
      | (go_big_quiet_want
         first
         | (go_big_quiet_op; go_big_quiet_on)
         | (apply Exists.intro
            refine ⟨fun wq hq => ?_, ?_⟩
            · first
              | (obtain ⟨_, qq0, qq1⟩ := HS.out wq hq
                 apply quiet_val2
                 · (go_simp; rfl)
                 · rfl)
              | (apply quiet_call2
                 · (go_simp; rfl)
                 · rfl
                 · first
                   | (fail)
                 )
            go_big_quiet_on
            simp only [Act.put, List.setIfInBounds_toArray, List.set_cons_zero, List.set_cons_succ])))
    refine wpQuiet_nil ?_
    intro wz hz
    go_wp2_with fail
    go_ret
    exact ⟨W, by rw [HR.out]; rfl, by rw [HR.out]; rfl, HS1.out.later hz, HB0.out.trans ((hb1.trans (hz.mono hb1.size)).mono hZ0)⟩
  | some k =>
    obtain ⟨t, ht, hid, _⟩ := findId hf
    have hmq := mine_eq hf ht
    have hT : Trp.rep.SOwn 39 56 w0 Z (Rep.blkOf aT) aT kT W.troops := h0.own.T
    have hk : k < W.troops.length := (List.getElem?_eq_some_iff.1 ht).1
    obtain ⟨g, rfl⟩ := hT.block (by omega)
    have hto : trOf ⟨aP, aB, aS, aM, some ⟨g, 0, none⟩, kP, kB, kS, kM, kT⟩ W d.who = some ⟨g, k * 7, none⟩ := by unfold trOf; rw [hf]; rfl
    rw [hto] at HTR
    have HTT := Lib.hid ht
    have HK := Lib.hid hk
    have HMQ := Lib.hid hmq
    have hgd := hG.troops k t ht
    obtain ⟨i1, i2, i3, i4, i5, i6⟩ := Fld.idx hG.field (Fld.ground_in hgd.ground)
    obtain ⟨y1, y2, y3, y4, _, _⟩ := Fld.good hG.field
    have HBE := Lib.hid (fun V => beside_any t.spot d.spot V (by omega) (by omega) (by omega) (by omega))
    have hkk : t.kind = 1 ∨ t.kind = 2 := hgd.kind
    clear hto hf h h0 hD hG hT ht hmq hgd i1 i2 i3 i4 i5 i6 y1 y2 y3 y4 hid
    rcases hkk with hk1 | hk2
    · have hkd : (t.kind == 1) = true := by rw [hk1]; rfl
      have hkd2 : (t.kind != 1) = false := by rw [hk1]; rfl
      by_cases hl : t.load < 5
      · have hld : decide (5 ≤ t.load) = false := by simp; omega
        cases hbe : beside t.spot d.spot with
        | false =>
          rw [hbe] at HBE
          have HR : Hid (W.mine d = none) := Lib.hid (by rw [HMQ.out, hbe]; simp)
          clear hk1 hl hbe
          go_enter Try.func65, Try.ntmps65
          go_wp2_with fail
          rw [HW0.out]
          refine (HTR.out).mono ?_; rintro e w1 ⟨rfl, hb1⟩
          have hs1 := HS0.out.later hb1
          have hd1 := HD0.out.later hb1
          obtain ⟨s0, s1, s2, s3, s4, s5, s6, s7, s8⟩ := Wd.wblk hs1.blk
          obtain ⟨e0, e1, e2, e3, e4⟩ := Ded.blk hd1
          obtain ⟨gg, oo, heq, hcell⟩ := Trp.at_ hs1.own.T.has (by omega)
          obtain ⟨qg, qo⟩ := addr_eq heq
          subst qg
          subst qo
          obtain ⟨t0, t1, t2, t3, t4, t5, t6⟩ := hcell k t HTT.out
          simp only [Nat.zero_add] at t0 t1 t2 t3 t4 t5 t6
          have HS1 := Lib.hid hs1
          have hz1 := Below.refl w1.heap.size w1
          clear hcell hd1 hs1
          go_wp2_with fail
          have HS := Lib.hid (fun (wx : World) (h : Below w1.heap.size w1 wx) => (⟨trivial, cell_later h e2, cell_later h e3, cell_later h t2, cell_later h t3, cell_later h t4, cell_later h t6⟩ : True ∧ wx.cell? ⟨w.heap.size, 2, none⟩ = some (.int .i64 d.spot.x) ∧ wx.cell? ⟨w.heap.size, 3, none⟩ = some (.int .i64 d.spot.y) ∧ wx.cell? ⟨g, k * 7 + 2, none⟩ = some (.int .i64 t.kind) ∧ wx.cell? ⟨g, k * 7 + 3, none⟩ = some (.int .i64 t.spot.x) ∧ wx.cell? ⟨g, k * 7 + 4, none⟩ = some (.int .i64 t.spot.y) ∧ wx.cell? ⟨g, k * 7 + 6, none⟩ = some (.int .i64 t.load)))
          refine wp_region_below (by kernel_rfl) (by kernel_rfl) ?_
          repeat (first
            | go_big_quiet_skip
            | (go_big_quiet_want
               first
               | (go_big_quiet_op; go_big_quiet_on)
               | (apply Exists.intro
                  refine ⟨fun wq hq => ?_, ?_⟩
                  · first
                    | (obtain ⟨_, qq0, qq1, qq2, qq3, qq4, qq5⟩ := HS.out wq hq
                       apply quiet_val2
                       · (go_simp; rfl)
                       · rfl)
                    | (apply quiet_call2
                       · (go_simp; rfl)
                       · rfl
                       · first
                         | (with_reducible refine (HBE.out _).mono ?_; rintro e w2 ⟨rfl, hb2⟩; exact ⟨rfl, below_on hq hb2⟩)
                       )
                  go_big_quiet_on
                  simp only [Act.put, List.setIfInBounds_toArray, List.set_cons_zero, List.set_cons_succ])))
          refine wpQuiet_nil ?_
          intro wz hz
          go_wp2_with fail
          go_ret
          exact ⟨W, by rw [HR.out]; rfl, by rw [HR.out]; rfl, HS1.out.later hz, HB0.out.trans ((hb1.trans (hz.mono hb1.size)).mono hZ0)⟩
        | true =>
          rw [hbe] at HBE
          have HAT := Lib.hid (fun V h => fldAt2 W.field d.spot aP kP V h)
          cases hin : W.field.isIn d.spot with
          | false =>
            have HR : Hid (W.mine d = none) := Lib.hid (by rw [HMQ.out, hin]; simp)
            have he := (Fld.at_out HG.out.field hin)
            rw [he.1, he.2] at HAT
            clear hk1 hl hbe hin he
            go_enter Try.func65, Try.ntmps65
            go_wp2_with fail
            rw [HW0.out]
            refine (HTR.out).mono ?_; rintro e w1 ⟨rfl, hb1⟩
            have hs1 := HS0.out.later hb1
            have hd1 := HD0.out.later hb1
            obtain ⟨s0, s1, s2, s3, s4, s5, s6, s7, s8⟩ := Wd.wblk hs1.blk
            obtain ⟨e0, e1, e2, e3, e4⟩ := Ded.blk hd1
            obtain ⟨gg, oo, heq, hcell⟩ := Trp.at_ hs1.own.T.has (by omega)
            obtain ⟨qg, qo⟩ := addr_eq heq
            subst qg
            subst qo
            obtain ⟨t0, t1, t2, t3, t4, t5, t6⟩ := hcell k t HTT.out
            simp only [Nat.zero_add] at t0 t1 t2 t3 t4 t5 t6
            have HS1 := Lib.hid hs1
            have hz1 := Below.refl w1.heap.size w1
            clear hcell hd1 hs1
            go_wp2_with fail
            have HS := Lib.hid (fun (wx : World) (h : Below w1.heap.size w1 wx) => (⟨trivial, cell_later h e2, cell_later h e3, cell_later h t2, cell_later h t3, cell_later h t4, cell_later h t6⟩ : True ∧ wx.cell? ⟨w.heap.size, 2, none⟩ = some (.int .i64 d.spot.x) ∧ wx.cell? ⟨w.heap.size, 3, none⟩ = some (.int .i64 d.spot.y) ∧ wx.cell? ⟨g, k * 7 + 2, none⟩ = some (.int .i64 t.kind) ∧ wx.cell? ⟨g, k * 7 + 3, none⟩ = some (.int .i64 t.spot.x) ∧ wx.cell? ⟨g, k * 7 + 4, none⟩ = some (.int .i64 t.spot.y) ∧ wx.cell? ⟨g, k * 7 + 6, none⟩ = some (.int .i64 t.load)))
            refine wp_region_below (by kernel_rfl) (by kernel_rfl) ?_
            repeat (first
              | go_big_quiet_skip
              | (go_big_quiet_want
                 first
                 | (go_big_quiet_op; go_big_quiet_on)
                 | (apply Exists.intro
                    refine ⟨fun wq hq => ?_, ?_⟩
                    · first
                      | (obtain ⟨_, qq0, qq1, qq2, qq3, qq4, qq5⟩ := HS.out wq hq
                         apply quiet_val2
                         · (go_simp; rfl)
                         · rfl)
                      | (apply quiet_call2
                         · (go_simp; rfl)
                         · rfl
                         · first
                           | (with_reducible refine (HBE.out _).mono ?_; rintro e w2 ⟨rfl, hb2⟩; exact ⟨rfl, below_on hq hb2⟩)
                         )
                    go_big_quiet_on
                    simp only [Act.put, List.setIfInBounds_toArray, List.set_cons_zero, List.set_cons_succ])))
            refine wpQuiet_nil ?_
            intro wz hz
            go_wp2_with fail
            have HS2 := Lib.hid (HS1.out.later hz)
            have HD2 := Lib.hid ((HD0.out.later hb1).later hz)
            have hb12 := hb1.trans (hz.mono hb1.size)
            obtain ⟨w2, rfl⟩ : ∃ w2 : World, w2 = wz := ⟨_, rfl⟩
            have HAT2 := Lib.hid (HAT.out)
            clear s0 s1 s2 s3 s4 s5 s6 s7 s8 e0 e1 e2 e3 e4 t0 t1 t2 t3 t4 t5 t6
            obtain ⟨s0, s1, s2, s3, s4, s5, s6, s7, s8⟩ := Wd.wblk HS2.out.blk
            obtain ⟨e0, e1, e2, e3, e4⟩ := Ded.blk HD2.out
            go_wp2_with fail
            have HSx := Lib.hid (fun (wx : World) (h : Below w2.heap.size w2 wx) => (⟨trivial, cell_later h s0, cell_later h s1, cell_later h s2, cell_later h e2, cell_later h e3⟩ : True ∧ wx.cell? ⟨S, 0, none⟩ = some (.int .i64 W.field.wide) ∧ wx.cell? ⟨S, 1, none⟩ = some (.int .i64 W.field.high) ∧ wx.cell? ⟨S, 2, none⟩ = some (.slice aP W.field.places.length kP) ∧ wx.cell? ⟨w.heap.size, 2, none⟩ = some (.int .i64 d.spot.x) ∧ wx.cell? ⟨w.heap.size, 3, none⟩ = some (.int .i64 d.spot.y)))
            refine wp_region_below (by kernel_rfl) (by kernel_rfl) ?_
            repeat (first
              | go_big_quiet_skip
              | (go_big_quiet_want
                 first
                 | (go_big_quiet_op; go_big_quiet_on)
                 | (apply Exists.intro
                    refine ⟨fun wq hq => ?_, ?_⟩
                    · first
                      | (obtain ⟨_, qq0, qq1, qq2, qq3, qq4⟩ := HSx.out wq hq
                         apply quiet_val2
                         · (go_simp; rfl)
                         · rfl)
                      | (apply quiet_call2
                         · (go_simp; rfl)
                         · rfl
                         · first
                           | (with_reducible refine (HAT2.out _ (HS2.out.own.P.has.keep hq)).mono ?_; rintro e w2 ⟨rfl, hb2⟩; exact ⟨rfl, below_on hq hb2⟩)
                         )
                    go_big_quiet_on
                    simp only [Act.put, List.setIfInBounds_toArray, List.set_cons_zero, List.set_cons_succ])))
            refine wpQuiet_nil ?_
            intro wy hz2
            go_wp2_with fail
            go_ret
            exact ⟨W, by rw [HR.out]; rfl, by rw [HR.out]; rfl, HS2.out.later hz2, HB0.out.trans ((hb12.trans (hz2.mono hb12.size)).mono hZ0)⟩
          | true =>
            have he := (Fld.at_in HG.out.field hin)
            rw [he.1, he.2] at HAT
            obtain ⟨x1, x2, x3, x4, x5, x6⟩ := Fld.idx HG.out.field hin
            obtain ⟨y1, y2, y3, y4, _, _⟩ := Fld.good HG.out.field
            have hpl := Fld.len_le HG.out.field
            have z1 : 0 ≤ d.spot.y * W.field.wide := Int.mul_nonneg x5 (by omega)
            have z2 : d.spot.y * W.field.wide ≤ 1600 := by omega
            have hml : W.place d.spot < W.mines.length := by rw [HG.out.ml]; unfold Wd.place; omega
            obtain ⟨m, hm⟩ := get_of hml
            have hmr := HG.out.mines _ m hm
            have hmg : W.mines.getD (W.place d.spot) 0 = m := by rw [List.getD_eq_getElem?_getD, hm]; rfl
            have hMo : repI.SOwn 3 8 w0 Z (Rep.blkOf aM) aM kM W.mines := HS0.out.own.M
            obtain ⟨gM, rfl⟩ := hMo.block (by omega)
            have hml2 : W.mines.length = W.field.places.length := HG.out.ml
            have hmlt : d.spot.y * W.field.wide + d.spot.x < (W.mines.length : Int) := by rw [hml2]; exact x2
            have HML := Lib.hid hml
            have HMM := Lib.hid hm
            have HMG := Lib.hid hmg
            have HBE2 := Lib.hid hbe
            have HIN := Lib.hid hin
            have HK1 := Lib.hid hk1
            have HL5 := Lib.hid hl
            have HMR := Lib.hid hmr
            clear hk1 hl hbe hin he hMo hm hmg hml2 hml hmr
            go_enter Try.func65, Try.ntmps65
            go_wp2_with fail
            rw [HW0.out]
            refine (HTR.out).mono ?_; rintro e w1 ⟨rfl, hb1⟩
            have hs1 := HS0.out.later hb1
            have hd1 := HD0.out.later hb1
            obtain ⟨s0, s1, s2, s3, s4, s5, s6, s7, s8⟩ := Wd.wblk hs1.blk
            obtain ⟨e0, e1, e2, e3, e4⟩ := Ded.blk hd1
            obtain ⟨gg, oo, heq, hcell⟩ := Trp.at_ hs1.own.T.has (by omega)
            obtain ⟨qg, qo⟩ := addr_eq heq
            subst qg
            subst qo
            obtain ⟨t0, t1, t2, t3, t4, t5, t6⟩ := hcell k t HTT.out
            simp only [Nat.zero_add] at t0 t1 t2 t3 t4 t5 t6
            have HS1 := Lib.hid hs1
            have hz1 := Below.refl w1.heap.size w1
            clear hcell hd1 hs1
            go_wp2_with fail
            have HS := Lib.hid (fun (wx : World) (h : Below w1.heap.size w1 wx) => (⟨trivial, cell_later h e2, cell_later h e3, cell_later h t2, cell_later h t3, cell_later h t4, cell_later h t6⟩ : True ∧ wx.cell? ⟨w.heap.size, 2, none⟩ = some (.int .i64 d.spot.x) ∧ wx.cell? ⟨w.heap.size, 3, none⟩ = some (.int .i64 d.spot.y) ∧ wx.cell? ⟨g, k * 7 + 2, none⟩ = some (.int .i64 t.kind) ∧ wx.cell? ⟨g, k * 7 + 3, none⟩ = some (.int .i64 t.spot.x) ∧ wx.cell? ⟨g, k * 7 + 4, none⟩ = some (.int .i64 t.spot.y) ∧ wx.cell? ⟨g, k * 7 + 6, none⟩ = some (.int .i64 t.load)))
            refine wp_region_below (by kernel_rfl) (by kernel_rfl) ?_
            repeat (first
              | go_big_quiet_skip
              | (go_big_quiet_want
                 first
                 | (go_big_quiet_op; go_big_quiet_on)
                 | (apply Exists.intro
                    refine ⟨fun wq hq => ?_, ?_⟩
                    · first
                      | (obtain ⟨_, qq0, qq1, qq2, qq3, qq4, qq5⟩ := HS.out wq hq
                         apply quiet_val2
                         · (go_simp; rfl)
                         · rfl)
                      | (apply quiet_call2
                         · (go_simp; rfl)
                         · rfl
                         · first
                           | (with_reducible refine (HBE.out _).mono ?_; rintro e w2 ⟨rfl, hb2⟩; exact ⟨rfl, below_on hq hb2⟩)
                         )
                    go_big_quiet_on
                    simp only [Act.put, List.setIfInBounds_toArray, List.set_cons_zero, List.set_cons_succ])))
            refine wpQuiet_nil ?_
            intro wz hz
            go_wp2_with fail
            have HS2 := Lib.hid (HS1.out.later hz)
            have HD2 := Lib.hid ((HD0.out.later hb1).later hz)
            have hb12 := hb1.trans (hz.mono hb1.size)
            obtain ⟨w2, rfl⟩ : ∃ w2 : World, w2 = wz := ⟨_, rfl⟩
            have HAT2 := Lib.hid (HAT.out)
            clear s0 s1 s2 s3 s4 s5 s6 s7 s8 e0 e1 e2 e3 e4 t0 t1 t2 t3 t4 t5 t6
            obtain ⟨s0, s1, s2, s3, s4, s5, s6, s7, s8⟩ := Wd.wblk HS2.out.blk
            obtain ⟨e0, e1, e2, e3, e4⟩ := Ded.blk HD2.out
            go_wp2_with fail
            have HSx := Lib.hid (fun (wx : World) (h : Below w2.heap.size w2 wx) => (⟨trivial, cell_later h s0, cell_later h s1, cell_later h s2, cell_later h e2, cell_later h e3⟩ : True ∧ wx.cell? ⟨S, 0, none⟩ = some (.int .i64 W.field.wide) ∧ wx.cell? ⟨S, 1, none⟩ = some (.int .i64 W.field.high) ∧ wx.cell? ⟨S, 2, none⟩ = some (.slice aP W.field.places.length kP) ∧ wx.cell? ⟨w.heap.size, 2, none⟩ = some (.int .i64 d.spot.x) ∧ wx.cell? ⟨w.heap.size, 3, none⟩ = some (.int .i64 d.spot.y)))
            refine wp_region_below (by kernel_rfl) (by kernel_rfl) ?_
            repeat (first
              | go_big_quiet_skip
              | (go_big_quiet_want
                 first
                 | (go_big_quiet_op; go_big_quiet_on)
                 | (apply Exists.intro
                    refine ⟨fun wq hq => ?_, ?_⟩
                    · first
                      | (obtain ⟨_, qq0, qq1, qq2, qq3, qq4⟩ := HSx.out wq hq
                         apply quiet_val2
                         · (go_simp; rfl)
                         · rfl)
                      | (apply quiet_call2
                         · (go_simp; rfl)
                         · rfl
                         · first
                           | (with_reducible refine (HAT2.out _ (HS2.out.own.P.has.keep hq)).mono ?_; rintro e w2 ⟨rfl, hb2⟩; exact ⟨rfl, below_on hq hb2⟩)
                         )
                    go_big_quiet_on
                    simp only [Act.put, List.setIfInBounds_toArray, List.set_cons_zero, List.set_cons_succ])))
            refine wpQuiet_nil ?_
            intro wy hz2
            have HS3 := Lib.hid (HS2.out.later hz2)
            have hd3 := (HD2.out.later hz2)
            have hb13 := hb12.trans (hz2.mono hb12.size)
            obtain ⟨s0, s1, s2, s3, s4, s5, s6, s7, s8⟩ := Wd.wblk HS3.out.blk
            obtain ⟨e0, e1, e2, e3, e4⟩ := Ded.blk hd3
            obtain ⟨bM, oM, heqM, hcellM⟩ := repI_at HS3.out.own.M.has (by omega)
            obtain ⟨qg, qo⟩ := addr_eq heqM
            subst qg
            subst qo
            have m0 := hcellM (W.place d.spot) m HMM.out
            simp only [Nat.zero_add] at m0
            have m0 : wy.cell? ⟨gM, (d.spot.y * W.field.wide + d.spot.x).toNat, none⟩ = some (.int .i64 m) := m0
            obtain ⟨gg, oo, heq, hcell⟩ := Trp.at_ HS3.out.own.T.has (by omega)
            obtain ⟨qg, qo⟩ := addr_eq heq
            subst qg
            subst qo
            obtain ⟨t0, t1, t2, t3, t4, t5, t6⟩ := hcell k t HTT.out
            simp only [Nat.zero_add] at t0 t1 t2 t3 t4 t5 t6
            clear hcell hcellM hd3
            go_wp2_with fail
            go_quiet (fail)
            by_cases hm0 : m = 0
            · have HR : Hid (W.mine d = none) := Lib.hid (by rw [HMQ.out, HMG.out, hm0]; simp)
              have hmd : (m == 0) = true := by rw [hm0]; rfl
              clear hm0
              go_wp2_with fail
              go_ret
              exact ⟨W, by rw [HR.out]; rfl, by rw [HR.out]; rfl, HS3.out.later (below_drewN (Below.refl _ _) _), HB0.out.trans ((below_drewN hb13 _).mono hZ0)⟩
            · have hmd : (m == 0) = false := by simpa using hm0
              have hHR : W.mine d = some { W with mines := W.mines.set (W.place d.spot) (m - 1), troops := W.troops.set k (Wd.addLoad t 1) } := by
                rw [HMQ.out, HMG.out, if_pos]
                rw [HBE2.out, HIN.out, hkd]
                simp [HL5.out, hm0]
              have HR := Lib.hid hHR
              have fM := HS3.out.own.M.free (W.place d.spot)
              have fM : wy.frozen? ⟨gM, (d.spot.y * W.field.wide + d.spot.x).toNat, none⟩ = false := fM
              have fT := HS3.out.own.T.free (k * 7 + 6)
              have hMT : gM ≠ g := fun e => (HS3.out.own.disj.1 gM (by simp [Rep.blkOf])).2.2.2 (by simp [Rep.blkOf, e])
              have hTM : g ≠ gM := fun e => hMT e.symm
              have htl := (HG.out.troops k t HTT.out).load
              have htb : 0 ≤ t.load ∧ t.load ≤ 4 := ⟨htl.1, by have := HL5.out; omega⟩
              have hmb := HMR.out
              have hfin := ((HS3.out.later (below_drewN (Below.refl _ _) nq)).setMine rfl HML.out (m := m - 1) (okI_iff.2 (by omega))).setLoad rfl HTT.out (n := 1) (okI_iff.2 (by omega))
              have HFIN := Lib.hid hfin
              clear hHR hm0 hfin htl
              have HMB := Lib.hid (((below_drewN hb13 nq).mono hZ0).setCell (p := ⟨gM, (d.spot.y * W.field.wide + d.spot.x).toNat, none⟩) (HS3.out.own.M.lt gM (by simp [Rep.blkOf])).1 (.int .i64 (m - 1)))
              have HMB2 := Lib.hid (HMB.out.setCell (p := ⟨g, k * 7 + 6, none⟩) (HS3.out.own.T.lt g (by simp [Rep.blkOf])).1 (.int .i64 (t.load + 1)))
              go_wp2_with fail
              go_ret
              rw [HR.out]
              exact ⟨rfl, HFIN.out, HB0.out.trans HMB2.out⟩
      · have hld : decide (5 ≤ t.load) = true := by simp; omega
        have HR : Hid (W.mine d = none) := Lib.hid (by rw [HMQ.out, decide_eq_false hl]; simp)
        clear hk1 hl
        go_enter Try.func65, Try.ntmps65
        go_wp2_with fail
        rw [HW0.out]
        refine (HTR.out).mono ?_; rintro e w1 ⟨rfl, hb1⟩
        have hs1 := HS0.out.later hb1
        have hd1 := HD0.out.later hb1
        obtain ⟨s0, s1, s2, s3, s4, s5, s6, s7, s8⟩ := Wd.wblk hs1.blk
        obtain ⟨e0, e1, e2, e3, e4⟩ := Ded.blk hd1
        obtain ⟨gg, oo, heq, hcell⟩ := Trp.at_ hs1.own.T.has (by omega)
        obtain ⟨qg, qo⟩ := addr_eq heq
        subst qg
        subst qo
        obtain ⟨t0, t1, t2, t3, t4, t5, t6⟩ := hcell k t HTT.out
        simp only [Nat.zero_add] at t0 t1 t2 t3 t4 t5 t6
        have HS1 := Lib.hid hs1
        have hz1 := Below.refl w1.heap.size w1
        clear hcell hd1 hs1
        go_wp2_with fail
        have HS := Lib.hid (fun (wx : World) (h : Below w1.heap.size w1 wx) => (⟨trivial, cell_later h e2, cell_later h e3, cell_later h t2, cell_later h t3, cell_later h t4, cell_later h t6⟩ : True ∧ wx.cell? ⟨w.heap.size, 2, none⟩ = some (.int .i64 d.spot.x) ∧ wx.cell? ⟨w.heap.size, 3, none⟩ = some (.int .i64 d.spot.y) ∧ wx.cell? ⟨g, k * 7 + 2, none⟩ = some (.int .i64 t.kind) ∧ wx.cell? ⟨g, k * 7 + 3, none⟩ = some (.int .i64 t.spot.x) ∧ wx.cell? ⟨g, k * 7 + 4, none⟩ = some (.int .i64 t.spot.y) ∧ wx.cell? ⟨g, k * 7 + 6, none⟩ = some (.int .i64 t.load)))
        refine wp_region_below (by kernel_rfl) (by kernel_rfl) ?_
        repeat (first
          | go_big_quiet_skip
          | (go_big_quiet_want
             first
             | (go_big_quiet_op; go_big_quiet_on)
             | (apply Exists.intro
                refine ⟨fun wq hq => ?_, ?_⟩
                · first
                  | (obtain ⟨_, qq0, qq1, qq2, qq3, qq4, qq5⟩ := HS.out wq hq
                     apply quiet_val2
                     · (go_simp; rfl)
                     · rfl)
                  | (apply quiet_call2
                     · (go_simp; rfl)
                     · rfl
                     · first
                       | (with_reducible refine (HBE.out _).mono ?_; rintro e w2 ⟨rfl, hb2⟩; exact ⟨rfl, below_on hq hb2⟩)
                     )
                go_big_quiet_on
                simp only [Act.put, List.setIfInBounds_toArray, List.set_cons_zero, List.set_cons_succ])))
        refine wpQuiet_nil ?_
        intro wz hz
        go_wp2_with fail
        go_ret
        exact ⟨W, by rw [HR.out]; rfl, by rw [HR.out]; rfl, HS1.out.later hz, HB0.out.trans ((hb1.trans (hz.mono hb1.size)).mono hZ0)⟩
    · have HR : Hid (W.mine d = none) := Lib.hid (by rw [HMQ.out, hk2]; rfl)
      have hkd : (t.kind == 1) = false := by rw [hk2]; rfl
      have hkd2 : (t.kind != 1) = true := by rw [hk2]; rfl
      clear hk2
      go_enter Try.func65, Try.ntmps65
      go_wp2_with fail
      rw [HW0.out]
      refine (HTR.out).mono ?_; rintro e w1 ⟨rfl, hb1⟩
      have hs1 := HS0.out.later hb1
      have hd1 := HD0.out.later hb1
      obtain ⟨s0, s1, s2, s3, s4, s5, s6, s7, s8⟩ := Wd.wblk hs1.blk
      obtain ⟨e0, e1, e2, e3, e4⟩ := Ded.blk hd1
      obtain ⟨gg, oo, heq, hcell⟩ := Trp.at_ hs1.own.T.has (by omega)
      obtain ⟨qg, qo⟩ := addr_eq heq
      subst qg
      subst qo
      obtain ⟨t0, t1, t2, t3, t4, t5, t6⟩ := hcell k t HTT.out
      simp only [Nat.zero_add] at t0 t1 t2 t3 t4 t5 t6
      have HS1 := Lib.hid hs1
      have hz1 := Below.refl w1.heap.size w1
      clear hcell hd1 hs1
      go_wp2_with fail
      have HS := Lib.hid (fun (wx : World) (h : Below w1.heap.size w1 wx) => (⟨trivial, cell_later h e2, cell_later h e3, cell_later h t2, cell_later h t3, cell_later h t4, cell_later h t6⟩ : True ∧ wx.cell? ⟨w.heap.size, 2, none⟩ = some (.int .i64 d.spot.x) ∧ wx.cell? ⟨w.heap.size, 3, none⟩ = some (.int .i64 d.spot.y) ∧ wx.cell? ⟨g, k * 7 + 2, none⟩ = some (.int .i64 t.kind) ∧ wx.cell? ⟨g, k * 7 + 3, none⟩ = some (.int .i64 t.spot.x) ∧ wx.cell? ⟨g, k * 7 + 4, none⟩ = some (.int .i64 t.spot.y) ∧ wx.cell? ⟨g, k * 7 + 6, none⟩ = some (.int .i64 t.load)))
      refine wp_region_below (by kernel_rfl) (by kernel_rfl) ?_
      repeat (first
        | go_big_quiet_skip
        | (go_big_quiet_want
           first
           | (go_big_quiet_op; go_big_quiet_on)
           | (apply Exists.intro
              refine ⟨fun wq hq => ?_, ?_⟩
              · first
                | (obtain ⟨_, qq0, qq1, qq2, qq3, qq4, qq5⟩ := HS.out wq hq
                   apply quiet_val2
                   · (go_simp; rfl)
                   · rfl)
                | (apply quiet_call2
                   · (go_simp; rfl)
                   · rfl
                   · first
                     | (with_reducible refine (HBE.out _).mono ?_; rintro e w2 ⟨rfl, hb2⟩; exact ⟨rfl, below_on hq hb2⟩)
                   )
              go_big_quiet_on
              simp only [Act.put, List.setIfInBounds_toArray, List.set_cons_zero, List.set_cons_succ])))
      refine wpQuiet_nil ?_
      intro wz hz
      go_wp2_with fail
      go_ret
      exact ⟨W, by rw [HR.out]; rfl, by rw [HR.out]; rfl, HS1.out.later hz, HB0.out.trans ((hb1.trans (hz.mono hb1.size)).mono hZ0)⟩
end Go.Proofs.Yticfnngppcmidaa
