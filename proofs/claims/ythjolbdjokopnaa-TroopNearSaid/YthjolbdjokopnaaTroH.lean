/-
  troop.Check; which; Find; On. (Printed by bin/troH.py.)
-/
import Derived.Test.YthjolbdjokopnaaTroG
set_option linter.unusedVariables false
namespace Go.Proofs.Ythjolbdjokopnaa
open Go.RowKit

namespace Wd
theorem chk_field {W : Wd} (h : W.field.chk ≠ 0) : W.chk = W.field.chk := by unfold chk; rw [if_pos h]
theorem chk_large {W : Wd} (h : W.field.chk = 0) (h2 : 8 < W.bases.length ∨ 100 < W.troops.length) : W.chk = 2 := by unfold chk; rw [if_neg (by simpa using h), if_pos h2]
theorem chk_all {W : Wd} (h : W.field.chk = 0) (h2 : ¬ (8 < W.bases.length ∨ 100 < W.troops.length)) : W.chk = if W.players && W.minesOk && W.troopsOk then 0 else 4 := by unfold chk; rw [if_neg (by simpa using h), if_neg h2]
end Wd
set_option maxRecDepth 100000 in
set_option maxHeartbeats 4000000 in
theorem check_any (a : Wd.At) (W : Wd) (w : World) (hW : Wd.Has w a W) :
    Calls Try.prog 57 #[.agg (Wd.cells a W).toArray] w fun e w' => e = .returned (.int .i64 W.chk) ∧ Below w.heap.size w w' := by
  have hpl := fun h0 h8 V (h : Wd.Has V a W) => players_any a W V h h0 h8
  have hmi := fun V (h : Wd.Has V a W) => mines_any a W V h
  have htr := fun h0 h8 h100 V (h : Wd.Has V a W) => troops_any a W V h h0 h8 h100
  obtain ⟨aP, aB, aS, aM, aT, kP, kB, kS, kM, kT⟩ := a
  show Calls _ _ #[.agg #[.int .i64 W.field.wide, .int .i64 W.field.high, .slice aP W.field.places.length kP, .slice aB W.bases.length kB, .slice aS W.stocks.length kS, .slice aM W.mines.length kM, .slice aT W.troops.length kT, .int .i64 W.next, .int .i64 W.now]] _ _
  have hb0 := below_alloc0 w (.cells (Wd.cells ⟨aP, aB, aS, aM, aT, kP, kB, kS, kM, kT⟩ W).toArray 81)
  have HA := Lib.hid (Blk.new w (Wd.cells ⟨aP, aB, aS, aM, aT, kP, kB, kS, kM, kT⟩ W) 81 (0, 0))
  have HH := Lib.hid (hW.keep hb0)
  obtain ⟨w0, HW0⟩ : ∃ w0, Hid (w.alloc (.cells (Wd.cells ⟨aP, aB, aS, aM, aT, kP, kB, kS, kM, kT⟩ W).toArray 81) = w0) := ⟨_, Lib.hid rfl⟩
  rw [HW0.out] at hb0 HH
  have HA : Hid (Blk w0 w.heap.size (Wd.cells ⟨aP, aB, aS, aM, aT, kP, kB, kS, kM, kT⟩ W) 81 (0, 0)) := by rw [← HW0.out]; exact HA
  have hf := fldCheck W.field aP kP w0 HH.out.P
  have HW1 : Hid (w.alloc (.cells #[.int .i64 W.field.wide, .int .i64 W.field.high, .slice aP W.field.places.length kP, .slice aB W.bases.length kB, .slice aS W.stocks.length kS, .slice aM W.mines.length kM, .slice aT W.troops.length kT, .int .i64 W.next, .int .i64 W.now] 81) = w0) := by rw [← HW0.out]; rfl
  obtain ⟨c0, c1, c2, c3, c4, c5, c6, c7, c8⟩ := Wd.wblk HA.out
  clear hW
  by_cases hf0 : W.field.chk = 0
  · by_cases hlg : 8 < W.bases.length ∨ 100 < W.troops.length
    · rw [Wd.chk_large hf0 hlg]
      rw [hf0] at hf
      have HLG := Lib.hid hlg
      clear hlg hf0 hpl hmi htr
      generalize W.field.places.length = np at *
      generalize W.bases.length = nb at *
      generalize W.stocks.length = ns at *
      generalize W.mines.length = nm at *
      generalize W.troops.length = nt at *
      go_enter Try.func57, Try.ntmps57
      go_wp2_with fail
      rw [HW1.out]
      refine hf.mono ?_; rintro e w2 ⟨rfl, hb2⟩
      have d3 := cell_later hb2 c3
      have d6 := cell_later hb2 c6
      have key : decide ((8 : Int) < (nb : Int)) = true ∨ (decide ((8 : Int) < (nb : Int)) = false ∧ decide ((100 : Int) < (nt : Int)) = true) := by
        have := HLG.out
        simp; omega
      clear c0 c1 c2 c3 c4 c5 c6 c7 c8
      rcases key with h | ⟨h, h2⟩
      all_goals
        go_wp2_with fail
        go_ret
        exact ⟨rfl, hb0.trans (hb2.mono hb0.size)⟩
    · rw [Wd.chk_all hf0 hlg]
      have h8 : W.bases.length ≤ 8 := by omega
      have h100 : W.troops.length ≤ 100 := by omega
      have hpl := hpl hf0 h8
      have htr := htr hf0 h8 h100
      rw [hf0] at hf
      have g1 : decide ((8 : Int) < (W.bases.length : Int)) = false := by simp; omega
      have g2 : decide ((100 : Int) < (W.troops.length : Int)) = false := by simp; omega
      have HPL := Lib.hid (fun V (h : Below w0.heap.size w0 V) => hpl V (HH.out.keep h))
      have HMI := Lib.hid (fun V (h : Below w0.heap.size w0 V) => hmi V (HH.out.keep h))
      have HTR := Lib.hid (fun V (h : Below w0.heap.size w0 V) => htr V (HH.out.keep h))
      rw [Wd.cells_eq] at HPL HMI HTR
      have HPL : Hid (∀ V, Below w0.heap.size w0 V → Calls Try.prog 72 #[.agg #[.int .i64 W.field.wide, .int .i64 W.field.high, .slice aP W.field.places.length kP, .slice aB W.bases.length kB, .slice aS W.stocks.length kS, .slice aM W.mines.length kM, .slice aT W.troops.length kT, .int .i64 W.next, .int .i64 W.now]] V fun e w' => e = .returned (.bool W.players) ∧ Below V.heap.size V w') := HPL
      have HMI : Hid (∀ V, Below w0.heap.size w0 V → Calls Try.prog 73 #[.agg #[.int .i64 W.field.wide, .int .i64 W.field.high, .slice aP W.field.places.length kP, .slice aB W.bases.length kB, .slice aS W.stocks.length kS, .slice aM W.mines.length kM, .slice aT W.troops.length kT, .int .i64 W.next, .int .i64 W.now]] V fun e w' => e = .returned (.bool W.minesOk) ∧ Below V.heap.size V w') := HMI
      have HTR : Hid (∀ V, Below w0.heap.size w0 V → Calls Try.prog 74 #[.agg #[.int .i64 W.field.wide, .int .i64 W.field.high, .slice aP W.field.places.length kP, .slice aB W.bases.length kB, .slice aS W.stocks.length kS, .slice aM W.mines.length kM, .slice aT W.troops.length kT, .int .i64 W.next, .int .i64 W.now]] V fun e w' => e = .returned (.bool W.troopsOk) ∧ Below V.heap.size V w') := HTR
      clear hlg hf0 hpl hmi htr h8 h100
      generalize W.players = r1 at *
      generalize W.minesOk = r2 at *
      generalize W.troopsOk = r3 at *
      generalize W.field.places.length = np at *
      generalize W.bases.length = nb at *
      generalize W.stocks.length = ns at *
      generalize W.mines.length = nm at *
      generalize W.troops.length = nt at *
      have q0 := hf
      clear hf
      cases r1 with
      | false =>
        go_enter Try.func57, Try.ntmps57
        go_wp2_with fail
        rw [HW1.out]
        refine q0.mono ?_; rintro e w2 ⟨rfl, hb2⟩
        have c0 := cell_later hb2 c0
        have c1 := cell_later hb2 c1
        have c2 := cell_later hb2 c2
        have c3 := cell_later hb2 c3
        have c4 := cell_later hb2 c4
        have c5 := cell_later hb2 c5
        have c6 := cell_later hb2 c6
        have c7 := cell_later hb2 c7
        have c8 := cell_later hb2 c8
        go_wp2_with fail
        refine (HPL.out _ hb2).mono ?_; rintro e w3 ⟨rfl, hb3⟩
        go_wp2_with fail
        go_ret
        exact ⟨rfl, hb0.trans ((below_on hb2 hb3).mono hb0.size)⟩
      | true =>
        cases r2 with
        | false =>
          go_enter Try.func57, Try.ntmps57
          go_wp2_with fail
          rw [HW1.out]
          refine q0.mono ?_; rintro e w2 ⟨rfl, hb2⟩
          have c0 := cell_later hb2 c0
          have c1 := cell_later hb2 c1
          have c2 := cell_later hb2 c2
          have c3 := cell_later hb2 c3
          have c4 := cell_later hb2 c4
          have c5 := cell_later hb2 c5
          have c6 := cell_later hb2 c6
          have c7 := cell_later hb2 c7
          have c8 := cell_later hb2 c8
          go_wp2_with fail
          refine (HPL.out _ hb2).mono ?_; rintro e w3 ⟨rfl, hb3⟩
          have hb23 := below_on hb2 hb3
          have c0 := cell_later hb3 c0
          have c1 := cell_later hb3 c1
          have c2 := cell_later hb3 c2
          have c3 := cell_later hb3 c3
          have c4 := cell_later hb3 c4
          have c5 := cell_later hb3 c5
          have c6 := cell_later hb3 c6
          have c7 := cell_later hb3 c7
          have c8 := cell_later hb3 c8
          go_wp2_with fail
          refine (HMI.out _ hb23).mono ?_; rintro e w4 ⟨rfl, hb4⟩
          go_wp2_with fail
          go_ret
          exact ⟨rfl, hb0.trans ((below_on hb23 hb4).mono hb0.size)⟩
        | true =>
          cases r3 with
          | false =>
            go_enter Try.func57, Try.ntmps57
            go_wp2_with fail
            rw [HW1.out]
            refine q0.mono ?_; rintro e w2 ⟨rfl, hb2⟩
            have c0 := cell_later hb2 c0
            have c1 := cell_later hb2 c1
            have c2 := cell_later hb2 c2
            have c3 := cell_later hb2 c3
            have c4 := cell_later hb2 c4
            have c5 := cell_later hb2 c5
            have c6 := cell_later hb2 c6
            have c7 := cell_later hb2 c7
            have c8 := cell_later hb2 c8
            go_wp2_with fail
            refine (HPL.out _ hb2).mono ?_; rintro e w3 ⟨rfl, hb3⟩
            have hb23 := below_on hb2 hb3
            have c0 := cell_later hb3 c0
            have c1 := cell_later hb3 c1
            have c2 := cell_later hb3 c2
            have c3 := cell_later hb3 c3
            have c4 := cell_later hb3 c4
            have c5 := cell_later hb3 c5
            have c6 := cell_later hb3 c6
            have c7 := cell_later hb3 c7
            have c8 := cell_later hb3 c8
            go_wp2_with fail
            refine (HMI.out _ hb23).mono ?_; rintro e w4 ⟨rfl, hb4⟩
            have hb24 := below_on hb23 hb4
            have c0 := cell_later hb4 c0
            have c1 := cell_later hb4 c1
            have c2 := cell_later hb4 c2
            have c3 := cell_later hb4 c3
            have c4 := cell_later hb4 c4
            have c5 := cell_later hb4 c5
            have c6 := cell_later hb4 c6
            have c7 := cell_later hb4 c7
            have c8 := cell_later hb4 c8
            go_wp2_with fail
            refine (HTR.out _ hb24).mono ?_; rintro e w5 ⟨rfl, hb5⟩
            go_wp2_with fail
            go_ret
            exact ⟨rfl, hb0.trans ((below_on hb24 hb5).mono hb0.size)⟩
          | true =>
            go_enter Try.func57, Try.ntmps57
            go_wp2_with fail
            rw [HW1.out]
            refine q0.mono ?_; rintro e w2 ⟨rfl, hb2⟩
            have c0 := cell_later hb2 c0
            have c1 := cell_later hb2 c1
            have c2 := cell_later hb2 c2
            have c3 := cell_later hb2 c3
            have c4 := cell_later hb2 c4
            have c5 := cell_later hb2 c5
            have c6 := cell_later hb2 c6
            have c7 := cell_later hb2 c7
            have c8 := cell_later hb2 c8
            go_wp2_with fail
            refine (HPL.out _ hb2).mono ?_; rintro e w3 ⟨rfl, hb3⟩
            have hb23 := below_on hb2 hb3
            have c0 := cell_later hb3 c0
            have c1 := cell_later hb3 c1
            have c2 := cell_later hb3 c2
            have c3 := cell_later hb3 c3
            have c4 := cell_later hb3 c4
            have c5 := cell_later hb3 c5
            have c6 := cell_later hb3 c6
            have c7 := cell_later hb3 c7
            have c8 := cell_later hb3 c8
            go_wp2_with fail
            refine (HMI.out _ hb23).mono ?_; rintro e w4 ⟨rfl, hb4⟩
            have hb24 := below_on hb23 hb4
            have c0 := cell_later hb4 c0
            have c1 := cell_later hb4 c1
            have c2 := cell_later hb4 c2
            have c3 := cell_later hb4 c3
            have c4 := cell_later hb4 c4
            have c5 := cell_later hb4 c5
            have c6 := cell_later hb4 c6
            have c7 := cell_later hb4 c7
            have c8 := cell_later hb4 c8
            go_wp2_with fail
            refine (HTR.out _ hb24).mono ?_; rintro e w5 ⟨rfl, hb5⟩
            go_wp2_with fail
            go_ret
            exact ⟨rfl, hb0.trans ((below_on hb24 hb5).mono hb0.size)⟩
  · rw [Wd.chk_field hf0]
    have hd : (W.field.chk == 0) = false := by simpa using hf0
    have hd2 : (W.field.chk != 0) = true := by simpa using hf0
    clear hf0 hpl hmi htr
    generalize W.field.chk = k at *
    go_enter Try.func57, Try.ntmps57
    go_wp2_with fail
    rw [HW1.out]
    refine hf.mono ?_; rintro e w2 ⟨rfl, hb2⟩
    go_wp2_with fail
    go_ret
    exact ⟨rfl, hb0.trans (hb2.mono hb0.size)⟩
def isId (id : Int) (t : Trp) : Bool := t.id == id
def isAt (p : Cel) (t : Trp) : Bool := decide (t.spot = p)
set_option maxHeartbeats 1000000 in
theorem find1 (t : Trp) (id : Int) (g : Nat) (w : World) (hg : w.cell? ⟨g, 0, none⟩ = some (.int .i64 id)) :
    Calls Try.prog 54 #[.agg #[.int .i64 t.id, .int .i64 t.owner, .int .i64 t.kind, .int .i64 t.spot.x, .int .i64 t.spot.y, .int .i64 t.life, .int .i64 t.load], .pointer (some ⟨g, 0, none⟩)] w fun e w' => e = .returned (.bool (isId id t)) ∧ Below w.heap.size w w' := by
  have hb := below_alloc0 w (.cells #[.int .i64 t.id, .int .i64 t.owner, .int .i64 t.kind, .int .i64 t.spot.x, .int .i64 t.spot.y, .int .i64 t.life, .int .i64 t.load] 87)
  have hlt := World.block_lt_of_cell? w _ hg
  simp only at hlt
  go_enter Try.func54, Try.ntmps54
  go_wp2_with fail
  go_ret
  exact ⟨rfl, hb⟩
set_option maxHeartbeats 1000000 in
theorem on1 (t : Trp) (p : Cel) (g : Nat) (w : World) (hg : w.cell? ⟨g, 0, none⟩ = some (.int .i64 p.x) ∧ w.cell? ⟨g, 1, none⟩ = some (.int .i64 p.y)) :
    Calls Try.prog 56 #[.agg #[.int .i64 t.id, .int .i64 t.owner, .int .i64 t.kind, .int .i64 t.spot.x, .int .i64 t.spot.y, .int .i64 t.life, .int .i64 t.load], .pointer (some ⟨g, 0, none⟩)] w fun e w' => e = .returned (.bool (isAt p t)) ∧ Below w.heap.size w w' := by
  have hb := below_alloc0 w (.cells #[.int .i64 t.id, .int .i64 t.owner, .int .i64 t.kind, .int .i64 t.spot.x, .int .i64 t.spot.y, .int .i64 t.life, .int .i64 t.load] 87)
  obtain ⟨hg, hg2⟩ := hg
  have hlt := World.block_lt_of_cell? w _ hg
  simp only at hlt
  by_cases h : t.spot = p
  · have hr : isAt p t = true := by unfold isAt; simp [h]
    rw [hr]
    subst h
    clear hr
    go_enter Try.func56, Try.ntmps56
    go_wp2_with fail
    go_ret
    exact ⟨rfl, hb⟩
  · have hr : isAt p t = false := by unfold isAt; simp [h]
    have hne : (t.spot.x == p.x) = false ∨ ((t.spot.x == p.x) = true ∧ (t.spot.y == p.y) = false) := by
      obtain ⟨_, _, _, ⟨a, b⟩, _, _⟩ := t
      obtain ⟨c, d⟩ := p
      simp at h ⊢
      omega
    rw [hr]
    clear hr h
    rcases hne with h1 | ⟨h1, h2⟩
    all_goals
      go_enter Try.func56, Try.ntmps56
      go_wp2_with fail
      go_ret
      exact ⟨ret_bool (by simp_all), hb⟩
set_option maxRecDepth 100000 in
set_option maxHeartbeats 1000000 in
theorem idx_id (id : Int) (g : Nat) (A : Option Addr) (c : Nat) (l : List Trp) (w : World) (hl : Trp.rep.SHas 56 w A c l) (hg : w.cell? ⟨g, 0, none⟩ = some (.int .i64 id)) :
    Calls Try.prog 70 #[.slice A l.length c, .func (.func 54) #[] #[.pointer (some ⟨g, 0, none⟩)]] w fun e w' => e = .returned (.int .i64 (idxI (isId id) l)) ∧ Below w.heap.size w w' := by
  obtain ⟨n, hn⟩ : ∃ n, l.length = n := ⟨_, rfl⟩
  have hle : n ≤ 9223372036854775807 := by have := hl.1; have := hl.2.1; omega
  rw [hn]
  have HL := Lib.hid hl
  have HN := Lib.hid hn
  clear hl hn
  go_enter Try.func70, Try.ntmps70
  go_wp2_with fail
  go_loopw [5, 8] (fun _ iv wr => ∃ k : Nat, k ≤ n ∧ iv = .int .i64 (k : Int) ∧ Hid (∀ j (hj : j < k) (hj2 : j < l.length), (isId id) l[j] = false) ∧ Below w.heap.size w wr) (fun _ iv _ => n - (intOf iv).toNat)
  case atStart => exact ⟨0, Nat.zero_le _, rfl, (fun j hj => by omega), Below.refl _ _⟩
  case round =>
    obtain ⟨k, hk, rfl, HK, hb⟩ := hrel
    by_cases hlt : k < n
    · have hkl : k < l.length := by rw [HN.out]; exact hlt
      obtain ⟨b, o, rfl, hcell⟩ := Trp.at_ (HL.out.keep hb) (by omega)
      obtain ⟨x, hxe⟩ : ∃ x, l[k]'hkl = x := ⟨_, rfl⟩
      obtain ⟨q0, q1, q2, q3, q4, q5, q6⟩ := hcell k x (by rw [List.getElem?_eq_getElem hkl, hxe])
      have HXE := Lib.hid hxe
      have hg' : wr.cell? ⟨g, 0, none⟩ = some (.int .i64 id) := cell_later hb hg
      have hc := find1 x id g wr hg'
      clear hcell hxe
      cases hbad : (isId id) x with
      | true =>
        have hres : idxI (isId id) l = (k : Int) := idxI_some hkl (by rw [HXE.out]; exact hbad) fun j hj => HK.out j hj (by omega)
        rw [hbad] at hc
        have HRES := Lib.hid hres
        clear hres hbad
        go_wp2_with (go_at_call 54; refine hc.mono ?_; rintro e w' ⟨rfl, hb2⟩)
        go_ret
        exact ⟨by rw [HRES.out]; rfl, hb.trans (hb2.mono hb.size)⟩
      | false =>
        rw [hbad] at hc
        have HK2 : Hid (∀ j (hj : j < k + 1) (hj2 : j < l.length), (isId id) l[j] = false) := by
          intro j hj hj2
          by_cases h : j < k
          · exact HK.out j h hj2
          · obtain rfl : j = k := by omega
            rw [HXE.out]; exact hbad
        clear hbad
        go_wp2_with (go_at_call 54; refine hc.mono ?_; rintro e w' ⟨rfl, hb2⟩)
        go_roundw
        case rel => exact ⟨k + 1, by omega, by go_num, HK2, hb.trans (hb2.mono hb.size)⟩
        case measure => simp [intOf]; omega
    · have hres : idxI (isId id) l = -1 := idxI_none fun j hj => HK.out j (by have := HN.out; omega) hj
      have HRES := Lib.hid hres
      clear hres
      go_wp2_with fail
      go_ret
      exact ⟨by rw [HRES.out]; rfl, hb⟩
set_option maxRecDepth 100000 in
set_option maxHeartbeats 1000000 in
theorem idx_at (p : Cel) (g : Nat) (A : Option Addr) (c : Nat) (l : List Trp) (w : World) (hl : Trp.rep.SHas 56 w A c l) (hg : w.cell? ⟨g, 0, none⟩ = some (.int .i64 p.x) ∧ w.cell? ⟨g, 1, none⟩ = some (.int .i64 p.y)) :
    Calls Try.prog 70 #[.slice A l.length c, .func (.func 56) #[] #[.pointer (some ⟨g, 0, none⟩)]] w fun e w' => e = .returned (.int .i64 (idxI (isAt p) l)) ∧ Below w.heap.size w w' := by
  obtain ⟨n, hn⟩ : ∃ n, l.length = n := ⟨_, rfl⟩
  have hle : n ≤ 9223372036854775807 := by have := hl.1; have := hl.2.1; omega
  rw [hn]
  have HL := Lib.hid hl
  have HN := Lib.hid hn
  clear hl hn
  go_enter Try.func70, Try.ntmps70
  go_wp2_with fail
  go_loopw [5, 8] (fun _ iv wr => ∃ k : Nat, k ≤ n ∧ iv = .int .i64 (k : Int) ∧ Hid (∀ j (hj : j < k) (hj2 : j < l.length), (isAt p) l[j] = false) ∧ Below w.heap.size w wr) (fun _ iv _ => n - (intOf iv).toNat)
  case atStart => exact ⟨0, Nat.zero_le _, rfl, (fun j hj => by omega), Below.refl _ _⟩
  case round =>
    obtain ⟨k, hk, rfl, HK, hb⟩ := hrel
    by_cases hlt : k < n
    · have hkl : k < l.length := by rw [HN.out]; exact hlt
      obtain ⟨b, o, rfl, hcell⟩ := Trp.at_ (HL.out.keep hb) (by omega)
      obtain ⟨x, hxe⟩ : ∃ x, l[k]'hkl = x := ⟨_, rfl⟩
      obtain ⟨q0, q1, q2, q3, q4, q5, q6⟩ := hcell k x (by rw [List.getElem?_eq_getElem hkl, hxe])
      have HXE := Lib.hid hxe
      have hg' : wr.cell? ⟨g, 0, none⟩ = some (.int .i64 p.x) ∧ wr.cell? ⟨g, 1, none⟩ = some (.int .i64 p.y) := ⟨cell_later hb hg.1, cell_later hb hg.2⟩
      have hc := on1 x p g wr hg'
      clear hcell hxe
      cases hbad : (isAt p) x with
      | true =>
        have hres : idxI (isAt p) l = (k : Int) := idxI_some hkl (by rw [HXE.out]; exact hbad) fun j hj => HK.out j hj (by omega)
        rw [hbad] at hc
        have HRES := Lib.hid hres
        clear hres hbad
        go_wp2_with (go_at_call 56; refine hc.mono ?_; rintro e w' ⟨rfl, hb2⟩)
        go_ret
        exact ⟨by rw [HRES.out]; rfl, hb.trans (hb2.mono hb.size)⟩
      | false =>
        rw [hbad] at hc
        have HK2 : Hid (∀ j (hj : j < k + 1) (hj2 : j < l.length), (isAt p) l[j] = false) := by
          intro j hj hj2
          by_cases h : j < k
          · exact HK.out j h hj2
          · obtain rfl : j = k := by omega
            rw [HXE.out]; exact hbad
        clear hbad
        go_wp2_with (go_at_call 56; refine hc.mono ?_; rintro e w' ⟨rfl, hb2⟩)
        go_roundw
        case rel => exact ⟨k + 1, by omega, by go_num, HK2, hb.trans (hb2.mono hb.size)⟩
        case measure => simp [intOf]; omega
    · have hres : idxI (isAt p) l = -1 := idxI_none fun j hj => HK.out j (by have := HN.out; omega) hj
      have HRES := Lib.hid hres
      clear hres
      go_wp2_with fail
      go_ret
      exact ⟨by rw [HRES.out]; rfl, hb⟩
end Go.Proofs.Ythjolbdjokopnaa
