/-
  A shop; goods.beside; its troops by their numbers. (Printed by bin/gooA.py.)
-/
import Derived.Test.YticfnngppcmidaaGooM
import Derived.Test.YticfnngppcmidaaWld
import Derived.Test.YticfnngppcmidaaEqI
import Derived.Test.YticfnngppcmidaaBas
set_option linter.unusedVariables false
set_option linter.unusedSimpArgs false
namespace Go.Proofs.Yticfnngppcmidaa
open Go.RowKit

/-- A shop that works on a world of its own. -/
structure Shop (w : World) (Z S : Nat) (a : Wd.At) (W : Wd) : Prop where
  blk : Blk w S (Wd.cells a W) 91 (0, 0)
  own : WOwn w Z a W
  far : S ∉ WOwn.foot a
  low : Z ≤ S
theorem Shop.later {w w' : World} {Z S : Nat} {a : Wd.At} {W : Wd} (h : Shop w Z S a W) (hb : Below w.heap.size w w') : Shop w' Z S a W := ⟨h.blk.later hb, h.own.later hb, h.far, h.low⟩
set_option maxRecDepth 100000 in
set_option maxHeartbeats 1000000 in
theorem beside_any (a b : Cel) (w : World) (h1 : 0 ≤ a.x) (h2 : a.x ≤ 40) (h3 : 0 ≤ a.y) (h4 : a.y ≤ 40) :
    Calls Try.prog 80 #[.agg #[.int .i64 a.x, .int .i64 a.y], .agg #[.int .i64 b.x, .int .i64 b.y]] w fun e w' => e = .returned (.bool (beside a b)) ∧ Below w.heap.size w w' := by
  have hb0 := below_alloc0 w (.cells #[.int .i64 a.x, .int .i64 a.y] 37)
  have hb1 := below_alloc0 (w.alloc (.cells #[.int .i64 a.x, .int .i64 a.y] 37)) (.cells #[.int .i64 b.x, .int .i64 b.y] 37)
  have hb := hb0.trans (hb1.mono hb0.size)
  unfold beside
  clear hb0 hb1
  rcases Int.lt_or_le b.x (a.x - 1) with c1 | c1
  · rw [inB_not (.inl c1)]
    have d1 : decide (a.x - 1 ≤ b.x) = false := by simp; omega
    go_enter Try.func80, Try.ntmps80
    go_wp2
    go_ret
    exact ⟨rfl, hb⟩
  · have d1 : decide (a.x - 1 ≤ b.x) = true := by simp; omega
    rcases Int.lt_or_le (a.x + 1) b.x with c2 | c2
    · rw [inB_not (n := b.x) (.inr c2)]
      have d2 : decide (b.x ≤ a.x + 1) = false := by simp; omega
      go_enter Try.func80, Try.ntmps80
      go_wp2
      go_ret
      exact ⟨ret_bool (by simp <;> omega), hb⟩
    · have d2 : decide (b.x ≤ a.x + 1) = true := by simp; omega
      rw [inB_mk (n := b.x) c1 c2]
      rcases Int.lt_or_le b.y (a.y - 1) with c3 | c3
      · rw [inB_not (.inl c3)]
        have d3 : decide (a.y - 1 ≤ b.y) = false := by simp; omega
        go_enter Try.func80, Try.ntmps80
        go_wp2
        go_ret
        exact ⟨ret_bool (by simp <;> omega), hb⟩
      · have d3 : decide (a.y - 1 ≤ b.y) = true := by simp; omega
        rcases Int.lt_or_le (a.y + 1) b.y with c4 | c4
        · rw [inB_not (n := b.y) (.inr c4)]
          have d4 : decide (b.y ≤ a.y + 1) = false := by simp; omega
          go_enter Try.func80, Try.ntmps80
          go_wp2
          go_ret
          exact ⟨ret_bool (by simp <;> omega), hb⟩
        · have d4 : decide (b.y ≤ a.y + 1) = true := by simp; omega
          rw [inB_mk (n := b.y) c3 c4]
          go_enter Try.func80, Try.ntmps80
          go_wp2
          go_ret
          exact ⟨ret_bool (by simp <;> omega), hb⟩
set_option maxHeartbeats 1000000 in
theorem troop1 (t : Trp) (id : Int) (g : Nat) (w : World) (hg : w.cell? ⟨g, 0, none⟩ = some (.int .i64 id)) :
    Calls Try.prog 91 #[.agg #[.int .i64 t.id, .int .i64 t.owner, .int .i64 t.kind, .int .i64 t.spot.x, .int .i64 t.spot.y, .int .i64 t.life, .int .i64 t.load], .pointer (some ⟨g, 0, none⟩)] w fun e w' => e = .returned (.bool (isId id t)) ∧ Below w.heap.size w w' := by
  have hb := below_alloc0 w (.cells #[.int .i64 t.id, .int .i64 t.owner, .int .i64 t.kind, .int .i64 t.spot.x, .int .i64 t.spot.y, .int .i64 t.life, .int .i64 t.load] 39)
  have hlt := World.block_lt_of_cell? w _ hg
  simp only at hlt
  go_enter Try.func91, Try.ntmps91
  go_wp2_with fail
  go_ret
  exact ⟨rfl, hb⟩
set_option maxRecDepth 100000 in
set_option maxHeartbeats 1000000 in
theorem idx_tid (id : Int) (g : Nat) (A : Option Addr) (c : Nat) (l : List Trp) (w : World) (hl : Trp.rep.SHas 56 w A c l) (hg : w.cell? ⟨g, 0, none⟩ = some (.int .i64 id)) :
    Calls Try.prog 90 #[.slice A l.length c, .func (.func 91) #[] #[.pointer (some ⟨g, 0, none⟩)]] w fun e w' => e = .returned (.int .i64 (idxI (isId id) l)) ∧ Below w.heap.size w w' := by
  obtain ⟨n, hn⟩ : ∃ n, l.length = n := ⟨_, rfl⟩
  have hle : n ≤ 9223372036854775807 := by have := hl.1; have := hl.2.1; omega
  rw [hn]
  have HL := Lib.hid hl
  have HN := Lib.hid hn
  clear hl hn
  go_enter Try.func90, Try.ntmps90
  go_wp2_with fail
  go_loopw [5, 8] (fun _ iv wr => ∃ k : Nat, k ≤ n ∧ iv = .int .i64 (k : Int) ∧ Hid (∀ j (hj : j < k) (hj2 : j < l.length), (isId id) l[j] = false) ∧ Below w.heap.size w wr) (fun _ iv _ => n - (intOf iv).toNat)
  case atStart => exact ⟨0, Nat.zero_le _, rfl, (fun j hj => by omega), Below.refl _ _⟩
  case round =>
    obtain ⟨k, hk, rfl, HK, hb⟩ := hrel
    by_cases hlt : k < n
    · have hkl : k < l.length := by rw [HN.out]; exact hlt
      obtain ⟨b, o, rfl, hcell⟩ := Trp.at_ (HL.out.keep hb) (by omega)
      obtain ⟨x, hxe⟩ : ∃ x, l[k]'hkl = x := ⟨_, rfl⟩
      obtain ⟨q0, q1, q2, q3, q4, q5, q6⟩ := hcell k x (by rw [List.getElem?_eq_getElem hkl, hxe])
      have HXE := Lib.hid hxe
      have hg' : wr.cell? ⟨g, 0, none⟩ = some (.int .i64 id) := cell_later hb hg
      have hc := troop1 x id g wr hg'
      clear hcell hxe
      cases hbad : (isId id) x with
      | true =>
        have hres : idxI (isId id) l = (k : Int) := idxI_some hkl (by rw [HXE.out]; exact hbad) fun j hj => HK.out j hj (by omega)
        rw [hbad] at hc
        have HRES := Lib.hid hres
        clear hres hbad
        go_wp2_with (go_at_call 91; refine hc.mono ?_; rintro e w' ⟨rfl, hb2⟩)
        go_ret
        exact ⟨by rw [HRES.out]; rfl, hb.trans (hb2.mono hb.size)⟩
      | false =>
        rw [hbad] at hc
        have HK2 : Hid (∀ j (hj : j < k + 1) (hj2 : j < l.length), (isId id) l[j] = false) := by
          intro j hj hj2
          by_cases h : j < k
          · exact HK.out j h hj2
          · obtain rfl : j = k := by omega
            rw [HXE.out]; exact hbad
        clear hbad
        go_wp2_with (go_at_call 91; refine hc.mono ?_; rintro e w' ⟨rfl, hb2⟩)
        go_roundw
        case rel => exact ⟨k + 1, by omega, by go_num, HK2, hb.trans (hb2.mono hb.size)⟩
        case measure => simp [intOf]; omega
    · have hres : idxI (isId id) l = -1 := idxI_none fun j hj => HK.out j (by have := HN.out; omega) hj
      have HRES := Lib.hid hres
      clear hres
      go_wp2_with fail
      go_ret
      exact ⟨by rw [HRES.out]; rfl, hb⟩
/-- Where a troop stands in memory. -/
def trAt (a : Wd.At) (k : Nat) : Option Addr := a.T.map fun x => ⟨x.block, k * 7, none⟩
def trOf (a : Wd.At) (W : Wd) (id : Int) : Option Addr := match W.troops.findIdx? (isId id) with | none => none | some k => trAt a k
set_option maxRecDepth 100000 in
set_option maxHeartbeats 1000000 in
theorem shopTroop (id : Int) (w : World) (Z S : Nat) (a : Wd.At) (W : Wd) (h : Shop w Z S a W) :
    Calls Try.prog 79 #[.pointer (some ⟨S, 0, none⟩), .int .i64 id] w fun e w' => e = .returned (.pointer (trOf a W id)) ∧ Below w.heap.size w w' := by
  obtain ⟨aP, aB, aS, aM, aT, kP, kB, kS, kM, kT⟩ := a
  have hb0 := below_alloc0 w (.cells #[.int .i64 id] 3)
  have hI := Blk.new w [.int .i64 id] 3 (0, 0)
  obtain ⟨w0, HW0⟩ : ∃ w0, Hid (w.alloc (.cells #[.int .i64 id] 3) = w0) := ⟨_, Lib.hid rfl⟩
  rw [HW0.out] at hb0
  have hI : Blk w0 w.heap.size [.int .i64 id] 3 (0, 0) := by rw [← HW0.out]; exact hI
  have h0 := h.later hb0
  obtain ⟨nt, HNT⟩ : ∃ n, Hid (W.troops.length = n) := ⟨_, Lib.hid rfl⟩
  have HIX := Lib.hid (idx_tid id w.heap.size aT kT W.troops w0 h0.own.T.has (hI.cell 0))
  have hSlt := h.blk.lt
  obtain ⟨c0, c1, c2, c3, c4, c5, c6, c7, c8⟩ := Wd.wblk h0.blk
  have HB := Lib.hid h0.blk
  have hT : Trp.rep.SOwn 39 56 w0 Z (Rep.blkOf aT) aT kT W.troops := h0.own.T
  obtain ⟨b0, b1, b2, b3, b4, b5, b6, b7, b8⟩ := Wd.wblk h.blk
  rw [HNT.out] at HIX c6 b6
  unfold trOf
  cases hf : W.troops.findIdx? (isId id) with
  | none =>
    have hi : idxI (isId id) W.troops = -1 := by unfold idxI; rw [hf]
    rw [hi] at HIX
    clear hf hi h h0 hT hI
    go_enter Try.func79, Try.ntmps79
    go_wp2_with fail
    rw [HW0.out]
    refine HIX.out.mono ?_; rintro e w2 ⟨rfl, hb2⟩
    go_wp2_with fail
    go_ret
    exact ⟨rfl, hb0.trans (hb2.mono hb0.size)⟩
  | some k =>
    have hi : idxI (isId id) W.troops = (k : Int) := by unfold idxI; rw [hf]
    rw [hi] at HIX
    obtain ⟨t, ht, _⟩ := findId hf
    have hk : k < nt := by rw [← HNT.out]; exact (List.getElem?_eq_some_iff.1 ht).1
    obtain ⟨g, rfl⟩ := hT.block (by rw [HNT.out]; omega)
    have hki : (k : Int) < (nt : Int) := by omega
    have hk0 : (0 : Int) ≤ (k : Int) := by omega
    have hkm : nt ≤ 9223372036854775807 := by have := hT.has.len_le; rw [HNT.out] at this; exact this
    clear hf hi h h0 hT hI ht
    go_enter Try.func79, Try.ntmps79
    go_wp2_with fail
    rw [HW0.out]
    refine HIX.out.mono ?_; rintro e w2 ⟨rfl, hb2⟩
    have d6 := cell_later hb2 c6
    clear c0 c1 c2 c3 c4 c5 c6 c7 c8
    go_wp2_with fail
    go_ret
    exact ⟨by simp [trAt], hb0.trans (hb2.mono hb0.size)⟩
end Go.Proofs.Yticfnngppcmidaa
