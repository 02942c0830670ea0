/-
  troop.Check, first part.
-/
import Derived.Test.YtffjpfpbpnhmcaaWld
import Derived.Test.YtffjpfpbpnhmcaaBas
import Derived.Test.YtffjpfpbpnhmcaaEqI
import Derived.Handy
/-! XTroA -/
set_option linter.unusedVariables false
set_option linter.unusedSimpArgs false
namespace Go.Proofs.Ytffjpfpbpnhmcaa
open Go.RowKit

def Fld.badPlace (p : Int) : Bool := !Fld.placeOk p
theorem badPlace_mk {p : Int} : (p < 0 → Fld.badPlace p = true) ∧ (4 ≤ p → Fld.badPlace p = true) ∧ (0 ≤ p → p < 4 → Fld.badPlace p = false) := by
  unfold Fld.badPlace Fld.placeOk
  refine ⟨fun h => by rw [inB_not (.inl h)]; rfl, fun h => by rw [inB_not (.inr (by omega))]; rfl, fun h1 h2 => by rw [inB_mk h1 (by omega)]; rfl⟩
theorem fcheck1 (p : Int) (w : World) : Calls Try.prog 81 #[.int .i64 p] w fun e w' => e = .returned (.bool (Fld.badPlace p)) ∧ Below w.heap.size w w' := by
  obtain ⟨b1, b2, b3⟩ := badPlace_mk (p := p)
  rcases Int.lt_or_le p 0 with h | h
  · have hb := b1 h
    have hd : decide (p < 0) = true := by simpa using h
    rw [hb]; clear b1 b2 b3 hb
    go_enter Try.func81, Try.ntmps81
    go_wp2
    go_ret
    exact ⟨rfl, Below.refl _ _⟩
  · rcases Int.lt_or_le p 4 with h4 | h4
    · have hb := b3 h h4
      have hd : decide (p < 0) = false := by simpa using h
      rw [hb]; clear b1 b2 b3 hb
      go_enter Try.func81, Try.ntmps81
      go_wp2
      go_ret
      exact ⟨ret_bool (by simp <;> omega), Below.refl _ _⟩
    · have hb := b2 h4
      have hd : decide (p < 0) = false := by simpa using h
      rw [hb]; clear b1 b2 b3 hb
      go_enter Try.func81, Try.ntmps81
      go_wp2
      go_ret
      exact ⟨ret_bool (by simp <;> omega), Below.refl _ _⟩
set_option maxRecDepth 100000 in
set_option maxHeartbeats 1000000 in
theorem idx_place  (A : Option Addr) (c : Nat) (l : List Int) (w : World) (hl : repI.SHas 8 w A c l) :
    Calls Try.prog 104 #[.slice A l.length c, .func (.func 81) #[] #[]] w fun e w' => e = .returned (.int .i64 (idxI (Fld.badPlace) l)) ∧ Below w.heap.size w w' := by
  obtain ⟨n, hn⟩ : ∃ n, l.length = n := ⟨_, rfl⟩
  have hle : n ≤ 9223372036854775807 := by have := hl.1; have := hl.2.1; omega
  rw [hn]
  have HL := Lib.hid hl
  have HN := Lib.hid hn
  clear hl hn
  go_enter Try.func104, Try.ntmps104
  go_wp2_with fail
  go_loopw [5, 8] (fun _ iv wr => ∃ k : Nat, k ≤ n ∧ iv = .int .i64 (k : Int) ∧ Hid (∀ j (hj : j < k) (hj2 : j < l.length), (Fld.badPlace) l[j] = false) ∧ Below w.heap.size w wr) (fun _ iv _ => n - (intOf iv).toNat)
  case atStart => exact ⟨0, Nat.zero_le _, rfl, (fun j hj => by omega), Below.refl _ _⟩
  case round =>
    obtain ⟨k, hk, rfl, HK, hb⟩ := hrel
    by_cases hlt : k < n
    · have hkl : k < l.length := by rw [HN.out]; exact hlt
      obtain ⟨b, o, rfl, hcell⟩ := repI_at (HL.out.keep hb) (by omega)
      obtain ⟨x, hxe⟩ : ∃ x, l[k]'hkl = x := ⟨_, rfl⟩
      have q0 := hcell k x (by rw [List.getElem?_eq_getElem hkl, hxe])
      have HXE := Lib.hid hxe

      have hc := fcheck1 x wr
      clear hcell hxe
      cases hbad : (Fld.badPlace) x with
      | true =>
        have hres : idxI (Fld.badPlace) l = (k : Int) := idxI_some hkl (by rw [HXE.out]; exact hbad) fun j hj => HK.out j hj (by omega)
        rw [hbad] at hc
        have HRES := Lib.hid hres
        clear hres hbad
        go_wp2_with (go_at_call 81; refine hc.mono ?_; rintro e w' ⟨rfl, hb2⟩)
        go_ret
        exact ⟨by rw [HRES.out]; rfl, hb.trans (hb2.mono hb.size)⟩
      | false =>
        rw [hbad] at hc
        have HK2 : Hid (∀ j (hj : j < k + 1) (hj2 : j < l.length), (Fld.badPlace) l[j] = false) := by
          intro j hj hj2
          by_cases h : j < k
          · exact HK.out j h hj2
          · obtain rfl : j = k := by omega
            rw [HXE.out]; exact hbad
        clear hbad
        go_wp2_with (go_at_call 81; refine hc.mono ?_; rintro e w' ⟨rfl, hb2⟩)
        go_roundw
        case rel => exact ⟨k + 1, by omega, by go_num, HK2, hb.trans (hb2.mono hb.size)⟩
        case measure => simp [intOf]; omega
    · have hres : idxI (Fld.badPlace) l = -1 := idxI_none fun j hj => HK.out j (by have := HN.out; omega) hj
      have HRES := Lib.hid hres
      clear hres
      go_wp2_with fail
      go_ret
      exact ⟨by rw [HRES.out]; rfl, hb⟩
theorem has_place  (A : Option Addr) (c : Nat) (l : List Int) (w : World) (hl : repI.SHas 8 w A c l) :
    Calls Try.prog 80 #[.slice A l.length c, .func (.func 81) #[] #[]] w fun e w' => e = .returned (.bool (l.any (Fld.badPlace))) ∧ Below w.heap.size w w' := by
  have hc := idx_place  A c l w hl 
  rw [← idxI_any]
  generalize idxI (Fld.badPlace) l = r at *
  generalize l.length = n at *
  clear hl 
  go_enter Try.func80, Try.ntmps80
  go_wp2_with (go_at_call 104; refine hc.mono ?_; rintro e w' ⟨rfl, hb2⟩)
  go_ret
  exact ⟨rfl, hb2⟩
theorem side_any (n : Int) (w : World) : Calls Try.prog 79 #[.int .i64 n] w fun e w' => e = .returned (.bool (inB n 1 40)) ∧ w = w' := by
  rcases Int.lt_or_le n 1 with h | h
  · rw [inB_not (.inl h)]
    go_enter Try.func79, Try.ntmps79
    go_wp2
    go_ret
    exact ⟨rfl, rfl⟩
  · rcases Int.lt_or_le 40 n with h4 | h4
    · rw [inB_not (.inr h4)]
      go_enter Try.func79, Try.ntmps79
      go_wp2
      go_ret
      exact ⟨ret_bool (by simp <;> omega), rfl⟩
    · rw [inB_mk h h4]
      go_enter Try.func79, Try.ntmps79
      go_wp2
      go_ret
      exact ⟨ret_bool (by simp <;> omega), rfl⟩
end Go.Proofs.Ytffjpfpbpnhmcaa
/-! XTroB -/
set_option linter.unusedVariables false
set_option linter.unusedSimpArgs false
namespace Go.Proofs.Ytffjpfpbpnhmcaa
open Go.RowKit

theorem Fld.chk_none {f : Fld} (h1 : inB f.wide 1 40 = true) (h2 : inB f.high 1 40 = true) (h3 : ¬ (f.places.length : Int) = f.wide * f.high) : f.chk = 4 := by
  unfold Fld.chk
  rw [h1, h2, decide_eq_false h3]; rfl
theorem Fld.chk_any {f : Fld} (h1 : inB f.wide 1 40 = true) (h2 : inB f.high 1 40 = true) (h3 : (f.places.length : Int) = f.wide * f.high) : f.chk = if f.places.any Fld.badPlace then 4 else 0 := by
  unfold Fld.chk
  rw [h1, h2, decide_eq_true h3]
  have : f.places.all Fld.placeOk = !f.places.any Fld.badPlace := by
    rw [List.all_eq_not_any_not]; rfl
  rw [this]
  cases f.places.any Fld.badPlace <;> rfl
set_option maxRecDepth 100000 in
set_option maxHeartbeats 1000000 in
theorem fldCheck (f : Fld) (A : Option Addr) (c : Nat) (w : World) (hP : repI.SHas 8 w A c f.places) :
    Calls Try.prog 50 #[.agg #[.int .i64 f.wide, .int .i64 f.high, .slice A f.places.length c]] w fun e w' => e = .returned (.int .i64 f.chk) ∧ Below w.heap.size w w' := by
  have hb := below_alloc0 w (.cells #[.int .i64 f.wide, .int .i64 f.high, .slice A f.places.length c] 24)
  have hs1 := side_any f.wide
  have hs2 := side_any f.high
  have hle : f.places.length ≤ 9223372036854775807 := by have := hP.1; have := hP.2.1; omega
  cases h1 : inB f.wide 1 40 with
  | false =>
    rw [h1] at hs1
    rw [Fld.chk_one (by rw [h1]; rfl)]
    clear h1 hs2 hP
    go_enter Try.func50, Try.ntmps50
    go_wp2_with (go_at_call 79; refine (hs1 _).mono ?_; rintro e w' ⟨rfl, rfl⟩)
    go_ret
    exact ⟨rfl, hb⟩
  | true =>
    rw [h1] at hs1
    cases h2 : inB f.high 1 40 with
    | false =>
      rw [h2] at hs2
      rw [Fld.chk_one (by rw [h1, h2]; rfl)]
      clear h1 h2 hP
      go_enter Try.func50, Try.ntmps50
      go_wp2_with fail
      refine (hs1 _).mono ?_; rintro e w' ⟨rfl, rfl⟩
      go_wp2_with fail
      refine (hs2 _).mono ?_; rintro e w' ⟨rfl, rfl⟩
      go_wp2_with fail
      go_ret
      exact ⟨rfl, hb⟩
    | true =>
      rw [h2] at hs2
      have hw := inB_true h1
      have hh := inB_true h2
      have hm0 : 0 ≤ f.wide * f.high := Int.mul_nonneg (by omega) (by omega)
      have hm1 : f.wide * f.high ≤ 40 * 40 := Int.mul_le_mul hw.2 hh.2 (by omega) (by omega)
      by_cases h3 : (f.places.length : Int) = f.wide * f.high
      · have hc := has_place A c f.places _ (hP.keep hb)
        have hd : ((f.places.length : Int) == f.wide * f.high) = true := by simpa using h3
        have hd2 : ((f.places.length : Int) != f.wide * f.high) = false := by simpa using h3
        rw [Fld.chk_any h1 h2 h3]
        clear h1 h2 h3 hP
        generalize f.places.any Fld.badPlace = r at *
        generalize f.places.length = n at *
        cases r with
        | true =>
          go_enter Try.func50, Try.ntmps50
          go_wp2_with fail
          refine (hs1 _).mono ?_; rintro e w' ⟨rfl, rfl⟩
          go_wp2_with fail
          refine (hs2 _).mono ?_; rintro e w' ⟨rfl, rfl⟩
          go_wp2_with fail
          refine hc.mono ?_; rintro e w' ⟨rfl, hb2⟩
          go_wp2_with fail
          go_ret
          exact ⟨rfl, hb.trans (hb2.mono hb.size)⟩
        | false =>
          go_enter Try.func50, Try.ntmps50
          go_wp2_with fail
          refine (hs1 _).mono ?_; rintro e w' ⟨rfl, rfl⟩
          go_wp2_with fail
          refine (hs2 _).mono ?_; rintro e w' ⟨rfl, rfl⟩
          go_wp2_with fail
          refine hc.mono ?_; rintro e w' ⟨rfl, hb2⟩
          go_wp2_with fail
          go_ret
          exact ⟨rfl, hb.trans (hb2.mono hb.size)⟩
      · have hd : ((f.places.length : Int) == f.wide * f.high) = false := by simpa using h3
        have hd2 : ((f.places.length : Int) != f.wide * f.high) = true := by simpa using h3
        rw [Fld.chk_none h1 h2 h3]
        clear h1 h2 h3 hP
        generalize f.places.length = n at *
        go_enter Try.func50, Try.ntmps50
        go_wp2_with fail
        refine (hs1 _).mono ?_; rintro e w' ⟨rfl, rfl⟩
        go_wp2_with fail
        refine (hs2 _).mono ?_; rintro e w' ⟨rfl, rfl⟩
        go_wp2_with fail
        go_ret
        exact ⟨rfl, hb⟩
end Go.Proofs.Ytffjpfpbpnhmcaa
/-! XTroC -/
set_option linter.unusedVariables false
set_option linter.unusedSimpArgs false
namespace Go.Proofs.Ytffjpfpbpnhmcaa
open Go.RowKit

theorem ret_two {k k' : IntKind} {a b a' b' : Int} (h1 : a = a') (h2 : b = b') : Ending.returned (.tuple #[.int k a, .int k' b]) = .returned (.tuple #[.int k a', .int k' b']) := by rw [h1, h2]
def AtPost (f : Fld) (c : Cel) (w : World) (e : Ending) (w' : World) : Prop := e = .returned (.tuple #[.int .i64 (f.atV c), .int .i64 (f.atE c)]) ∧ Below w.heap.size w w'
set_option maxRecDepth 100000 in
set_option maxHeartbeats 1000000 in
theorem fldAt (f : Fld) (p : Cel) (A : Option Addr) (c : Nat) (w : World) (hP : repI.SHas 8 w A c f.places) :
    Calls Try.prog 25 #[.agg #[.int .i64 f.wide, .int .i64 f.high, .slice A f.places.length c], .agg #[.int .i64 p.x, .int .i64 p.y]] w (AtPost f p w) := by
  have hA := Blk.new w (Wd.fcells A c f) 24 (0, 0)
  have hb := below_alloc0 w (.cells (Wd.fcells A c f).toArray 24 (0, 0))
  have hB := Blk.new (w.alloc (.cells (Wd.fcells A c f).toArray 24 (0, 0))) p.cells 32 (0, 0)
  have hb1 := below_alloc0 (w.alloc (.cells (Wd.fcells A c f).toArray 24 (0, 0))) (.cells p.cells.toArray 32 (0, 0))
  have hA1 := hA.later hb1
  have hbb := hb.trans (hb1.mono hb.size)
  have hc := fldCheck f A c _ (hP.keep hbb)
  have hP1 := hP.keep hbb
  obtain ⟨w1, HW1⟩ : ∃ w1, Hid ((w.alloc (.cells (Wd.fcells A c f).toArray 24 (0, 0))).alloc (.cells p.cells.toArray 32 (0, 0)) = w1) := ⟨_, Lib.hid rfl⟩
  rw [HW1.out] at hA1 hB hc hbb hP1
  rw [World.size_alloc] at hB
  clear hA hb hb1 hP
  have hst : ∀ K : World → Prop, K w1 → K ((w.alloc (.cells #[.int .i64 f.wide, .int .i64 f.high, .slice A f.places.length c] 24)).alloc (.cells #[.int .i64 p.x, .int .i64 p.y] 32)) := fun K h => by
    have := HW1.out
    rw [← this] at h; exact h
  by_cases h0 : f.chk = 0
  · have hfl := Fld.len_le h0
    obtain ⟨g1, g2, g3, g4, _, _⟩ := Fld.good h0
    rw [h0] at hc
    by_cases hin : 0 ≤ p.x ∧ p.x < f.wide ∧ 0 ≤ p.y ∧ p.y < f.high
    · obtain ⟨i1, i2, i3, i4⟩ := hin
      have hIn := Fld.isIn_mk i1 i2 i3 i4
      obtain ⟨e1, e2⟩ := Fld.at_in h0 hIn
      obtain ⟨x1, x2, _⟩ := Fld.idx h0 hIn
      have y1 : 0 ≤ p.y * f.wide := Int.mul_nonneg i3 (by omega)
      have y2 : p.y * f.wide ≤ 1600 := by omega
      obtain ⟨b, o, rfl, hcell⟩ := repI_at hP1 (by omega)
      have hce := hcell (p.y * f.wide + p.x).toNat (f.place p) (by
        unfold Fld.place
        rw [List.getD_eq_getElem?_getD, List.getElem?_eq_getElem (show (p.y * f.wide + p.x).toNat < f.places.length by omega)]; rfl)
      have HCE := Lib.hid hce
      have HE := Lib.hid (And.intro e1 e2)
      have HA1 := Lib.hid hA1
      have HB := Lib.hid hB
      have d1 : decide (p.x < 0) = false := by simpa using i1
      have d2 : decide (p.y < 0) = false := by simpa using i3
      clear h0 hIn e1 e2 hcell hce hP1 hA1 hB
      go_enter Try.func25, Try.ntmps25
      go_wp2_with fail
      refine hst (fun W => Calls _ _ _ W _) ?_
      refine hc.mono ?_
      rintro e w2 ⟨rfl, hb2⟩
      obtain ⟨q0, q1, q2⟩ := Wd.fblk (HA1.out.later hb2)
      obtain ⟨r0, r1⟩ := Cel.blk (HB.out.later hb2)
      have hcell2 := cell_later hb2 HCE.out
      go_wp2_with fail
      go_ret2
      exact ⟨ret_two HE.out.2.symm HE.out.1.symm, hbb.trans (hb2.mono hbb.size)⟩
    · have hout : p.x < 0 ∨ f.wide ≤ p.x ∨ p.y < 0 ∨ f.high ≤ p.y := by omega
      have HE := Lib.hid (Fld.at_out h0 (Fld.isIn_out hout))
      have HA1 := Lib.hid hA1
      have HB := Lib.hid hB
      clear h0 hP1 hA1 hB hin
      have HOUT := Lib.hid hout
      clear hout
      go_enter Try.func25, Try.ntmps25
      go_wp2_with fail
      refine hst (fun W => Calls _ _ _ W _) ?_
      refine hc.mono ?_
      rintro e w2 ⟨rfl, hb2⟩
      obtain ⟨q0, q1, q2⟩ := Wd.fblk (HA1.out.later hb2)
      obtain ⟨r0, r1⟩ := Cel.blk (HB.out.later hb2)
      have key : decide (p.x < 0) = true ∨ (decide (p.x < 0) = false ∧ decide (f.wide ≤ p.x) = true) ∨ (decide (p.x < 0) = false ∧ decide (f.wide ≤ p.x) = false ∧ decide (p.y < 0) = true) ∨ (decide (p.x < 0) = false ∧ decide (f.wide ≤ p.x) = false ∧ decide (p.y < 0) = false ∧ decide (f.high ≤ p.y) = true) := by
        have := HOUT.out
        by_cases k1 : p.x < 0
        · simp [k1]
        by_cases k2 : f.wide ≤ p.x
        · simp [k1, k2]
        by_cases k3 : p.y < 0
        · simp [k1, k2, k3]
        · simp [k1, k2, k3]; omega
      rcases key with h | ⟨h, h2⟩ | ⟨h, h2, h3⟩ | ⟨h, h2, h3, h4⟩
      all_goals
        go_wp2_with fail
        go_ret2
        exact ⟨ret_two HE.out.2.symm HE.out.1.symm, hbb.trans (hb2.mono hbb.size)⟩
  · obtain ⟨e1, e2⟩ := Fld.at_bad (c := p) h0
    have HE := Lib.hid (And.intro e1 e2)
    have hne : (f.chk == 0) = false := by simpa using h0
    have hne2 : (f.chk != 0) = true := by simpa using h0
    clear e1 e2 h0 hP1 hA1 hB
    generalize f.chk = k at *
    go_enter Try.func25, Try.ntmps25
    go_wp2_with fail
    refine hst (fun W => Calls _ _ _ W _) ?_
    refine hc.mono ?_
    rintro e w2 ⟨rfl, hb2⟩
    go_wp2_with fail
    go_ret2
    exact ⟨ret_two HE.out.2.symm HE.out.1.symm, hbb.trans (hb2.mono hbb.size)⟩
end Go.Proofs.Ytffjpfpbpnhmcaa
/-! XTroD -/
set_option linter.unusedVariables false
set_option linter.unusedSimpArgs false
namespace Go.Proofs.Ytffjpfpbpnhmcaa
open Go.RowKit

def Cel.is (p x : Cel) : Bool := decide (x = p)
end Go.Proofs.Ytffjpfpbpnhmcaa
