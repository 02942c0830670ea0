import Derived.Test.YtmpkaphcpaigdaaGolC
import Derived.Test.YtmpkaphcpaigdaaPackM
import Derived.Test.YtmpkaphcpaigdaaBas
import Derived.Test.YtmpkaphcpaigdaaEqI
import Derived.Handy
set_option linter.unusedVariables false
set_option linter.unusedSimpArgs false
set_option maxRecDepth 100000
set_option maxHeartbeats 4000000
namespace Go.Proofs.Ytmpkaphcpaigdaa
end Go.Proofs.Ytmpkaphcpaigdaa
set_option linter.unusedVariables false
set_option linter.unusedSimpArgs false
namespace Go.Proofs.Ytmpkaphcpaigdaa
open Go.RowKit

def Fld.badPlace (p : Int) : Bool := !Fld.placeOk p
theorem badPlace_mk {p : Int} : (p < 0 → Fld.badPlace p = true) ∧ (4 ≤ p → Fld.badPlace p = true) ∧ (0 ≤ p → p < 4 → Fld.badPlace p = false) := by
 unfold Fld.badPlace Fld.placeOk
 refine ⟨λ h => by rw [inB_not (.inl h)]; rfl, λ h => by rw [inB_not (.inr (by omega))]; rfl, λ h1 h2 => by rw [inB_mk h1 (by omega)]; rfl⟩
theorem fcheck1 (p : Int) (w : World) : Calls Try.prog 60 #[.int .i64 p] w λ e w' => e = .returned (.bool (Fld.badPlace p)) ∧ Below w.heap.size w w' := by
 obtain ⟨b1, b2, b3⟩ := badPlace_mk (p := p)
 rcases Int.lt_or_le p 0 with h | h
 ·have hb := b1 h
  have hd : decide (p < 0) = true := by simpa using h
  rw [hb]; clear b1 b2 b3 hb
  go_enter Try.func60, Try.ntmps60
  go_wp2
  go_ret
  exact ⟨rfl, Below.refl _ _⟩
 ·rcases Int.lt_or_le p 4 with h4 | h4
  ·have hb := b3 h h4
   have hd : decide (p < 0) = false := by simpa using h
   rw [hb]; clear b1 b2 b3 hb
   go_enter Try.func60, Try.ntmps60
   go_wp2
   go_ret
   exact ⟨ret_bool (by simp <;> omega), Below.refl _ _⟩
  ·have hb := b2 h4
   have hd : decide (p < 0) = false := by simpa using h
   rw [hb]; clear b1 b2 b3 hb
   go_enter Try.func60, Try.ntmps60
   go_wp2
   go_ret
   exact ⟨ret_bool (by simp <;> omega), Below.refl _ _⟩
theorem idx_place  (A : Option Addr) (c : Nat) (l : List Int) (w : World) (hl : repI.SHas 8 w A c l) :
  Calls Try.prog 80 #[.slice A l.length c, .func (.func 60) #[] #[]] w λ e w' => e = .returned (.int .i64 (idxI (Fld.badPlace) l)) ∧ Below w.heap.size w w' := by
 obtain ⟨n, hn⟩ : ∃ n, l.length = n := ⟨_, rfl⟩
 have hle : n ≤ 9223372036854775807 := by have := hl.1; have := hl.2.1; omega
 rw [hn]
 have HL := Lib.hid hl
 have HN := Lib.hid hn
 clear hl hn
 go_enter Try.func80, Try.ntmps80
 go_wp2_with fail
 go_loopw [5, 8] (λ _ iv wr => ∃ k : Nat, k ≤ n ∧ iv = .int .i64 (k : Int) ∧ Hid (∀ j (hj : j < k) (hj2 : j < l.length), (Fld.badPlace) l[j] = false) ∧ Below w.heap.size w wr) (λ _ iv _ => n - (intOf iv).toNat)
 case atStart => exact ⟨0, Nat.zero_le _, rfl, (λ j hj => by omega), Below.refl _ _⟩
 case round =>
  obtain ⟨k, hk, rfl, HK, hb⟩ := hrel
  by_cases hlt : k < n
  ·have hkl : k < l.length := by rw [HN.out]; exact hlt
   obtain ⟨b, o, rfl, hcell⟩ := repI_at (HL.out.keep hb) (by omega)
   obtain ⟨x, hxe⟩ : ∃ x, l[k]'hkl = x := ⟨_, rfl⟩
   have q0 := hcell k x (by rw [List.getElem?_eq_getElem hkl, hxe])
   have HXE := Lib.hid hxe

   have hc := fcheck1 x wr
   clear hcell hxe
   cases hbad : (Fld.badPlace) x with
   | true =>
    have hres : idxI (Fld.badPlace) l = (k : Int) := idxI_some hkl (by rw [HXE.out]; exact hbad) λ j hj => HK.out j hj (by omega)
    rw [hbad] at hc
    have HRES := Lib.hid hres
    clear hres hbad
    go_wp2_with (go_at_call 60; refine hc.mono ?_; rintro e w' ⟨rfl, hb2⟩)
    go_ret
    exact ⟨by rw [HRES.out]; rfl, hb.trans (hb2.mono hb.size)⟩
   | false =>
    rw [hbad] at hc
    have HK2 : Hid (∀ j (hj : j < k + 1) (hj2 : j < l.length), (Fld.badPlace) l[j] = false) := by
     intro j hj hj2
     by_cases h : j < k
     ·exact HK.out j h hj2
     ·obtain rfl : j = k := by omega
      rw [HXE.out]; exact hbad
    clear hbad
    go_wp2_with (go_at_call 60; refine hc.mono ?_; rintro e w' ⟨rfl, hb2⟩)
    go_roundw
    case rel => exact ⟨k + 1, by omega, by go_num, HK2, hb.trans (hb2.mono hb.size)⟩
    case measure => simp [intOf]; omega
  ·have hres : idxI (Fld.badPlace) l = -1 := idxI_none λ j hj => HK.out j (by have := HN.out; omega) hj
   have HRES := Lib.hid hres
   clear hres
   go_wp2_with fail
   go_ret
   exact ⟨by rw [HRES.out]; rfl, hb⟩
theorem has_place  (A : Option Addr) (c : Nat) (l : List Int) (w : World) (hl : repI.SHas 8 w A c l) :
  Calls Try.prog 59 #[.slice A l.length c, .func (.func 60) #[] #[]] w λ e w' => e = .returned (.bool (l.any (Fld.badPlace))) ∧ Below w.heap.size w w' := by
 have hc := idx_place  A c l w hl 
 rw [← idxI_any]
 generalize idxI (Fld.badPlace) l = r at *
 generalize l.length = n at *
 clear hl 
 go_enter Try.func59, Try.ntmps59
 go_wp2_with (go_at_call 80; refine hc.mono ?_; rintro e w' ⟨rfl, hb2⟩)
 go_ret
 exact ⟨rfl, hb2⟩
theorem within_any (n lo hi : Int) (w : World) : Calls Try.prog 54 #[.int .i64 n, .int .i64 lo, .int .i64 hi] w λ e w' => e = .returned (.bool (inB n lo hi)) ∧ w = w' := by
 rcases Int.lt_or_le n lo with h | h
 ·rw [inB_not (.inl h)]
  go_enter Try.func54, Try.ntmps54
  go_wp2
  go_ret
  exact ⟨rfl, rfl⟩
 ·rcases Int.lt_or_le hi n with h4 | h4
  ·rw [inB_not (.inr h4)]
   go_enter Try.func54, Try.ntmps54
   go_wp2
   go_ret
   exact ⟨ret_bool (by simp <;> omega), rfl⟩
  ·rw [inB_mk h h4]
   go_enter Try.func54, Try.ntmps54
   go_wp2
   go_ret
   exact ⟨ret_bool (by simp <;> omega), rfl⟩
theorem side_any (n : Int) (w : World) : Calls Try.prog 58 #[.int .i64 n] w λ e w' => e = .returned (.bool (inB n 1 40)) ∧ w = w' := by
 rcases Int.lt_or_le n 1 with h | h
 ·rw [inB_not (.inl h)]
  go_enter Try.func58, Try.ntmps58
  go_wp2
  go_ret
  exact ⟨rfl, rfl⟩
 ·rcases Int.lt_or_le 40 n with h4 | h4
  ·rw [inB_not (.inr h4)]
   go_enter Try.func58, Try.ntmps58
   go_wp2
   go_ret
   exact ⟨ret_bool (by simp <;> omega), rfl⟩
  ·rw [inB_mk h h4]
   go_enter Try.func58, Try.ntmps58
   go_wp2
   go_ret
   exact ⟨ret_bool (by simp <;> omega), rfl⟩
end Go.Proofs.Ytmpkaphcpaigdaa
set_option linter.unusedVariables false
set_option linter.unusedSimpArgs false
namespace Go.Proofs.Ytmpkaphcpaigdaa
open Go.RowKit

theorem Fld.chk_none {f : Fld} (h1 : inB f.wide 1 40 = true) (h2 : inB f.high 1 40 = true) (h3 : ¬ (f.places.length : Int) = f.wide * f.high) : f.chk = 4 := by
 unfold Fld.chk
 rw [h1, h2, decide_eq_false h3]; rfl
theorem Fld.chk_any {f : Fld} (h1 : inB f.wide 1 40 = true) (h2 : inB f.high 1 40 = true) (h3 : (f.places.length : Int) = f.wide * f.high) : f.chk = if f.places.any Fld.badPlace then 4 else 0 := by
 unfold Fld.chk
 rw [h1, h2, decide_eq_true h3]
 have : f.places.all Fld.placeOk = !f.places.any Fld.badPlace := by
  rw [List.all_eq_not_any_not]; rfl
 rw [this]
 cases f.places.any Fld.badPlace <;> rfl
theorem fldCheck (f : Fld) (A : Option Addr) (c : Nat) (w : World) (hP : repI.SHas 8 w A c f.places) :
  Calls Try.prog 33 #[.agg #[.int .i64 f.wide, .int .i64 f.high, .slice A f.places.length c]] w λ e w' => e = .returned (.int .i64 f.chk) ∧ Below w.heap.size w w' := by
 have hb := below_alloc0 w (.cells #[.int .i64 f.wide, .int .i64 f.high, .slice A f.places.length c] 24)
 have hs1 := side_any f.wide
 have hs2 := side_any f.high
 have hle : f.places.length ≤ 9223372036854775807 := by have := hP.1; have := hP.2.1; omega
 cases h1 : inB f.wide 1 40 with
 | false =>
  rw [h1] at hs1
  rw [Fld.chk_one (by rw [h1]; rfl)]
  clear h1 hs2 hP
  go_enter Try.func33, Try.ntmps33
  go_wp2_with (go_at_call 58; refine (hs1 _).mono ?_; rintro e w' ⟨rfl, rfl⟩)
  go_ret
  exact ⟨rfl, hb⟩
 | true =>
  rw [h1] at hs1
  cases h2 : inB f.high 1 40 with
  | false =>
   rw [h2] at hs2
   rw [Fld.chk_one (by rw [h1, h2]; rfl)]
   clear h1 h2 hP
   go_enter Try.func33, Try.ntmps33
   go_wp2_with fail
   refine (hs1 _).mono ?_; rintro e w' ⟨rfl, rfl⟩
   go_wp2_with fail
   refine (hs2 _).mono ?_; rintro e w' ⟨rfl, rfl⟩
   go_wp2_with fail
   go_ret
   exact ⟨rfl, hb⟩
  | true =>
   rw [h2] at hs2
   have hw := inB_true h1
   have hh := inB_true h2
   have hm0 : 0 ≤ f.wide * f.high := Int.mul_nonneg (by omega) (by omega)
   have hm1 : f.wide * f.high ≤ 40 * 40 := Int.mul_le_mul hw.2 hh.2 (by omega) (by omega)
   by_cases h3 : (f.places.length : Int) = f.wide * f.high
   ·have hc := has_place A c f.places _ (hP.keep hb)
    have hd : ((f.places.length : Int) == f.wide * f.high) = true := by simpa using h3
    have hd2 : ((f.places.length : Int) != f.wide * f.high) = false := by simpa using h3
    rw [Fld.chk_any h1 h2 h3]
    clear h1 h2 h3 hP
    generalize f.places.any Fld.badPlace = r at *
    generalize f.places.length = n at *
    cases r with
    | true =>
     go_enter Try.func33, Try.ntmps33
     go_wp2_with fail
     refine (hs1 _).mono ?_; rintro e w' ⟨rfl, rfl⟩
     go_wp2_with fail
     refine (hs2 _).mono ?_; rintro e w' ⟨rfl, rfl⟩
     go_wp2_with fail
     refine hc.mono ?_; rintro e w' ⟨rfl, hb2⟩
     go_wp2_with fail
     go_ret
     exact ⟨rfl, hb.trans (hb2.mono hb.size)⟩
    | false =>
     go_enter Try.func33, Try.ntmps33
     go_wp2_with fail
     refine (hs1 _).mono ?_; rintro e w' ⟨rfl, rfl⟩
     go_wp2_with fail
     refine (hs2 _).mono ?_; rintro e w' ⟨rfl, rfl⟩
     go_wp2_with fail
     refine hc.mono ?_; rintro e w' ⟨rfl, hb2⟩
     go_wp2_with fail
     go_ret
     exact ⟨rfl, hb.trans (hb2.mono hb.size)⟩
   ·have hd : ((f.places.length : Int) == f.wide * f.high) = false := by simpa using h3
    have hd2 : ((f.places.length : Int) != f.wide * f.high) = true := by simpa using h3
    rw [Fld.chk_none h1 h2 h3]
    clear h1 h2 h3 hP
    generalize f.places.length = n at *
    go_enter Try.func33, Try.ntmps33
    go_wp2_with fail
    refine (hs1 _).mono ?_; rintro e w' ⟨rfl, rfl⟩
    go_wp2_with fail
    refine (hs2 _).mono ?_; rintro e w' ⟨rfl, rfl⟩
    go_wp2_with fail
    go_ret
    exact ⟨rfl, hb⟩
theorem kind_1 (w : World) : Calls Try.prog 71 #[.int .i64 1] w λ e w' => e = .returned (.tuple #[.agg #[.int .i64 10, .int .i64 1, .int .i64 1, .int .i64 5], .int .i64 0]) ∧ Below w.heap.size w w' := by
 go_enter Try.func71, Try.ntmps71
 go_wp2
 refine bodyPost_ret (v := .tuple #[.agg #[.int .i64 10, .int .i64 1, .int .i64 1, .int .i64 5], .int .i64 0]) (by simp [results, Try.results71, go_sem]) rfl ⟨rfl, (Below.refl _ _).alloc (Nat.le_refl _) _⟩
theorem kind_2 (w : World) : Calls Try.prog 71 #[.int .i64 2] w λ e w' => e = .returned (.tuple #[.agg #[.int .i64 20, .int .i64 2, .int .i64 4, .int .i64 12], .int .i64 0]) ∧ Below w.heap.size w w' := by
 go_enter Try.func71, Try.ntmps71
 go_wp2
 refine bodyPost_ret (v := .tuple #[.agg #[.int .i64 20, .int .i64 2, .int .i64 4, .int .i64 12], .int .i64 0]) (by simp [results, Try.results71, go_sem]) rfl ⟨rfl, (Below.refl _ _).alloc (Nat.le_refl _) _⟩
theorem kind_no (k : Int) (w : World) (h : inB k 1 2 = false) : Calls Try.prog 71 #[.int .i64 k] w λ e w' => e = .returned (.tuple #[.agg #[.int .i64 0, .int .i64 0, .int .i64 0, .int .i64 0], .int .i64 1]) ∧ Below w.heap.size w w' := by
 have h' := inB_false h
 have h1 : (k == 1) = false := by simp; omega
 have h2 : (k == 2) = false := by simp; omega
 clear h h'
 go_enter Try.func71, Try.ntmps71
 go_wp2
 refine bodyPost_ret (v := .tuple #[.agg #[.int .i64 0, .int .i64 0, .int .i64 0, .int .i64 0], .int .i64 1]) (by simp [results, Try.results71, go_sem]) rfl ⟨rfl, (Below.refl _ _).alloc (Nat.le_refl _) _⟩
end Go.Proofs.Ytmpkaphcpaigdaa
set_option linter.unusedVariables false
set_option linter.unusedSimpArgs false
namespace Go.Proofs.Ytmpkaphcpaigdaa
open Go.RowKit

theorem ret_two {k k' : IntKind} {a b a' b' : Int} (h1 : a = a') (h2 : b = b') : Ending.returned (.tuple #[.int k a, .int k' b]) = .returned (.tuple #[.int k a', .int k' b']) := by rw [h1, h2]
def AtPost (f : Fld) (c : Cel) (w : World) (e : Ending) (w' : World) : Prop := e = .returned (.tuple #[.int .i64 (f.atV c), .int .i64 (f.atE c)]) ∧ Below w.heap.size w w'
theorem fldAt (f : Fld) (p : Cel) (A : Option Addr) (c : Nat) (w : World) (hP : repI.SHas 8 w A c f.places) :
  Calls Try.prog 21 #[.agg #[.int .i64 f.wide, .int .i64 f.high, .slice A f.places.length c], .agg #[.int .i64 p.x, .int .i64 p.y]] w (AtPost f p w) := by
 have hA := Blk.new w (Wd.fcells A c f) 24 (0, 0)
 have hb := below_alloc0 w (.cells (Wd.fcells A c f).toArray 24 (0, 0))
 have hB := Blk.new (w.alloc (.cells (Wd.fcells A c f).toArray 24 (0, 0))) p.cells 35 (0, 0)
 have hb1 := below_alloc0 (w.alloc (.cells (Wd.fcells A c f).toArray 24 (0, 0))) (.cells p.cells.toArray 35 (0, 0))
 have hA1 := hA.later hb1
 have hbb := hb.trans (hb1.mono hb.size)
 have hc := fldCheck f A c _ (hP.keep hbb)
 have hP1 := hP.keep hbb
 obtain ⟨w1, HW1⟩ : ∃ w1, Hid ((w.alloc (.cells (Wd.fcells A c f).toArray 24 (0, 0))).alloc (.cells p.cells.toArray 35 (0, 0)) = w1) := ⟨_, Lib.hid rfl⟩
 rw [HW1.out] at hA1 hB hc hbb hP1
 rw [World.size_alloc] at hB
 clear hA hb hb1 hP
 have hst : ∀ K : World → Prop, K w1 → K ((w.alloc (.cells #[.int .i64 f.wide, .int .i64 f.high, .slice A f.places.length c] 24)).alloc (.cells #[.int .i64 p.x, .int .i64 p.y] 35)) := λ K h => by
  have := HW1.out
  rw [← this] at h; exact h
 by_cases h0 : f.chk = 0
 ·have hfl := Fld.len_le h0
  obtain ⟨g1, g2, g3, g4, _, _⟩ := Fld.good h0
  rw [h0] at hc
  by_cases hin : 0 ≤ p.x ∧ p.x < f.wide ∧ 0 ≤ p.y ∧ p.y < f.high
  ·obtain ⟨i1, i2, i3, i4⟩ := hin
   have hIn := Fld.isIn_mk i1 i2 i3 i4
   obtain ⟨e1, e2⟩ := Fld.at_in h0 hIn
   obtain ⟨x1, x2, _⟩ := Fld.idx h0 hIn
   have y1 : 0 ≤ p.y * f.wide := Int.mul_nonneg i3 (by omega)
   have y2 : p.y * f.wide ≤ 1600 := by omega
   obtain ⟨b, o, rfl, hcell⟩ := repI_at hP1 (by omega)
   have hce := hcell (p.y * f.wide + p.x).toNat (f.place p) (by
    unfold Fld.place
    rw [List.getD_eq_getElem?_getD, List.getElem?_eq_getElem (show (p.y * f.wide + p.x).toNat < f.places.length by omega)]; rfl)
   have HCE := Lib.hid hce
   have HE := Lib.hid (And.intro e1 e2)
   have HA1 := Lib.hid hA1
   have HB := Lib.hid hB
   have d1 : decide (p.x < 0) = false := by simpa using i1
   have d2 : decide (p.y < 0) = false := by simpa using i3
   clear h0 hIn e1 e2 hcell hce hP1 hA1 hB
   go_enter Try.func21, Try.ntmps21
   go_wp2_with fail
   refine hst (λ W => Calls _ _ _ W _) ?_
   refine hc.mono ?_
   rintro e w2 ⟨rfl, hb2⟩
   obtain ⟨q0, q1, q2⟩ := Wd.fblk (HA1.out.later hb2)
   obtain ⟨r0, r1⟩ := Cel.blk (HB.out.later hb2)
   have hcell2 := cell_later hb2 HCE.out
   go_wp2_with fail
   go_ret2
   exact ⟨ret_two HE.out.2.symm HE.out.1.symm, hbb.trans (hb2.mono hbb.size)⟩
  ·have hout : p.x < 0 ∨ f.wide ≤ p.x ∨ p.y < 0 ∨ f.high ≤ p.y := by omega
   have HE := Lib.hid (Fld.at_out h0 (Fld.isIn_out hout))
   have HA1 := Lib.hid hA1
   have HB := Lib.hid hB
   clear h0 hP1 hA1 hB hin
   have HOUT := Lib.hid hout
   clear hout
   go_enter Try.func21, Try.ntmps21
   go_wp2_with fail
   refine hst (λ W => Calls _ _ _ W _) ?_
   refine hc.mono ?_
   rintro e w2 ⟨rfl, hb2⟩
   obtain ⟨q0, q1, q2⟩ := Wd.fblk (HA1.out.later hb2)
   obtain ⟨r0, r1⟩ := Cel.blk (HB.out.later hb2)
   have key : decide (p.x < 0) = true ∨ (decide (p.x < 0) = false ∧ decide (f.wide ≤ p.x) = true) ∨ (decide (p.x < 0) = false ∧ decide (f.wide ≤ p.x) = false ∧ decide (p.y < 0) = true) ∨ (decide (p.x < 0) = false ∧ decide (f.wide ≤ p.x) = false ∧ decide (p.y < 0) = false ∧ decide (f.high ≤ p.y) = true) := by
    have := HOUT.out
    by_cases k1 : p.x < 0
    ·simp [k1]
    by_cases k2 : f.wide ≤ p.x
    ·simp [k1, k2]
    by_cases k3 : p.y < 0
    ·simp [k1, k2, k3]
    ·simp [k1, k2, k3]; omega
   rcases key with h | ⟨h, h2⟩ | ⟨h, h2, h3⟩ | ⟨h, h2, h3, h4⟩
   all_goals
    go_wp2_with fail
    go_ret2
    exact ⟨ret_two HE.out.2.symm HE.out.1.symm, hbb.trans (hb2.mono hbb.size)⟩
 ·obtain ⟨e1, e2⟩ := Fld.at_bad (c := p) h0
  have HE := Lib.hid (And.intro e1 e2)
  have hne : (f.chk == 0) = false := by simpa using h0
  have hne2 : (f.chk != 0) = true := by simpa using h0
  clear e1 e2 h0 hP1 hA1 hB
  generalize f.chk = k at *
  go_enter Try.func21, Try.ntmps21
  go_wp2_with fail
  refine hst (λ W => Calls _ _ _ W _) ?_
  refine hc.mono ?_
  rintro e w2 ⟨rfl, hb2⟩
  go_wp2_with fail
  go_ret2
  exact ⟨ret_two HE.out.2.symm HE.out.1.symm, hbb.trans (hb2.mono hbb.size)⟩
theorem ground_any (f : Fld) (p : Cel) (A : Option Addr) (c : Nat) (w : World) (hP : repI.SHas 8 w A c f.places) (h0 : f.chk = 0) :
  Calls Try.prog 69 #[.agg #[.int .i64 f.wide, .int .i64 f.high, .slice A f.places.length c], .agg #[.int .i64 p.x, .int .i64 p.y]] w λ e w' => e = .returned (.bool (f.ground p)) ∧ Below w.heap.size w w' := by
 have hb := below_alloc0 w (.cells #[.int .i64 f.wide, .int .i64 f.high, .slice A f.places.length c] 24)
 have hb1 := below_alloc0 (w.alloc (.cells #[.int .i64 f.wide, .int .i64 f.high, .slice A f.places.length c] 24)) (.cells #[.int .i64 p.x, .int .i64 p.y] 35)
 have hbb := hb.trans (hb1.mono hb.size)
 have hc := fldAt f p A c _ (hP.keep hbb)
 unfold AtPost at hc
 clear hb hb1 hP
 cases hin : f.isIn p with
 | true =>
  obtain ⟨e1, e2⟩ := Fld.at_in h0 hin
  rw [e1, e2] at hc
  have hg : f.ground p = (f.place p != 1) := by unfold Fld.ground; rw [hin]; rfl
  rw [hg]
  clear e1 e2 hin hg h0
  generalize f.place p = v at *
  generalize f.places.length = n at *
  cases hv : v != 1 with
  | true =>
   have hv2 : (v == 1) = false := by simpa using hv
   go_enter Try.func69, Try.ntmps69
   go_wp2_with fail
   refine hc.mono ?_
   rintro e w2 ⟨rfl, hb2⟩
   go_wp2_with fail
   go_ret
   exact ⟨ret_bool (by simp), hbb.trans (hb2.mono hbb.size)⟩
  | false =>
   have hv2 : (v == 1) = true := by simpa using hv
   go_enter Try.func69, Try.ntmps69
   go_wp2_with fail
   refine hc.mono ?_
   rintro e w2 ⟨rfl, hb2⟩
   go_wp2_with fail
   go_ret
   exact ⟨ret_bool (by simp), hbb.trans (hb2.mono hbb.size)⟩
 | false =>
  obtain ⟨e1, e2⟩ := Fld.at_out h0 hin
  rw [e1, e2] at hc
  have hg : f.ground p = false := by unfold Fld.ground; rw [hin]; rfl
  rw [hg]
  clear e1 e2 hin hg h0
  generalize f.places.length = n at *
  go_enter Try.func69, Try.ntmps69
  go_wp2_with fail
  refine hc.mono ?_
  rintro e w2 ⟨rfl, hb2⟩
  go_wp2_with fail
  go_ret
  exact ⟨rfl, hbb.trans (hb2.mono hbb.size)⟩
end Go.Proofs.Ytmpkaphcpaigdaa
set_option linter.unusedVariables false
set_option linter.unusedSimpArgs false
namespace Go.Proofs.Ytmpkaphcpaigdaa
open Go.RowKit

def Cel.is (p x : Cel) : Bool := decide (x = p)
theorem Cel.is_true {p x : Cel} (h : Cel.is p x = true) : x = p := by simpa [Cel.is] using h
theorem Cel.is_false {p x : Cel} (h : Cel.is p x = false) : ((p.x == x.x) = false) ∨ ((p.x == x.x) = true ∧ (p.y == x.y) = false) := by
 have : ¬ x = p := by simpa [Cel.is] using h
 obtain ⟨a, b⟩ := p
 obtain ⟨c, d⟩ := x
 simp at this ⊢
 omega
theorem idx_cell (p : Cel) (A : Option Addr) (c : Nat) (l : List Cel) (w : World) (hl : Cel.rep.SHas 16 w A c l) :
  Calls Try.prog 89 #[.slice A l.length c, .agg #[.int .i64 p.x, .int .i64 p.y]] w λ e w' => e = .returned (.int .i64 (idxI (Cel.is p) l)) ∧ Below w.heap.size w w' := by
 obtain ⟨n, hn⟩ : ∃ n, l.length = n := ⟨_, rfl⟩
 have hle : n ≤ 9223372036854775807 := by have := hl.1; have := hl.2.1; omega
 rw [hn]
 have hb0 := below_alloc0 w (.cells #[.int .i64 p.x, .int .i64 p.y] 35)
 have HB := Lib.hid (Blk.new w p.cells 35 (0, 0))
 have HL := Lib.hid (hl.keep hb0)
 have HN := Lib.hid hn
 clear hl hn
 go_enter Try.func89, Try.ntmps89
 go_wp2_with fail
 obtain ⟨w0, HW0⟩ : ∃ w0, Hid (w0 = w.alloc (.cells #[.int .i64 p.x, .int .i64 p.y] 35)) := ⟨_, Lib.hid rfl⟩
 rw [← HW0.out] at hb0 ⊢
 have HB : Hid (Blk w0 w.heap.size p.cells 35 (0, 0)) := by rw [HW0.out]; exact HB
 have HL : Hid (Cel.rep.SHas 16 w0 A c l) := by rw [HW0.out]; exact HL
 go_loopw [5, 8] (λ _ iv wr => ∃ k m : Nat, k ≤ n ∧ iv = .int .i64 (k : Int) ∧ Hid (∀ j (hj : j < k) (hj2 : j < l.length), (Cel.is p) l[j] = false) ∧ Hid (wr = w0.drewN m)) (λ _ iv _ => n - (intOf iv).toNat)
 case atStart => exact ⟨0, 0, Nat.zero_le _, rfl, (λ j hj => by omega), rfl⟩
 case round =>
  obtain ⟨k, m, hk, rfl, HK, HW⟩ := hrel
  by_cases hlt : k < n
  ·have hkl : k < l.length := by rw [HN.out]; exact hlt
   have hLr : Cel.rep.SHas 16 wr A c l := by rw [HW.out]; exact HL.out.drewN m
   have hBr : Blk wr w.heap.size p.cells 35 (0, 0) := by rw [HW.out]; exact HB.out.drewN m
   have hbr : Below w.heap.size w wr := by rw [HW.out]; exact below_drewN hb0 m
   obtain ⟨b, o, rfl, hcell⟩ := Cel.at_ hLr (by omega)
   obtain ⟨x, hxe⟩ : ∃ x, l[k]'hkl = x := ⟨_, rfl⟩
   obtain ⟨q0, q1⟩ := hcell k x (by rw [List.getElem?_eq_getElem hkl, hxe])
   obtain ⟨r0, r1⟩ := Cel.blk hBr
   have HXE := Lib.hid hxe
   have hki : (k : Int) < (n : Int) := by omega
   have hk0 : (0 : Int) ≤ (k : Int) := by omega
   clear hcell hxe hLr hBr
   cases hbad : (Cel.is p) x with
   | true =>
    have hres : idxI (Cel.is p) l = (k : Int) := idxI_some hkl (by rw [HXE.out]; exact hbad) λ j hj => HK.out j hj (by omega)
    have HRES := Lib.hid hres
    have hxp := Cel.is_true hbad
    subst hxp
    clear hres hbad
    go_wp2_with fail
    go_quiet (fail)
    go_wp2_with fail
    go_ret
    exact ⟨by rw [HRES.out]; rfl, below_drewN hbr _⟩
   | false =>
    have HK2 : Hid (∀ j (hj : j < k + 1) (hj2 : j < l.length), (Cel.is p) l[j] = false) := by
     intro j hj hj2
     by_cases h : j < k
     ·exact HK.out j h hj2
     ·obtain rfl : j = k := by omega
      rw [HXE.out]; exact hbad
    have hne := Cel.is_false hbad
    clear hbad
    rcases hne with h1 | ⟨h1, h2⟩
    all_goals
     go_wp2_with fail
     go_quiet (fail)
     go_wp2_with fail
     go_roundw
     case rel => exact ⟨k + 1, _, by omega, by go_num, HK2, by show _ = _; rw [HW.out]; simp; rfl⟩
     case measure => simp [intOf]; omega
  ·have hres : idxI (Cel.is p) l = -1 := idxI_none λ j hj => HK.out j (by have := HN.out; omega) hj
   have HRES := Lib.hid hres
   have hwr := HW.out
   subst hwr
   clear hres
   go_wp2_with fail
   go_ret
   exact ⟨by rw [HRES.out]; rfl, below_drewN hb0 _⟩
theorem has_cell (p : Cel) (A : Option Addr) (c : Nat) (l : List Cel) (w : World) (hl : Cel.rep.SHas 16 w A c l) :
  Calls Try.prog 70 #[.slice A l.length c, .agg #[.int .i64 p.x, .int .i64 p.y]] w λ e w' => e = .returned (.bool (l.contains p)) ∧ Below w.heap.size w w' := by
 have hb0 := below_alloc0 w (.cells #[.int .i64 p.x, .int .i64 p.y] 35)
 have hc := idx_cell p A c l _ (hl.keep hb0)
 have hany : l.contains p = decide (0 ≤ idxI (Cel.is p) l) := by
  rw [idxI_any, List.contains_eq_any_beq]
  congr 1
  funext x
  unfold Cel.is
  by_cases h : x = p
  ·simp [h]
  ·simp [h, Ne.symm h]
 rw [hany]
 generalize idxI (Cel.is p) l = r at *
 generalize l.length = n at *
 clear hl hany
 go_enter Try.func70, Try.ntmps70
 go_wp2_with (go_at_call 89; refine hc.mono ?_; rintro e w' ⟨rfl, hb2⟩)
 go_ret
 exact ⟨rfl, hb0.trans (hb2.mono hb0.size)⟩
end Go.Proofs.Ytmpkaphcpaigdaa
namespace Go.Proofs.Ytmpkaphcpaigdaa
section
open Go.RowKit
theorem players_any (a : Wd.At) (W : Wd) (w : World) (hW : Wd.Has w a W) (h0 : W.field.chk = 0) (h8 : W.bases.length ≤ 8) :
    Calls Try.prog 45 #[.agg (Wd.cells a W).toArray] w λ e w' => e = .returned (.bool W.players) ∧ Below w.heap.size w w' := by
  obtain ⟨aP, aB, aS, aM, aT, kP, kB, kS, kM, kT⟩ := a
  show Calls _ _ #[.agg #[.int .i64 W.field.wide, .int .i64 W.field.high, .slice aP W.field.places.length kP, .slice aB W.bases.length kB, .slice aS W.stocks.length kS, .slice aM W.mines.length kM, .slice aT W.troops.length kT, .int .i64 W.next, .int .i64 W.now]] _ _
  obtain ⟨nb, HNB⟩ : ∃ n, Hid (W.bases.length = n) := ⟨_, Lib.hid rfl⟩
  obtain ⟨ns, HNS⟩ : ∃ n, Hid (W.stocks.length = n) := ⟨_, Lib.hid rfl⟩
  have h8 : nb ≤ 8 := by rw [← HNB.out]; exact h8
  have hb0 := below_alloc0 w (.cells (Wd.cells ⟨aP, aB, aS, aM, aT, kP, kB, kS, kM, kT⟩ W).toArray 28)
  have HA := Lib.hid (Blk.new w (Wd.cells ⟨aP, aB, aS, aM, aT, kP, kB, kS, kM, kT⟩ W) 28 (0, 0))
  have HH := Lib.hid (hW.keep hb0)
  have H0 := Lib.hid h0
  obtain ⟨w0, HW0⟩ : ∃ w0, Hid (w.alloc (.cells (Wd.cells ⟨aP, aB, aS, aM, aT, kP, kB, kS, kM, kT⟩ W).toArray 28) = w0) := ⟨_, Lib.hid rfl⟩
  rw [HW0.out] at hb0 HH
  have HA : Hid (Blk w0 w.heap.size (Wd.cells ⟨aP, aB, aS, aM, aT, kP, kB, kS, kM, kT⟩ W) 28 (0, 0)) := by rw [← HW0.out]; exact HA
  have HW1 : Hid (w.alloc (.cells #[.int .i64 W.field.wide, .int .i64 W.field.high, .slice aP W.field.places.length kP, .slice aB nb kB, .slice aS ns kS, .slice aM W.mines.length kM, .slice aT W.troops.length kT, .int .i64 W.next, .int .i64 W.now] 28) = w0) := by rw [← HW0.out, ← HNB.out, ← HNS.out]; rfl
  obtain ⟨c0, c1, c2, c3, c4, c5, c6, c7, c8⟩ := Wd.wblk HA.out
  rw [HNB.out] at c3
  rw [HNS.out] at c4
  clear hW h0
  by_cases hlen : ns = nb
  · subst hlen
    have HOK : Hid (∀ j, j < 0 → W.okBase j = true) := Lib.hid λ j hj => absurd hj (by omega)
    go_enter Try.func45, Try.ntmps45
    rw [HNB.out, HNS.out]
    go_wp2_with fail
    rw [HW1.out]
    go_loopw [3, 4, 15] (λ _ _ iv wr => ∃ k : Nat, k ≤ ns ∧ iv = .int .i64 (k : Int) ∧ Hid (∀ j, j < k → W.okBase j = true) ∧ Below w0.heap.size w0 wr) (λ _ _ iv _ => ns - (intOf iv).toNat)
    case atStart => exact ⟨0, Nat.zero_le _, rfl, HOK, Below.refl _ _⟩
    case round =>
      clear HOK c0 c1 c2 c3 c4 c5 c6 c7 c8
      obtain ⟨k, hk, rfl, HK, hb⟩ := hrel
      by_cases hlt : k < ns
      · obtain ⟨p, hp⟩ := get_of (l := W.bases) (i := k) (by rw [HNB.out]; exact hlt)
        obtain ⟨st, hs⟩ := get_of (l := W.stocks) (i := k) (by rw [HNS.out]; exact hlt)
        have hHr := HH.out.keep hb
        have hAr := HA.out.later hb
        have hHB : Cel.rep.SHas 16 wr aB kB W.bases := hHr.B
        have hHP : repI.SHas 8 wr aP kP W.field.places := hHr.P
        have hHS : repI.SHas 8 wr aS kS W.stocks := hHr.S
        have hcap : (ns : Int) ≤ (kB : Int) := by have := hHB.1; rw [HNB.out] at this; omega
        obtain ⟨b, o, rfl, hcell⟩ := Cel.at_ hHB (by rw [HNB.out]; omega)
        obtain ⟨p0, p1⟩ := hcell k p hp
        obtain ⟨bs, os, rfl, hcells⟩ := repI_at hHS (by rw [HNS.out]; omega)
        have s0 := hcells k st hs
        obtain ⟨c0, c1, c2, c3, c4, c5, c6, c7, c8⟩ := Wd.wblk hAr
        rw [HNB.out] at c3
        rw [HNS.out] at c4
        have hok : W.okBase k = (W.field.ground p && !(W.bases.take k).contains p && inB st 0 1000000) := by
          unfold Wd.okBase
          rw [List.getD_eq_getElem?_getD, hp, List.getD_eq_getElem?_getD, hs]; rfl
        have hb1 := below_alloc0 wr (.cells #[.int .i64 p.x, .int .i64 p.y] 35)
        have hBC := Blk.new wr p.cells 35 (0, 0)
        obtain ⟨w1, HWA⟩ : ∃ w1, Hid (wr.alloc (.cells #[.int .i64 p.x, .int .i64 p.y] 35) = w1) := ⟨_, Lib.hid rfl⟩
        rw [HWA.out] at hb1
        have hBC : Blk w1 wr.heap.size p.cells 35 (0, 0) := by rw [← HWA.out]; exact hBC
        obtain ⟨r0, r1⟩ := Cel.blk hBC
        have HG := Lib.hid (λ (V : World) (h : Below w1.heap.size w1 V) => ground_any W.field p aP kP V ((hHP.keep hb1).keep h) H0.out)
        have HC := Lib.hid (λ (V : World) (h : Below w1.heap.size w1 V) => has_cell p (some ⟨b, o, none⟩) kB (W.bases.take k) V (((hHB.take_ k).keep hb1).keep h))
        have hkl : (W.bases.take k).length = k := by rw [List.length_take, HNB.out]; omega
        rw [hkl] at HC
        have HI := Lib.hid (λ (V : World) => within_any st 0 1000000 V)
        have HOKE := Lib.hid hok
        have hbr := Below.refl w1.heap.size w1
        have hbB := hb.trans (hb1.mono hb.size)
        have hki : (k : Int) < (ns : Int) := by omega
        have hk0 : (0 : Int) ≤ (k : Int) := by omega
        have hkc : (k : Int) ≤ (kB : Int) := by omega
        have hkn : k ≤ kB := by omega
        clear hHr hAr hcell hcells hp hs hok hkl hHB hHP hHS
        go_wp2_with fail
        rw [HWA.out]
        have c0 := cell_later hb1 c0; have c1 := cell_later hb1 c1; have c2 := cell_later hb1 c2; have c3 := cell_later hb1 c3; have c4 := cell_later hb1 c4; have s0 := cell_later hb1 s0
        have HS := Lib.hid (λ (wx : World) (h : Below w1.heap.size w1 wx) => (⟨trivial, cell_later h c0, cell_later h c1, cell_later h c2, cell_later h c3, cell_later h c4, cell_later h r0, cell_later h r1, cell_later h s0⟩ : True ∧ wx.cell? ⟨w.heap.size, 0, none⟩ = some (.int .i64 W.field.wide) ∧ wx.cell? ⟨w.heap.size, 1, none⟩ = some (.int .i64 W.field.high) ∧ wx.cell? ⟨w.heap.size, 2, none⟩ = some (.slice aP W.field.places.length kP) ∧ wx.cell? ⟨w.heap.size, 3, none⟩ = some (.slice (some ⟨b, o, none⟩) ns kB) ∧ wx.cell? ⟨w.heap.size, 4, none⟩ = some (.slice (some ⟨bs, os, none⟩) ns kS) ∧ wx.cell? ⟨wr.heap.size, 0, none⟩ = some (.int .i64 p.x) ∧ wx.cell? ⟨wr.heap.size, 1, none⟩ = some (.int .i64 p.y) ∧ wx.cell? ⟨bs, os + k, none⟩ = some (.int .i64 st)))
        clear p0 p1 c5 c6 c7 c8 hBC
        cases h1 : W.field.ground p with
        | false =>
          rw [h1] at HG
          have HF : Hid (W.players = false) := Wd.players_bad (k := k) (by rw [HNB.out]; exact hlt) (by rw [HOKE.out, h1]; rfl)
          clear h1
          refine wp_region_below (by kernel_rfl) (by kernel_rfl) ?_
          repeat (first
            | go_big_quiet_skip
            | (go_big_quiet_want
               first
               | (go_big_quiet_op; go_big_quiet_on)
               | (apply Exists.intro
                  refine ⟨λ wq hq => ?_, ?_⟩
                  · first
                    | (obtain ⟨_, qq0, qq1, qq2, qq3, qq4, qq5, qq6, qq7⟩ := HS.out wq hq
                       apply quiet_val2
                       · (go_simp; rfl)
                       · rfl)
                    | (apply quiet_call2
                       · (go_simp; rfl)
                       · rfl
                       · first
                         | (with_reducible refine (HG.out _ hq).mono ?_; rintro e w2 ⟨rfl, hb2⟩; exact ⟨rfl, below_on hq hb2⟩)
                         | (with_reducible refine (HC.out _ hq).mono ?_; rintro e w2 ⟨rfl, hb2⟩; exact ⟨rfl, below_on hq hb2⟩)
                         | (with_reducible refine (HI.out _).mono ?_; rintro e w2 ⟨rfl, rfl⟩; exact ⟨rfl, hq⟩)
                       )
                  go_big_quiet_on
                  simp only [Act.put, List.setIfInBounds_toArray, List.set_cons_zero, List.set_cons_succ])))
          refine wpQuiet_nil ?_
          intro wz hz
          go_wp2_with fail
          go_ret
          exact ⟨ret_bool HF.out.symm, hb0.trans ((hbB.trans (Below.mono hz hbB.size)).mono hb0.size)⟩
        | true =>
          rw [h1] at HG
          cases h2 : (W.bases.take k).contains p with
          | true =>
            rw [h2] at HC
            have HF : Hid (W.players = false) := Wd.players_bad (k := k) (by rw [HNB.out]; exact hlt) (by rw [HOKE.out, h1, h2]; rfl)
            clear h1 h2
            refine wp_region_below (by kernel_rfl) (by kernel_rfl) ?_
            repeat (first
              | go_big_quiet_skip
              | (go_big_quiet_want
                 first
                 | (go_big_quiet_op; go_big_quiet_on)
                 | (apply Exists.intro
                    refine ⟨λ wq hq => ?_, ?_⟩
                    · first
                      | (obtain ⟨_, qq0, qq1, qq2, qq3, qq4, qq5, qq6, qq7⟩ := HS.out wq hq
                         apply quiet_val2
                         · (go_simp; rfl)
                         · rfl)
                      | (apply quiet_call2
                         · (go_simp; rfl)
                         · rfl
                         · first
                           | (with_reducible refine (HG.out _ hq).mono ?_; rintro e w2 ⟨rfl, hb2⟩; exact ⟨rfl, below_on hq hb2⟩)
                           | (with_reducible refine (HC.out _ hq).mono ?_; rintro e w2 ⟨rfl, hb2⟩; exact ⟨rfl, below_on hq hb2⟩)
                           | (with_reducible refine (HI.out _).mono ?_; rintro e w2 ⟨rfl, rfl⟩; exact ⟨rfl, hq⟩)
                         )
                    go_big_quiet_on
                    simp only [Act.put, List.setIfInBounds_toArray, List.set_cons_zero, List.set_cons_succ])))
            refine wpQuiet_nil ?_
            intro wz hz
            go_wp2_with fail
            go_ret
            exact ⟨ret_bool HF.out.symm, hb0.trans ((hbB.trans (Below.mono hz hbB.size)).mono hb0.size)⟩
          | false =>
            rw [h2] at HC
            cases h3 : inB st 0 1000000 with
            | false =>
              rw [h3] at HI
              have HF : Hid (W.players = false) := Wd.players_bad (k := k) (by rw [HNB.out]; exact hlt) (by rw [HOKE.out, h3, Bool.and_false])
              clear h1 h2 h3
              refine wp_region_below (by kernel_rfl) (by kernel_rfl) ?_
              repeat (first
                | go_big_quiet_skip
                | (go_big_quiet_want
                   first
                   | (go_big_quiet_op; go_big_quiet_on)
                   | (apply Exists.intro
                      refine ⟨λ wq hq => ?_, ?_⟩
                      · first
                        | (obtain ⟨_, qq0, qq1, qq2, qq3, qq4, qq5, qq6, qq7⟩ := HS.out wq hq
                           apply quiet_val2
                           · (go_simp; rfl)
                           · rfl)
                        | (apply quiet_call2
                           · (go_simp; rfl)
                           · rfl
                           · first
                             | (with_reducible refine (HG.out _ hq).mono ?_; rintro e w2 ⟨rfl, hb2⟩; exact ⟨rfl, below_on hq hb2⟩)
                             | (with_reducible refine (HC.out _ hq).mono ?_; rintro e w2 ⟨rfl, hb2⟩; exact ⟨rfl, below_on hq hb2⟩)
                             | (with_reducible refine (HI.out _).mono ?_; rintro e w2 ⟨rfl, rfl⟩; exact ⟨rfl, hq⟩)
                           )
                      go_big_quiet_on
                      simp only [Act.put, List.setIfInBounds_toArray, List.set_cons_zero, List.set_cons_succ])))
              refine wpQuiet_nil ?_
              intro wz hz
              go_wp2_with fail
              go_ret
              exact ⟨ret_bool HF.out.symm, hb0.trans ((hbB.trans (Below.mono hz hbB.size)).mono hb0.size)⟩
            | true =>
              rw [h3] at HI
              have HK2 : Hid (∀ j, j < k + 1 → W.okBase j = true) := by
                intro j hj
                by_cases hjk : j < k
                · exact HK.out j hjk
                · obtain rfl : j = k := by omega
                  rw [HOKE.out, h1, h2, h3]; rfl
              clear h1 h2 h3
              refine wp_region_below (by kernel_rfl) (by kernel_rfl) ?_
              repeat (first
                | go_big_quiet_skip
                | (go_big_quiet_want
                   first
                   | (go_big_quiet_op; go_big_quiet_on)
                   | (apply Exists.intro
                      refine ⟨λ wq hq => ?_, ?_⟩
                      · first
                        | (obtain ⟨_, qq0, qq1, qq2, qq3, qq4, qq5, qq6, qq7⟩ := HS.out wq hq
                           apply quiet_val2
                           · (go_simp; rfl)
                           · rfl)
                        | (apply quiet_call2
                           · (go_simp; rfl)
                           · rfl
                           · first
                             | (with_reducible refine (HG.out _ hq).mono ?_; rintro e w2 ⟨rfl, hb2⟩; exact ⟨rfl, below_on hq hb2⟩)
                             | (with_reducible refine (HC.out _ hq).mono ?_; rintro e w2 ⟨rfl, hb2⟩; exact ⟨rfl, below_on hq hb2⟩)
                             | (with_reducible refine (HI.out _).mono ?_; rintro e w2 ⟨rfl, rfl⟩; exact ⟨rfl, hq⟩)
                           )
                      go_big_quiet_on
                      simp only [Act.put, List.setIfInBounds_toArray, List.set_cons_zero, List.set_cons_succ])))
              refine wpQuiet_nil ?_
              intro wz hz
              go_wp2_with fail
              go_roundw
              case rel => exact ⟨k + 1, by omega, by go_num, HK2, hbB.trans (Below.mono hz hbB.size)⟩
              case measure => simp [intOf]; omega
      · have HT : Hid (W.players = true) := Wd.players_ok (by rw [HNS.out, HNB.out]) λ j hj => HK.out j (by rw [HNB.out] at hj; omega)
        clear HK
        go_wp2_with fail
        go_ret
        exact ⟨ret_bool HT.out.symm, hb0.trans (hb.mono hb0.size)⟩
  · have HT : Hid (W.players = false) := Wd.players_no (by rw [HNS.out, HNB.out]; exact hlen)
    have hd : ((ns : Int) != (nb : Int)) = true := by simp; omega
    rw [HT.out]
    go_enter Try.func45, Try.ntmps45
    rw [HNB.out, HNS.out]
    go_wp2_with fail
    go_ret
    rw [HW1.out]
    exact ⟨rfl, hb0⟩
end
section
open Go.RowKit
theorem mines_any (a : Wd.At) (W : Wd) (w : World) (hW : Wd.Has w a W) :
  Calls Try.prog 46 #[.agg (Wd.cells a W).toArray] w λ e w' => e = .returned (.bool W.minesOk) ∧ Below w.heap.size w w' := by
 obtain ⟨aP, aB, aS, aM, aT, kP, kB, kS, kM, kT⟩ := a
 show Calls _ _ #[.agg #[.int .i64 W.field.wide, .int .i64 W.field.high, .slice aP W.field.places.length kP, .slice aB W.bases.length kB, .slice aS W.stocks.length kS, .slice aM W.mines.length kM, .slice aT W.troops.length kT, .int .i64 W.next, .int .i64 W.now]] _ _
 have hb0 := below_alloc0 w (.cells (Wd.cells ⟨aP, aB, aS, aM, aT, kP, kB, kS, kM, kT⟩ W).toArray 28)
 have HA := Lib.hid (Blk.new w (Wd.cells ⟨aP, aB, aS, aM, aT, kP, kB, kS, kM, kT⟩ W) 28 (0, 0))
 have HH := Lib.hid (hW.keep hb0)
 obtain ⟨w0, HW0⟩ : ∃ w0, Hid (w.alloc (.cells (Wd.cells ⟨aP, aB, aS, aM, aT, kP, kB, kS, kM, kT⟩ W).toArray 28) = w0) := ⟨_, Lib.hid rfl⟩
 rw [HW0.out] at hb0 HH
 have HA : Hid (Blk w0 w.heap.size (Wd.cells ⟨aP, aB, aS, aM, aT, kP, kB, kS, kM, kT⟩ W) 28 (0, 0)) := by rw [← HW0.out]; exact HA
 obtain ⟨nm, HNM⟩ : ∃ n, Hid (W.mines.length = n) := ⟨_, Lib.hid rfl⟩
 obtain ⟨np, HNP⟩ : ∃ n, Hid (W.field.places.length = n) := ⟨_, Lib.hid rfl⟩
 have hle : nm ≤ 9223372036854775807 := by have := hW.M.len_le; rw [HNM.out] at this; exact this
 have HW1 : Hid (w.alloc (.cells #[.int .i64 W.field.wide, .int .i64 W.field.high, .slice aP np kP, .slice aB W.bases.length kB, .slice aS W.stocks.length kS, .slice aM nm kM, .slice aT W.troops.length kT, .int .i64 W.next, .int .i64 W.now] 28) = w0) := by rw [← HW0.out, ← HNM.out, ← HNP.out]; rfl
 obtain ⟨c0, c1, c2, c3, c4, c5, c6, c7, c8⟩ := Wd.wblk HA.out
 rw [HNP.out] at c2
 rw [HNM.out] at c5
 clear hW
 by_cases hlen : nm = np
 ·subst hlen
  have HOK : Hid (∀ j, j < 0 → W.okMine j = true) := Lib.hid λ j hj => absurd hj (by omega)
  go_enter Try.func46, Try.ntmps46
  rw [HNP.out, HNM.out]
  go_wp2_with fail
  rw [HW1.out]
  go_loopw [3, 4, 16] (λ _ _ iv wr => ∃ k : Nat, k ≤ nm ∧ iv = .int .i64 (k : Int) ∧ Hid (∀ j, j < k → W.okMine j = true) ∧ Hid (wr = w0)) (λ _ _ iv _ => nm - (intOf iv).toNat)
  case atStart => exact ⟨0, Nat.zero_le _, rfl, HOK, rfl⟩
  case round =>
   clear HOK c0 c1 c2 c3 c4 c5 c6 c7 c8
   obtain ⟨k, hk, rfl, HK, HWR⟩ := hrel
   obtain ⟨c0, c1, c2, c3, c4, c5, c6, c7, c8⟩ := Wd.wblk (show Blk wr w.heap.size (Wd.cells ⟨aP, aB, aS, aM, aT, kP, kB, kS, kM, kT⟩ W) 28 (0, 0) by rw [HWR.out]; exact HA.out)
   rw [HNP.out] at c2
   rw [HNM.out] at c5
   have hbw : Below w.heap.size w wr := by rw [HWR.out]; exact hb0
   by_cases hlt : k < nm
   ·obtain ⟨p, hp⟩ := get_of (l := W.field.places) (i := k) (by rw [HNP.out]; exact hlt)
    obtain ⟨m, hm⟩ := get_of (l := W.mines) (i := k) (by rw [HNM.out]; exact hlt)
    have hHP : repI.SHas 8 wr aP kP W.field.places := by rw [HWR.out]; exact HH.out.P
    have hHM : repI.SHas 8 wr aM kM W.mines := by rw [HWR.out]; exact HH.out.M
    obtain ⟨b, o, rfl, hcell⟩ := repI_at hHP (by rw [HNP.out]; omega)
    have p0 := hcell k p hp
    obtain ⟨bm, om, rfl, hcellm⟩ := repI_at hHM (by rw [HNM.out]; omega)
    have m0 := hcellm k m hm
    have hok : W.okMine k = (inB m 0 1000000 && (decide (m ≤ 0) || p == 3)) := by
     unfold Wd.okMine
     rw [List.getD_eq_getElem?_getD, hm, List.getD_eq_getElem?_getD, hp]; rfl
    have HI := Lib.hid (λ (V : World) => within_any m 0 1000000 V)
    have HOKE := Lib.hid hok
    have hki : (k : Int) < (nm : Int) := by omega
    have hk0 : (0 : Int) ≤ (k : Int) := by omega
    clear hHP hHM hcell hcellm hp hm hok
    cases h1 : inB m 0 1000000 with
    | false =>
     rw [h1] at HI
     have HF : Hid (W.minesOk = false) := Wd.mines_bad (k := k) (by rw [HNM.out]; exact hlt) (by rw [HOKE.out, h1]; rfl)
     clear h1
     go_wp2_with fail
     refine (HI.out _).mono ?_; rintro e w' ⟨rfl, rfl⟩
     go_wp2_with fail
     go_ret
     exact ⟨ret_bool HF.out.symm, hbw⟩
    | true =>
     rw [h1] at HI
     by_cases h2 : m ≤ 0
     ·have hd : decide (0 < m) = false := by simp; omega
      have HK2 : Hid (∀ j, j < k + 1 → W.okMine j = true) := by
       intro j hj
       by_cases hjk : j < k
       ·exact HK.out j hjk
       ·obtain rfl : j = k := by omega
        rw [HOKE.out, h1, decide_eq_true h2]; rfl
      clear h1
      go_wp2_with fail
      refine (HI.out _).mono ?_; rintro e w' ⟨rfl, rfl⟩
      go_wp2_with fail
      go_roundw
      case rel => exact ⟨k + 1, by omega, by go_num, HK2, HWR⟩
      case measure => simp [intOf]; omega
     ·have hd : decide (0 < m) = true := by simp; omega
      by_cases h3 : p = 3
      ·subst h3
       have HK2 : Hid (∀ j, j < k + 1 → W.okMine j = true) := by
        intro j hj
        by_cases hjk : j < k
        ·exact HK.out j hjk
        ·obtain rfl : j = k := by omega
         rw [HOKE.out, h1]; simp
       clear h1 h2
       go_wp2_with fail
       refine (HI.out _).mono ?_; rintro e w' ⟨rfl, rfl⟩
       go_wp2_with fail
       go_roundw
       case rel => exact ⟨k + 1, by omega, by go_num, HK2, HWR⟩
       case measure => simp [intOf]; omega
      ·have HF : Hid (W.minesOk = false) := Wd.mines_bad (k := k) (by rw [HNM.out]; exact hlt) (by rw [HOKE.out, decide_eq_false h2, beq_false_of_ne h3]; simp)
       have hd2 : (p == 3) = false := by simpa using h3
       clear h1 h2 h3
       go_wp2_with fail
       refine (HI.out _).mono ?_; rintro e w' ⟨rfl, rfl⟩
       go_wp2_with fail
       go_ret
       exact ⟨ret_bool HF.out.symm, hbw⟩
   ·have HT : Hid (W.minesOk = true) := Wd.mines_ok (by rw [HNM.out, HNP.out]) λ j hj => HK.out j (by rw [HNM.out] at hj; omega)
    clear HK
    go_wp2_with fail
    go_ret
    exact ⟨ret_bool HT.out.symm, hbw⟩
 ·have HT : Hid (W.minesOk = false) := Wd.mines_no (by rw [HNM.out, HNP.out]; exact hlen)
  have hd : ((nm : Int) != (np : Int)) = true := by simp; omega
  rw [HT.out]
  go_enter Try.func46, Try.ntmps46
  rw [HNP.out, HNM.out]
  go_wp2_with fail
  go_ret
  rw [HW1.out]
  exact ⟨rfl, hb0⟩
end
section
open Go.RowKit Go.Maps
namespace Cel
def key (c : Cel) : Value := .agg #[.int .i64 c.x, .int .i64 c.y]
theorem laid : laidOutB Try.prog = true := by kernel_rfl
theorem key_formed (x y : Int) : (Value.agg #[.int .i64 x, .int .i64 y]).formed Try.prog 35 = true := by kernel_rfl
theorem key_type : Try.prog.keyType 35 = true := by kernel_rfl
theorem key_size : ∃ n, Try.prog.types.size + 1 = n + 2 := by
 have : 1 ≤ Try.prog.types.size := by decide +kernel
 exact ⟨Try.prog.types.size - 1, by omega⟩
theorem key_cells : Try.prog.cellsOf 35 = 2 ∧ Try.prog.cellsOf 3 = 1 := by
 constructor <;> kernel_rfl
theorem key_lit (c : Cel) (h : c.ok) : ∃ l, keyOf Try.prog 35 (key c) = some l := by
 obtain ⟨hx, hy⟩ := h
 obtain ⟨n, hn⟩ := key_size
 unfold key keyOf
 have hu := Try.underlying35
 rw [hu]
 simp only [key_type, key_formed, Bool.and_self, if_true, hn]
 have h1 : Try.prog.keyLits (n + 2) 35 [.int .i64 c.x, .int .i64 c.y] = some [.int .i64 c.x, .int .i64 c.y] := by
  simp [Program.keyLits, hu, Try.underlying3, key_cells, hx, hy]
 exact ⟨.string (keyBytes [.int .i64 c.x, .int .i64 c.y]), by
  have e : (Value.agg #[.int .i64 c.x, .int .i64 c.y]).cells.toList = [.int .i64 c.x, .int .i64 c.y] := rfl
  rw [e, h1]; rfl⟩
theorem key_ok : KeyOk Try.prog 35 key ok where
 keyed := Keyed.of_law (Go.deep_law_laid laid (m := 100) (by decide) (by decide +kernel) (by kernel_rfl) (by kernel_rfl))
 lit := key_lit
 inj := by
  intro a b h
  unfold key at h
  injection h with h
  obtain ⟨x, y⟩ := a
  obtain ⟨z, t⟩ := b
  simp at h
  simp [h]
end Cel
end
end Go.Proofs.Ytmpkaphcpaigdaa
