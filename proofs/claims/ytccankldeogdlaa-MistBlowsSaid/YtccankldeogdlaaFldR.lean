import Derived.Test.YtccankldeogdlaaGolC
import Derived.Test.YtccankldeogdlaaLinG
import Derived.Test.YtccankldeogdlaaBas
import Derived.Handy
import Derived.Test.YtccankldeogdlaaGol
import Derived.Laws.IdiomStrings
import Derived.Laws.Strings
import Derived.Test.YtccankldeogdlaaShelf
import Derived.Lib.Bytealg
set_option linter.unusedVariables false
set_option linter.unusedSimpArgs false
set_option maxRecDepth 100000
set_option maxHeartbeats 4000000
namespace Go.Proofs.Ytccankldeogdlaa
end Go.Proofs.Ytccankldeogdlaa
set_option linter.unusedVariables false
set_option linter.unusedSimpArgs false
namespace Go.Proofs.Ytccankldeogdlaa
open Go.RowKit

def Fld.badPlace (p : Int) : Bool := !Fld.placeOk p
theorem badPlace_mk {p : Int} : (p < 0 → Fld.badPlace p = true) ∧ (4 ≤ p → Fld.badPlace p = true) ∧ (0 ≤ p → p < 4 → Fld.badPlace p = false) := by
 unfold Fld.badPlace Fld.placeOk
 refine ⟨λ h => by rw [inB_not (.inl h)]; rfl, λ h => by rw [inB_not (.inr (by omega))]; rfl, λ h1 h2 => by rw [inB_mk h1 (by omega)]; rfl⟩
theorem fcheck1 (p : Int) (w : World) : Calls Try.prog 99 #[.int .i64 p] w λ e w' => e = .returned (.bool (Fld.badPlace p)) ∧ Below w.heap.size w w' := by
 obtain ⟨b1, b2, b3⟩ := badPlace_mk (p := p)
 rcases Int.lt_or_le p 0 with h | h
 ·have hb := b1 h
  have hd : decide (p < 0) = true := by simpa using h
  rw [hb]; clear b1 b2 b3 hb
  go_enter Try.func99, Try.ntmps99
  go_wp2
  go_ret
  exact ⟨rfl, Below.refl _ _⟩
 ·rcases Int.lt_or_le p 4 with h4 | h4
  ·have hb := b3 h h4
   have hd : decide (p < 0) = false := by simpa using h
   rw [hb]; clear b1 b2 b3 hb
   go_enter Try.func99, Try.ntmps99
   go_wp2
   go_ret
   exact ⟨ret_bool (by simp <;> omega), Below.refl _ _⟩
  ·have hb := b2 h4
   have hd : decide (p < 0) = false := by simpa using h
   rw [hb]; clear b1 b2 b3 hb
   go_enter Try.func99, Try.ntmps99
   go_wp2
   go_ret
   exact ⟨ret_bool (by simp <;> omega), Below.refl _ _⟩
theorem idx_place  (A : Option Addr) (c : Nat) (l : List Int) (w : World) (hl : repI.SHas 8 w A c l) :
  Calls Try.prog 140 #[.slice A l.length c, .func (.func 99) #[] #[]] w λ e w' => e = .returned (.int .i64 (idxI (Fld.badPlace) l)) ∧ Below w.heap.size w w' := by
 obtain ⟨n, hn⟩ : ∃ n, l.length = n := ⟨_, rfl⟩
 have hle : n ≤ 9223372036854775807 := by have := hl.1; have := hl.2.1; omega
 rw [hn]
 have HL := Lib.hid hl
 have HN := Lib.hid hn
 clear hl hn
 go_enter Try.func140, Try.ntmps140
 go_wp2_with fail
 go_loopw [5, 8] (λ _ iv wr => ∃ k : Nat, k ≤ n ∧ iv = .int .i64 (k : Int) ∧ Hid (∀ j (hj : j < k) (hj2 : j < l.length), (Fld.badPlace) l[j] = false) ∧ Below w.heap.size w wr) (λ _ iv _ => n - (intOf iv).toNat)
 case atStart => exact ⟨0, Nat.zero_le _, rfl, (λ j hj => by omega), Below.refl _ _⟩
 case round =>
  obtain ⟨k, hk, rfl, HK, hb⟩ := hrel
  by_cases hlt : k < n
  ·have hkl : k < l.length := by rw [HN.out]; exact hlt
   obtain ⟨b, o, rfl, hcell⟩ := repI_at (HL.out.keep hb) (by omega)
   obtain ⟨x, hxe⟩ : ∃ x, l[k]'hkl = x := ⟨_, rfl⟩
   have q0 := hcell k x (by rw [List.getElem?_eq_getElem hkl, hxe])
   have HXE := Lib.hid hxe

   have hc := fcheck1 x wr
   clear hcell hxe
   cases hbad : (Fld.badPlace) x with
   | true =>
    have hres : idxI (Fld.badPlace) l = (k : Int) := idxI_some hkl (by rw [HXE.out]; exact hbad) λ j hj => HK.out j hj (by omega)
    rw [hbad] at hc
    have HRES := Lib.hid hres
    clear hres hbad
    go_wp2_with (go_at_call 99; refine hc.mono ?_; rintro e w' ⟨rfl, hb2⟩)
    go_ret
    exact ⟨by rw [HRES.out]; rfl, hb.trans (hb2.mono hb.size)⟩
   | false =>
    rw [hbad] at hc
    have HK2 : Hid (∀ j (hj : j < k + 1) (hj2 : j < l.length), (Fld.badPlace) l[j] = false) := by
     intro j hj hj2
     by_cases h : j < k
     ·exact HK.out j h hj2
     ·obtain rfl : j = k := by omega
      rw [HXE.out]; exact hbad
    clear hbad
    go_wp2_with (go_at_call 99; refine hc.mono ?_; rintro e w' ⟨rfl, hb2⟩)
    go_roundw
    case rel => exact ⟨k + 1, by omega, by go_num, HK2, hb.trans (hb2.mono hb.size)⟩
    case measure => simp [intOf]; omega
  ·have hres : idxI (Fld.badPlace) l = -1 := idxI_none λ j hj => HK.out j (by have := HN.out; omega) hj
   have HRES := Lib.hid hres
   clear hres
   go_wp2_with fail
   go_ret
   exact ⟨by rw [HRES.out]; rfl, hb⟩
theorem has_place  (A : Option Addr) (c : Nat) (l : List Int) (w : World) (hl : repI.SHas 8 w A c l) :
  Calls Try.prog 98 #[.slice A l.length c, .func (.func 99) #[] #[]] w λ e w' => e = .returned (.bool (l.any (Fld.badPlace))) ∧ Below w.heap.size w w' := by
 have hc := idx_place  A c l w hl 
 rw [← idxI_any]
 generalize idxI (Fld.badPlace) l = r at *
 generalize l.length = n at *
 clear hl 
 go_enter Try.func98, Try.ntmps98
 go_wp2_with (go_at_call 140; refine hc.mono ?_; rintro e w' ⟨rfl, hb2⟩)
 go_ret
 exact ⟨rfl, hb2⟩
theorem within_any (n lo hi : Int) (w : World) : Calls Try.prog 102 #[.int .i64 n, .int .i64 lo, .int .i64 hi] w λ e w' => e = .returned (.bool (inB n lo hi)) ∧ w = w' := by
 rcases Int.lt_or_le n lo with h | h
 ·rw [inB_not (.inl h)]
  go_enter Try.func102, Try.ntmps102
  go_wp2
  go_ret
  exact ⟨rfl, rfl⟩
 ·rcases Int.lt_or_le hi n with h4 | h4
  ·rw [inB_not (.inr h4)]
   go_enter Try.func102, Try.ntmps102
   go_wp2
   go_ret
   exact ⟨ret_bool (by simp <;> omega), rfl⟩
  ·rw [inB_mk h h4]
   go_enter Try.func102, Try.ntmps102
   go_wp2
   go_ret
   exact ⟨ret_bool (by simp <;> omega), rfl⟩
theorem side_any (n : Int) (w : World) : Calls Try.prog 97 #[.int .i64 n] w λ e w' => e = .returned (.bool (inB n 1 40)) ∧ w = w' := by
 rcases Int.lt_or_le n 1 with h | h
 ·rw [inB_not (.inl h)]
  go_enter Try.func97, Try.ntmps97
  go_wp2
  go_ret
  exact ⟨rfl, rfl⟩
 ·rcases Int.lt_or_le 40 n with h4 | h4
  ·rw [inB_not (.inr h4)]
   go_enter Try.func97, Try.ntmps97
   go_wp2
   go_ret
   exact ⟨ret_bool (by simp <;> omega), rfl⟩
  ·rw [inB_mk h h4]
   go_enter Try.func97, Try.ntmps97
   go_wp2
   go_ret
   exact ⟨ret_bool (by simp <;> omega), rfl⟩
end Go.Proofs.Ytccankldeogdlaa
set_option linter.unusedVariables false
set_option linter.unusedSimpArgs false
namespace Go.Proofs.Ytccankldeogdlaa
open Go.RowKit

theorem Fld.chk_none {f : Fld} (h1 : inB f.wide 1 40 = true) (h2 : inB f.high 1 40 = true) (h3 : ¬ (f.places.length : Int) = f.wide * f.high) : f.chk = 4 := by
 unfold Fld.chk
 rw [h1, h2, decide_eq_false h3]; rfl
theorem Fld.chk_any {f : Fld} (h1 : inB f.wide 1 40 = true) (h2 : inB f.high 1 40 = true) (h3 : (f.places.length : Int) = f.wide * f.high) : f.chk = if f.places.any Fld.badPlace then 4 else 0 := by
 unfold Fld.chk
 rw [h1, h2, decide_eq_true h3]
 have : f.places.all Fld.placeOk = !f.places.any Fld.badPlace := by
  rw [List.all_eq_not_any_not]; rfl
 rw [this]
 cases f.places.any Fld.badPlace <;> rfl
theorem fldCheck (f : Fld) (A : Option Addr) (c : Nat) (w : World) (hP : repI.SHas 8 w A c f.places) :
  Calls Try.prog 64 #[.agg #[.int .i64 f.wide, .int .i64 f.high, .slice A f.places.length c]] w λ e w' => e = .returned (.int .i64 f.chk) ∧ Below w.heap.size w w' := by
 have hb := below_alloc0 w (.cells #[.int .i64 f.wide, .int .i64 f.high, .slice A f.places.length c] 54)
 have hs1 := side_any f.wide
 have hs2 := side_any f.high
 have hle : f.places.length ≤ 9223372036854775807 := by have := hP.1; have := hP.2.1; omega
 cases h1 : inB f.wide 1 40 with
 | false =>
  rw [h1] at hs1
  rw [Fld.chk_one (by rw [h1]; rfl)]
  clear h1 hs2 hP
  go_enter Try.func64, Try.ntmps64
  go_wp2_with (go_at_call 97; refine (hs1 _).mono ?_; rintro e w' ⟨rfl, rfl⟩)
  go_ret
  exact ⟨rfl, hb⟩
 | true =>
  rw [h1] at hs1
  cases h2 : inB f.high 1 40 with
  | false =>
   rw [h2] at hs2
   rw [Fld.chk_one (by rw [h1, h2]; rfl)]
   clear h1 h2 hP
   go_enter Try.func64, Try.ntmps64
   go_wp2_with fail
   refine (hs1 _).mono ?_; rintro e w' ⟨rfl, rfl⟩
   go_wp2_with fail
   refine (hs2 _).mono ?_; rintro e w' ⟨rfl, rfl⟩
   go_wp2_with fail
   go_ret
   exact ⟨rfl, hb⟩
  | true =>
   rw [h2] at hs2
   have hw := inB_true h1
   have hh := inB_true h2
   have hm0 : 0 ≤ f.wide * f.high := Int.mul_nonneg (by omega) (by omega)
   have hm1 : f.wide * f.high ≤ 40 * 40 := Int.mul_le_mul hw.2 hh.2 (by omega) (by omega)
   by_cases h3 : (f.places.length : Int) = f.wide * f.high
   ·have hc := has_place A c f.places _ (hP.keep hb)
    have hd : ((f.places.length : Int) == f.wide * f.high) = true := by simpa using h3
    have hd2 : ((f.places.length : Int) != f.wide * f.high) = false := by simpa using h3
    rw [Fld.chk_any h1 h2 h3]
    clear h1 h2 h3 hP
    generalize f.places.any Fld.badPlace = r at *
    generalize f.places.length = n at *
    cases r with
    | true =>
     go_enter Try.func64, Try.ntmps64
     go_wp2_with fail
     refine (hs1 _).mono ?_; rintro e w' ⟨rfl, rfl⟩
     go_wp2_with fail
     refine (hs2 _).mono ?_; rintro e w' ⟨rfl, rfl⟩
     go_wp2_with fail
     refine hc.mono ?_; rintro e w' ⟨rfl, hb2⟩
     go_wp2_with fail
     go_ret
     exact ⟨rfl, hb.trans (hb2.mono hb.size)⟩
    | false =>
     go_enter Try.func64, Try.ntmps64
     go_wp2_with fail
     refine (hs1 _).mono ?_; rintro e w' ⟨rfl, rfl⟩
     go_wp2_with fail
     refine (hs2 _).mono ?_; rintro e w' ⟨rfl, rfl⟩
     go_wp2_with fail
     refine hc.mono ?_; rintro e w' ⟨rfl, hb2⟩
     go_wp2_with fail
     go_ret
     exact ⟨rfl, hb.trans (hb2.mono hb.size)⟩
   ·have hd : ((f.places.length : Int) == f.wide * f.high) = false := by simpa using h3
    have hd2 : ((f.places.length : Int) != f.wide * f.high) = true := by simpa using h3
    rw [Fld.chk_none h1 h2 h3]
    clear h1 h2 h3 hP
    generalize f.places.length = n at *
    go_enter Try.func64, Try.ntmps64
    go_wp2_with fail
    refine (hs1 _).mono ?_; rintro e w' ⟨rfl, rfl⟩
    go_wp2_with fail
    refine (hs2 _).mono ?_; rintro e w' ⟨rfl, rfl⟩
    go_wp2_with fail
    go_ret
    exact ⟨rfl, hb⟩
theorem kind_1 (w : World) : Calls Try.prog 39 #[.int .i64 1] w λ e w' => e = .returned (.tuple #[.agg #[.int .i64 10, .int .i64 1, .int .i64 1, .int .i64 5], .int .i64 0]) ∧ Below w.heap.size w w' := by
 go_enter Try.func39, Try.ntmps39
 go_wp2
 refine bodyPost_ret (v := .tuple #[.agg #[.int .i64 10, .int .i64 1, .int .i64 1, .int .i64 5], .int .i64 0]) (by simp [results, Try.results39, go_sem]) rfl ⟨rfl, (Below.refl _ _).alloc (Nat.le_refl _) _⟩
theorem kind_2 (w : World) : Calls Try.prog 39 #[.int .i64 2] w λ e w' => e = .returned (.tuple #[.agg #[.int .i64 20, .int .i64 2, .int .i64 4, .int .i64 12], .int .i64 0]) ∧ Below w.heap.size w w' := by
 go_enter Try.func39, Try.ntmps39
 go_wp2
 refine bodyPost_ret (v := .tuple #[.agg #[.int .i64 20, .int .i64 2, .int .i64 4, .int .i64 12], .int .i64 0]) (by simp [results, Try.results39, go_sem]) rfl ⟨rfl, (Below.refl _ _).alloc (Nat.le_refl _) _⟩
theorem kind_no (k : Int) (w : World) (h : inB k 1 2 = false) : Calls Try.prog 39 #[.int .i64 k] w λ e w' => e = .returned (.tuple #[.agg #[.int .i64 0, .int .i64 0, .int .i64 0, .int .i64 0], .int .i64 1]) ∧ Below w.heap.size w w' := by
 have h' := inB_false h
 have h1 : (k == 1) = false := by simp; omega
 have h2 : (k == 2) = false := by simp; omega
 clear h h'
 go_enter Try.func39, Try.ntmps39
 go_wp2
 refine bodyPost_ret (v := .tuple #[.agg #[.int .i64 0, .int .i64 0, .int .i64 0, .int .i64 0], .int .i64 1]) (by simp [results, Try.results39, go_sem]) rfl ⟨rfl, (Below.refl _ _).alloc (Nat.le_refl _) _⟩
end Go.Proofs.Ytccankldeogdlaa
set_option linter.unusedVariables false
set_option linter.unusedSimpArgs false
namespace Go.Proofs.Ytccankldeogdlaa
open Go.RowKit

theorem ret_two {k k' : IntKind} {a b a' b' : Int} (h1 : a = a') (h2 : b = b') : Ending.returned (.tuple #[.int k a, .int k' b]) = .returned (.tuple #[.int k a', .int k' b']) := by rw [h1, h2]
def AtPost (f : Fld) (c : Cel) (w : World) (e : Ending) (w' : World) : Prop := e = .returned (.tuple #[.int .i64 (f.atV c), .int .i64 (f.atE c)]) ∧ Below w.heap.size w w'
theorem fldAt (f : Fld) (p : Cel) (A : Option Addr) (c : Nat) (w : World) (hP : repI.SHas 8 w A c f.places) :
  Calls Try.prog 141 #[.agg #[.int .i64 f.wide, .int .i64 f.high, .slice A f.places.length c], .agg #[.int .i64 p.x, .int .i64 p.y]] w (AtPost f p w) := by
 have hA := Blk.new w (Wd.fcells A c f) 54 (0, 0)
 have hb := below_alloc0 w (.cells (Wd.fcells A c f).toArray 54 (0, 0))
 have hB := Blk.new (w.alloc (.cells (Wd.fcells A c f).toArray 54 (0, 0))) p.cells 70 (0, 0)
 have hb1 := below_alloc0 (w.alloc (.cells (Wd.fcells A c f).toArray 54 (0, 0))) (.cells p.cells.toArray 70 (0, 0))
 have hA1 := hA.later hb1
 have hbb := hb.trans (hb1.mono hb.size)
 have hc := fldCheck f A c _ (hP.keep hbb)
 have hP1 := hP.keep hbb
 obtain ⟨w1, HW1⟩ : ∃ w1, Hid ((w.alloc (.cells (Wd.fcells A c f).toArray 54 (0, 0))).alloc (.cells p.cells.toArray 70 (0, 0)) = w1) := ⟨_, Lib.hid rfl⟩
 rw [HW1.out] at hA1 hB hc hbb hP1
 rw [World.size_alloc] at hB
 clear hA hb hb1 hP
 have hst : ∀ K : World → Prop, K w1 → K ((w.alloc (.cells #[.int .i64 f.wide, .int .i64 f.high, .slice A f.places.length c] 54)).alloc (.cells #[.int .i64 p.x, .int .i64 p.y] 70)) := λ K h => by
  have := HW1.out
  rw [← this] at h; exact h
 by_cases h0 : f.chk = 0
 ·have hfl := Fld.len_le h0
  obtain ⟨g1, g2, g3, g4, _, _⟩ := Fld.good h0
  rw [h0] at hc
  by_cases hin : 0 ≤ p.x ∧ p.x < f.wide ∧ 0 ≤ p.y ∧ p.y < f.high
  ·obtain ⟨i1, i2, i3, i4⟩ := hin
   have hIn := Fld.isIn_mk i1 i2 i3 i4
   obtain ⟨e1, e2⟩ := Fld.at_in h0 hIn
   obtain ⟨x1, x2, _⟩ := Fld.idx h0 hIn
   have y1 : 0 ≤ p.y * f.wide := Int.mul_nonneg i3 (by omega)
   have y2 : p.y * f.wide ≤ 1600 := by omega
   obtain ⟨b, o, rfl, hcell⟩ := repI_at hP1 (by omega)
   have hce := hcell (p.y * f.wide + p.x).toNat (f.place p) (by
    unfold Fld.place
    rw [List.getD_eq_getElem?_getD, List.getElem?_eq_getElem (show (p.y * f.wide + p.x).toNat < f.places.length by omega)]; rfl)
   have HCE := Lib.hid hce
   have HE := Lib.hid (And.intro e1 e2)
   have HA1 := Lib.hid hA1
   have HB := Lib.hid hB
   have d1 : decide (p.x < 0) = false := by simpa using i1
   have d2 : decide (p.y < 0) = false := by simpa using i3
   clear h0 hIn e1 e2 hcell hce hP1 hA1 hB
   go_enter Try.func141, Try.ntmps141
   go_wp2_with fail
   refine hst (λ W => Calls _ _ _ W _) ?_
   refine hc.mono ?_
   rintro e w2 ⟨rfl, hb2⟩
   obtain ⟨q0, q1, q2⟩ := Wd.fblk (HA1.out.later hb2)
   obtain ⟨r0, r1⟩ := Cel.blk (HB.out.later hb2)
   have hcell2 := cell_later hb2 HCE.out
   go_wp2_with fail
   go_ret2
   exact ⟨ret_two HE.out.2.symm HE.out.1.symm, hbb.trans (hb2.mono hbb.size)⟩
  ·have hout : p.x < 0 ∨ f.wide ≤ p.x ∨ p.y < 0 ∨ f.high ≤ p.y := by omega
   have HE := Lib.hid (Fld.at_out h0 (Fld.isIn_out hout))
   have HA1 := Lib.hid hA1
   have HB := Lib.hid hB
   clear h0 hP1 hA1 hB hin
   have HOUT := Lib.hid hout
   clear hout
   go_enter Try.func141, Try.ntmps141
   go_wp2_with fail
   refine hst (λ W => Calls _ _ _ W _) ?_
   refine hc.mono ?_
   rintro e w2 ⟨rfl, hb2⟩
   obtain ⟨q0, q1, q2⟩ := Wd.fblk (HA1.out.later hb2)
   obtain ⟨r0, r1⟩ := Cel.blk (HB.out.later hb2)
   have key : decide (p.x < 0) = true ∨ (decide (p.x < 0) = false ∧ decide (f.wide ≤ p.x) = true) ∨ (decide (p.x < 0) = false ∧ decide (f.wide ≤ p.x) = false ∧ decide (p.y < 0) = true) ∨ (decide (p.x < 0) = false ∧ decide (f.wide ≤ p.x) = false ∧ decide (p.y < 0) = false ∧ decide (f.high ≤ p.y) = true) := by
    have := HOUT.out
    by_cases k1 : p.x < 0
    ·simp [k1]
    by_cases k2 : f.wide ≤ p.x
    ·simp [k1, k2]
    by_cases k3 : p.y < 0
    ·simp [k1, k2, k3]
    ·simp [k1, k2, k3]; omega
   rcases key with h | ⟨h, h2⟩ | ⟨h, h2, h3⟩ | ⟨h, h2, h3, h4⟩
   all_goals
    go_wp2_with fail
    go_ret2
    exact ⟨ret_two HE.out.2.symm HE.out.1.symm, hbb.trans (hb2.mono hbb.size)⟩
 ·obtain ⟨e1, e2⟩ := Fld.at_bad (c := p) h0
  have HE := Lib.hid (And.intro e1 e2)
  have hne : (f.chk == 0) = false := by simpa using h0
  have hne2 : (f.chk != 0) = true := by simpa using h0
  clear e1 e2 h0 hP1 hA1 hB
  generalize f.chk = k at *
  go_enter Try.func141, Try.ntmps141
  go_wp2_with fail
  refine hst (λ W => Calls _ _ _ W _) ?_
  refine hc.mono ?_
  rintro e w2 ⟨rfl, hb2⟩
  go_wp2_with fail
  go_ret2
  exact ⟨ret_two HE.out.2.symm HE.out.1.symm, hbb.trans (hb2.mono hbb.size)⟩
theorem ground_any (f : Fld) (p : Cel) (A : Option Addr) (c : Nat) (w : World) (hP : repI.SHas 8 w A c f.places) (h0 : f.chk = 0) :
  Calls Try.prog 100 #[.agg #[.int .i64 f.wide, .int .i64 f.high, .slice A f.places.length c], .agg #[.int .i64 p.x, .int .i64 p.y]] w λ e w' => e = .returned (.bool (f.ground p)) ∧ Below w.heap.size w w' := by
 have hb := below_alloc0 w (.cells #[.int .i64 f.wide, .int .i64 f.high, .slice A f.places.length c] 54)
 have hb1 := below_alloc0 (w.alloc (.cells #[.int .i64 f.wide, .int .i64 f.high, .slice A f.places.length c] 54)) (.cells #[.int .i64 p.x, .int .i64 p.y] 70)
 have hbb := hb.trans (hb1.mono hb.size)
 have hc := fldAt f p A c _ (hP.keep hbb)
 unfold AtPost at hc
 clear hb hb1 hP
 cases hin : f.isIn p with
 | true =>
  obtain ⟨e1, e2⟩ := Fld.at_in h0 hin
  rw [e1, e2] at hc
  have hg : f.ground p = (f.place p != 1) := by unfold Fld.ground; rw [hin]; rfl
  rw [hg]
  clear e1 e2 hin hg h0
  generalize f.place p = v at *
  generalize f.places.length = n at *
  cases hv : v != 1 with
  | true =>
   have hv2 : (v == 1) = false := by simpa using hv
   go_enter Try.func100, Try.ntmps100
   go_wp2_with fail
   refine hc.mono ?_
   rintro e w2 ⟨rfl, hb2⟩
   go_wp2_with fail
   go_ret
   exact ⟨ret_bool (by simp), hbb.trans (hb2.mono hbb.size)⟩
  | false =>
   have hv2 : (v == 1) = true := by simpa using hv
   go_enter Try.func100, Try.ntmps100
   go_wp2_with fail
   refine hc.mono ?_
   rintro e w2 ⟨rfl, hb2⟩
   go_wp2_with fail
   go_ret
   exact ⟨ret_bool (by simp), hbb.trans (hb2.mono hbb.size)⟩
 | false =>
  obtain ⟨e1, e2⟩ := Fld.at_out h0 hin
  rw [e1, e2] at hc
  have hg : f.ground p = false := by unfold Fld.ground; rw [hin]; rfl
  rw [hg]
  clear e1 e2 hin hg h0
  generalize f.places.length = n at *
  go_enter Try.func100, Try.ntmps100
  go_wp2_with fail
  refine hc.mono ?_
  rintro e w2 ⟨rfl, hb2⟩
  go_wp2_with fail
  go_ret
  exact ⟨rfl, hbb.trans (hb2.mono hbb.size)⟩
end Go.Proofs.Ytccankldeogdlaa
set_option linter.unusedVariables false
set_option linter.unusedSimpArgs false
namespace Go.Proofs.Ytccankldeogdlaa
open Go.RowKit

def Cel.is (p x : Cel) : Bool := decide (x = p)
theorem Cel.is_true {p x : Cel} (h : Cel.is p x = true) : x = p := by simpa [Cel.is] using h
theorem Cel.is_false {p x : Cel} (h : Cel.is p x = false) : ((p.x == x.x) = false) ∨ ((p.x == x.x) = true ∧ (p.y == x.y) = false) := by
 have : ¬ x = p := by simpa [Cel.is] using h
 obtain ⟨a, b⟩ := p
 obtain ⟨c, d⟩ := x
 simp at this ⊢
 omega
theorem idx_cell (p : Cel) (A : Option Addr) (c : Nat) (l : List Cel) (w : World) (hl : Cel.rep.SHas 16 w A c l) :
  Calls Try.prog 142 #[.slice A l.length c, .agg #[.int .i64 p.x, .int .i64 p.y]] w λ e w' => e = .returned (.int .i64 (idxI (Cel.is p) l)) ∧ Below w.heap.size w w' := by
 obtain ⟨n, hn⟩ : ∃ n, l.length = n := ⟨_, rfl⟩
 have hle : n ≤ 9223372036854775807 := by have := hl.1; have := hl.2.1; omega
 rw [hn]
 have hb0 := below_alloc0 w (.cells #[.int .i64 p.x, .int .i64 p.y] 70)
 have HB := Lib.hid (Blk.new w p.cells 70 (0, 0))
 have HL := Lib.hid (hl.keep hb0)
 have HN := Lib.hid hn
 clear hl hn
 go_enter Try.func142, Try.ntmps142
 go_wp2_with fail
 obtain ⟨w0, HW0⟩ : ∃ w0, Hid (w0 = w.alloc (.cells #[.int .i64 p.x, .int .i64 p.y] 70)) := ⟨_, Lib.hid rfl⟩
 rw [← HW0.out] at hb0 ⊢
 have HB : Hid (Blk w0 w.heap.size p.cells 70 (0, 0)) := by rw [HW0.out]; exact HB
 have HL : Hid (Cel.rep.SHas 16 w0 A c l) := by rw [HW0.out]; exact HL
 go_loopw [5, 8] (λ _ iv wr => ∃ k m : Nat, k ≤ n ∧ iv = .int .i64 (k : Int) ∧ Hid (∀ j (hj : j < k) (hj2 : j < l.length), (Cel.is p) l[j] = false) ∧ Hid (wr = w0.drewN m)) (λ _ iv _ => n - (intOf iv).toNat)
 case atStart => exact ⟨0, 0, Nat.zero_le _, rfl, (λ j hj => by omega), rfl⟩
 case round =>
  obtain ⟨k, m, hk, rfl, HK, HW⟩ := hrel
  by_cases hlt : k < n
  ·have hkl : k < l.length := by rw [HN.out]; exact hlt
   have hLr : Cel.rep.SHas 16 wr A c l := by rw [HW.out]; exact HL.out.drewN m
   have hBr : Blk wr w.heap.size p.cells 70 (0, 0) := by rw [HW.out]; exact HB.out.drewN m
   have hbr : Below w.heap.size w wr := by rw [HW.out]; exact below_drewN hb0 m
   obtain ⟨b, o, rfl, hcell⟩ := Cel.at_ hLr (by omega)
   obtain ⟨x, hxe⟩ : ∃ x, l[k]'hkl = x := ⟨_, rfl⟩
   obtain ⟨q0, q1⟩ := hcell k x (by rw [List.getElem?_eq_getElem hkl, hxe])
   obtain ⟨r0, r1⟩ := Cel.blk hBr
   have HXE := Lib.hid hxe
   have hki : (k : Int) < (n : Int) := by omega
   have hk0 : (0 : Int) ≤ (k : Int) := by omega
   clear hcell hxe hLr hBr
   cases hbad : (Cel.is p) x with
   | true =>
    have hres : idxI (Cel.is p) l = (k : Int) := idxI_some hkl (by rw [HXE.out]; exact hbad) λ j hj => HK.out j hj (by omega)
    have HRES := Lib.hid hres
    have hxp := Cel.is_true hbad
    subst hxp
    clear hres hbad
    go_wp2_with fail
    go_quiet (fail)
    go_wp2_with fail
    go_ret
    exact ⟨by rw [HRES.out]; rfl, below_drewN hbr _⟩
   | false =>
    have HK2 : Hid (∀ j (hj : j < k + 1) (hj2 : j < l.length), (Cel.is p) l[j] = false) := by
     intro j hj hj2
     by_cases h : j < k
     ·exact HK.out j h hj2
     ·obtain rfl : j = k := by omega
      rw [HXE.out]; exact hbad
    have hne := Cel.is_false hbad
    clear hbad
    rcases hne with h1 | ⟨h1, h2⟩
    all_goals
     go_wp2_with fail
     go_quiet (fail)
     go_wp2_with fail
     go_roundw
     case rel => exact ⟨k + 1, _, by omega, by go_num, HK2, by show _ = _; rw [HW.out]; simp; rfl⟩
     case measure => simp [intOf]; omega
  ·have hres : idxI (Cel.is p) l = -1 := idxI_none λ j hj => HK.out j (by have := HN.out; omega) hj
   have HRES := Lib.hid hres
   have hwr := HW.out
   subst hwr
   clear hres
   go_wp2_with fail
   go_ret
   exact ⟨by rw [HRES.out]; rfl, below_drewN hb0 _⟩
theorem has_cell (p : Cel) (A : Option Addr) (c : Nat) (l : List Cel) (w : World) (hl : Cel.rep.SHas 16 w A c l) :
  Calls Try.prog 101 #[.slice A l.length c, .agg #[.int .i64 p.x, .int .i64 p.y]] w λ e w' => e = .returned (.bool (l.contains p)) ∧ Below w.heap.size w w' := by
 have hb0 := below_alloc0 w (.cells #[.int .i64 p.x, .int .i64 p.y] 70)
 have hc := idx_cell p A c l _ (hl.keep hb0)
 have hany : l.contains p = decide (0 ≤ idxI (Cel.is p) l) := by
  rw [idxI_any, List.contains_eq_any_beq]
  congr 1
  funext x
  unfold Cel.is
  by_cases h : x = p
  ·simp [h]
  ·simp [h, Ne.symm h]
 rw [hany]
 generalize idxI (Cel.is p) l = r at *
 generalize l.length = n at *
 clear hl hany
 go_enter Try.func101, Try.ntmps101
 go_wp2_with (go_at_call 142; refine hc.mono ?_; rintro e w' ⟨rfl, hb2⟩)
 go_ret
 exact ⟨rfl, hb0.trans (hb2.mono hb0.size)⟩
end Go.Proofs.Ytccankldeogdlaa
namespace Go.Proofs.Ytccankldeogdlaa
section
open Go.RowKit
theorem WOwn.disj {w : World} {Z : Nat} {a : Wd.At} {W : Wd} (h : WOwn w Z a W) :
  (∀ x ∈ Rep.blkOf a.M, x ∉ Rep.blkOf a.P ∧ x ∉ Rep.blkOf a.B ∧ x ∉ Rep.blkOf a.S ∧ x ∉ Rep.blkOf a.T) ∧
  (∀ x ∈ Rep.blkOf a.T, x ∉ Rep.blkOf a.P ∧ x ∉ Rep.blkOf a.B ∧ x ∉ Rep.blkOf a.S ∧ x ∉ Rep.blkOf a.M) ∧
  (∀ x ∈ Rep.blkOf a.S, x ∉ Rep.blkOf a.P ∧ x ∉ Rep.blkOf a.B ∧ x ∉ Rep.blkOf a.M ∧ x ∉ Rep.blkOf a.T) := by
 have hn := h.apart
 rw [List.nodup_append, List.nodup_append, List.nodup_append, List.nodup_append] at hn
 obtain ⟨⟨⟨⟨_, _, n1⟩, _, n2⟩, _, n3⟩, _, n4⟩ := hn
 refine ⟨λ x hx => ⟨λ hp => ?_, λ hp => ?_, λ hp => ?_, λ hp => ?_⟩, λ x hx => ⟨λ hp => ?_, λ hp => ?_, λ hp => ?_, λ hp => ?_⟩, λ x hx => ⟨λ hp => ?_, λ hp => ?_, λ hp => ?_, λ hp => ?_⟩⟩
 ·exact n3 x (by simp [hp]) x hx rfl
 ·exact n3 x (by simp [hp]) x hx rfl
 ·exact n3 x (by simp [hp]) x hx rfl
 ·exact n4 x (by simp [hx]) x hp rfl
 ·exact n4 x (by simp [hp]) x hx rfl
 ·exact n4 x (by simp [hp]) x hx rfl
 ·exact n4 x (by simp [hp]) x hx rfl
 ·exact n4 x (by simp [hp]) x hx rfl
 ·exact n2 x (by simp [hp]) x hx rfl
 ·exact n2 x (by simp [hp]) x hx rfl
 ·exact n3 x (by simp [hx]) x hp rfl
 ·exact n4 x (by simp [hx]) x hp rfl
theorem foot_mem {a : Wd.At} {g : Nat} : g ∈ WOwn.foot a ↔ g ∈ Rep.blkOf a.P ∨ g ∈ Rep.blkOf a.B ∨ g ∈ Rep.blkOf a.S ∨ g ∈ Rep.blkOf a.M ∨ g ∈ Rep.blkOf a.T := by
 unfold WOwn.foot
 simp only [List.mem_append]
 constructor
 ·rintro ((((h | h) | h) | h) | h) <;> simp [h]
 ·rintro (h | h | h | h | h) <;> simp [h]
namespace Wd
def priceOf (k : Int) : Int := if k = 1 then 5 else if k = 2 then 12 else 0
end Wd
theorem Below.md {Z : Nat} {w w1 w2 : World} {S : List Nat} (h : Below Z w w1) (m : Mod S w1 w2) (hS : ∀ q ∈ S, Z ≤ q) (hZ : Z ≤ w1.heap.size) : Below Z w w2 := Go.RowKit.Below.trans h (m.below hS hZ)
theorem WOwn.mod {w w1 : World} {Z : Nat} {a : Wd.At} {W : Wd} {S : List Nat} (h : WOwn w Z a W) (m : Mod S w w1) (hd : ∀ x ∈ WOwn.foot a, x ∉ S) : WOwn w1 Z a W :=
 ⟨h.P.mod m λ x hx => hd x (foot_mem.2 (.inl hx)), h.B.mod m λ x hx => hd x (foot_mem.2 (.inr (.inl hx))), h.S.mod m λ x hx => hd x (foot_mem.2 (.inr (.inr (.inl hx)))), h.M.mod m λ x hx => hd x (foot_mem.2 (.inr (.inr (.inr (.inl hx))))), h.T.mod m λ x hx => hd x (foot_mem.2 (.inr (.inr (.inr (.inr hx))))), h.apart, h.nums⟩
theorem foot_T {a : Wd.At} {q : Nat} (h : q ∈ Rep.blkOf a.T) : q ∈ WOwn.foot a := foot_mem.2 (.inr (.inr (.inr (.inr h))))
theorem foot_S {a : Wd.At} {q : Nat} (h : q ∈ Rep.blkOf a.S) : q ∈ WOwn.foot a := foot_mem.2 (.inr (.inr (.inl h)))
theorem foot_M {a : Wd.At} {q : Nat} (h : q ∈ Rep.blkOf a.M) : q ∈ WOwn.foot a := foot_mem.2 (.inr (.inr (.inr (.inl h))))
theorem foot_B {a : Wd.At} {q : Nat} (h : q ∈ Rep.blkOf a.B) : q ∈ WOwn.foot a := foot_mem.2 (.inr (.inl h))
theorem foot_P {a : Wd.At} {q : Nat} (h : q ∈ Rep.blkOf a.P) : q ∈ WOwn.foot a := foot_mem.2 (.inl h)
theorem WOwn.setS {w w1 : World} {Z : Nat} {a : Wd.At} {W : Wd} {l : List Int} (h : WOwn w Z a W) (m : Mod (Rep.blkOf a.S) w w1) (hS : repI.SOwn 3 8 w1 Z (Rep.blkOf a.S) a.S a.s l) : WOwn w1 Z a { W with stocks := l } := by
 obtain ⟨d1, d2, d3⟩ := h.disj
 exact ⟨h.P.mod m λ x hx hs => (d3 x hs).1 hx, h.B.mod m λ x hx hs => (d3 x hs).2.1 hx, hS, h.M.mod m λ x hx hs => (d3 x hs).2.2.1 hx, h.T.mod m λ x hx hs => (d3 x hs).2.2.2 hx, h.apart, h.nums⟩
theorem WOwn.swapT {w w1 : World} {Z : Nat} {a : Wd.At} {W : Wd} {l : List Trp} {A : Option Addr} {c : Nat} (h : WOwn w Z a W) (m : Mod (Rep.blkOf a.T) w w1) (hT : Trp.rep.SOwn 80 56 w1 Z (Rep.blkOf A) A c l) (hq : ∀ q ∈ Rep.blkOf A, q ∈ Rep.blkOf a.T ∨ w.heap.size ≤ q) :
  WOwn w1 Z { a with T := A, t := c } { W with troops := l } := by
 obtain ⟨d1, d2, d3⟩ := h.disj
 refine ⟨h.P.mod m λ x hx hs => (d2 x hs).1 hx, h.B.mod m λ x hx hs => (d2 x hs).2.1 hx, h.S.mod m λ x hx hs => (d2 x hs).2.2.1 hx, h.M.mod m λ x hx hs => (d2 x hs).2.2.2 hx, hT, ?_, h.nums⟩
 have hn := h.apart
 rw [List.nodup_append] at hn ⊢
 refine ⟨hn.1, blk_nodup A, λ x hx y hy e => ?_⟩
 subst e
 rcases hq x hy with hy | hy
 ·exact hn.2.2 x hx x hy rfl
 ·have hf : x ∈ WOwn.foot a := by unfold WOwn.foot; rw [List.mem_append]; exact .inl hx
  have := (h.lt x hf).2
  omega
theorem WOwn.setN {w : World} {Z : Nat} {a : Wd.At} {W V : Wd} (h : WOwn w Z a W) (h1 : V.field.places = W.field.places) (h2 : V.bases = W.bases) (h3 : V.stocks = W.stocks) (h4 : V.mines = W.mines) (h5 : V.troops = W.troops) (hn : okI V.field.wide ∧ okI V.field.high ∧ okI V.next ∧ okI V.now) : WOwn w Z a V :=
 ⟨by rw [h1]; exact h.P, by rw [h2]; exact h.B, by rw [h3]; exact h.S, by rw [h4]; exact h.M, by rw [h5]; exact h.T, h.apart, hn⟩
theorem foot_swapT {w : World} {Z : Nat} {a : Wd.At} {W : Wd} {A : Option Addr} {c q : Nat} (h : q ∈ WOwn.foot { a with T := A, t := c }) : q ∈ WOwn.foot a ∨ q ∈ Rep.blkOf A := by
 rcases foot_mem.1 h with h | h | h | h | h
 ·exact .inl (foot_P h)
 ·exact .inl (foot_B h)
 ·exact .inl (foot_S h)
 ·exact .inl (foot_M h)
 ·exact .inr h
def reachOf (k : Int) : Int := if k = 1 then 1 else if k = 2 then 2 else 0
def harmOf (k : Int) : Int := if k = 1 then 1 else if k = 2 then 4 else 0
def kindE (k : Int) : Int := if k = 1 then 0 else if k = 2 then 0 else 1
theorem kind_any (k : Int) (w : World) : Calls Try.prog 39 #[.int .i64 k] w λ e w' => e = .returned (.tuple #[.agg #[.int .i64 (Wd.lifeOf k), .int .i64 (reachOf k), .int .i64 (harmOf k), .int .i64 (Wd.priceOf k)], .int .i64 (kindE k)]) ∧ Ext w w' := by
 by_cases h1 : k = 1
 ·subst h1; exact kind_1 w
 ·by_cases h2 : k = 2
  ·subst h2; exact kind_2 w
  ·have := kind_no k w (inB_not (by omega))
   simpa [Wd.lifeOf, reachOf, harmOf, Wd.priceOf, kindE, h1, h2] using this
theorem WOwn.down {w : World} {Z Z' : Nat} {a : Wd.At} {W : Wd} (h : WOwn w Z a W) (hz : Z' ≤ Z) : WOwn w Z' a W := ⟨h.P.down hz, h.B.down hz, h.S.down hz, h.M.down hz, h.T.down hz, h.apart, h.nums⟩
def Wd.zero : Wd := ⟨⟨0, 0, []⟩, [], [], [], [], 0, 0⟩
theorem WOwn.zero (w : World) (Z : Nat) : WOwn w Z ⟨none, none, none, none, none, 0, 0, 0, 0, 0⟩ Wd.zero := ⟨Rep.SOwn.nil w, Rep.SOwn.nil w, Rep.SOwn.nil w, Rep.SOwn.nil w, Rep.SOwn.nil w, by simp [Rep.blkOf], okI_iff.2 (by decide), okI_iff.2 (by decide), okI_iff.2 (by decide), okI_iff.2 (by decide)⟩
theorem atE_zero {f : Fld} {c : Cel} (h : f.chk = 0) (he : f.atE c = 0) : f.isIn c = true := by
 cases hi : f.isIn c with
 | true => rfl
 | false => rw [(Fld.at_out h hi).1] at he; omega
theorem fldAt2 (f : Fld) (p : Cel) (A : Option Addr) (c : Nat) (w : World) (hP : repI.SHas 8 w A c f.places) :
  Calls Try.prog 141 #[.agg #[.int .i64 f.wide, .int .i64 f.high, .slice A f.places.length c], .agg #[.int .i64 p.x, .int .i64 p.y]] w λ e w' => e = .returned (.tuple #[.int .i64 (f.atV p), .int .i64 (f.atE p)]) ∧ Below w.heap.size w w' := fldAt f p A c w hP
theorem WOwn.of5 {w : World} {Z : Nat} {P B S M T : Option Addr} {p b s m t : Nat} {W : Wd} (hP : repI.SOwn 3 8 w Z (Rep.blkOf P) P p W.field.places) (hB : Cel.rep.SOwn 70 16 w Z (Rep.blkOf B) B b W.bases) (hS : repI.SOwn 3 8 w Z (Rep.blkOf S) S s W.stocks) (hM : repI.SOwn 3 8 w Z (Rep.blkOf M) M m W.mines) (hT : Trp.rep.SOwn 80 56 w Z (Rep.blkOf T) T t W.troops)
  (h1 : ∀ q ∈ Rep.blkOf B, q ∈ Rep.blkOf P → False) (h2 : ∀ q ∈ Rep.blkOf S, q ∈ Rep.blkOf P → False) (h3 : ∀ q ∈ Rep.blkOf S, q ∈ Rep.blkOf B → False) (h4 : ∀ q ∈ Rep.blkOf M, q ∈ Rep.blkOf P → False) (h5 : ∀ q ∈ Rep.blkOf M, q ∈ Rep.blkOf B → False) (h6 : ∀ q ∈ Rep.blkOf M, q ∈ Rep.blkOf S → False)
  (h7 : ∀ q ∈ Rep.blkOf T, q ∈ Rep.blkOf P → False) (h8 : ∀ q ∈ Rep.blkOf T, q ∈ Rep.blkOf B → False) (h9 : ∀ q ∈ Rep.blkOf T, q ∈ Rep.blkOf S → False) (h10 : ∀ q ∈ Rep.blkOf T, q ∈ Rep.blkOf M → False) (hn : okI W.field.wide ∧ okI W.field.high ∧ okI W.next ∧ okI W.now) :
  WOwn w Z ⟨P, B, S, M, T, p, b, s, m, t⟩ W := by
 refine ⟨hP, hB, hS, hM, hT, ?_, hn⟩
 have e1 := blk_nodup P
 have e2 := blk_nodup B
 have e3 := blk_nodup S
 have e4 := blk_nodup M
 have e5 := blk_nodup T
 simp only [List.nodup_append, List.mem_append]
 grind
theorem WOwn.newT {w : World} {Z : Nat} {a : Wd.At} {W : Wd} {A : Option Addr} {c : Nat} {p : List Trp} (h : WOwn w Z a W) (hT : Trp.rep.SOwn 80 56 w Z (Rep.blkOf A) A c p) (h1 : ∀ q ∈ Rep.blkOf A, q ∈ WOwn.foot a → False) : WOwn w Z { a with T := A, t := c } { W with troops := p } := by
 refine ⟨h.P, h.B, h.S, h.M, hT, ?_, h.nums⟩
 have hn := h.apart
 have e1 := blk_nodup A
 have f1 : ∀ q ∈ Rep.blkOf A, (q ∈ Rep.blkOf a.P → False) ∧ (q ∈ Rep.blkOf a.B → False) ∧ (q ∈ Rep.blkOf a.S → False) ∧ (q ∈ Rep.blkOf a.M → False) := λ q hq => ⟨λ h => h1 q hq (foot_P h), λ h => h1 q hq (foot_B h), λ h => h1 q hq (foot_S h), λ h => h1 q hq (foot_M h)⟩
 simp only [List.nodup_append, List.mem_append] at hn ⊢
 grind
theorem foot_newT {a : Wd.At} {A : Option Addr} {c q : Nat} (h : q ∈ WOwn.foot { a with T := A, t := c }) : q ∈ WOwn.foot a ∨ q ∈ Rep.blkOf A := by
 rcases foot_mem.1 h with h | h | h | h | h
 ·exact .inl (foot_P h)
 ·exact .inl (foot_B h)
 ·exact .inl (foot_S h)
 ·exact .inl (foot_M h)
 ·exact .inr h
structure Pairs (a : Wd.At) : Prop where
 PS : ∀ q ∈ Rep.blkOf a.P, q ∈ Rep.blkOf a.S → False
 PM : ∀ q ∈ Rep.blkOf a.P, q ∈ Rep.blkOf a.M → False
 PB : ∀ q ∈ Rep.blkOf a.P, q ∈ Rep.blkOf a.B → False
 PT : ∀ q ∈ Rep.blkOf a.P, q ∈ Rep.blkOf a.T → False
 SM : ∀ q ∈ Rep.blkOf a.S, q ∈ Rep.blkOf a.M → False
 SB : ∀ q ∈ Rep.blkOf a.S, q ∈ Rep.blkOf a.B → False
 ST : ∀ q ∈ Rep.blkOf a.S, q ∈ Rep.blkOf a.T → False
 MB : ∀ q ∈ Rep.blkOf a.M, q ∈ Rep.blkOf a.B → False
 MT : ∀ q ∈ Rep.blkOf a.M, q ∈ Rep.blkOf a.T → False
 BT : ∀ q ∈ Rep.blkOf a.B, q ∈ Rep.blkOf a.T → False
end
section
open Go.RowKit
theorem lineC_bd {a b : Cel} (h : -1000 ≤ a.x ∧ a.x ≤ 1000 ∧ -1000 ≤ a.y ∧ a.y ≤ 1000) (h2 : -1000 ≤ b.x ∧ b.x ≤ 1000 ∧ -1000 ≤ b.y ∧ b.y ≤ 1000) : 1 ≤ (lineC a b).length ∧ (lineC a b).length ≤ 2001 ∧ (lineC a b).length = (far a b).toNat + 1 := by
 have h3 := sz_bd (b.x - a.x); have h4 := sz_bd (b.y - a.y)
 unfold lineC; rw [pts_len]; unfold far; omega
def Fld.clear (f : Fld) (c : Cel) : Bool := !(f.atV c == 1 || f.atV c == 2)
def bareC (f : Fld) (a b : Cel) : Bool := decide ((lineC a b).length < 3) || (((lineC a b).drop 1).take ((lineC a b).length - 1 - 1)).all f.clear
theorem bareC_few {f : Fld} {a b : Cel} (h : (lineC a b).length < 3) : bareC f a b = true := by unfold bareC; rw [decide_eq_true h]; rfl
theorem bareC_yes {f : Fld} {a b : Cel} (h : ∀ i, i < (((lineC a b).drop 1).take ((lineC a b).length - 1 - 1)).length → f.clear ((((lineC a b).drop 1).take ((lineC a b).length - 1 - 1)).getD i default) = true) : bareC f a b = true := by
 unfold bareC
 rw [Bool.or_eq_true]
 refine .inr (List.all_eq_true.2 λ x hx => ?_)
 obtain ⟨i, hi, rfl⟩ := List.getElem_of_mem hx
 have := h i hi
 rwa [List.getD_eq_getElem?_getD, List.getElem?_eq_getElem hi] at this
theorem bareC_no {f : Fld} {a b : Cel} {k : Nat} (hk : k < (((lineC a b).drop 1).take ((lineC a b).length - 1 - 1)).length) (h : f.clear ((((lineC a b).drop 1).take ((lineC a b).length - 1 - 1)).getD k default) = false) : bareC f a b = false := by
 unfold bareC
 have h3 : ¬ (lineC a b).length < 3 := by rw [List.length_take, List.length_drop] at hk; omega
 rw [decide_eq_false h3, Bool.false_or]
 rw [List.all_eq_false]
 refine ⟨_, List.getElem_mem hk, ?_⟩
 rw [List.getD_eq_getElem?_getD, List.getElem?_eq_getElem hk] at h
 simpa using h
theorem atE_near {f : Fld} {c : Cel} (h : f.atE c = 0) : 0 ≤ c.x ∧ c.x < 40 ∧ 0 ≤ c.y ∧ c.y < 40 := by
 have hc : f.chk = 0 := by
  cases hd : decide (f.chk = 0) with
  | true => simpa using hd
  | false => rw [(Fld.at_bad (by simpa using hd)).1] at h; exact h
 have hi := atE_zero hc h
 unfold Fld.isIn at hi
 rw [Bool.and_eq_true] at hi
 have h1 := inB_true hi.1
 have h2 := inB_true hi.2
 unfold Fld.chk at hc
 split at hc
 ·rename_i hw
  rw [Bool.and_eq_true] at hw
  have h3 := inB_true hw.1
  have h4 := inB_true hw.2
  omega
 ·omega
def seesE (f : Fld) (a b : Cel) : Int := if f.atE a ≠ 0 then f.atE a else f.atE b
def seesV (f : Fld) (a b : Cel) : Bool := if seesE f a b ≠ 0 then false else bareC f a b || bareC f b a
def seesR (f : Fld) (a b : Cel) : Value := .tuple #[.bool (seesV f a b), .int .i64 (seesE f a b)]
theorem sees_no1 {f : Fld} {a b : Cel} (h : ¬ f.atE a = 0) : seesR f a b = .tuple #[.bool false, .int .i64 (f.atE a)] := by
 have e : seesE f a b = f.atE a := by unfold seesE; rw [if_pos h]
 unfold seesR seesV; rw [e, if_pos h]
theorem sees_no2 {f : Fld} {a b : Cel} (h0 : f.atE a = 0) (h : ¬ f.atE b = 0) : seesR f a b = .tuple #[.bool false, .int .i64 (f.atE b)] := by
 have e : seesE f a b = f.atE b := by unfold seesE; rw [if_neg (by simpa using h0)]
 unfold seesR seesV; rw [e, if_pos h]
theorem sees_ok {f : Fld} {a b : Cel} (h0 : f.atE a = 0) (h : f.atE b = 0) : seesR f a b = .tuple #[.bool (bareC f a b || bareC f b a), .int .i64 0] := by
 have e : seesE f a b = 0 := by unfold seesE; rw [if_neg (by simpa using h0)]; exact h
 unfold seesR seesV; rw [e, if_neg (by simp)]
theorem bare_in (f : Fld) (a b : Cel) (A : Option Addr) (c : Nat) (w : World) (hP : repI.SHas 8 w A c f.places) (h : -1000 ≤ a.x ∧ a.x ≤ 1000 ∧ -1000 ≤ a.y ∧ a.y ≤ 1000) (h2 : -1000 ≤ b.x ∧ b.x ≤ 1000 ∧ -1000 ≤ b.y ∧ b.y ≤ 1000) :
  Calls Try.prog 164 #[.agg #[.int .i64 f.wide, .int .i64 f.high, .slice A f.places.length c], .agg #[.int .i64 a.x, .int .i64 a.y], .agg #[.int .i64 b.x, .int .i64 b.y]] w (λ e w' => e = .returned (.bool (bareC f a b)) ∧ Ext w w') := by
 refine calls_W (n := 45) Try.func164 rfl rfl rfl ?_
 refine sg <| bx rfl rfl rfl rfl λ w_1 b_2 x_3 l_4 B_5 => ?_
 have := x_3.size
 have z_1 := eT (Ext.rf w) x_3
 have q_7 := B_5.lt
 refine bx rfl rfl rfl rfl λ w_8 b_9 x_10 l_11 B_12 => ?_
 have := x_10.size
 have z_8 := eT z_1 x_10
 have q_14 := B_12.lt
 refine bx rfl rfl rfl rfl λ w_15 b_16 x_17 l_18 B_19 => ?_
 have := x_17.size
 have z_15 := eT z_8 x_17
 have q_21 := B_19.lt
 refine va rfl <| nK <| sg <| ?_
 have B_12 := B_12.later x_17
 refine vL (ld rfl (B_12.all eF7 eF8)) <| vL (ld rfl (B_19.all eF7 eF8)) <| ca eF12 rfl rfl ((cells_in a b _ (by omega) (by omega)).mono ?_)
 rintro e w_25 ⟨A_22, c_22, rfl, OL_22, x_26⟩
 refine ⟨_, rfl, ?_⟩
 have := x_26.size
 have z_25 := eT z_15 x_26
 have u_23 := λ q hq => (OL_22.lt q hq).2
 have lo_24 := λ q hq => (OL_22.lt q hq).1
 have hl_22 := lineC_bd (a := a) (b := b) (by omega) (by omega)
 refine vm rfl <| vL (ex rfl rfl) <| vL (ex rfl rfl) <| va rfl <| va rfl <| nK <| sq <| sg <| vm rfl <| vL (ln Try.underlying55 rfl) <| vL (blt rfl rfl) <| nK <| ?_
 refine clt rfl (λ h_28 => ?_) (λ h_28 => ?_)
 ·refine sg <| va rfl <| nK <| rt <| tT <| tR (.tmp rfl .nil) <| ?_
  exact ⟨by rw [bareC_few (by omega)]; rfl, z_25⟩
 ·refine sK <| sq <| sg <| vm rfl <| vm rfl <| vL (ln Try.underlying55 rfl) <| vL (bsu rfl rfl (inI (by omega))) <| vL (sI 1 ((lineC a b).length - 1) Try.underlying55 eF8 rfl rfl rfl rfl (by omega) (by omega) (by have := OL_22.has.1; omega)) <| vL (ln Try.underlying55 rfl) <| vm rfl <| nK <| bk <| ?_
  have B_5 := B_5.later (eT x_10 (eT x_17 x_26))
  refine lp (λ mI EI wI => ∃ k : Nat, EI = [(3, .pointer (some ⟨b_2, 0, none⟩)), (26, .slice (sA A_22 c_22 1 2) ((lineC a b).length - 1 - 1) (c_22 - 1)), (27, .int .i64 ((((lineC a b).length - 1 - 1 : Nat) : Int))), (28, .int .i64 (k : Int))] ∧ mI = (lineC a b).length - 1 - 1 - k ∧ Ext w wI ∧ Blk wI b_2 [.int .i64 f.wide, .int .i64 f.high, .slice A f.places.length c] 54 (0, 0) ∧ Cel.rep.SOwn 70 16 wI w_15.heap.size (Rep.blkOf A_22) A_22 c_22 (lineC a b) ∧ (k ≤ (lineC a b).length - 1 - 1) ∧ (∀ i, i < k → f.clear ((((lineC a b).drop 1).take ((lineC a b).length - 1 - 1)).getD i default) = true)) _ _ ⟨0, rfl, rfl, z_25, B_5, OL_22, by omega, λ i hi => by omega⟩ (.cons rfl (.cons rfl (.cons rfl (.cons (loI rfl (by first | omega | rfl | (simp <;> omega))) .nil)))) ?_
  rintro m_30 E_31 w_29 ⟨k, rfl, rfl, z_29, B_5, OL_22, hk, hg⟩
  have := z_29.size
  have q_33 := B_5.lt
  have u_34 := λ q hq => (OL_22.lt q hq).2
  refine sg <| vL (blt rfl rfl) <| nK <| sq <| ?_
  refine clt rfl (λ h_35 => ?_) (λ h_35 => ?_)
  ·refine sK <| sq <| bk <| sg <| vL (iA k Try.underlying55 eF8 rfl rfl ((OL_22.has.sub 1 ((lineC a b).length - 1) (by omega) (by omega)).adr (zl k (by rw [List.length_take, List.length_drop]; omega))) rfl (by omega)) <| vL (ld rfl (Rep.SHas.elt hcC ((OL_22.has.sub 1 ((lineC a b).length - 1) (by omega) (by omega)).adh (zl k (by rw [List.length_take, List.length_drop]; omega))) (get_d (l := ((lineC a b).drop 1).take ((lineC a b).length - 1 - 1)) (u := default) (by rw [List.length_take, List.length_drop]; omega)) eF7 eF8)) <| al rfl eF13 rfl rfl λ w_36 b_37 x_38 l_39 B_40 => ?_
   have := x_38.size
   have z_36 := eT z_29 x_38
   have q_42 := B_40.lt
   refine st (new := [.int .i64 (((((lineC a b).drop 1).take ((lineC a b).length - 1 - 1)).getD k default).x), .int .i64 (((((lineC a b).drop 1).take ((lineC a b).length - 1 - 1)).getD k default).y)]) rfl rfl B_40 rfl eF8 rfl rfl rfl λ w_43 m_44 B_40 => ?_
   have := m_44.size
   have z_43 := Ext.mod z_36 m_44 (ge1 (by omega))
   have := m_44.size
   refine nK <| sg <| ?_
   have B_5 := B_5.later x_38
   have B_5 := B_5.mod m_44 (nm1 (by omega))
   refine vL (ld rfl (B_5.all eF14 eF15)) <| vL (ld rfl (B_40.all eF7 eF8)) <| ca eF16 rfl rfl ((fldAt2 f (((((lineC a b).drop 1).take ((lineC a b).length - 1 - 1)).getD k default)) _ _ _ (hP.keep z_43)).mono ?_)
   rintro e w_47 ⟨rfl, x_48⟩
   refine ⟨_, rfl, ?_⟩
   have := x_48.size
   have z_47 := eT z_43 x_48
   refine vm rfl <| vL (ex rfl rfl) <| vL (ex rfl rfl) <| va rfl <| va rfl <| nK <| sg <| vm rfl <| vL (beq rfl rfl) <| vm rfl <| vQ rfl rfl rfl rfl (λ hc => mv rfl) rfl <| vQ rfl rfl rfl rfl (λ hc => beq (gt hc rfl) rfl) rfl <| vL (pO rfl rfl rfl rfl) <| nK <| ?_
   refine cb rfl (λ h_50 => ?_) (λ h_50 => ?_)
   ·refine sg <| va rfl <| nK <| rt <| tB <| tT <| tK <| tB <| tT <| tR (.tmp rfl .nil) <| ?_
    exact ⟨by rw [bareC_no (k := k) (by rw [List.length_take, List.length_drop]; omega) (by unfold Fld.clear; rw [h_50]; rfl)]; rfl, z_47⟩
   ·refine sk <| nB <| nT <| rg <| vL (bad rfl rfl (inI (by omega))) <| vm rfl <| nl <| ?_
    have B_5 := B_5.later x_48
    have OL_22 := OL_22.later x_38
    have OL_22 := OL_22.mod m_44 (fk1 u_34 (by omega))
    have OL_22 := OL_22.later x_48
    exact nI _ _ ⟨k + 1, rfl, rfl, z_47, B_5, OL_22, by omega, lt_succ_all hg (by unfold Fld.clear; rw [h_50]; rfl)⟩ (by omega) (.cons rfl (.cons rfl (.cons rfl (.cons (loI rfl (by first | omega | rfl | (simp <;> omega))) .nil))))
  ·refine xt <| xT <| xK <| xB <| nT <| sg <| va rfl <| nK <| rt <| tR (.tmp rfl .nil) <| ?_
   exact ⟨by rw [bareC_yes λ i hi => hg i (by rw [List.length_take, List.length_drop] at hi; omega)]; rfl, z_29⟩
theorem sees_any (f : Fld) (a b : Cel) (A : Option Addr) (c : Nat) (w : World) (hP : repI.SHas 8 w A c f.places) :
  Calls Try.prog 155 #[.agg #[.int .i64 f.wide, .int .i64 f.high, .slice A f.places.length c], .agg #[.int .i64 a.x, .int .i64 a.y], .agg #[.int .i64 b.x, .int .i64 b.y]] w (λ e w' => e = .returned (seesR f a b) ∧ Ext w w') := by
 refine calls_W (n := 38) Try.func155 rfl rfl rfl ?_
 refine sg <| bx rfl rfl rfl rfl λ w_1 b_2 x_3 l_4 B_5 => ?_
 have := x_3.size
 have z_1 := eT (Ext.rf w) x_3
 have q_7 := B_5.lt
 refine bx rfl rfl rfl rfl λ w_8 b_9 x_10 l_11 B_12 => ?_
 have := x_10.size
 have z_8 := eT z_1 x_10
 have q_14 := B_12.lt
 refine bx rfl rfl rfl rfl λ w_15 b_16 x_17 l_18 B_19 => ?_
 have := x_17.size
 have z_15 := eT z_8 x_17
 have q_21 := B_19.lt
 refine va rfl <| va rfl <| nK <| sq <| sg <| ?_
 have B_12 := B_12.later x_17
 refine vL (ld rfl (B_12.all eF7 eF8)) <| vL (ld rfl (B_19.all eF7 eF8)) <| vL (v := .agg #[.int .i64 a.x, .int .i64 a.y, .int .i64 b.x, .int .i64 b.y]) (bd rfl (by kernel_rfl)) <| vm rfl <| nK <| bk <| lu 3 <| lr <| sg <| vL (blt rfl rfl) <| nK <| sq <| cT rfl <| sK <| sq <| bk <| sg <| vL (v := .agg #[.int .i64 a.x, .int .i64 a.y]) (ixk rfl rfl (by kernel_rfl)) <| al rfl eF13 rfl rfl λ w_22 b_23 x_24 l_25 B_26 => ?_
 have := x_24.size
 have z_22 := eT z_15 x_24
 have q_28 := B_26.lt
 refine st (new := [.int .i64 a.x, .int .i64 a.y]) rfl rfl B_26 rfl eF8 rfl rfl rfl λ w_29 m_30 B_26 => ?_
 have := m_30.size
 have z_29 := Ext.mod z_22 m_30 (ge1 (by omega))
 have := m_30.size
 refine nK <| sg <| ?_
 have B_5 := B_5.later (eT x_10 (eT x_17 x_24))
 have B_5 := B_5.mod m_30 (nm1 (by omega))
 refine vL (ld rfl (B_5.all eF14 eF15)) <| vL (ld rfl (B_26.all eF7 eF8)) <| ca eF16 rfl rfl ((fldAt2 f a _ _ _ (hP.keep z_29)).mono ?_)
 rintro e w_33 ⟨rfl, x_34⟩
 refine ⟨_, rfl, ?_⟩
 have := x_34.size
 have z_33 := eT z_29 x_34
 refine vm rfl <| vL (ex rfl rfl) <| vL (ex rfl rfl) <| va rfl <| va rfl <| nK <| sg <| vm rfl <| vL (bne rfl rfl) <| nK <| ?_
 refine cne rfl (λ h_36 => ?_) (λ h_36 => ?_)
 ·refine sg <| vm rfl <| va rfl <| va rfl <| nK <| rt <| tB <| tT <| tK <| tB <| tT <| tR (.tmp rfl (.tmp rfl .nil)) <| ?_
  exact ⟨by rw [sees_no1 h_36]; rfl, z_33⟩
 ·have hn36 := atE_near h_36
  refine sk <| nB <| nT <| rg <| vL (badL (r := 1) rfl rfl (by decide) (by decide)) <| vm rfl <| nl <| nR <| lr <| sg <| vL (blt rfl rfl) <| nK <| sq <| cT rfl <| sK <| sq <| bk <| sg <| vL (v := .agg #[.int .i64 b.x, .int .i64 b.y]) (ixk rfl rfl (by kernel_rfl)) <| al rfl eF13 rfl rfl λ w_37 b_38 x_39 l_40 B_41 => ?_
  have := x_39.size
  have z_37 := eT z_33 x_39
  have q_43 := B_41.lt
  refine st (new := [.int .i64 b.x, .int .i64 b.y]) rfl rfl B_41 rfl eF8 rfl rfl rfl λ w_44 m_45 B_41 => ?_
  have := m_45.size
  have z_44 := Ext.mod z_37 m_45 (ge1 (by omega))
  have := m_45.size
  refine nK <| sg <| ?_
  have B_5 := B_5.later (eT x_34 x_39)
  have B_5 := B_5.mod m_45 (nm1 (by omega))
  refine vL (ld rfl (B_5.all eF14 eF15)) <| vL (ld rfl (B_41.all eF7 eF8)) <| ca eF16 rfl rfl ((fldAt2 f b _ _ _ (hP.keep z_44)).mono ?_)
  rintro e w_48 ⟨rfl, x_49⟩
  refine ⟨_, rfl, ?_⟩
  have := x_49.size
  have z_48 := eT z_44 x_49
  refine vm rfl <| vL (ex rfl rfl) <| vL (ex rfl rfl) <| va rfl <| va rfl <| nK <| sg <| vm rfl <| vL (bne rfl rfl) <| nK <| ?_
  refine cne rfl (λ h_51 => ?_) (λ h_51 => ?_)
  ·refine sg <| vm rfl <| va rfl <| va rfl <| nK <| rt <| tB <| tT <| tK <| tB <| tT <| tR (.tmp rfl (.tmp rfl .nil)) <| ?_
   exact ⟨by rw [sees_no2 ‹_› h_51]; rfl, z_48⟩
  ·have hn51 := atE_near h_51
   refine sk <| nB <| nT <| rg <| vL (badL (r := 2) rfl rfl (by decide) (by decide)) <| vm rfl <| nl <| nR <| lr <| sg <| vL (blt rfl rfl) <| nK <| sq <| cF rfl <| xt <| xT <| xK <| xB <| nT <| sg <| ?_
   have B_5 := B_5.later x_49
   refine vL (ld rfl (B_5.all eF14 eF15)) <| ?_
   have B_12 := B_12.later x_24
   have B_12 := B_12.mod m_30 (nm1 (by omega))
   have B_12 := B_12.later (eT x_34 x_39)
   have B_12 := B_12.mod m_45 (nm1 (by omega))
   have B_12 := B_12.later x_49
   refine vL (ld rfl (B_12.all eF7 eF8)) <| ?_
   have B_19 := B_19.later x_24
   have B_19 := B_19.mod m_30 (nm1 (by omega))
   have B_19 := B_19.later (eT x_34 x_39)
   have B_19 := B_19.mod m_45 (nm1 (by omega))
   have B_19 := B_19.later x_49
   refine vL (ld rfl (B_19.all eF7 eF8)) <| ca eF17 rfl rfl ((bare_in f a b _ _ _ (hP.keep z_48) (by omega) (by omega)).mono ?_)
   rintro e w_52 ⟨rfl, x_53⟩
   refine ⟨_, rfl, ?_⟩
   have := x_53.size
   have z_52 := eT z_48 x_53
   refine vm rfl <| ?_
   have B_5 := B_5.later x_53
   refine vQ rfl rfl rfl rfl (λ hc => ld rfl (B_5.all eF14 eF15)) rfl <| ?_
   have B_19 := B_19.later x_53
   refine vQ rfl rfl rfl rfl (λ hc => ld rfl (B_19.all eF7 eF8)) rfl <| ?_
   have B_12 := B_12.later x_53
   refine vQ rfl rfl rfl rfl (λ hc => ld rfl (B_12.all eF7 eF8)) rfl <| vC rfl rfl rfl rfl eF17 (λ hc => ec (gt hc rfl) (ec (gt hc rfl) (ec (gt hc rfl) rfl))) (λ hc => bare_in f b a _ _ _ (hP.keep z_52) (by omega) (by omega)) rfl λ w_55 x_56 => ?_
   have := x_56.size
   have z_55 := eT z_52 x_56
   refine vL (pO rfl rfl rfl rfl) <| va rfl <| va rfl <| nK <| rt <| tR (.tmp rfl (.tmp rfl .nil)) <| ?_
   exact ⟨by rw [sees_ok ‹_› ‹_›]; rfl, z_55⟩
end
section
open Go.RowKit
theorem SigS_el_S_api_Cell : ElT Try.prog Cel.rep 55 70 16 := ElT.mk_ (z := Cel.zero) (k := 2) Try.underlying55 Cel.info rfl rfl (by decide) Cel.zero_raw
theorem atE_chk {f : Fld} {c : Cel} (h : f.atE c = 0) : f.chk = 0 ∧ 0 ≤ c.x ∧ c.x < f.wide ∧ 0 ≤ c.y ∧ c.y < f.high := by
 have hc : f.chk = 0 := by
  cases hd : decide (f.chk = 0) with
  | true => simpa using hd
  | false => rw [(Fld.at_bad (by simpa using hd)).1] at h; exact h
 have hi := Fld.idx hc (atE_zero hc h)
 exact ⟨hc, hi.2.2⟩
def seenH (f : Fld) (c : Cel) (r : Int) : Nat := (min (f.high - 1) (c.y + r) - max 0 (c.y - r) + 1).toNat
def seenW (f : Fld) (c : Cel) (r : Int) : Nat := (min (f.wide - 1) (c.x + r) - max 0 (c.x - r) + 1).toNat
def seenAt (c : Cel) (r : Int) (k j : Nat) : Cel := ⟨max 0 (c.x - r) + (j : Int), max 0 (c.y - r) + (k : Int)⟩
def seenB (f : Fld) (c n : Cel) : Bool := bareC f c n || bareC f n c
def seenRow (f : Fld) (c : Cel) (r : Int) (k j : Nat) : List Cel := ((List.range j).map (seenAt c r k)).filter (seenB f c)
def seenTo (f : Fld) (c : Cel) (r : Int) (k : Nat) : List Cel := (List.range k).flatMap λ i => seenRow f c r i (seenW f c r)
theorem seenTo_succ (f : Fld) (c : Cel) (r : Int) (k : Nat) : seenTo f c r (k + 1) = seenTo f c r k ++ seenRow f c r k (seenW f c r) := by unfold seenTo; rw [List.range_succ, List.flatMap_append]; simp
theorem seenRow_0 (f : Fld) (c : Cel) (r : Int) (k : Nat) : seenRow f c r k 0 = [] := rfl
theorem seenRow_yes {f : Fld} {c : Cel} {r : Int} {k j : Nat} (h : seenB f c (seenAt c r k j) = true) : seenRow f c r k (j + 1) = seenRow f c r k j ++ [seenAt c r k j] := by
 unfold seenRow; rw [List.range_succ, List.map_append, List.filter_append, List.map_cons, List.map_nil, List.filter_cons, if_pos h]; rfl
theorem seenRow_no {f : Fld} {c : Cel} {r : Int} {k j : Nat} (h : seenB f c (seenAt c r k j) = false) : seenRow f c r k (j + 1) = seenRow f c r k j := by
 unfold seenRow; rw [List.range_succ, List.map_append, List.filter_append, List.map_cons, List.map_nil, List.filter_cons, if_neg (by rw [h]; decide)]; simp
theorem seenRow_len (f : Fld) (c : Cel) (r : Int) (k j : Nat) : (seenRow f c r k j).length ≤ j := by unfold seenRow; exact Nat.le_trans (List.length_filter_le _ _) (by simp)
theorem seenTo_len (f : Fld) (c : Cel) (r : Int) : ∀ k, (seenTo f c r k).length ≤ k * seenW f c r
 | 0 => Nat.zero_le _
 | k + 1 => by
  have h1 := seenTo_len f c r k
  have h2 := seenRow_len f c r k (seenW f c r)
  rw [seenTo_succ, List.length_append, Nat.succ_mul]; omega
def seenE (f : Fld) (c : Cel) (r : Int) : Int := if f.atE c ≠ 0 then f.atE c else if r < 0 ∨ 12 < r then 1 else 0
def seenL (f : Fld) (c : Cel) (r : Int) : List Cel := if seenE f c r ≠ 0 then [] else seenTo f c r (seenH f c r)
theorem seen_ok {f : Fld} {c : Cel} {r : Int} (h : f.atE c = 0) (hr : 0 ≤ r ∧ r ≤ 12) : seenE f c r = 0 ∧ seenL f c r = seenTo f c r (seenH f c r) := by
 have e : seenE f c r = 0 := by unfold seenE; rw [if_neg (by simpa using h), if_neg (by omega)]
 exact ⟨e, by unfold seenL; rw [if_neg (by simpa using e)]⟩
theorem seen_no1 {f : Fld} {c : Cel} {r : Int} (h : ¬ f.atE c = 0) : seenE f c r = f.atE c ∧ seenL f c r = [] := by
 have e : seenE f c r = f.atE c := by unfold seenE; rw [if_pos h]
 exact ⟨e, by unfold seenL; rw [e, if_pos h]⟩
theorem seen_no2 {f : Fld} {c : Cel} {r : Int} (h : f.atE c = 0) (hr : r < 0 ∨ 12 < r) : seenE f c r = 1 ∧ seenL f c r = [] := by
 have e : seenE f c r = 1 := by unfold seenE; rw [if_neg (by simpa using h), if_pos hr]
 exact ⟨e, by unfold seenL; rw [e]; rfl⟩
theorem seen_any (f : Fld) (c : Cel) (r : Int) (A : Option Addr) (cp : Nat) (w : World) (hP : repI.SHas 8 w A cp f.places) :
  Calls Try.prog 144 #[.agg #[.int .i64 f.wide, .int .i64 f.high, .slice A f.places.length cp], .agg #[.int .i64 c.x, .int .i64 c.y], .int .i64 r] w (λ e w' => ∃ A c', e = .returned (.tuple #[.slice A (seenL f c r).length c', .int .i64 (seenE f c r)]) ∧ Cel.rep.SOwn 70 16 w' w.heap.size (Rep.blkOf A) A c' (seenL f c r) ∧ Ext w w') := by
 refine calls_W (n := 81) Try.func144 rfl rfl rfl ?_
 refine sg <| bx rfl rfl rfl rfl λ w_1 b_2 x_3 l_4 B_5 => ?_
 have := x_3.size
 have z_1 := eT (Ext.rf w) x_3
 have q_7 := B_5.lt
 refine bx rfl rfl rfl rfl λ w_8 b_9 x_10 l_11 B_12 => ?_
 have := x_10.size
 have z_8 := eT z_1 x_10
 have q_14 := B_12.lt
 refine va rfl <| va rfl <| nK <| sq <| sg <| ?_
 have B_5 := B_5.later x_10
 refine vL (ld rfl (B_5.all eF14 eF15)) <| vL (ld rfl (B_12.all eF7 eF8)) <| ca eF16 rfl rfl ((fldAt2 f c _ _ _ (hP.keep z_8)).mono ?_)
 rintro e w_15 ⟨rfl, x_16⟩
 refine ⟨_, rfl, ?_⟩
 have := x_16.size
 have z_15 := eT z_8 x_16
 refine vm rfl <| vL (ex rfl rfl) <| vL (ex rfl rfl) <| va rfl <| va rfl <| nK <| sg <| vm rfl <| vL (bne rfl rfl) <| nK <| ?_
 refine cne rfl (λ h_18 => ?_) (λ h_18 => ?_)
 ·refine sg <| vm rfl <| va rfl <| va rfl <| nK <| rt <| tT <| tR (.tmp rfl (.tmp rfl .nil)) <| ?_
  obtain ⟨e1, e2⟩ := seen_no1 (r := r) h_18
  exact ⟨none, 0, by rw [e1, e2]; rfl, by rw [e2]; exact Rep.SOwn.nil _, z_15⟩
 ·obtain ⟨hc0, hn⟩ := atE_chk h_18
  obtain ⟨y1, y2, y3, y4, y5, y6⟩ := Fld.good hc0
  refine sK <| sq <| sg <| vm rfl <| vL (blt rfl rfl) <| vm rfl <| vQ rfl rfl rfl rfl (λ hc => mv rfl) rfl <| vQ rfl rfl rfl rfl (λ hc => bgt (gt hc rfl) rfl) rfl <| vL (pO rfl rfl rfl rfl) <| nK <| ?_
  refine cb rfl (λ h_19 => ?_) (λ h_19 => ?_)
  ·simp only [bS] at h_19
   refine sg <| va rfl <| va rfl <| nK <| rt <| tT <| tR (.tmp rfl (.tmp rfl .nil)) <| ?_
   obtain ⟨e1, e2⟩ := seen_no2 h_18 (by omega)
   exact ⟨none, 0, by rw [e1, e2]; rfl, by rw [e2]; exact Rep.SOwn.nil _, z_15⟩
  ·simp only [bS] at h_19
   have hH : seenH f c r ≤ 25 ∧ seenH f c r = (min (f.high - 1) (c.y + r) - max 0 (c.y - r) + 1).toNat := by unfold seenH; omega
   have hW : seenW f c r ≤ 25 ∧ seenW f c r = (min (f.wide - 1) (c.x + r) - max 0 (c.x - r) + 1).toNat := by unfold seenW; omega
   have hkb : ∀ k, k ≤ seenH f c r → k * seenW f c r ≤ 625 := λ k hk => Nat.le_trans (Nat.mul_le_mul hk (Nat.le_refl _)) (Nat.le_trans (Nat.mul_le_mul hH.1 hW.1) (by decide))
   refine sK <| sg <| va rfl <| nK <| sq <| sg <| vL (fa eF6 rfl) <| ?_
   have B_12 := B_12.later x_16
   refine vL (ld rfl (B_12.one eF5 rfl)) <| vm rfl <| vL (bsu rfl rfl (inI (by omega))) <| vL (mx rfl rfl) <| va rfl <| nK <| bk <| ?_
   have B_5 := B_5.later x_16
   refine lp (λ mI EI wI => ∃ k : Nat, ∃ AO1 : Option Addr, ∃ cO1 : Nat, EI = [(2, .int .i64 r), (3, .pointer (some ⟨b_2, 0, none⟩)), (4, .pointer (some ⟨b_9, 0, none⟩)), (6, .slice none 0 0), (7, .int .i64 0), (10, .slice AO1 ((seenTo f c r k).length) cO1), (11, .int .i64 ((max 0 (c.y - r)) + (k : Int)))] ∧ mI = seenH f c r - k ∧ Ext w wI ∧ Blk wI b_2 [.int .i64 f.wide, .int .i64 f.high, .slice A f.places.length cp] 54 (0, 0) ∧ Blk wI b_9 [.int .i64 c.x, .int .i64 c.y] 70 (0, 0) ∧ Cel.rep.SOwn 70 16 wI w.heap.size (Rep.blkOf AO1) AO1 cO1 (seenTo f c r k) ∧ (k ≤ seenH f c r) ∧ (∀ q ∈ Rep.blkOf AO1, q = b_2 → False) ∧ (∀ q ∈ Rep.blkOf AO1, q = b_9 → False)) _ _ ⟨0, none, 0, rfl, rfl, z_15, B_5, B_12, (Rep.SOwn.nil _), by omega, (λ q hq hb => by (simp [Rep.blkOf] at hq)), (λ q hq hb => by (simp [Rep.blkOf] at hq))⟩ (.cons rfl (.cons rfl (.cons rfl (.cons rfl (.cons rfl (.cons rfl (.cons (loI rfl (by first | omega | rfl | (simp <;> omega))) .nil))))))) ?_
   rintro m_23 E_24 w_22 ⟨k, AO1, cO1, rfl, rfl, z_22, B_5, B_12, O1, hk, d_20, d_21⟩
   have := z_22.size
   have q_26 := B_5.lt
   have q_27 := B_12.lt
   have u_28 := λ q hq => (O1.lt q hq).2
   have hl1 := seenTo_len f c r k
   refine sq <| sg <| vm rfl <| vL (fa eF18 rfl) <| vL (ld rfl (B_5.one eF5 rfl)) <| vL (bsu rfl rfl (inI (by omega))) <| vL (fa eF6 rfl) <| vL (ld rfl (B_12.one eF5 rfl)) <| vm rfl <| vL (bad rfl rfl (inI (by omega))) <| vL (mn rfl rfl) <| vL (ble rfl rfl) <| nK <| ?_
   refine cle rfl (λ h_29 => ?_) (λ h_29 => ?_)
   ·have hkk := hkb k hk
    refine sK <| sq <| bk <| sg <| vL (fa eF4 rfl) <| vL (ld rfl (B_12.one eF5 rfl)) <| vm rfl <| vL (bsu rfl rfl (inI (by omega))) <| vL (mx rfl rfl) <| va rfl <| nK <| bk <| ?_
    refine lp (λ mI EI wI => ∃ j : Nat, ∃ AO2 : Option Addr, ∃ cO2 : Nat, EI = [(2, .int .i64 r), (3, .pointer (some ⟨b_2, 0, none⟩)), (4, .pointer (some ⟨b_9, 0, none⟩)), (6, .slice none 0 0), (7, .int .i64 0), (10, .slice AO2 ((seenTo f c r k ++ seenRow f c r k j).length) cO2), (11, .int .i64 ((max 0 (c.y - r)) + (k : Int))), (12, .int .i64 ((max 0 (c.x - r)) + (j : Int))), (34, .int .i64 ((max 0 (c.y - r)) + (k : Int))), (35, .pointer (some ⟨b_2, 1, none⟩)), (36, .int .i64 f.high), (37, .int .i64 (f.high - 1)), (38, .pointer (some ⟨b_9, 1, none⟩)), (39, .int .i64 c.y), (40, .int .i64 r), (41, .int .i64 (c.y + r)), (42, .int .i64 (min (f.high - 1) (c.y + r))), (43, .bool (decide ((max 0 (c.y - r)) + (k : Int) ≤ min (f.high - 1) (c.y + r)))), (46, .pointer (some ⟨b_9, 0, none⟩)), (47, .int .i64 c.x), (48, .int .i64 r), (49, .int .i64 (c.x - r)), (50, .int .i64 (max 0 (c.x - r)))] ∧ mI = seenW f c r - j ∧ Ext w wI ∧ Blk wI b_2 [.int .i64 f.wide, .int .i64 f.high, .slice A f.places.length cp] 54 (0, 0) ∧ Blk wI b_9 [.int .i64 c.x, .int .i64 c.y] 70 (0, 0) ∧ Cel.rep.SOwn 70 16 wI w.heap.size (Rep.blkOf AO2) AO2 cO2 (seenTo f c r k ++ seenRow f c r k j) ∧ (j ≤ seenW f c r) ∧ (∀ q ∈ Rep.blkOf AO2, q = b_2 → False) ∧ (∀ q ∈ Rep.blkOf AO2, q = b_9 → False)) _ _ ⟨0, AO1, cO1, rfl, rfl, z_22, B_5, B_12, (by rw [seenRow_0, List.append_nil]; exact O1), by omega, (λ q hq hb => by (exact d_20 q hq hb)), (λ q hq hb => by (exact d_21 q hq hb))⟩ (.cons rfl (.cons rfl (.cons rfl (.cons rfl (.cons rfl (.cons (by rw [seenRow_0, List.append_nil]; rfl) (.cons rfl (.cons (loI rfl (by first | omega | rfl | (simp <;> omega))) (sba rfl))))))))) ?_
    rintro m_33 E_34 w_32 ⟨j, AO2, cO2, rfl, rfl, z_32, B_5, B_12, O2, hj, d_30, d_31⟩
    have := z_32.size
    have q_36 := B_5.lt
    have q_37 := B_12.lt
    have u_38 := λ q hq => (O2.lt q hq).2
    have hl2 := seenRow_len f c r k j
    refine sq <| sg <| vm rfl <| vL (fa eF19 rfl) <| vL (ld rfl (B_5.one eF5 rfl)) <| vL (bsu rfl rfl (inI (by omega))) <| vL (fa eF4 rfl) <| vL (ld rfl (B_12.one eF5 rfl)) <| vm rfl <| vL (bad rfl rfl (inI (by omega))) <| vL (mn rfl rfl) <| vL (ble rfl rfl) <| nK <| ?_
    refine cle rfl (λ h_39 => ?_) (λ h_39 => ?_)
    ·refine sK <| sq <| bk <| sg <| vm rfl <| vm rfl <| vL (v := .agg #[.int .i64 ((max 0 (c.x - r)) + (j : Int)), .int .i64 ((max 0 (c.y - r)) + (k : Int))]) (bd rfl (by kernel_rfl)) <| al rfl eF13 rfl rfl λ w_40 b_41 x_42 l_43 B_44 => ?_
     have := x_42.size
     have z_40 := eT z_32 x_42
     have q_46 := B_44.lt
     refine st (new := [.int .i64 ((max 0 (c.x - r)) + (j : Int)), .int .i64 ((max 0 (c.y - r)) + (k : Int))]) rfl rfl B_44 rfl eF8 rfl rfl rfl λ w_47 m_48 B_44 => ?_
     have := m_48.size
     have z_47 := Ext.mod z_40 m_48 (ge1 (by omega))
     have := m_48.size
     refine nK <| sg <| ?_
     have B_5 := B_5.later x_42
     have B_5 := B_5.mod m_48 (nm1 (by omega))
     refine vL (ld rfl (B_5.all eF14 eF15)) <| ?_
     have B_12 := B_12.later x_42
     have B_12 := B_12.mod m_48 (nm1 (by omega))
     refine vL (ld rfl (B_12.all eF7 eF8)) <| vL (ld rfl (B_44.all eF7 eF8)) <| ca eF17 rfl rfl ((bare_in f c ((⟨(max 0 (c.x - r)) + (j : Int), (max 0 (c.y - r)) + (k : Int)⟩ : Cel)) _ _ _ (hP.keep z_47) (by (try dsimp only); omega) (by (try dsimp only); omega)).mono ?_)
     rintro e w_51 ⟨rfl, x_52⟩
     refine ⟨_, rfl, ?_⟩
     have := x_52.size
     have z_51 := eT z_47 x_52
     refine vm rfl <| ?_
     have B_5 := B_5.later x_52
     refine vQ rfl rfl rfl rfl (λ hc => ld rfl (B_5.all eF14 eF15)) rfl <| ?_
     have B_44 := B_44.later x_52
     refine vQ rfl rfl rfl rfl (λ hc => ld rfl (B_44.all eF7 eF8)) rfl <| ?_
     have B_12 := B_12.later x_52
     refine vQ rfl rfl rfl rfl (λ hc => ld rfl (B_12.all eF7 eF8)) rfl <| vC rfl rfl rfl rfl eF17 (λ hc => ec (gt hc rfl) (ec (gt hc rfl) (ec (gt hc rfl) rfl))) (λ hc => bare_in f ((⟨(max 0 (c.x - r)) + (j : Int), (max 0 (c.y - r)) + (k : Int)⟩ : Cel)) c _ _ _ (hP.keep z_51) (by (try dsimp only); omega) (by (try dsimp only); omega)) rfl λ w_54 x_55 => ?_
     have := x_55.size
     have z_54 := eT z_51 x_55
     refine vL (pO rfl rfl rfl rfl) <| nK <| ?_
     refine cb rfl (λ h_57 => ?_) (λ h_57 => ?_)
     ·refine rg <| vm rfl <| ?_
      have B_44 := B_44.later x_55
      refine vL (ld rfl (B_44.all eF7 eF8)) <| bs (e := 70) (cs := [.int .i64 ((max 0 (c.x - r)) + (j : Int)), .int .i64 ((max 0 (c.y - r)) + (k : Int))]) rfl (λ _ => by kernel_rfl) rfl λ w_58 b_59 x_60 l_61 B_62 => ?_
      have := x_60.size
      have z_58 := eT z_54 x_60
      have q_64 := B_62.lt
      have O2 := O2.later x_42
      have O2 := O2.mod m_48 (fk1 u_38 (by omega))
      have O2 := O2.later (eT x_52 (eT x_55 x_60))
      refine ap SigS_el_S_api_Cell Rep.flat_bare O2 (Blk.has1 (R := Cel.rep) (by_ := 16) (q := (⟨(max 0 (c.x - r)) + (j : Int), (max 0 (c.y - r)) + (k : Int)⟩ : Cel)) B_62 ⟨rfl, ⟨okI_iff.2 (by (try dsimp only); omega), okI_iff.2 (by (try dsimp only); omega)⟩⟩ (by decide)) rfl rfl (by simp only [List.length_append, List.length_cons, List.length_nil]; omega) (by simp only [List.length_append, List.length_cons, List.length_nil]; omega) z_58.size rfl λ w_65 A_66 c_67 m_68 O_69 g_70 n_71 => ?_
      have := m_68.size
      have z_65 := Ext.mod z_58 m_68 (λ q hq => (O2.lt q hq).1)
      have u_73 := λ q hq => (O_69.lt q hq).2
      have := m_68.size
      refine va rfl <| nl <| nB <| nT <| rg <| vm rfl <| vL (bad rfl rfl (inI (by omega))) <| va rfl <| nl <| ?_
      have e2 : seenTo f c r k ++ seenRow f c r k (j + 1) = seenTo f c r k ++ seenRow f c r k j ++ [(⟨(max 0 (c.x - r)) + (j : Int), (max 0 (c.y - r)) + (k : Int)⟩ : Cel)] := by rw [seenRow_yes h_57, ← List.append_assoc]; rfl
      have B_5 := B_5.later (eT x_55 x_60)
      have B_5 := B_5.mod m_68 (λ hq => d_30 _ hq rfl)
      have B_12 := B_12.later (eT x_55 x_60)
      have B_12 := B_12.mod m_68 (λ hq => d_31 _ hq rfl)
      exact nI _ _ ⟨j + 1, A_66, c_67, rfl, rfl, z_65, B_5, B_12, (by rw [e2]; exact O_69), by omega, (λ q hq hb => by (exact Or.elim (g_70 q hq) (λ k_75 => by (exact d_30 q k_75 hb)) (λ k_75 => by omega))), (λ q hq hb => by (exact Or.elim (g_70 q hq) (λ k_76 => by (exact d_31 q k_76 hb)) (λ k_76 => by omega)))⟩ (by omega) (.cons rfl (.cons rfl (.cons rfl (.cons rfl (.cons rfl (.cons (by rw [e2]; rfl) (.cons rfl (.cons (loI rfl (by first | omega | rfl | (simp <;> omega))) (sba rfl)))))))))
     ·refine sk <| nB <| nT <| rg <| vm rfl <| vL (bad rfl rfl (inI (by omega))) <| va rfl <| nl <| ?_
      have e2 : seenTo f c r k ++ seenRow f c r k (j + 1) = seenTo f c r k ++ seenRow f c r k j := by rw [seenRow_no h_57]
      have B_5 := B_5.later x_55
      have B_12 := B_12.later x_55
      have O2 := O2.later x_42
      have O2 := O2.mod m_48 (fk1 u_38 (by omega))
      have O2 := O2.later (eT x_52 x_55)
      exact nI _ _ ⟨j + 1, AO2, cO2, rfl, rfl, z_54, B_5, B_12, (by rw [e2]; exact O2), by omega, (λ q hq hb => by (exact d_30 q hq hb)), (λ q hq hb => by (exact d_31 q hq hb))⟩ (by omega) (.cons rfl (.cons rfl (.cons rfl (.cons rfl (.cons rfl (.cons (by rw [e2]; rfl) (.cons rfl (.cons (loI rfl (by first | omega | rfl | (simp <;> omega))) (sba rfl)))))))))
    ·refine xt <| xT <| xK <| xB <| nB <| nT <| rg <| vm rfl <| vL (bad rfl rfl (inI (by omega))) <| va rfl <| nl <| ?_
     have ej : j = seenW f c r := by omega
     have e1 : seenTo f c r (k + 1) = seenTo f c r k ++ seenRow f c r k j := by rw [ej]; exact seenTo_succ f c r k
     exact nI _ _ ⟨k + 1, AO2, cO2, rfl, rfl, z_32, B_5, B_12, (by rw [e1]; exact O2), by omega, (λ q hq hb => by (exact d_30 q hq hb)), (λ q hq hb => by (exact d_31 q hq hb))⟩ (by omega) (.cons rfl (.cons rfl (.cons rfl (.cons rfl (.cons rfl (.cons (by rw [e1]; rfl) (.cons (loI rfl (by first | omega | rfl | (simp <;> omega))) .nil)))))))
   ·refine xt <| xT <| xK <| xB <| nT <| sg <| vm rfl <| va rfl <| va rfl <| nK <| rt <| tR (.tmp rfl (.tmp rfl .nil)) <| ?_
    have ek : k = seenH f c r := by omega
    subst ek
    obtain ⟨e1, e2⟩ := seen_ok h_18 (by omega)
    exact ⟨AO1, cO1, by rw [e1, e2]; rfl, by rw [e2]; exact O1, z_22⟩
end
section
open Go.RowKit
def repY : Rep UInt8 := Rep.flat 1 (λ b => [.int .u8 (b.toNat : Int)]) (λ _ => True) (λ _ u => ∃ n : Int, u = .int .u8 n) (λ _ => rfl) (by intro a u hu; simp at hu; subst hu; rfl) (by
 intro a j u hu
 cases j with
 | zero => simp at hu; exact ⟨_, hu.symm⟩
 | succ j => simp at hu)
def bytesS (l : List UInt8) : ByteArray := ⟨l.toArray⟩
section
variable {P : Program} {n : Nat} {E E' : List (Nat × Value)} {w : World} {d : Option Nat} {ty : TypeId} {pos : String} {af : Array Edge} {g : Option (Nat × Bool)} {x y z u : Operand} {t t2 : TypeId}
end
end
section
open Go.RowKit
def sgn8 (p : Int) : UInt8 := ([46, 35, 116, 111] : List UInt8).getD p.toNat 0
def rowT (f : Fld) (k j : Nat) : List UInt8 := (((f.places.drop (k * f.wide.toNat)).take (k * f.wide.toNat + f.wide.toNat - k * f.wide.toNat)).take j).map sgn8
def txt (f : Fld) (pre : List (Fin f.high.toNat)) : List UInt8 := pre.flatMap λ k => rowT f k.1 f.wide.toNat ++ [10]
def fldText (f : Fld) : ByteArray := if f.chk ≠ 0 then bytesS [] else bytesS (txt f (List.finRange f.high.toNat))
end
section
open Go.RowKit
def readPl (l : List UInt8) : List Int := (l.map λ b => Lib.indexByte ([46, 35, 116, 111] : List UInt8) b).filter λ n => decide (0 ≤ n)
def readFld (s : ByteArray) : Fld := ⟨Lib.indexByte s.data.toList 10, ((Lib.countByte s.data.toList 10 : Nat) : Int), readPl s.data.toList⟩
def readE (s : ByteArray) : Int := if ((readFld s).chk != 0 || !decide (fldText (readFld s) = s)) = true then 4 else 0
def readW (s : ByteArray) : Fld := if ((readFld s).chk != 0 || !decide (fldText (readFld s) = s)) = true then ⟨0, 0, []⟩ else readFld s
end
end Go.Proofs.Ytccankldeogdlaa
