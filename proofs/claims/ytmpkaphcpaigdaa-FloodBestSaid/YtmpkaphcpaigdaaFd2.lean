import Derived.Test.YtmpkaphcpaigdaaFcs
import Derived.Test.YtmpkaphcpaigdaaGolB
import Derived.Test.YtmpkaphcpaigdaaIfc
import Derived.Test.YtmpkaphcpaigdaaBas
import Derived.Handy
import Derived.Test.YtmpkaphcpaigdaaProg
set_option linter.unusedVariables false
set_option linter.unusedSimpArgs false
set_option maxRecDepth 100000
set_option maxHeartbeats 4000000
namespace Go.Proofs.Ytmpkaphcpaigdaa
section
open Go.RowKit
namespace Hp
section
variable {α : Type} [Inhabited α] {key : α → Int} {lm l : List α} {m N n : Nat}
theorem up_exit (h : (((((m - 1) / 2 : Nat) : Int) == (m : Int)) || !decide (key (lm.getD m default) < key (lm.getD ((m - 1) / 2) default))) = true) : upF key lm m = lm := by
 unfold upF
 rw [if_neg]
 rintro ⟨h1, h2⟩
 simp only [Bool.or_eq_true, beq_iff_eq, Bool.not_eq_true', decide_eq_false_iff_not] at h
 rcases h with h | h
 ·omega
 ·exact h h2
theorem up_more (h : (((((m - 1) / 2 : Nat) : Int) == (m : Int)) || !decide (key (lm.getD m default) < key (lm.getD ((m - 1) / 2) default))) = false) : 0 < m ∧ upF key lm m = upF key (swp lm ((m - 1) / 2) m) ((m - 1) / 2) := by
 simp only [Bool.or_eq_false_iff, beq_eq_false_iff_ne, Bool.not_eq_false', decide_eq_true_eq] at h
 have hm : 0 < m := by
  rcases Nat.eq_zero_or_pos m with h0 | h0
  ·subst h0; exact absurd rfl h.1
  ·exact h0
 refine ⟨hm, ?_⟩
 conv => lhs; unfold upF
 rw [if_pos ⟨hm, h.2⟩]
theorem dn_exit (h : (decide ((N : Int) ≤ 2 * (m : Int) + 1) || decide (2 * (m : Int) + 1 < 0)) = true) : downF key N l m = l := by
 unfold downF
 rw [if_neg]
 simp only [Bool.or_eq_true, decide_eq_true_eq] at h
 omega
theorem dn_go (h : (decide ((N : Int) ≤ 2 * (m : Int) + 1) || decide (2 * (m : Int) + 1 < 0)) = false) : 2 * m + 1 < N := by
 simp only [Bool.or_eq_false_iff, decide_eq_false_iff_not] at h
 omega
theorem low_two (h : (decide (2 * (m : Int) + 1 + 1 < (N : Int)) && decide (key (l.getD (2 * m + 1 + 1) default) < key (l.getD (2 * m + 1) default))) = true) : lowC key N l m = 2 * m + 2 := by
 simp only [Bool.and_eq_true, decide_eq_true_eq] at h
 unfold lowC
 rw [if_pos ⟨by omega, h.2⟩]
theorem low_lt {q : Bool} (h : (decide (2 * (m : Int) + 1 + 1 < (N : Int)) && q) = true) : 2 * m + 2 < N := by
 simp only [Bool.and_eq_true, decide_eq_true_eq] at h
 omega
theorem low_one (h : (decide (2 * (m : Int) + 1 + 1 < (N : Int)) && decide (key (l.getD (2 * m + 1 + 1) default) < key (l.getD (2 * m + 1) default))) = false) : lowC key N l m = 2 * m + 1 := by
 unfold lowC
 rw [if_neg]
 rintro ⟨h1, h2⟩
 rw [decide_eq_true (show 2 * (m : Int) + 1 + 1 < (N : Int) by omega), decide_eq_true (show key (l.getD (2 * m + 1 + 1) default) < key (l.getD (2 * m + 1) default) from h2)] at h
 cases h
theorem dn_exit2 {j : Nat} (h1 : 2 * m + 1 < N) (hl : lowC key N l m = j) (h : (!decide (key (l.getD j default) < key (l.getD m default))) = true) : downF key N l m = l := by
 unfold downF
 rw [if_neg]
 rw [hl]
 rintro ⟨_, h2⟩
 rw [decide_eq_true h2] at h; cases h
theorem dn_more {j : Nat} (h1 : 2 * m + 1 < N) (hl : lowC key N l m = j) (h : (!decide (key (l.getD j default) < key (l.getD m default))) = false) : downF key N l m = downF key N (swp l m j) j := by
 conv => lhs; unfold downF
 rw [hl, if_pos ⟨h1, by simpa using h⟩]
end
end Hp
theorem tdiv_half (m : Nat) : Int.tdiv ((m : Int) - 1) 2 = (((m - 1) / 2 : Nat) : Int) := by
 cases m with
 | zero => rfl
 | succ m =>
  rw [show ((m + 1 : Nat) : Int) - 1 = (m : Int) by omega, Int.tdiv_eq_ediv_of_nonneg (by omega)]
  simp
section
variable {P : Program} {n : Nat} {E : List (Nat × Value)} {w : World} {ty : TypeId} {pos : String} {af : Array Edge} {x y : Operand} {t u : TypeId} {d : Option Nat} {g : Option (Nat × Bool)}
theorem bquH {k : IntKind} {i j r : Int} (hx : ev E x = some (.int k i)) (hy : ev E y = some (.int k j)) (h1 : j ≠ 0) (hr : Int.tdiv i j = r) (hw : k.wrap r = r) : Runs P E ⟨d, .binOp .quo t x y u, ty, pos, af, g⟩ w (.int k r) w := run_bin hx hy (binOp_quo t k i j) (by
 subst hr
 have : Op.intDiv .quo k i j = pure (.int k (Int.tdiv i j)) := by simp [Op.intDiv, h1, hw]
 rw [this]; rfl)
end
end
section
open Go.RowKit
theorem ret_bool {a b : Bool} (h : a = b) : Ending.returned (.bool a) = .returned (.bool b) := by rw [h]
theorem below_alloc0 (w : World) (o : Obj) : Below w.heap.size w (w.alloc o) := (Below.refl _ w).alloc (Nat.le_refl _) o
theorem equal_I (A B : Option Addr) (c d b1 b2 : Nat) (l m : List Int) (w : World) (h1 : repI.SHas b1 w A c l) (h2 : repI.SHas b2 w B d m) :
  Calls Try.prog 29 #[.slice A l.length c, .slice B m.length d] w fun e w' => e = .returned (.bool (decide (l = m))) ∧ Below w.heap.size w w' := by
 obtain ⟨n, HN⟩ : ∃ n, Hid (l.length = n) := ⟨_, Lib.hid rfl⟩
 obtain ⟨n2, HM⟩ : ∃ n, Hid (m.length = n) := ⟨_, Lib.hid rfl⟩
 have hle : n ≤ 9223372036854775807 := by have := h1.len_le; rw [HN.out] at this; exact this
 have H1 := Lib.hid h1
 have H2 := Lib.hid h2
 clear h1 h2
 rw [HN.out, HM.out]
 by_cases hnn : n = n2
 ·subst hnn
  have hd : ((n : Int) != (n : Int)) = false := by simp
  go_enter Try.func29, Try.ntmps29
  go_wp2_with fail
  clear hd
  go_loopw [5, 13] (fun _ iv wr => ∃ (k q : Nat), k ≤ n ∧ iv = .int .i64 (k : Int) ∧ Hid (l.take k = m.take k) ∧ Hid (wr = w.drewN q)) (fun _ iv _ => n - (intOf iv).toNat)
  case atStart => exact ⟨0, 0, Nat.zero_le _, rfl, (by show _ = _; simp), rfl⟩
  case round =>
   obtain ⟨k, q, hk, rfl, HK, HW⟩ := hrel
   have hbr : Below w.heap.size w wr := by rw [HW.out]; exact below_drewN (Below.refl _ w) q
   by_cases hlt : k < n
   ·obtain ⟨x, hx⟩ := get_of (l := l) (i := k) (by rw [HN.out]; exact hlt)
    obtain ⟨y, hy⟩ := get_of (l := m) (i := k) (by rw [HM.out]; exact hlt)
    obtain ⟨b1, o1, rfl, hc1⟩ := repI_at (H1.out.keep hbr) (by rw [HN.out]; omega)
    obtain ⟨b2, o2, rfl, hc2⟩ := repI_at (H2.out.keep hbr) (by rw [HM.out]; omega)
    have q0 := hc1 k x hx
    have r0 := hc2 k y hy
    have hki : (k : Int) < (n : Int) := by omega
    have hk0 : (0 : Int) ≤ (k : Int) := by omega
    have htl : l.take (k + 1) = l.take k ++ [x] := by rw [List.take_add_one, hx]; rfl
    have htm : m.take (k + 1) = m.take k ++ [y] := by rw [List.take_add_one, hy]; rfl
    have HTL := Lib.hid htl
    have HTM := Lib.hid htm
    have HX := Lib.hid hx
    have HY := Lib.hid hy
    clear hc1 hc2 htl htm hx hy
    by_cases hxy : x = y
    ·subst hxy
     have HK2 : Hid (l.take (k + 1) = m.take (k + 1)) := Lib.hid (by rw [HTL.out, HTM.out, HK.out])
     go_wp2_with fail
     go_quiet (fail)
     go_wp2_with fail
     go_roundw
     case rel => exact ⟨k + 1, _, by omega, by go_num, HK2, by show _ = _; rw [HW.out]; simp; rfl⟩
     case measure => simp [intOf]; omega
    ·have HF : Hid (decide (l = m) = false) := Lib.hid (decide_eq_false fun e => hxy (by have h1 := HX.out; rw [e, HY.out] at h1; exact (Option.some.inj h1).symm))
     have hne : (x == y) = false := by simpa using hxy
     have hne2 : (x != y) = true := by simpa using hxy
     clear hxy
     go_wp2_with fail
     go_quiet (fail)
     go_wp2_with fail
     go_ret
     exact ⟨ret_bool HF.out.symm, below_drewN hbr _⟩
   ·have HT : Hid (decide (l = m) = true) := Lib.hid (decide_eq_true (by have := HK.out; rw [List.take_of_length_le (by rw [HN.out]; omega), List.take_of_length_le (by rw [HM.out]; omega)] at this; exact this))
    clear HK
    go_wp2_with fail
    go_ret
    exact ⟨ret_bool HT.out.symm, hbr⟩
 ·have HF : Hid (decide (l = m) = false) := Lib.hid (decide_eq_false fun e => hnn (by rw [← HN.out, ← HM.out, e]))
  have hd : ((n : Int) != (n2 : Int)) = true := by simp; omega
  rw [HF.out]
  go_enter Try.func29, Try.ntmps29
  go_wp2_with fail
  go_ret
  exact ⟨rfl, Below.refl _ _⟩
end
end Go.Proofs.Ytmpkaphcpaigdaa
set_option linter.unusedVariables false
set_option linter.unusedSimpArgs false
namespace Go.Proofs.Ytmpkaphcpaigdaa
open Go.RowKit

def Fld.badPlace (p : Int) : Bool := !Fld.placeOk p
theorem badPlace_mk {p : Int} : (p < 0 → Fld.badPlace p = true) ∧ (4 ≤ p → Fld.badPlace p = true) ∧ (0 ≤ p → p < 4 → Fld.badPlace p = false) := by
 unfold Fld.badPlace Fld.placeOk
 refine ⟨fun h => by rw [inB_not (.inl h)]; rfl, fun h => by rw [inB_not (.inr (by omega))]; rfl, fun h1 h2 => by rw [inB_mk h1 (by omega)]; rfl⟩
theorem fcheck1 (p : Int) (w : World) : Calls Try.prog 60 #[.int .i64 p] w fun e w' => e = .returned (.bool (Fld.badPlace p)) ∧ Below w.heap.size w w' := by
 obtain ⟨b1, b2, b3⟩ := badPlace_mk (p := p)
 rcases Int.lt_or_le p 0 with h | h
 ·have hb := b1 h
  have hd : decide (p < 0) = true := by simpa using h
  rw [hb]; clear b1 b2 b3 hb
  go_enter Try.func60, Try.ntmps60
  go_wp2
  go_ret
  exact ⟨rfl, Below.refl _ _⟩
 ·rcases Int.lt_or_le p 4 with h4 | h4
  ·have hb := b3 h h4
   have hd : decide (p < 0) = false := by simpa using h
   rw [hb]; clear b1 b2 b3 hb
   go_enter Try.func60, Try.ntmps60
   go_wp2
   go_ret
   exact ⟨ret_bool (by simp <;> omega), Below.refl _ _⟩
  ·have hb := b2 h4
   have hd : decide (p < 0) = false := by simpa using h
   rw [hb]; clear b1 b2 b3 hb
   go_enter Try.func60, Try.ntmps60
   go_wp2
   go_ret
   exact ⟨ret_bool (by simp <;> omega), Below.refl _ _⟩
theorem idx_place  (A : Option Addr) (c : Nat) (l : List Int) (w : World) (hl : repI.SHas 8 w A c l) :
  Calls Try.prog 80 #[.slice A l.length c, .func (.func 60) #[] #[]] w fun e w' => e = .returned (.int .i64 (idxI (Fld.badPlace) l)) ∧ Below w.heap.size w w' := by
 obtain ⟨n, hn⟩ : ∃ n, l.length = n := ⟨_, rfl⟩
 have hle : n ≤ 9223372036854775807 := by have := hl.1; have := hl.2.1; omega
 rw [hn]
 have HL := Lib.hid hl
 have HN := Lib.hid hn
 clear hl hn
 go_enter Try.func80, Try.ntmps80
 go_wp2_with fail
 go_loopw [5, 8] (fun _ iv wr => ∃ k : Nat, k ≤ n ∧ iv = .int .i64 (k : Int) ∧ Hid (∀ j (hj : j < k) (hj2 : j < l.length), (Fld.badPlace) l[j] = false) ∧ Below w.heap.size w wr) (fun _ iv _ => n - (intOf iv).toNat)
 case atStart => exact ⟨0, Nat.zero_le _, rfl, (fun j hj => by omega), Below.refl _ _⟩
 case round =>
  obtain ⟨k, hk, rfl, HK, hb⟩ := hrel
  by_cases hlt : k < n
  ·have hkl : k < l.length := by rw [HN.out]; exact hlt
   obtain ⟨b, o, rfl, hcell⟩ := repI_at (HL.out.keep hb) (by omega)
   obtain ⟨x, hxe⟩ : ∃ x, l[k]'hkl = x := ⟨_, rfl⟩
   have q0 := hcell k x (by rw [List.getElem?_eq_getElem hkl, hxe])
   have HXE := Lib.hid hxe

   have hc := fcheck1 x wr
   clear hcell hxe
   cases hbad : (Fld.badPlace) x with
   | true =>
    have hres : idxI (Fld.badPlace) l = (k : Int) := idxI_some hkl (by rw [HXE.out]; exact hbad) fun j hj => HK.out j hj (by omega)
    rw [hbad] at hc
    have HRES := Lib.hid hres
    clear hres hbad
    go_wp2_with (go_at_call 60; refine hc.mono ?_; rintro e w' ⟨rfl, hb2⟩)
    go_ret
    exact ⟨by rw [HRES.out]; rfl, hb.trans (hb2.mono hb.size)⟩
   | false =>
    rw [hbad] at hc
    have HK2 : Hid (∀ j (hj : j < k + 1) (hj2 : j < l.length), (Fld.badPlace) l[j] = false) := by
     intro j hj hj2
     by_cases h : j < k
     ·exact HK.out j h hj2
     ·obtain rfl : j = k := by omega
      rw [HXE.out]; exact hbad
    clear hbad
    go_wp2_with (go_at_call 60; refine hc.mono ?_; rintro e w' ⟨rfl, hb2⟩)
    go_roundw
    case rel => exact ⟨k + 1, by omega, by go_num, HK2, hb.trans (hb2.mono hb.size)⟩
    case measure => simp [intOf]; omega
  ·have hres : idxI (Fld.badPlace) l = -1 := idxI_none fun j hj => HK.out j (by have := HN.out; omega) hj
   have HRES := Lib.hid hres
   clear hres
   go_wp2_with fail
   go_ret
   exact ⟨by rw [HRES.out]; rfl, hb⟩
theorem has_place  (A : Option Addr) (c : Nat) (l : List Int) (w : World) (hl : repI.SHas 8 w A c l) :
  Calls Try.prog 59 #[.slice A l.length c, .func (.func 60) #[] #[]] w fun e w' => e = .returned (.bool (l.any (Fld.badPlace))) ∧ Below w.heap.size w w' := by
 have hc := idx_place  A c l w hl 
 rw [← idxI_any]
 generalize idxI (Fld.badPlace) l = r at *
 generalize l.length = n at *
 clear hl 
 go_enter Try.func59, Try.ntmps59
 go_wp2_with (go_at_call 80; refine hc.mono ?_; rintro e w' ⟨rfl, hb2⟩)
 go_ret
 exact ⟨rfl, hb2⟩
theorem side_any (n : Int) (w : World) : Calls Try.prog 58 #[.int .i64 n] w fun e w' => e = .returned (.bool (inB n 1 40)) ∧ w = w' := by
 rcases Int.lt_or_le n 1 with h | h
 ·rw [inB_not (.inl h)]
  go_enter Try.func58, Try.ntmps58
  go_wp2
  go_ret
  exact ⟨rfl, rfl⟩
 ·rcases Int.lt_or_le 40 n with h4 | h4
  ·rw [inB_not (.inr h4)]
   go_enter Try.func58, Try.ntmps58
   go_wp2
   go_ret
   exact ⟨ret_bool (by simp <;> omega), rfl⟩
  ·rw [inB_mk h h4]
   go_enter Try.func58, Try.ntmps58
   go_wp2
   go_ret
   exact ⟨ret_bool (by simp <;> omega), rfl⟩
end Go.Proofs.Ytmpkaphcpaigdaa
set_option linter.unusedVariables false
set_option linter.unusedSimpArgs false
namespace Go.Proofs.Ytmpkaphcpaigdaa
open Go.RowKit

theorem Fld.chk_none {f : Fld} (h1 : inB f.wide 1 40 = true) (h2 : inB f.high 1 40 = true) (h3 : ¬ (f.places.length : Int) = f.wide * f.high) : f.chk = 4 := by
 unfold Fld.chk
 rw [h1, h2, decide_eq_false h3]; rfl
theorem Fld.chk_any {f : Fld} (h1 : inB f.wide 1 40 = true) (h2 : inB f.high 1 40 = true) (h3 : (f.places.length : Int) = f.wide * f.high) : f.chk = if f.places.any Fld.badPlace then 4 else 0 := by
 unfold Fld.chk
 rw [h1, h2, decide_eq_true h3]
 have : f.places.all Fld.placeOk = !f.places.any Fld.badPlace := by
  rw [List.all_eq_not_any_not]; rfl
 rw [this]
 cases f.places.any Fld.badPlace <;> rfl
theorem fldCheck (f : Fld) (A : Option Addr) (c : Nat) (w : World) (hP : repI.SHas 8 w A c f.places) :
  Calls Try.prog 33 #[.agg #[.int .i64 f.wide, .int .i64 f.high, .slice A f.places.length c]] w fun e w' => e = .returned (.int .i64 f.chk) ∧ Below w.heap.size w w' := by
 have hb := below_alloc0 w (.cells #[.int .i64 f.wide, .int .i64 f.high, .slice A f.places.length c] 24)
 have hs1 := side_any f.wide
 have hs2 := side_any f.high
 have hle : f.places.length ≤ 9223372036854775807 := by have := hP.1; have := hP.2.1; omega
 cases h1 : inB f.wide 1 40 with
 | false =>
  rw [h1] at hs1
  rw [Fld.chk_one (by rw [h1]; rfl)]
  clear h1 hs2 hP
  go_enter Try.func33, Try.ntmps33
  go_wp2_with (go_at_call 58; refine (hs1 _).mono ?_; rintro e w' ⟨rfl, rfl⟩)
  go_ret
  exact ⟨rfl, hb⟩
 | true =>
  rw [h1] at hs1
  cases h2 : inB f.high 1 40 with
  | false =>
   rw [h2] at hs2
   rw [Fld.chk_one (by rw [h1, h2]; rfl)]
   clear h1 h2 hP
   go_enter Try.func33, Try.ntmps33
   go_wp2_with fail
   refine (hs1 _).mono ?_; rintro e w' ⟨rfl, rfl⟩
   go_wp2_with fail
   refine (hs2 _).mono ?_; rintro e w' ⟨rfl, rfl⟩
   go_wp2_with fail
   go_ret
   exact ⟨rfl, hb⟩
  | true =>
   rw [h2] at hs2
   have hw := inB_true h1
   have hh := inB_true h2
   have hm0 : 0 ≤ f.wide * f.high := Int.mul_nonneg (by omega) (by omega)
   have hm1 : f.wide * f.high ≤ 40 * 40 := Int.mul_le_mul hw.2 hh.2 (by omega) (by omega)
   by_cases h3 : (f.places.length : Int) = f.wide * f.high
   ·have hc := has_place A c f.places _ (hP.keep hb)
    have hd : ((f.places.length : Int) == f.wide * f.high) = true := by simpa using h3
    have hd2 : ((f.places.length : Int) != f.wide * f.high) = false := by simpa using h3
    rw [Fld.chk_any h1 h2 h3]
    clear h1 h2 h3 hP
    generalize f.places.any Fld.badPlace = r at *
    generalize f.places.length = n at *
    cases r with
    | true =>
     go_enter Try.func33, Try.ntmps33
     go_wp2_with fail
     refine (hs1 _).mono ?_; rintro e w' ⟨rfl, rfl⟩
     go_wp2_with fail
     refine (hs2 _).mono ?_; rintro e w' ⟨rfl, rfl⟩
     go_wp2_with fail
     refine hc.mono ?_; rintro e w' ⟨rfl, hb2⟩
     go_wp2_with fail
     go_ret
     exact ⟨rfl, hb.trans (hb2.mono hb.size)⟩
    | false =>
     go_enter Try.func33, Try.ntmps33
     go_wp2_with fail
     refine (hs1 _).mono ?_; rintro e w' ⟨rfl, rfl⟩
     go_wp2_with fail
     refine (hs2 _).mono ?_; rintro e w' ⟨rfl, rfl⟩
     go_wp2_with fail
     refine hc.mono ?_; rintro e w' ⟨rfl, hb2⟩
     go_wp2_with fail
     go_ret
     exact ⟨rfl, hb.trans (hb2.mono hb.size)⟩
   ·have hd : ((f.places.length : Int) == f.wide * f.high) = false := by simpa using h3
    have hd2 : ((f.places.length : Int) != f.wide * f.high) = true := by simpa using h3
    rw [Fld.chk_none h1 h2 h3]
    clear h1 h2 h3 hP
    generalize f.places.length = n at *
    go_enter Try.func33, Try.ntmps33
    go_wp2_with fail
    refine (hs1 _).mono ?_; rintro e w' ⟨rfl, rfl⟩
    go_wp2_with fail
    refine (hs2 _).mono ?_; rintro e w' ⟨rfl, rfl⟩
    go_wp2_with fail
    go_ret
    exact ⟨rfl, hb⟩
end Go.Proofs.Ytmpkaphcpaigdaa
set_option linter.unusedVariables false
set_option linter.unusedSimpArgs false
namespace Go.Proofs.Ytmpkaphcpaigdaa
open Go.RowKit

theorem ret_two {k k' : IntKind} {a b a' b' : Int} (h1 : a = a') (h2 : b = b') : Ending.returned (.tuple #[.int k a, .int k' b]) = .returned (.tuple #[.int k a', .int k' b']) := by rw [h1, h2]
def AtPost (f : Fld) (c : Cel) (w : World) (e : Ending) (w' : World) : Prop := e = .returned (.tuple #[.int .i64 (f.atV c), .int .i64 (f.atE c)]) ∧ Below w.heap.size w w'
theorem fldAt (f : Fld) (p : Cel) (A : Option Addr) (c : Nat) (w : World) (hP : repI.SHas 8 w A c f.places) :
  Calls Try.prog 21 #[.agg #[.int .i64 f.wide, .int .i64 f.high, .slice A f.places.length c], .agg #[.int .i64 p.x, .int .i64 p.y]] w (AtPost f p w) := by
 have hA := Blk.new w (Wd.fcells A c f) 24 (0, 0)
 have hb := below_alloc0 w (.cells (Wd.fcells A c f).toArray 24 (0, 0))
 have hB := Blk.new (w.alloc (.cells (Wd.fcells A c f).toArray 24 (0, 0))) p.cells 35 (0, 0)
 have hb1 := below_alloc0 (w.alloc (.cells (Wd.fcells A c f).toArray 24 (0, 0))) (.cells p.cells.toArray 35 (0, 0))
 have hA1 := hA.later hb1
 have hbb := hb.trans (hb1.mono hb.size)
 have hc := fldCheck f A c _ (hP.keep hbb)
 have hP1 := hP.keep hbb
 obtain ⟨w1, HW1⟩ : ∃ w1, Hid ((w.alloc (.cells (Wd.fcells A c f).toArray 24 (0, 0))).alloc (.cells p.cells.toArray 35 (0, 0)) = w1) := ⟨_, Lib.hid rfl⟩
 rw [HW1.out] at hA1 hB hc hbb hP1
 rw [World.size_alloc] at hB
 clear hA hb hb1 hP
 have hst : ∀ K : World → Prop, K w1 → K ((w.alloc (.cells #[.int .i64 f.wide, .int .i64 f.high, .slice A f.places.length c] 24)).alloc (.cells #[.int .i64 p.x, .int .i64 p.y] 35)) := fun K h => by
  have := HW1.out
  rw [← this] at h; exact h
 by_cases h0 : f.chk = 0
 ·have hfl := Fld.len_le h0
  obtain ⟨g1, g2, g3, g4, _, _⟩ := Fld.good h0
  rw [h0] at hc
  by_cases hin : 0 ≤ p.x ∧ p.x < f.wide ∧ 0 ≤ p.y ∧ p.y < f.high
  ·obtain ⟨i1, i2, i3, i4⟩ := hin
   have hIn := Fld.isIn_mk i1 i2 i3 i4
   obtain ⟨e1, e2⟩ := Fld.at_in h0 hIn
   obtain ⟨x1, x2, _⟩ := Fld.idx h0 hIn
   have y1 : 0 ≤ p.y * f.wide := Int.mul_nonneg i3 (by omega)
   have y2 : p.y * f.wide ≤ 1600 := by omega
   obtain ⟨b, o, rfl, hcell⟩ := repI_at hP1 (by omega)
   have hce := hcell (p.y * f.wide + p.x).toNat (f.place p) (by
    unfold Fld.place
    rw [List.getD_eq_getElem?_getD, List.getElem?_eq_getElem (show (p.y * f.wide + p.x).toNat < f.places.length by omega)]; rfl)
   have HCE := Lib.hid hce
   have HE := Lib.hid (And.intro e1 e2)
   have HA1 := Lib.hid hA1
   have HB := Lib.hid hB
   have d1 : decide (p.x < 0) = false := by simpa using i1
   have d2 : decide (p.y < 0) = false := by simpa using i3
   clear h0 hIn e1 e2 hcell hce hP1 hA1 hB
   go_enter Try.func21, Try.ntmps21
   go_wp2_with fail
   refine hst (fun W => Calls _ _ _ W _) ?_
   refine hc.mono ?_
   rintro e w2 ⟨rfl, hb2⟩
   obtain ⟨q0, q1, q2⟩ := Wd.fblk (HA1.out.later hb2)
   obtain ⟨r0, r1⟩ := Cel.blk (HB.out.later hb2)
   have hcell2 := cell_later hb2 HCE.out
   go_wp2_with fail
   go_ret2
   exact ⟨ret_two HE.out.2.symm HE.out.1.symm, hbb.trans (hb2.mono hbb.size)⟩
  ·have hout : p.x < 0 ∨ f.wide ≤ p.x ∨ p.y < 0 ∨ f.high ≤ p.y := by omega
   have HE := Lib.hid (Fld.at_out h0 (Fld.isIn_out hout))
   have HA1 := Lib.hid hA1
   have HB := Lib.hid hB
   clear h0 hP1 hA1 hB hin
   have HOUT := Lib.hid hout
   clear hout
   go_enter Try.func21, Try.ntmps21
   go_wp2_with fail
   refine hst (fun W => Calls _ _ _ W _) ?_
   refine hc.mono ?_
   rintro e w2 ⟨rfl, hb2⟩
   obtain ⟨q0, q1, q2⟩ := Wd.fblk (HA1.out.later hb2)
   obtain ⟨r0, r1⟩ := Cel.blk (HB.out.later hb2)
   have key : decide (p.x < 0) = true ∨ (decide (p.x < 0) = false ∧ decide (f.wide ≤ p.x) = true) ∨ (decide (p.x < 0) = false ∧ decide (f.wide ≤ p.x) = false ∧ decide (p.y < 0) = true) ∨ (decide (p.x < 0) = false ∧ decide (f.wide ≤ p.x) = false ∧ decide (p.y < 0) = false ∧ decide (f.high ≤ p.y) = true) := by
    have := HOUT.out
    by_cases k1 : p.x < 0
    ·simp [k1]
    by_cases k2 : f.wide ≤ p.x
    ·simp [k1, k2]
    by_cases k3 : p.y < 0
    ·simp [k1, k2, k3]
    ·simp [k1, k2, k3]; omega
   rcases key with h | ⟨h, h2⟩ | ⟨h, h2, h3⟩ | ⟨h, h2, h3, h4⟩
   all_goals
    go_wp2_with fail
    go_ret2
    exact ⟨ret_two HE.out.2.symm HE.out.1.symm, hbb.trans (hb2.mono hbb.size)⟩
 ·obtain ⟨e1, e2⟩ := Fld.at_bad (c := p) h0
  have HE := Lib.hid (And.intro e1 e2)
  have hne : (f.chk == 0) = false := by simpa using h0
  have hne2 : (f.chk != 0) = true := by simpa using h0
  clear e1 e2 h0 hP1 hA1 hB
  generalize f.chk = k at *
  go_enter Try.func21, Try.ntmps21
  go_wp2_with fail
  refine hst (fun W => Calls _ _ _ W _) ?_
  refine hc.mono ?_
  rintro e w2 ⟨rfl, hb2⟩
  go_wp2_with fail
  go_ret2
  exact ⟨ret_two HE.out.2.symm HE.out.1.symm, hbb.trans (hb2.mono hbb.size)⟩
end Go.Proofs.Ytmpkaphcpaigdaa
set_option linter.unusedVariables false
set_option linter.unusedSimpArgs false
namespace Go.Proofs.Ytmpkaphcpaigdaa
open Go.RowKit

def Cel.is (p x : Cel) : Bool := decide (x = p)
end Go.Proofs.Ytmpkaphcpaigdaa
namespace Go.Proofs.Ytmpkaphcpaigdaa
section
open Go.RowKit
theorem foot_mem {a : Wd.At} {g : Nat} : g ∈ WOwn.foot a ↔ g ∈ Rep.blkOf a.P ∨ g ∈ Rep.blkOf a.B ∨ g ∈ Rep.blkOf a.S ∨ g ∈ Rep.blkOf a.M ∨ g ∈ Rep.blkOf a.T := by
 unfold WOwn.foot
 simp only [List.mem_append]
 constructor
 ·rintro ((((h | h) | h) | h) | h) <;> simp [h]
 ·rintro (h | h | h | h | h) <;> simp [h]
namespace Wd
def priceOf (k : Int) : Int := if k = 1 then 5 else if k = 2 then 12 else 0
end Wd
theorem Below.md {Z : Nat} {w w1 w2 : World} {S : List Nat} (h : Below Z w w1) (m : Mod S w1 w2) (hS : ∀ q ∈ S, Z ≤ q) (hZ : Z ≤ w1.heap.size) : Below Z w w2 := Go.RowKit.Below.trans h (m.below hS hZ)
theorem WOwn.mod {w w1 : World} {Z : Nat} {a : Wd.At} {W : Wd} {S : List Nat} (h : WOwn w Z a W) (m : Mod S w w1) (hd : ∀ x ∈ WOwn.foot a, x ∉ S) : WOwn w1 Z a W :=
 ⟨h.P.mod m fun x hx => hd x (foot_mem.2 (.inl hx)), h.B.mod m fun x hx => hd x (foot_mem.2 (.inr (.inl hx))), h.S.mod m fun x hx => hd x (foot_mem.2 (.inr (.inr (.inl hx)))), h.M.mod m fun x hx => hd x (foot_mem.2 (.inr (.inr (.inr (.inl hx))))), h.T.mod m fun x hx => hd x (foot_mem.2 (.inr (.inr (.inr (.inr hx))))), h.apart, h.nums⟩
def reachOf (k : Int) : Int := if k = 1 then 1 else if k = 2 then 2 else 0
def harmOf (k : Int) : Int := if k = 1 then 1 else if k = 2 then 4 else 0
def kindE (k : Int) : Int := if k = 1 then 0 else if k = 2 then 0 else 1
theorem WOwn.down {w : World} {Z Z' : Nat} {a : Wd.At} {W : Wd} (h : WOwn w Z a W) (hz : Z' ≤ Z) : WOwn w Z' a W := ⟨h.P.down hz, h.B.down hz, h.S.down hz, h.M.down hz, h.T.down hz, h.apart, h.nums⟩
def Wd.zero : Wd := ⟨⟨0, 0, []⟩, [], [], [], [], 0, 0⟩
theorem WOwn.zero (w : World) (Z : Nat) : WOwn w Z ⟨none, none, none, none, none, 0, 0, 0, 0, 0⟩ Wd.zero := ⟨Rep.SOwn.nil w, Rep.SOwn.nil w, Rep.SOwn.nil w, Rep.SOwn.nil w, Rep.SOwn.nil w, by simp [Rep.blkOf], okI_iff.2 (by decide), okI_iff.2 (by decide), okI_iff.2 (by decide), okI_iff.2 (by decide)⟩
theorem atE_zero {f : Fld} {c : Cel} (h : f.chk = 0) (he : f.atE c = 0) : f.isIn c = true := by
 cases hi : f.isIn c with
 | true => rfl
 | false => rw [(Fld.at_out h hi).1] at he; omega
theorem fldAt2 (f : Fld) (p : Cel) (A : Option Addr) (c : Nat) (w : World) (hP : repI.SHas 8 w A c f.places) :
  Calls Try.prog 21 #[.agg #[.int .i64 f.wide, .int .i64 f.high, .slice A f.places.length c], .agg #[.int .i64 p.x, .int .i64 p.y]] w fun e w' => e = .returned (.tuple #[.int .i64 (f.atV p), .int .i64 (f.atE p)]) ∧ Below w.heap.size w w' := fldAt f p A c w hP
structure Pairs (a : Wd.At) : Prop where
 PS : ∀ q ∈ Rep.blkOf a.P, q ∈ Rep.blkOf a.S → False
 PM : ∀ q ∈ Rep.blkOf a.P, q ∈ Rep.blkOf a.M → False
 PB : ∀ q ∈ Rep.blkOf a.P, q ∈ Rep.blkOf a.B → False
 PT : ∀ q ∈ Rep.blkOf a.P, q ∈ Rep.blkOf a.T → False
 SM : ∀ q ∈ Rep.blkOf a.S, q ∈ Rep.blkOf a.M → False
 SB : ∀ q ∈ Rep.blkOf a.S, q ∈ Rep.blkOf a.B → False
 ST : ∀ q ∈ Rep.blkOf a.S, q ∈ Rep.blkOf a.T → False
 MB : ∀ q ∈ Rep.blkOf a.M, q ∈ Rep.blkOf a.B → False
 MT : ∀ q ∈ Rep.blkOf a.M, q ∈ Rep.blkOf a.T → False
 BT : ∀ q ∈ Rep.blkOf a.B, q ∈ Rep.blkOf a.T → False
end
section
open Go.RowKit
def pcK (f : Fld) (c : Cel) : Int := if f.isIn c then costK (f.place c) else 0
theorem cost_ground {f : Fld} {c : Cel} (hf : f.chk = 0) (hc : f.isIn c = true) : (costE (f.place c) == 0) = f.ground c ∧ (f.ground c = true → costK (f.place c) = f.kost c) := by
 obtain ⟨_, _, _, _, _, g6⟩ := Fld.good hf
 have hp := g6 (f.place c) (by unfold Fld.place; exact mem_dd (Fld.at_lt hf hc).1)
 unfold Fld.ground
 rw [hc]
 have : f.place c = 0 ∨ f.place c = 1 ∨ f.place c = 2 ∨ f.place c = 3 := by omega
 unfold Fld.kost costE costK
 rcases this with h | h | h | h <;> rw [h] <;> simp
theorem fcost_any (p : Int) (w : World) :
  Calls Try.prog 16 #[.int .i64 p] w (fun e w' => e = .returned (.tuple #[.int .i64 (costK p), .int .i64 (costE p)]) ∧ Ext w w') := by
 refine calls_W (n := 12) Try.func16 rfl rfl rfl ?_
 refine sq <| rg <| vl (as_ rfl) rfl <| vl (as_ rfl) rfl <| nl <| nT <| sq <| sq <| rg <| vl (mv rfl) rfl <| nl <| nT <| bk <| sq <| sq <| rg <| vl (beq rfl rfl) rfl <| vl (as_ rfl) rfl <| nl <| nT <| ?_
 refine ceq rfl (fun h_1 => ?_) (fun h_1 => ?_)
 ·have k_2 : (p == 0) = true := by simpa using h_1
  refine sk <| nT <| ?_
  refine ceq rfl (fun h_3 => ?_) (fun h_3 => ?_)
  ·have k_4 : (p == 0) = true := by simpa using h_3
   refine sq <| rg <| vl (as_ rfl) rfl <| vl (as_ rfl) rfl <| nl <| nT <| rt <| tB <| tT <| tR (.tmp rfl (.tmp rfl .nil)) <| ?_
   exact ⟨by simp_all [costK, costE, tup], (Ext.rf w)⟩
  ·have k_5 : (p == 0) = false := by simpa using h_3
   refine sq <| rg <| vl (beq rfl rfl) rfl <| vl (as_ rfl) rfl <| nl <| nT <| ?_
   refine ceq rfl (fun h_6 => ?_) (fun h_6 => ?_)
   ·have k_7 : (p == 2) = true := by simpa using h_6
    refine sq <| rg <| vl (as_ rfl) rfl <| vl (as_ rfl) rfl <| nl <| nT <| rt <| tB <| tT <| tR (.tmp rfl (.tmp rfl .nil)) <| ?_
    exact ⟨by simp_all [costK, costE, tup], (Ext.rf w)⟩
   ·have k_8 : (p == 2) = false := by simpa using h_6
    refine sq <| rg <| vl (beq rfl rfl) rfl <| vl (as_ rfl) rfl <| nl <| nT <| ?_
    refine ceq rfl (fun h_9 => ?_) (fun h_9 => ?_)
    ·have k_10 : (p == 1) = true := by simpa using h_9
     refine sq <| rg <| vl (as_ rfl) rfl <| vl (as_ rfl) rfl <| nl <| nT <| rt <| tB <| tT <| tR (.tmp rfl (.tmp rfl .nil)) <| ?_
     exact ⟨by simp_all [costK, costE, tup], (Ext.rf w)⟩
    ·have k_11 : (p == 1) = false := by simpa using h_9
     refine sk <| nB <| nT <| sq <| rg <| vl (as_ rfl) rfl <| vl (as_ rfl) rfl <| nl <| nT <| rt <| tR (.tmp rfl (.tmp rfl .nil)) <| ?_
     exact ⟨by simp_all [costK, costE, tup], (Ext.rf w)⟩
 ·have k_12 : (p == 0) = false := by simpa using h_1
  refine rg <| vl (beq rfl rfl) rfl <| vl (as_ rfl) rfl <| nl <| nT <| ?_
  refine ceq rfl (fun h_13 => ?_) (fun h_13 => ?_)
  ·have k_14 : (p == 3) = true := by simpa using h_13
   refine sq <| rg <| vl (as_ rfl) rfl <| vl (as_ rfl) rfl <| nl <| nT <| rt <| tB <| tT <| tR (.tmp rfl (.tmp rfl .nil)) <| ?_
   exact ⟨by simp_all [costK, costE, tup], (Ext.rf w)⟩
  ·have k_15 : (p == 3) = false := by simpa using h_13
   refine sq <| rg <| vl (beq rfl rfl) rfl <| vl (as_ rfl) rfl <| nl <| nT <| ?_
   refine ceq rfl (fun h_16 => ?_) (fun h_16 => ?_)
   ·have k_17 : (p == 2) = true := by simpa using h_16
    refine sq <| rg <| vl (as_ rfl) rfl <| vl (as_ rfl) rfl <| nl <| nT <| rt <| tB <| tT <| tR (.tmp rfl (.tmp rfl .nil)) <| ?_
    exact ⟨by simp_all [costK, costE, tup], (Ext.rf w)⟩
   ·have k_18 : (p == 2) = false := by simpa using h_16
    refine sq <| rg <| vl (beq rfl rfl) rfl <| vl (as_ rfl) rfl <| nl <| nT <| ?_
    refine ceq rfl (fun h_19 => ?_) (fun h_19 => ?_)
    ·have k_20 : (p == 1) = true := by simpa using h_19
     refine sq <| rg <| vl (as_ rfl) rfl <| vl (as_ rfl) rfl <| nl <| nT <| rt <| tB <| tT <| tR (.tmp rfl (.tmp rfl .nil)) <| ?_
     exact ⟨by simp_all [costK, costE, tup], (Ext.rf w)⟩
    ·have k_21 : (p == 1) = false := by simpa using h_19
     refine sk <| nB <| nT <| sq <| rg <| vl (as_ rfl) rfl <| vl (as_ rfl) rfl <| nl <| nT <| rt <| tR (.tmp rfl (.tmp rfl .nil)) <| ?_
     exact ⟨by simp_all [costK, costE, tup], (Ext.rf w)⟩
end
section
open Go.RowKit
theorem Fld9_el_S_int : ElT Try.prog repI 22 3 8 := ElT.mk_ (z := .int .i64 0) (k := 1) Try.underlying22 info_int rfl rfl (by decide) (fun j u h => raw0I j u h)
def besC (f : Fld) (c : Cel) : List Cel := (sidesC c).filter f.isIn
def besI (f : Fld) (c : Cel) : List Int := (besC f c).map fun d => d.y * f.wide + d.x
theorem in_iff {f : Fld} {c : Cel} : f.isIn c = true ↔ 0 ≤ c.x ∧ c.x < f.wide ∧ 0 ≤ c.y ∧ c.y < f.high := by
 unfold Fld.isIn inB; simp only [Bool.and_eq_true, decide_eq_true_eq]; omega
theorem bes_eq {f : Fld} {c : Cel} (hc : f.isIn c = true) : besI f c = (if 0 < c.y then [(c.y * f.wide + c.x) - f.wide] else []) ++ ((if 0 < c.x then [(c.y * f.wide + c.x) - 1] else []) ++ ((if c.x < f.wide - 1 then [(c.y * f.wide + c.x) + 1] else []) ++ (if c.y < f.high - 1 then [(c.y * f.wide + c.x) + f.wide] else []))) := by
 obtain ⟨a1, a2, a3, a4⟩ := in_iff.1 hc
 have g : ∀ (d : Cel) (v : Int) (b : Prop) [Decidable b], (f.isIn d = true ↔ b) → d.y * f.wide + d.x = v → ∀ r : List Cel, ((d :: r).filter f.isIn).map (fun d => d.y * f.wide + d.x) = (if b then [v] else []) ++ (r.filter f.isIn).map fun d => d.y * f.wide + d.x := by
  intro d v b _ hb hv r
  rw [List.filter_cons]
  by_cases h : b
  ·rw [if_pos (hb.2 h), if_pos h, List.map_cons, hv]; rfl
  ·have : ¬ f.isIn d = true := fun e => h (hb.1 e)
   rw [if_neg this, if_neg h]; rfl
 unfold besI besC sidesC
 rw [g ⟨c.x, c.y - 1⟩ ((c.y * f.wide + c.x) - f.wide) (0 < c.y) (by rw [in_iff]; dsimp only; omega) (by dsimp only; rw [Int.sub_mul]; omega),
  g ⟨c.x - 1, c.y⟩ ((c.y * f.wide + c.x) - 1) (0 < c.x) (by rw [in_iff]; dsimp only; omega) (by dsimp only; omega),
  g ⟨c.x + 1, c.y⟩ ((c.y * f.wide + c.x) + 1) (c.x < f.wide - 1) (by rw [in_iff]; dsimp only; omega) (by dsimp only; omega),
  g ⟨c.x, c.y + 1⟩ ((c.y * f.wide + c.x) + f.wide) (c.y < f.high - 1) (by rw [in_iff]; dsimp only; omega) (by dsimp only; rw [Int.add_mul]; omega)]
 simp
theorem idx_xy {f : Fld} {c : Cel} (hc : f.isIn c = true) : (c.y * f.wide + c.x) % f.wide = c.x ∧ (c.y * f.wide + c.x) / f.wide = c.y := by
 obtain ⟨a1, a2, a3, a4⟩ := in_iff.1 hc
 constructor
 ·rw [Int.add_comm, Int.add_mul_emod_self_right, Int.emod_eq_of_lt a1 a2]
 ·rw [Int.add_comm, Int.add_mul_ediv_right _ _ (by omega), Int.ediv_eq_zero_of_lt a1 a2]; omega
theorem beside_any (f : Fld) (c : Cel) (p : Int) (P : Option Addr) (pc : Nat) (w : World) (hf : f.chk = 0) (hin : f.isIn c = true) (hp : p = c.y * f.wide + c.x) :
  Calls Try.prog 37 #[.agg #[.int .i64 f.wide, .int .i64 f.high, .slice P f.places.length pc], .int .i64 p] w (fun e w' => ∃ A k, e = .returned (.slice A (besI f c).length k) ∧ repI.SOwn 3 8 w' w.heap.size (Rep.blkOf A) A k (besI f c) ∧ Ext w w') := by
 obtain ⟨hxx, hyy⟩ := idx_xy hin
 rw [← hp] at hxx hyy
 obtain ⟨g1, g2, g3, g4, g5, g6⟩ := Fld.good hf
 obtain ⟨i1, i2, i3, i4, i5, i6⟩ := Fld.idx hf hin
 have hl16 := Fld.len_le hf
 have hp0 : 0 ≤ p := by omega
 have hp1 : p < 1600 := by omega
 refine calls_W (n := 55) Try.func37 rfl rfl rfl ?_
 refine sq <| rg <| bx rfl rfl rfl rfl fun w_1 b_2 x_3 l_4 B_5 => ?_
 have q_6 := x_3.size
 have z_1 := Ext.tr (Ext.rf w) x_3
 have q_7 := B_5.lt
 refine vl (as_ rfl) rfl <| nl <| nT <| sq <| rg <| vl (as_ rfl) rfl <| nl <| nT <| sq <| ?_
 refine rd [(2, 0), (6, 0)] [0, 1, 2, 3, 4, 5, 6, 7, 8, 9] (by kernel_rfl) (by kernel_rfl) ?_
 refine fw rfl rfl (fun _ => mv rfl) rfl <| fw rfl rfl (fun _ => fa eF0 rfl) rfl <| fq rfl rfl (fun _ x => ld rfl ((B_5.later x).one eF1 rfl)) rfl <| fw rfl rfl (fun _ => bre rfl rfl (by omega) (by omega)) rfl <| fw rfl rfl (fun _ => mv rfl) rfl <| fw rfl rfl (fun _ => fa eF0 rfl) rfl <| fq rfl rfl (fun _ x => ld rfl ((B_5.later x).one eF1 rfl)) rfl <| fw rfl rfl (fun _ => bqu rfl rfl (by omega) (by omega) (quI (by omega) (by omega) (by omega))) rfl <| fw rfl rfl (fun _ => as_ rfl) rfl <| fw rfl rfl (fun _ => as_ rfl) rfl <| fn fun w_8 x_9 => ?_
 have q_10 := x_9.size
 have z_8 := Ext.tr z_1 x_9
 refine nT <| sq <| sq <| rg <| vl (mv rfl) rfl <| vl (bgt rfl rfl) rfl <| nl <| nT <| ?_
 refine clt rfl (fun h_11 => ?_) (fun h_11 => ?_)
 ·refine rg <| vl (mv rfl) rfl <| vl (mv rfl) rfl <| vl (fa eF0 rfl) rfl <| ?_
  have B_5 := B_5.later x_9
  refine vl (ld rfl (B_5.one eF1 rfl)) rfl <| vl (bsu rfl rfl (inI (by omega))) rfl <| bs (e := 3) (cs := [.int .i64 (p - f.wide)]) rfl (fun _ => by kernel_rfl) rfl fun w_12 b_13 x_14 l_15 B_16 => ?_
  have q_17 := x_14.size
  have z_12 := Ext.tr z_8 x_14
  have q_18 := B_16.lt
  have O_19 : repI.SOwn 3 8 w_12 w.heap.size (Rep.blkOf none) none 0 ([] : List Int) := Rep.SOwn.nil _
  refine ap Fld9_el_S_int Rep.flat_bare O_19 (Blk.has1 (R := repI) (by_ := 8) (q := p - f.wide) B_16 ⟨rfl, okI_iff.2 (by omega)⟩ (by decide)) rfl rfl (by simp) (by simp) z_12.size rfl fun w_20 A_21 c_22 m_23 O_24 g_25 n_26 => ?_
  have q_27 := m_23.size
  have z_20 := Ext.mod z_12 m_23 (fun q hq => (O_19.lt q hq).1)
  have u_28 := fun q hq => (O_24.lt q hq).2
  have q_29 := m_23.size
  refine vl (as_ rfl) rfl <| nl <| nT <| sq <| sq <| rg <| vl (mv rfl) rfl <| vl (bgt rfl rfl) rfl <| nl <| nT <| ?_
  refine clt rfl (fun h_30 => ?_) (fun h_30 => ?_)
  ·refine rg <| vl (mv rfl) rfl <| vl (mv rfl) rfl <| vl (bsu rfl rfl (inI (by omega))) rfl <| bs (e := 3) (cs := [.int .i64 (p - 1)]) rfl (fun _ => by kernel_rfl) rfl fun w_31 b_32 x_33 l_34 B_35 => ?_
   have q_36 := x_33.size
   have z_31 := Ext.tr z_20 x_33
   have q_37 := B_35.lt
   have O_24 := O_24.later x_33
   refine ap Fld9_el_S_int Rep.flat_bare O_24 (Blk.has1 (R := repI) (by_ := 8) (q := p - 1) B_35 ⟨rfl, okI_iff.2 (by omega)⟩ (by decide)) rfl rfl (by simp) (by simp) z_31.size rfl fun w_38 A_39 c_40 m_41 O_42 g_43 n_44 => ?_
   have q_45 := m_41.size
   have z_38 := Ext.mod z_31 m_41 (fun q hq => (O_24.lt q hq).1)
   have u_46 := fun q hq => (O_42.lt q hq).2
   have q_47 := m_41.size
   refine vl (as_ rfl) rfl <| nl <| nT <| sq <| sq <| rg <| vl (mv rfl) rfl <| vl (fa eF0 rfl) rfl <| ?_
   have B_5 := B_5.later x_14
   have B_5 := B_5.mod m_23 (by simp [Rep.blkOf])
   have B_5 := B_5.later x_33
   have d_48 : ∀ q ∈ Rep.blkOf A_21, q = b_2 → False := fun q hq hb => by (exact Or.elim (g_25 q hq) (fun k_49 => by (simp [Rep.blkOf] at k_49)) (fun k_49 => by omega))
   have B_5 := B_5.mod m_41 (fun hq => d_48 _ hq rfl)
   refine vl (ld rfl (B_5.one eF1 rfl)) rfl <| vl (bsu rfl rfl (inI (by omega))) rfl <| vl (blt rfl rfl) rfl <| nl <| nT <| ?_
   refine clt rfl (fun h_50 => ?_) (fun h_50 => ?_)
   ·refine rg <| vl (mv rfl) rfl <| vl (mv rfl) rfl <| vl (bad rfl rfl (inI (by omega))) rfl <| bs (e := 3) (cs := [.int .i64 (p + 1)]) rfl (fun _ => by kernel_rfl) rfl fun w_51 b_52 x_53 l_54 B_55 => ?_
    have q_56 := x_53.size
    have z_51 := Ext.tr z_38 x_53
    have q_57 := B_55.lt
    have O_42 := O_42.later x_53
    refine ap Fld9_el_S_int Rep.flat_bare O_42 (Blk.has1 (R := repI) (by_ := 8) (q := p + 1) B_55 ⟨rfl, okI_iff.2 (by omega)⟩ (by decide)) rfl rfl (by simp) (by simp) z_51.size rfl fun w_58 A_59 c_60 m_61 O_62 g_63 n_64 => ?_
    have q_65 := m_61.size
    have z_58 := Ext.mod z_51 m_61 (fun q hq => (O_42.lt q hq).1)
    have u_66 := fun q hq => (O_62.lt q hq).2
    have q_67 := m_61.size
    refine vl (as_ rfl) rfl <| nl <| nT <| sq <| sq <| rg <| vl (mv rfl) rfl <| vl (fa eF2 rfl) rfl <| ?_
    have B_5 := B_5.later x_53
    have d_68 : ∀ q ∈ Rep.blkOf A_39, q = b_2 → False := fun q hq hb => by (exact Or.elim (g_43 q hq) (fun k_69 => by (exact d_48 q k_69 hb)) (fun k_69 => by omega))
    have B_5 := B_5.mod m_61 (fun hq => d_68 _ hq rfl)
    refine vl (ld rfl (B_5.one eF1 rfl)) rfl <| vl (bsu rfl rfl (inI (by omega))) rfl <| vl (blt rfl rfl) rfl <| nl <| nT <| ?_
    refine clt rfl (fun h_70 => ?_) (fun h_70 => ?_)
    ·refine rg <| vl (mv rfl) rfl <| vl (mv rfl) rfl <| vl (fa eF0 rfl) rfl <| vl (ld rfl (B_5.one eF1 rfl)) rfl <| vl (bad rfl rfl (inI (by omega))) rfl <| bs (e := 3) (cs := [.int .i64 (p + f.wide)]) rfl (fun _ => by kernel_rfl) rfl fun w_71 b_72 x_73 l_74 B_75 => ?_
     have q_76 := x_73.size
     have z_71 := Ext.tr z_58 x_73
     have q_77 := B_75.lt
     have O_62 := O_62.later x_73
     refine ap Fld9_el_S_int Rep.flat_bare O_62 (Blk.has1 (R := repI) (by_ := 8) (q := p + f.wide) B_75 ⟨rfl, okI_iff.2 (by omega)⟩ (by decide)) rfl rfl (by simp) (by simp) z_71.size rfl fun w_78 A_79 c_80 m_81 O_82 g_83 n_84 => ?_
     have q_85 := m_81.size
     have z_78 := Ext.mod z_71 m_81 (fun q hq => (O_62.lt q hq).1)
     have u_86 := fun q hq => (O_82.lt q hq).2
     have q_87 := m_81.size
     refine vl (as_ rfl) rfl <| nl <| nT <| sq <| rg <| vl (mv rfl) rfl <| vl (as_ rfl) rfl <| nl <| nT <| rt <| tR (.tmp rfl .nil) <| ?_
     have hb := bes_eq hin
     rw [← hp] at hb
     have he : besI f c = ([] : List Int) ++ [p - f.wide] ++ [p - 1] ++ [p + 1] ++ [p + f.wide] := by rw [hb]; rw [if_pos (by omega)]; rw [if_pos (by omega)]; rw [if_pos (by omega)]; rw [if_pos (by omega)]; simp
     exact ⟨A_79, c_80, by rw [he]; rfl, by rw [he]; exact O_82, z_78⟩
    ·refine sk <| nT <| sq <| rg <| vl (mv rfl) rfl <| vl (as_ rfl) rfl <| nl <| nT <| rt <| tR (.tmp rfl .nil) <| ?_
     have hb := bes_eq hin
     rw [← hp] at hb
     have he : besI f c = ([] : List Int) ++ [p - f.wide] ++ [p - 1] ++ [p + 1] := by rw [hb]; rw [if_pos (by omega)]; rw [if_pos (by omega)]; rw [if_pos (by omega)]; rw [if_neg (by omega)]; simp
     exact ⟨A_59, c_60, by rw [he]; rfl, by rw [he]; exact O_62, z_58⟩
   ·refine sk <| nT <| sq <| sq <| rg <| vl (mv rfl) rfl <| vl (fa eF2 rfl) rfl <| vl (ld rfl (B_5.one eF1 rfl)) rfl <| vl (bsu rfl rfl (inI (by omega))) rfl <| vl (blt rfl rfl) rfl <| nl <| nT <| ?_
    refine clt rfl (fun h_88 => ?_) (fun h_88 => ?_)
    ·refine rg <| vl (mv rfl) rfl <| vl (mv rfl) rfl <| vl (fa eF0 rfl) rfl <| vl (ld rfl (B_5.one eF1 rfl)) rfl <| vl (bad rfl rfl (inI (by omega))) rfl <| bs (e := 3) (cs := [.int .i64 (p + f.wide)]) rfl (fun _ => by kernel_rfl) rfl fun w_89 b_90 x_91 l_92 B_93 => ?_
     have q_94 := x_91.size
     have z_89 := Ext.tr z_38 x_91
     have q_95 := B_93.lt
     have O_42 := O_42.later x_91
     refine ap Fld9_el_S_int Rep.flat_bare O_42 (Blk.has1 (R := repI) (by_ := 8) (q := p + f.wide) B_93 ⟨rfl, okI_iff.2 (by omega)⟩ (by decide)) rfl rfl (by simp) (by simp) z_89.size rfl fun w_96 A_97 c_98 m_99 O_100 g_101 n_102 => ?_
     have q_103 := m_99.size
     have z_96 := Ext.mod z_89 m_99 (fun q hq => (O_42.lt q hq).1)
     have u_104 := fun q hq => (O_100.lt q hq).2
     have q_105 := m_99.size
     refine vl (as_ rfl) rfl <| nl <| nT <| sq <| rg <| vl (mv rfl) rfl <| vl (as_ rfl) rfl <| nl <| nT <| rt <| tR (.tmp rfl .nil) <| ?_
     have hb := bes_eq hin
     rw [← hp] at hb
     have he : besI f c = ([] : List Int) ++ [p - f.wide] ++ [p - 1] ++ [p + f.wide] := by rw [hb]; rw [if_pos (by omega)]; rw [if_pos (by omega)]; rw [if_neg (by omega)]; rw [if_pos (by omega)]; simp
     exact ⟨A_97, c_98, by rw [he]; rfl, by rw [he]; exact O_100, z_96⟩
    ·refine sk <| nT <| sq <| rg <| vl (mv rfl) rfl <| vl (as_ rfl) rfl <| nl <| nT <| rt <| tR (.tmp rfl .nil) <| ?_
     have hb := bes_eq hin
     rw [← hp] at hb
     have he : besI f c = ([] : List Int) ++ [p - f.wide] ++ [p - 1] := by rw [hb]; rw [if_pos (by omega)]; rw [if_pos (by omega)]; rw [if_neg (by omega)]; rw [if_neg (by omega)]; simp
     exact ⟨A_39, c_40, by rw [he]; rfl, by rw [he]; exact O_42, z_38⟩
  ·refine sk <| nT <| sq <| sq <| rg <| vl (mv rfl) rfl <| vl (fa eF0 rfl) rfl <| ?_
   have B_5 := B_5.later x_14
   have B_5 := B_5.mod m_23 (by simp [Rep.blkOf])
   refine vl (ld rfl (B_5.one eF1 rfl)) rfl <| vl (bsu rfl rfl (inI (by omega))) rfl <| vl (blt rfl rfl) rfl <| nl <| nT <| ?_
   refine clt rfl (fun h_106 => ?_) (fun h_106 => ?_)
   ·refine rg <| vl (mv rfl) rfl <| vl (mv rfl) rfl <| vl (bad rfl rfl (inI (by omega))) rfl <| bs (e := 3) (cs := [.int .i64 (p + 1)]) rfl (fun _ => by kernel_rfl) rfl fun w_107 b_108 x_109 l_110 B_111 => ?_
    have q_112 := x_109.size
    have z_107 := Ext.tr z_20 x_109
    have q_113 := B_111.lt
    have O_24 := O_24.later x_109
    refine ap Fld9_el_S_int Rep.flat_bare O_24 (Blk.has1 (R := repI) (by_ := 8) (q := p + 1) B_111 ⟨rfl, okI_iff.2 (by omega)⟩ (by decide)) rfl rfl (by simp) (by simp) z_107.size rfl fun w_114 A_115 c_116 m_117 O_118 g_119 n_120 => ?_
    have q_121 := m_117.size
    have z_114 := Ext.mod z_107 m_117 (fun q hq => (O_24.lt q hq).1)
    have u_122 := fun q hq => (O_118.lt q hq).2
    have q_123 := m_117.size
    refine vl (as_ rfl) rfl <| nl <| nT <| sq <| sq <| rg <| vl (mv rfl) rfl <| vl (fa eF2 rfl) rfl <| ?_
    have B_5 := B_5.later x_109
    have d_124 : ∀ q ∈ Rep.blkOf A_21, q = b_2 → False := fun q hq hb => by (exact Or.elim (g_25 q hq) (fun k_125 => by (simp [Rep.blkOf] at k_125)) (fun k_125 => by omega))
    have B_5 := B_5.mod m_117 (fun hq => d_124 _ hq rfl)
    refine vl (ld rfl (B_5.one eF1 rfl)) rfl <| vl (bsu rfl rfl (inI (by omega))) rfl <| vl (blt rfl rfl) rfl <| nl <| nT <| ?_
    refine clt rfl (fun h_126 => ?_) (fun h_126 => ?_)
    ·refine rg <| vl (mv rfl) rfl <| vl (mv rfl) rfl <| vl (fa eF0 rfl) rfl <| vl (ld rfl (B_5.one eF1 rfl)) rfl <| vl (bad rfl rfl (inI (by omega))) rfl <| bs (e := 3) (cs := [.int .i64 (p + f.wide)]) rfl (fun _ => by kernel_rfl) rfl fun w_127 b_128 x_129 l_130 B_131 => ?_
     have q_132 := x_129.size
     have z_127 := Ext.tr z_114 x_129
     have q_133 := B_131.lt
     have O_118 := O_118.later x_129
     refine ap Fld9_el_S_int Rep.flat_bare O_118 (Blk.has1 (R := repI) (by_ := 8) (q := p + f.wide) B_131 ⟨rfl, okI_iff.2 (by omega)⟩ (by decide)) rfl rfl (by simp) (by simp) z_127.size rfl fun w_134 A_135 c_136 m_137 O_138 g_139 n_140 => ?_
     have q_141 := m_137.size
     have z_134 := Ext.mod z_127 m_137 (fun q hq => (O_118.lt q hq).1)
     have u_142 := fun q hq => (O_138.lt q hq).2
     have q_143 := m_137.size
     refine vl (as_ rfl) rfl <| nl <| nT <| sq <| rg <| vl (mv rfl) rfl <| vl (as_ rfl) rfl <| nl <| nT <| rt <| tR (.tmp rfl .nil) <| ?_
     have hb := bes_eq hin
     rw [← hp] at hb
     have he : besI f c = ([] : List Int) ++ [p - f.wide] ++ [p + 1] ++ [p + f.wide] := by rw [hb]; rw [if_pos (by omega)]; rw [if_neg (by omega)]; rw [if_pos (by omega)]; rw [if_pos (by omega)]; simp
     exact ⟨A_135, c_136, by rw [he]; rfl, by rw [he]; exact O_138, z_134⟩
    ·refine sk <| nT <| sq <| rg <| vl (mv rfl) rfl <| vl (as_ rfl) rfl <| nl <| nT <| rt <| tR (.tmp rfl .nil) <| ?_
     have hb := bes_eq hin
     rw [← hp] at hb
     have he : besI f c = ([] : List Int) ++ [p - f.wide] ++ [p + 1] := by rw [hb]; rw [if_pos (by omega)]; rw [if_neg (by omega)]; rw [if_pos (by omega)]; rw [if_neg (by omega)]; simp
     exact ⟨A_115, c_116, by rw [he]; rfl, by rw [he]; exact O_118, z_114⟩
   ·refine sk <| nT <| sq <| sq <| rg <| vl (mv rfl) rfl <| vl (fa eF2 rfl) rfl <| vl (ld rfl (B_5.one eF1 rfl)) rfl <| vl (bsu rfl rfl (inI (by omega))) rfl <| vl (blt rfl rfl) rfl <| nl <| nT <| ?_
    refine clt rfl (fun h_144 => ?_) (fun h_144 => ?_)
    ·refine rg <| vl (mv rfl) rfl <| vl (mv rfl) rfl <| vl (fa eF0 rfl) rfl <| vl (ld rfl (B_5.one eF1 rfl)) rfl <| vl (bad rfl rfl (inI (by omega))) rfl <| bs (e := 3) (cs := [.int .i64 (p + f.wide)]) rfl (fun _ => by kernel_rfl) rfl fun w_145 b_146 x_147 l_148 B_149 => ?_
     have q_150 := x_147.size
     have z_145 := Ext.tr z_20 x_147
     have q_151 := B_149.lt
     have O_24 := O_24.later x_147
     refine ap Fld9_el_S_int Rep.flat_bare O_24 (Blk.has1 (R := repI) (by_ := 8) (q := p + f.wide) B_149 ⟨rfl, okI_iff.2 (by omega)⟩ (by decide)) rfl rfl (by simp) (by simp) z_145.size rfl fun w_152 A_153 c_154 m_155 O_156 g_157 n_158 => ?_
     have q_159 := m_155.size
     have z_152 := Ext.mod z_145 m_155 (fun q hq => (O_24.lt q hq).1)
     have u_160 := fun q hq => (O_156.lt q hq).2
     have q_161 := m_155.size
     refine vl (as_ rfl) rfl <| nl <| nT <| sq <| rg <| vl (mv rfl) rfl <| vl (as_ rfl) rfl <| nl <| nT <| rt <| tR (.tmp rfl .nil) <| ?_
     have hb := bes_eq hin
     rw [← hp] at hb
     have he : besI f c = ([] : List Int) ++ [p - f.wide] ++ [p + f.wide] := by rw [hb]; rw [if_pos (by omega)]; rw [if_neg (by omega)]; rw [if_neg (by omega)]; rw [if_pos (by omega)]; simp
     exact ⟨A_153, c_154, by rw [he]; rfl, by rw [he]; exact O_156, z_152⟩
    ·refine sk <| nT <| sq <| rg <| vl (mv rfl) rfl <| vl (as_ rfl) rfl <| nl <| nT <| rt <| tR (.tmp rfl .nil) <| ?_
     have hb := bes_eq hin
     rw [← hp] at hb
     have he : besI f c = ([] : List Int) ++ [p - f.wide] := by rw [hb]; rw [if_pos (by omega)]; rw [if_neg (by omega)]; rw [if_neg (by omega)]; rw [if_neg (by omega)]; simp
     exact ⟨A_21, c_22, by rw [he]; rfl, by rw [he]; exact O_24, z_20⟩
 ·refine sk <| nT <| sq <| sq <| rg <| vl (mv rfl) rfl <| vl (bgt rfl rfl) rfl <| nl <| nT <| ?_
  refine clt rfl (fun h_162 => ?_) (fun h_162 => ?_)
  ·refine rg <| vl (mv rfl) rfl <| vl (mv rfl) rfl <| vl (bsu rfl rfl (inI (by omega))) rfl <| bs (e := 3) (cs := [.int .i64 (p - 1)]) rfl (fun _ => by kernel_rfl) rfl fun w_163 b_164 x_165 l_166 B_167 => ?_
   have q_168 := x_165.size
   have z_163 := Ext.tr z_8 x_165
   have q_169 := B_167.lt
   have O_170 : repI.SOwn 3 8 w_163 w.heap.size (Rep.blkOf none) none 0 ([] : List Int) := Rep.SOwn.nil _
   refine ap Fld9_el_S_int Rep.flat_bare O_170 (Blk.has1 (R := repI) (by_ := 8) (q := p - 1) B_167 ⟨rfl, okI_iff.2 (by omega)⟩ (by decide)) rfl rfl (by simp) (by simp) z_163.size rfl fun w_171 A_172 c_173 m_174 O_175 g_176 n_177 => ?_
   have q_178 := m_174.size
   have z_171 := Ext.mod z_163 m_174 (fun q hq => (O_170.lt q hq).1)
   have u_179 := fun q hq => (O_175.lt q hq).2
   have q_180 := m_174.size
   refine vl (as_ rfl) rfl <| nl <| nT <| sq <| sq <| rg <| vl (mv rfl) rfl <| vl (fa eF0 rfl) rfl <| ?_
   have B_5 := B_5.later (Ext.tr x_9 x_165)
   have B_5 := B_5.mod m_174 (by simp [Rep.blkOf])
   refine vl (ld rfl (B_5.one eF1 rfl)) rfl <| vl (bsu rfl rfl (inI (by omega))) rfl <| vl (blt rfl rfl) rfl <| nl <| nT <| ?_
   refine clt rfl (fun h_181 => ?_) (fun h_181 => ?_)
   ·refine rg <| vl (mv rfl) rfl <| vl (mv rfl) rfl <| vl (bad rfl rfl (inI (by omega))) rfl <| bs (e := 3) (cs := [.int .i64 (p + 1)]) rfl (fun _ => by kernel_rfl) rfl fun w_182 b_183 x_184 l_185 B_186 => ?_
    have q_187 := x_184.size
    have z_182 := Ext.tr z_171 x_184
    have q_188 := B_186.lt
    have O_175 := O_175.later x_184
    refine ap Fld9_el_S_int Rep.flat_bare O_175 (Blk.has1 (R := repI) (by_ := 8) (q := p + 1) B_186 ⟨rfl, okI_iff.2 (by omega)⟩ (by decide)) rfl rfl (by simp) (by simp) z_182.size rfl fun w_189 A_190 c_191 m_192 O_193 g_194 n_195 => ?_
    have q_196 := m_192.size
    have z_189 := Ext.mod z_182 m_192 (fun q hq => (O_175.lt q hq).1)
    have u_197 := fun q hq => (O_193.lt q hq).2
    have q_198 := m_192.size
    refine vl (as_ rfl) rfl <| nl <| nT <| sq <| sq <| rg <| vl (mv rfl) rfl <| vl (fa eF2 rfl) rfl <| ?_
    have B_5 := B_5.later x_184
    have d_199 : ∀ q ∈ Rep.blkOf A_172, q = b_2 → False := fun q hq hb => by (exact Or.elim (g_176 q hq) (fun k_200 => by (simp [Rep.blkOf] at k_200)) (fun k_200 => by omega))
    have B_5 := B_5.mod m_192 (fun hq => d_199 _ hq rfl)
    refine vl (ld rfl (B_5.one eF1 rfl)) rfl <| vl (bsu rfl rfl (inI (by omega))) rfl <| vl (blt rfl rfl) rfl <| nl <| nT <| ?_
    refine clt rfl (fun h_201 => ?_) (fun h_201 => ?_)
    ·refine rg <| vl (mv rfl) rfl <| vl (mv rfl) rfl <| vl (fa eF0 rfl) rfl <| vl (ld rfl (B_5.one eF1 rfl)) rfl <| vl (bad rfl rfl (inI (by omega))) rfl <| bs (e := 3) (cs := [.int .i64 (p + f.wide)]) rfl (fun _ => by kernel_rfl) rfl fun w_202 b_203 x_204 l_205 B_206 => ?_
     have q_207 := x_204.size
     have z_202 := Ext.tr z_189 x_204
     have q_208 := B_206.lt
     have O_193 := O_193.later x_204
     refine ap Fld9_el_S_int Rep.flat_bare O_193 (Blk.has1 (R := repI) (by_ := 8) (q := p + f.wide) B_206 ⟨rfl, okI_iff.2 (by omega)⟩ (by decide)) rfl rfl (by simp) (by simp) z_202.size rfl fun w_209 A_210 c_211 m_212 O_213 g_214 n_215 => ?_
     have q_216 := m_212.size
     have z_209 := Ext.mod z_202 m_212 (fun q hq => (O_193.lt q hq).1)
     have u_217 := fun q hq => (O_213.lt q hq).2
     have q_218 := m_212.size
     refine vl (as_ rfl) rfl <| nl <| nT <| sq <| rg <| vl (mv rfl) rfl <| vl (as_ rfl) rfl <| nl <| nT <| rt <| tR (.tmp rfl .nil) <| ?_
     have hb := bes_eq hin
     rw [← hp] at hb
     have he : besI f c = ([] : List Int) ++ [p - 1] ++ [p + 1] ++ [p + f.wide] := by rw [hb]; rw [if_neg (by omega)]; rw [if_pos (by omega)]; rw [if_pos (by omega)]; rw [if_pos (by omega)]; simp
     exact ⟨A_210, c_211, by rw [he]; rfl, by rw [he]; exact O_213, z_209⟩
    ·refine sk <| nT <| sq <| rg <| vl (mv rfl) rfl <| vl (as_ rfl) rfl <| nl <| nT <| rt <| tR (.tmp rfl .nil) <| ?_
     have hb := bes_eq hin
     rw [← hp] at hb
     have he : besI f c = ([] : List Int) ++ [p - 1] ++ [p + 1] := by rw [hb]; rw [if_neg (by omega)]; rw [if_pos (by omega)]; rw [if_pos (by omega)]; rw [if_neg (by omega)]; simp
     exact ⟨A_190, c_191, by rw [he]; rfl, by rw [he]; exact O_193, z_189⟩
   ·refine sk <| nT <| sq <| sq <| rg <| vl (mv rfl) rfl <| vl (fa eF2 rfl) rfl <| vl (ld rfl (B_5.one eF1 rfl)) rfl <| vl (bsu rfl rfl (inI (by omega))) rfl <| vl (blt rfl rfl) rfl <| nl <| nT <| ?_
    refine clt rfl (fun h_219 => ?_) (fun h_219 => ?_)
    ·refine rg <| vl (mv rfl) rfl <| vl (mv rfl) rfl <| vl (fa eF0 rfl) rfl <| vl (ld rfl (B_5.one eF1 rfl)) rfl <| vl (bad rfl rfl (inI (by omega))) rfl <| bs (e := 3) (cs := [.int .i64 (p + f.wide)]) rfl (fun _ => by kernel_rfl) rfl fun w_220 b_221 x_222 l_223 B_224 => ?_
     have q_225 := x_222.size
     have z_220 := Ext.tr z_171 x_222
     have q_226 := B_224.lt
     have O_175 := O_175.later x_222
     refine ap Fld9_el_S_int Rep.flat_bare O_175 (Blk.has1 (R := repI) (by_ := 8) (q := p + f.wide) B_224 ⟨rfl, okI_iff.2 (by omega)⟩ (by decide)) rfl rfl (by simp) (by simp) z_220.size rfl fun w_227 A_228 c_229 m_230 O_231 g_232 n_233 => ?_
     have q_234 := m_230.size
     have z_227 := Ext.mod z_220 m_230 (fun q hq => (O_175.lt q hq).1)
     have u_235 := fun q hq => (O_231.lt q hq).2
     have q_236 := m_230.size
     refine vl (as_ rfl) rfl <| nl <| nT <| sq <| rg <| vl (mv rfl) rfl <| vl (as_ rfl) rfl <| nl <| nT <| rt <| tR (.tmp rfl .nil) <| ?_
     have hb := bes_eq hin
     rw [← hp] at hb
     have he : besI f c = ([] : List Int) ++ [p - 1] ++ [p + f.wide] := by rw [hb]; rw [if_neg (by omega)]; rw [if_pos (by omega)]; rw [if_neg (by omega)]; rw [if_pos (by omega)]; simp
     exact ⟨A_228, c_229, by rw [he]; rfl, by rw [he]; exact O_231, z_227⟩
    ·refine sk <| nT <| sq <| rg <| vl (mv rfl) rfl <| vl (as_ rfl) rfl <| nl <| nT <| rt <| tR (.tmp rfl .nil) <| ?_
     have hb := bes_eq hin
     rw [← hp] at hb
     have he : besI f c = ([] : List Int) ++ [p - 1] := by rw [hb]; rw [if_neg (by omega)]; rw [if_pos (by omega)]; rw [if_neg (by omega)]; rw [if_neg (by omega)]; simp
     exact ⟨A_172, c_173, by rw [he]; rfl, by rw [he]; exact O_175, z_171⟩
  ·refine sk <| nT <| sq <| sq <| rg <| vl (mv rfl) rfl <| vl (fa eF0 rfl) rfl <| ?_
   have B_5 := B_5.later x_9
   refine vl (ld rfl (B_5.one eF1 rfl)) rfl <| vl (bsu rfl rfl (inI (by omega))) rfl <| vl (blt rfl rfl) rfl <| nl <| nT <| ?_
   refine clt rfl (fun h_237 => ?_) (fun h_237 => ?_)
   ·refine rg <| vl (mv rfl) rfl <| vl (mv rfl) rfl <| vl (bad rfl rfl (inI (by omega))) rfl <| bs (e := 3) (cs := [.int .i64 (p + 1)]) rfl (fun _ => by kernel_rfl) rfl fun w_238 b_239 x_240 l_241 B_242 => ?_
    have q_243 := x_240.size
    have z_238 := Ext.tr z_8 x_240
    have q_244 := B_242.lt
    have O_245 : repI.SOwn 3 8 w_238 w.heap.size (Rep.blkOf none) none 0 ([] : List Int) := Rep.SOwn.nil _
    refine ap Fld9_el_S_int Rep.flat_bare O_245 (Blk.has1 (R := repI) (by_ := 8) (q := p + 1) B_242 ⟨rfl, okI_iff.2 (by omega)⟩ (by decide)) rfl rfl (by simp) (by simp) z_238.size rfl fun w_246 A_247 c_248 m_249 O_250 g_251 n_252 => ?_
    have q_253 := m_249.size
    have z_246 := Ext.mod z_238 m_249 (fun q hq => (O_245.lt q hq).1)
    have u_254 := fun q hq => (O_250.lt q hq).2
    have q_255 := m_249.size
    refine vl (as_ rfl) rfl <| nl <| nT <| sq <| sq <| rg <| vl (mv rfl) rfl <| vl (fa eF2 rfl) rfl <| ?_
    have B_5 := B_5.later x_240
    have B_5 := B_5.mod m_249 (by simp [Rep.blkOf])
    refine vl (ld rfl (B_5.one eF1 rfl)) rfl <| vl (bsu rfl rfl (inI (by omega))) rfl <| vl (blt rfl rfl) rfl <| nl <| nT <| ?_
    refine clt rfl (fun h_256 => ?_) (fun h_256 => ?_)
    ·refine rg <| vl (mv rfl) rfl <| vl (mv rfl) rfl <| vl (fa eF0 rfl) rfl <| vl (ld rfl (B_5.one eF1 rfl)) rfl <| vl (bad rfl rfl (inI (by omega))) rfl <| bs (e := 3) (cs := [.int .i64 (p + f.wide)]) rfl (fun _ => by kernel_rfl) rfl fun w_257 b_258 x_259 l_260 B_261 => ?_
     have q_262 := x_259.size
     have z_257 := Ext.tr z_246 x_259
     have q_263 := B_261.lt
     have O_250 := O_250.later x_259
     refine ap Fld9_el_S_int Rep.flat_bare O_250 (Blk.has1 (R := repI) (by_ := 8) (q := p + f.wide) B_261 ⟨rfl, okI_iff.2 (by omega)⟩ (by decide)) rfl rfl (by simp) (by simp) z_257.size rfl fun w_264 A_265 c_266 m_267 O_268 g_269 n_270 => ?_
     have q_271 := m_267.size
     have z_264 := Ext.mod z_257 m_267 (fun q hq => (O_250.lt q hq).1)
     have u_272 := fun q hq => (O_268.lt q hq).2
     have q_273 := m_267.size
     refine vl (as_ rfl) rfl <| nl <| nT <| sq <| rg <| vl (mv rfl) rfl <| vl (as_ rfl) rfl <| nl <| nT <| rt <| tR (.tmp rfl .nil) <| ?_
     have hb := bes_eq hin
     rw [← hp] at hb
     have he : besI f c = ([] : List Int) ++ [p + 1] ++ [p + f.wide] := by rw [hb]; rw [if_neg (by omega)]; rw [if_neg (by omega)]; rw [if_pos (by omega)]; rw [if_pos (by omega)]; simp
     exact ⟨A_265, c_266, by rw [he]; rfl, by rw [he]; exact O_268, z_264⟩
    ·refine sk <| nT <| sq <| rg <| vl (mv rfl) rfl <| vl (as_ rfl) rfl <| nl <| nT <| rt <| tR (.tmp rfl .nil) <| ?_
     have hb := bes_eq hin
     rw [← hp] at hb
     have he : besI f c = ([] : List Int) ++ [p + 1] := by rw [hb]; rw [if_neg (by omega)]; rw [if_neg (by omega)]; rw [if_pos (by omega)]; rw [if_neg (by omega)]; simp
     exact ⟨A_247, c_248, by rw [he]; rfl, by rw [he]; exact O_250, z_246⟩
   ·refine sk <| nT <| sq <| sq <| rg <| vl (mv rfl) rfl <| vl (fa eF2 rfl) rfl <| vl (ld rfl (B_5.one eF1 rfl)) rfl <| vl (bsu rfl rfl (inI (by omega))) rfl <| vl (blt rfl rfl) rfl <| nl <| nT <| ?_
    refine clt rfl (fun h_274 => ?_) (fun h_274 => ?_)
    ·refine rg <| vl (mv rfl) rfl <| vl (mv rfl) rfl <| vl (fa eF0 rfl) rfl <| vl (ld rfl (B_5.one eF1 rfl)) rfl <| vl (bad rfl rfl (inI (by omega))) rfl <| bs (e := 3) (cs := [.int .i64 (p + f.wide)]) rfl (fun _ => by kernel_rfl) rfl fun w_275 b_276 x_277 l_278 B_279 => ?_
     have q_280 := x_277.size
     have z_275 := Ext.tr z_8 x_277
     have q_281 := B_279.lt
     have O_282 : repI.SOwn 3 8 w_275 w.heap.size (Rep.blkOf none) none 0 ([] : List Int) := Rep.SOwn.nil _
     refine ap Fld9_el_S_int Rep.flat_bare O_282 (Blk.has1 (R := repI) (by_ := 8) (q := p + f.wide) B_279 ⟨rfl, okI_iff.2 (by omega)⟩ (by decide)) rfl rfl (by simp) (by simp) z_275.size rfl fun w_283 A_284 c_285 m_286 O_287 g_288 n_289 => ?_
     have q_290 := m_286.size
     have z_283 := Ext.mod z_275 m_286 (fun q hq => (O_282.lt q hq).1)
     have u_291 := fun q hq => (O_287.lt q hq).2
     have q_292 := m_286.size
     refine vl (as_ rfl) rfl <| nl <| nT <| sq <| rg <| vl (mv rfl) rfl <| vl (as_ rfl) rfl <| nl <| nT <| rt <| tR (.tmp rfl .nil) <| ?_
     have hb := bes_eq hin
     rw [← hp] at hb
     have he : besI f c = ([] : List Int) ++ [p + f.wide] := by rw [hb]; rw [if_neg (by omega)]; rw [if_neg (by omega)]; rw [if_neg (by omega)]; rw [if_pos (by omega)]; simp
     exact ⟨A_284, c_285, by rw [he]; rfl, by rw [he]; exact O_287, z_283⟩
    ·refine sk <| nT <| sq <| rg <| vl (mv rfl) rfl <| vl (as_ rfl) rfl <| nl <| nT <| rt <| tR (.tmp rfl .nil) <| ?_
     have hb := bes_eq hin
     rw [← hp] at hb
     have he : besI f c = ([] : List Int) := by rw [hb]; rw [if_neg (by omega)]; rw [if_neg (by omega)]; rw [if_neg (by omega)]; rw [if_neg (by omega)]; simp
     exact ⟨none, 0, by rw [he]; rfl, by rw [he]; exact Rep.SOwn.nil _, z_8⟩
end
section
open Go.RowKit
structure Itm where
 place : Int
 far : Int
 deriving DecidableEq, Inhabited
namespace Itm
def cells (a : Itm) : List Value := [.int .i64 (a.place), .int .i64 (a.far)]
def ok (a : Itm) : Prop := (Lit.int .i64 a.place).wf = true ∧ (Lit.int .i64 a.far).wf = true
def raw (j : Nat) (u : Value) : Prop := match j with
 | 0 => ∃ n : Int, u = .int .i64 n
 | 1 => ∃ n : Int, u = .int .i64 n
 | _ => True
theorem cells_raw (a : Itm) : ∀ (j : Nat) u, a.cells[j]? = some u → raw j u := by
 intro j u hu
 match j, hu with
 | 0, hu => exact ⟨_, (Option.some.inj hu).symm⟩
 | 1, hu => exact ⟨_, (Option.some.inj hu).symm⟩
 | j + 2, hu => exact trivial
theorem cells_one (a : Itm) : ∀ u ∈ a.cells, u.oneCell' = true := by
 intro u hu
 unfold cells at hu
 simp only [List.mem_cons, List.not_mem_nil, or_false] at hu
 rcases hu with rfl | rfl <;> rfl
def rep : Rep Itm := Rep.flat 2 cells ok raw (fun _ => rfl) cells_one cells_raw
theorem plain : rep.Plain := Rep.flat_plain
def zero : Value := .agg #[.int .i64 0, .int .i64 0]
theorem zero_raw : ∀ (j : Nat) u, zero.cells[j]? = some u → rep.raw j u := by
 intro j u hu
 have hu : (#[(.int .i64 0 : Value), (.int .i64 0 : Value)] : Array Value)[j]? = some u := hu
 match j, hu with
 | 0, hu => exact ⟨_, (Option.some.inj hu).symm⟩
 | 1, hu => exact ⟨_, (Option.some.inj hu).symm⟩
 | j + 2, hu => cases hu
theorem info : (Try.prog.info? 75).map (fun i => (i.zero, i.size, i.bytes)) = some (some zero, 2, 16) := by kernel_rfl
theorem at_ {by_ : Nat} {w : World} {A : Option Addr} {c : Nat} {l : List Itm} (h : rep.SHas by_ w A c l) (h0 : 0 < l.length) :
  ∃ b o, A = some ⟨b, o, none⟩ ∧ ∀ (i : Nat) (a : Itm), l[i]? = some a → w.cell? ⟨b, o + i * 2, none⟩ = some (.int .i64 (a.place)) ∧ w.cell? ⟨b, o + i * 2 + 1, none⟩ = some (.int .i64 (a.far)) := by
 obtain ⟨b, o, e, hc⟩ := h.at_ h0
 refine ⟨b, o, e, fun i a ha => ?_⟩
 obtain ⟨es, ⟨rfl, _⟩, hj⟩ := hc i a ha
 exact ⟨hj 0 _ rfl, hj 1 _ rfl⟩
def sh : Sh := (.cons (.int .i64) (.cons (.int .i64) .nil))
theorem opens (w : World) (cs : List Value) (h : sh.Ok w cs) : ∃ a, rep.has w cs a := by
 obtain ⟨_, _, rfl, _, _, ⟨x0, rfl, k0⟩, ⟨_, _, rfl, _, _, ⟨x1, rfl, k1⟩, rfl⟩⟩ := h
 exact ⟨⟨x0, x1⟩, rfl, k0, k1⟩
end Itm
end
section
open Go.RowKit
section
variable {β : Type} [Inhabited β] {cel : β → Cel} {fa ky : β → Int} {f : Fld} {S : List Cel} {far : List Int} {l : List β} {x0 : Cel} {rest : List Cel}
theorem SI.fend (s : SI cel fa ky f (fun _ => 0) (fun c => c ∈ S) far [] x0 []) : FEnd f S far where
 len := s.len
 neg := s.inv.neg
 dist := s.inv.dist
 all := fun c d r => s.inv.all (Fld.okZ f) r
 gr := s.gr
 bd := fun c => by have := s.bd c; omega
theorem bes_adj (f : Fld) (c : Cel) : (besC f c).filter f.ground = f.adj c := by
 unfold besC Fld.adj
 rw [List.filter_filter]
 congr 1
 funext d
 cases h : f.ground d with
 | true => rw [Fld.ground_in h]; rfl
 | false => rfl
theorem drop_filter {α : Type} [Inhabited α] {p : α → Bool} {L : List α} {j : Nat} (hj : j < L.length) : (L.drop j).filter p = if p (L.getD j default) then L.getD j default :: (L.drop (j + 1)).filter p else (L.drop (j + 1)).filter p := by
 rw [List.drop_eq_getElem_cons hj, List.filter_cons, getD_dd hj]
end
end
end Go.Proofs.Ytmpkaphcpaigdaa
