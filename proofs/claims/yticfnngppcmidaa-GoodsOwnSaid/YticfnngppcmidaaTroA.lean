/-
  troop: is a cell ground? The field's Check and At; kinds of troops. (Printed by bin/troA.py.)
-/
import Derived.Test.YticfnngppcmidaaWdP
import Derived.Test.YticfnngppcmidaaIdx
import Derived.Test.YticfnngppcmidaaEqI
import Derived.Test.YticfnngppcmidaaStep
import Derived.Handy
set_option linter.unusedVariables false
namespace Go.Proofs.Yticfnngppcmidaa
open Go.RowKit

def Fld.badPlace (p : Int) : Bool := !Fld.placeOk p
theorem badPlace_mk {p : Int} : (p < 0 → Fld.badPlace p = true) ∧ (4 ≤ p → Fld.badPlace p = true) ∧ (0 ≤ p → p < 4 → Fld.badPlace p = false) := by
  unfold Fld.badPlace Fld.placeOk
  refine ⟨fun h => by rw [inB_not (.inl h)]; rfl, fun h => by rw [inB_not (.inr (by omega))]; rfl, fun h1 h2 => by rw [inB_mk h1 (by omega)]; rfl⟩
theorem fcheck1 (p : Int) (w : World) : Calls Try.prog 70 #[.int .i64 p] w fun e w' => e = .returned (.bool (Fld.badPlace p)) ∧ Below w.heap.size w w' := by
  obtain ⟨b1, b2, b3⟩ := badPlace_mk (p := p)
  rcases Int.lt_or_le p 0 with h | h
  · have hb := b1 h
    have hd : decide (p < 0) = true := by simpa using h
    rw [hb]; clear b1 b2 b3 hb
    go_enter Try.func70, Try.ntmps70
    go_wp2
    go_ret
    exact ⟨rfl, Below.refl _ _⟩
  · rcases Int.lt_or_le p 4 with h4 | h4
    · have hb := b3 h h4
      have hd : decide (p < 0) = false := by simpa using h
      rw [hb]; clear b1 b2 b3 hb
      go_enter Try.func70, Try.ntmps70
      go_wp2
      go_ret
      exact ⟨ret_bool (by simp <;> omega), Below.refl _ _⟩
    · have hb := b2 h4
      have hd : decide (p < 0) = false := by simpa using h
      rw [hb]; clear b1 b2 b3 hb
      go_enter Try.func70, Try.ntmps70
      go_wp2
      go_ret
      exact ⟨ret_bool (by simp <;> omega), Below.refl _ _⟩
set_option maxRecDepth 100000 in
set_option maxHeartbeats 1000000 in
theorem idx_place  (A : Option Addr) (c : Nat) (l : List Int) (w : World) (hl : repI.SHas 8 w A c l) :
    Calls Try.prog 82 #[.slice A l.length c, .func (.func 70) #[] #[]] w fun e w' => e = .returned (.int .i64 (idxI (Fld.badPlace) l)) ∧ Below w.heap.size w w' := by
  obtain ⟨n, hn⟩ : ∃ n, l.length = n := ⟨_, rfl⟩
  have hle : n ≤ 9223372036854775807 := by have := hl.1; have := hl.2.1; omega
  rw [hn]
  have HL := Lib.hid hl
  have HN := Lib.hid hn
  clear hl hn
  go_enter Try.func82, Try.ntmps82
  go_wp2_with fail
  go_loopw [5, 8] (fun _ iv wr => ∃ k : Nat, k ≤ n ∧ iv = .int .i64 (k : Int) ∧ Hid (∀ j (hj : j < k) (hj2 : j < l.length), (Fld.badPlace) l[j] = false) ∧ Below w.heap.size w wr) (fun _ iv _ => n - (intOf iv).toNat)
  case atStart => exact ⟨0, Nat.zero_le _, rfl, (fun j hj => by omega), Below.refl _ _⟩
  case round =>
    obtain ⟨k, hk, rfl, HK, hb⟩ := hrel
    by_cases hlt : k < n
    · have hkl : k < l.length := by rw [HN.out]; exact hlt
      obtain ⟨b, o, rfl, hcell⟩ := repI_at (HL.out.keep hb) (by omega)
      obtain ⟨x, hxe⟩ : ∃ x, l[k]'hkl = x := ⟨_, rfl⟩
      have q0 := hcell k x (by rw [List.getElem?_eq_getElem hkl, hxe])
      have HXE := Lib.hid hxe

      have hc := fcheck1 x wr
      clear hcell hxe
      cases hbad : (Fld.badPlace) x with
      | true =>
        have hres : idxI (Fld.badPlace) l = (k : Int) := idxI_some hkl (by rw [HXE.out]; exact hbad) fun j hj => HK.out j hj (by omega)
        rw [hbad] at hc
        have HRES := Lib.hid hres
        clear hres hbad
        go_wp2_with (go_at_call 70; refine hc.mono ?_; rintro e w' ⟨rfl, hb2⟩)
        go_ret
        exact ⟨by rw [HRES.out]; rfl, hb.trans (hb2.mono hb.size)⟩
      | false =>
        rw [hbad] at hc
        have HK2 : Hid (∀ j (hj : j < k + 1) (hj2 : j < l.length), (Fld.badPlace) l[j] = false) := by
          intro j hj hj2
          by_cases h : j < k
          · exact HK.out j h hj2
          · obtain rfl : j = k := by omega
            rw [HXE.out]; exact hbad
        clear hbad
        go_wp2_with (go_at_call 70; refine hc.mono ?_; rintro e w' ⟨rfl, hb2⟩)
        go_roundw
        case rel => exact ⟨k + 1, by omega, by go_num, HK2, hb.trans (hb2.mono hb.size)⟩
        case measure => simp [intOf]; omega
    · have hres : idxI (Fld.badPlace) l = -1 := idxI_none fun j hj => HK.out j (by have := HN.out; omega) hj
      have HRES := Lib.hid hres
      clear hres
      go_wp2_with fail
      go_ret
      exact ⟨by rw [HRES.out]; rfl, hb⟩
theorem has_place  (A : Option Addr) (c : Nat) (l : List Int) (w : World) (hl : repI.SHas 8 w A c l) :
    Calls Try.prog 69 #[.slice A l.length c, .func (.func 70) #[] #[]] w fun e w' => e = .returned (.bool (l.any (Fld.badPlace))) ∧ Below w.heap.size w w' := by
  have hc := idx_place  A c l w hl 
  rw [← idxI_any]
  generalize idxI (Fld.badPlace) l = r at *
  generalize l.length = n at *
  clear hl 
  go_enter Try.func69, Try.ntmps69
  go_wp2_with (go_at_call 82; refine hc.mono ?_; rintro e w' ⟨rfl, hb2⟩)
  go_ret
  exact ⟨rfl, hb2⟩
/-- 'low <= n && n <= high', as a function. -/
theorem within_any (n lo hi : Int) (w : World) : Calls Try.prog 72 #[.int .i64 n, .int .i64 lo, .int .i64 hi] w fun e w' => e = .returned (.bool (inB n lo hi)) ∧ w = w' := by
  rcases Int.lt_or_le n lo with h | h
  · rw [inB_not (.inl h)]
    go_enter Try.func72, Try.ntmps72
    go_wp2
    go_ret
    exact ⟨rfl, rfl⟩
  · rcases Int.lt_or_le hi n with h4 | h4
    · rw [inB_not (.inr h4)]
      go_enter Try.func72, Try.ntmps72
      go_wp2
      go_ret
      exact ⟨ret_bool (by simp <;> omega), rfl⟩
    · rw [inB_mk h h4]
      go_enter Try.func72, Try.ntmps72
      go_wp2
      go_ret
      exact ⟨ret_bool (by simp <;> omega), rfl⟩
theorem side_any (n : Int) (w : World) : Calls Try.prog 68 #[.int .i64 n] w fun e w' => e = .returned (.bool (inB n 1 40)) ∧ w = w' := by
  rcases Int.lt_or_le n 1 with h | h
  · rw [inB_not (.inl h)]
    go_enter Try.func68, Try.ntmps68
    go_wp2
    go_ret
    exact ⟨rfl, rfl⟩
  · rcases Int.lt_or_le 40 n with h4 | h4
    · rw [inB_not (.inr h4)]
      go_enter Try.func68, Try.ntmps68
      go_wp2
      go_ret
      exact ⟨ret_bool (by simp <;> omega), rfl⟩
    · rw [inB_mk h h4]
      go_enter Try.func68, Try.ntmps68
      go_wp2
      go_ret
      exact ⟨ret_bool (by simp <;> omega), rfl⟩
end Go.Proofs.Yticfnngppcmidaa
