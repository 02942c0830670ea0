/-
  slices.Contains, slices.IsSorted of integers.
-/
import Derived.Test.YthjolbdjokopnaaEqI
import Derived.Test.YthjolbdjokopnaaIdx
set_option linter.unusedVariables false
namespace Go.Proofs.Ythjolbdjokopnaa
open Go.RowKit

def isN (v x : Int) : Bool := decide (x = v)
set_option maxRecDepth 100000 in
set_option maxHeartbeats 1000000 in
theorem idx_int (v : Int) (A : Option Addr) (c by_ : Nat) (l : List Int) (w : World) (hl : repI.SHas by_ w A c l) :
    Calls Try.prog 60 #[.slice A l.length c, .int .i64 v] w fun e w' => e = .returned (.int .i64 (idxI (isN v) l)) ∧ Below w.heap.size w w' := by
  obtain ⟨n, HN⟩ : ∃ n, Hid (l.length = n) := ⟨_, Lib.hid rfl⟩
  have hle : n ≤ 9223372036854775807 := by have := hl.len_le; rw [HN.out] at this; exact this
  have HL := Lib.hid hl
  clear hl
  rw [HN.out]
  go_enter Try.func60, Try.ntmps60
  go_wp2_with fail
  go_loopw [5, 8] (fun _ iv wr => ∃ k m : Nat, k ≤ n ∧ iv = .int .i64 (k : Int) ∧ Hid (∀ j (hj : j < k) (hj2 : j < l.length), (isN v) l[j] = false) ∧ Hid (wr = w.drewN m)) (fun _ iv _ => n - (intOf iv).toNat)
  case atStart => exact ⟨0, 0, Nat.zero_le _, rfl, (fun j hj => by omega), rfl⟩
  case round =>
    obtain ⟨k, m, hk, rfl, HK, HW⟩ := hrel
    have hbr : Below w.heap.size w wr := by rw [HW.out]; exact below_drewN (Below.refl _ w) m
    by_cases hlt : k < n
    · have hkl : k < l.length := by rw [HN.out]; exact hlt
      obtain ⟨b, o, rfl, hcell⟩ := repI_at (HL.out.keep hbr) (by omega)
      obtain ⟨x, hxe⟩ : ∃ x, l[k]'hkl = x := ⟨_, rfl⟩
      have q0 := hcell k x (by rw [List.getElem?_eq_getElem hkl, hxe])
      have HXE := Lib.hid hxe
      have hki : (k : Int) < (n : Int) := by omega
      have hk0 : (0 : Int) ≤ (k : Int) := by omega
      clear hcell hxe
      by_cases hxv : x = v
      · have hres : idxI (isN v) l = (k : Int) := idxI_some hkl (by rw [HXE.out]; simp [isN, hxv]) fun j hj => HK.out j hj (by omega)
        have HRES := Lib.hid hres
        subst hxv
        clear hres
        go_wp2_with fail
        go_ret
        exact ⟨by rw [HRES.out]; rfl, hbr⟩
      · have HK2 : Hid (∀ j (hj : j < k + 1) (hj2 : j < l.length), (isN v) l[j] = false) := by
          intro j hj hj2
          by_cases h : j < k
          · exact HK.out j h hj2
          · obtain rfl : j = k := by omega
            rw [HXE.out]; simp [isN, hxv]
        have h1 : (v == x) = false := by simp; omega
        clear hxv
        go_wp2_with fail
        go_roundw
        case rel => exact ⟨k + 1, m, by omega, by go_num, HK2, HW⟩
        case measure => simp [intOf]; omega
    · have hres : idxI (isN v) l = -1 := idxI_none fun j hj => HK.out j (by have := HN.out; omega) hj
      have HRES := Lib.hid hres
      clear hres
      go_wp2_with fail
      go_ret
      exact ⟨by rw [HRES.out]; rfl, hbr⟩
theorem has_int (v : Int) (A : Option Addr) (c by_ : Nat) (l : List Int) (w : World) (hl : repI.SHas by_ w A c l) :
    Calls Try.prog 41 #[.slice A l.length c, .int .i64 v] w fun e w' => e = .returned (.bool (l.contains v)) ∧ Below w.heap.size w w' := by
  have hc := idx_int v A c by_ l w hl
  have hany : l.contains v = decide (0 ≤ idxI (isN v) l) := by
    rw [idxI_any, List.contains_eq_any_beq]
    congr 1
    funext x
    unfold isN
    by_cases h : x = v
    · simp [h]
    · simp [h, Ne.symm h]
  rw [hany]
  generalize idxI (isN v) l = r at *
  generalize l.length = n at *
  clear hl hany
  go_enter Try.func41, Try.ntmps41
  go_wp2_with (go_at_call 60; refine hc.mono ?_; rintro e w' ⟨rfl, hb2⟩)
  go_ret
  exact ⟨rfl, hb2⟩
end Go.Proofs.Ythjolbdjokopnaa
