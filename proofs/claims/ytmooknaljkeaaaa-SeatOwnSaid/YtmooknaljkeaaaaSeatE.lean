/-
  The walks of slices.Equal of orders that are the same, and of mustref.SeatsRight of right seats.
-/
import Derived.Test.YtmooknaljkeaaaaSeatS
import Derived.Test.YtmooknaljkeaaaaOrdR
set_option linter.unusedVariables false
namespace Go.Proofs.Ytmooknaljkeaaaa
open Go.RowKit

set_option maxRecDepth 100000 in
set_option maxHeartbeats 2000000 in
theorem equalO_same {w : World} {A B : Option Addr} {n c d : Nat} {l : List Ord} (h1 : Ords w A n c l) (h2 : Ords w B n d l) :
    Calls Try.prog 33 #[.slice A n c, .slice B n d] w fun e w' => e = .returned (.bool true) ∧ ∃ q, w' = w.drewN q := by
  have hbig := h1.big
  have hln := h1.len
  have H1 := Lib.hid h1
  have H2 := Lib.hid h2
  have hnn : ((n : Int) != (n : Int)) = false := by simp
  clear h1 h2
  go_enter Try.func33, Try.ntmps33
  go_wp2_with fail
  go_loopw [5, 13] (fun _ iv wr => ∃ (k m : Nat), k ≤ n ∧ iv = .int .i64 (k : Int) ∧ Hid (wr = w.drewN m)) (fun _ iv _ => n - (intOf iv).toNat)
  case atStart => exact ⟨0, 0, Nat.zero_le _, rfl, rfl⟩
  case round =>
    clear hnn
    obtain ⟨k, m, hk, rfl, HW⟩ := hrel
    by_cases hlt : k < n
    · have hwr : ∀ {C : Option Addr} {x : Nat}, Ords w C n x l → Ords wr C n x l := fun h => by rw [HW.out]; exact h.drewN m
      obtain ⟨b1, o1, rfl, hc1⟩ := Ords.at (hwr H1.out) (by omega)
      obtain ⟨b2, o2, rfl, hc2⟩ := Ords.at (hwr H2.out) (by omega)
      obtain ⟨q0, q1, q2, q3, q4, q5⟩ := Ords.six (c := c) (n := n) hc1 k (by omega)
      obtain ⟨r0, r1, r2, r3, r4, r5⟩ := Ords.six (c := d) (n := n) hc2 k (by omega)
      generalize l[k]'(by omega) = x at *
      have hki : (k : Int) < (n : Int) := by omega
      have hk0 : (0 : Int) ≤ (k : Int) := by omega
      clear hwr hc1 hc2
      go_wp2_with fail
      go_quiet (fail)
      go_wp2_with fail
      go_roundw
      case rel => exact ⟨k + 1, _, by omega, by go_num, by show _ = _; rw [HW.out]; simp; rfl⟩
      case measure => simp [intOf]; omega
    · go_wp2_with fail
      go_ret
      exact ⟨rfl, m, HW.out⟩
theorem rightOrds {i : Int} {s : Seat} (h : s.right i = true) : ∀ o ∈ s.waits, o.by_ = i ∧ o.ok = true := by
  intro o ho
  unfold Seat.right at h
  simp only [Bool.and_eq_true, List.all_eq_true] at h
  have := h.2 o ho
  exact ⟨by simpa using this.1, this.2⟩
set_option maxRecDepth 100000 in
set_option maxHeartbeats 4000000 in
theorem sright_ok (A : Option Addr) (n c : Nat) (hs : List Seat.At) (l : List Seat) (w : World) (hl : Seats w A n c hs l) (h1 : 1 ≤ n) (h8 : n ≤ 8) (h50 : ∀ j (hj : j < l.length), l[j].waits.length ≤ 50) (hr : ∀ j (hj : j < l.length), l[j].right (j : Int) = true) :
    Calls Try.prog 34 #[.slice A n c] w fun e w' => e = .returned (.int .i64 0) ∧ Below w.heap.size w w' := by
  have hbt : inB (n : Int) 1 8 = true := by simp [inB]; omega
  have hlen := hl.len
  have HL := Lib.hid hl
  have H50 := Lib.hid h50
  have HR := Lib.hid hr
  have hbw := between_any
  clear hl h50 hr
  go_enter Try.func34, Try.ntmps34
  go_wp2_with (go_at_call 60; refine (hbw _ _ _ _).mono ?_; rintro e w' ⟨rfl, rfl⟩; simp only [hbt])
  go_loopw [4, 15] (fun _ iv wr => ∃ k : Nat, k ≤ n ∧ iv = .int .i64 (k : Int) ∧ Below w.heap.size w wr) (fun _ iv _ => n - (intOf iv).toNat)
  case atStart => exact ⟨0, Nat.zero_le _, rfl, Below.refl _ _⟩
  case round =>
    obtain ⟨k, hk, rfl, hb⟩ := hrel
    by_cases hlt : k < n
    · obtain ⟨b, o, rfl, hcell⟩ := (HL.out.later hb).three (by omega)
      obtain ⟨q0, q1, q2⟩ := hcell k (by rw [HL.out.hlen]; exact hlt) (by omega)
      have hw50 := H50.out k (by omega)
      generalize (l[k]'(by omega)).waits.length = m at *
      clear hcell
      go_wp2_with fail
      go_roundw
      case rel => exact ⟨k + 1, by omega, by go_num, hb.alloc hb.size _⟩
      case measure => simp [intOf]; omega
    · go_wp2_with fail
      go_loopw [5, 6, 26] (fun _ _ iv wr => ∃ k : Nat, k ≤ n ∧ iv = .int .i64 (k : Int) ∧ Below w.heap.size w wr) (fun _ _ iv _ => n - (intOf iv).toNat)
      case atStart => exact ⟨0, Nat.zero_le _, rfl, hb⟩
      case round =>
        obtain ⟨k', hk', rfl, hb'⟩ := hrel
        by_cases hlt' : k' < n
        · obtain ⟨s, hsx⟩ : ∃ s, l[k']? = some s := ⟨_, List.getElem?_eq_getElem (by omega)⟩
          obtain ⟨b, o, h, rfl, _, hor0, q0, q1, q2⟩ := Seats.get HL.out hsx
          have q0 := cell_later hb' q0
          have q1 := cell_later hb' q1
          have q2 := cell_later hb' q2
          have hri : s.right (k' : Int) = true := by
            obtain ⟨hj, rfl⟩ := List.getElem?_eq_some_iff.1 hsx
            exact HR.out k' hj
          have hg := rightOrds hri
          have hlr : inB s.late 0 1000000 = true ∧ (s.gone = true → s.late = 0 ∧ s.waits = []) := by
            unfold Seat.right at hri
            simp only [Bool.and_eq_true, Bool.or_eq_true, Bool.not_eq_true'] at hri
            refine ⟨hri.1.1, fun hg => ?_⟩
            rcases hri.1.2 with h | h
            · rw [hg] at h; cases h
            · exact ⟨by simpa using h.1, by simpa using h.2⟩
          have HG := Lib.hid hg
          have HOR := Lib.hid hor0
          obtain ⟨hlb, hgz⟩ := hlr
          obtain ⟨m, hm⟩ : ∃ m, s.waits.length = m := ⟨_, rfl⟩
          have hm50 : m ≤ 50 := by
            obtain ⟨hj, rfl⟩ := List.getElem?_eq_some_iff.1 hsx
            rw [← hm]; exact H50.out k' hj
          have HM := Lib.hid hm
          have HOR : Hid (Ords w h.A m h.c s.waits) := by have := HOR.out; rw [hm] at this; exact this
          have hbX := hb'.alloc hb'.size (.cells #[.slice h.A m h.c, .int .i64 s.late, .bool s.gone] 49)
          rw [hm] at q0
          clear hri hg hor0 hsx
          cases hgn : s.gone with
          | true =>
            obtain ⟨hz1, hz2⟩ := hgz hgn
            have hm0 : m = 0 := by rw [← hm, hz2]; rfl
            subst hm0
            rw [hgn] at q2 hbX
            rw [hz1] at q1 hlb hbX
            have hnl : ¬ (0 : Int) < 0 := by decide
            clear hgz hgn hz1 hz2 hm
            go_wp2_with (go_at_call 60; refine (hbw _ _ _ _).mono ?_; rintro e w' ⟨rfl, rfl⟩; simp only [hlb])
            go_loopw [8, 53] (fun _ jv wx => jv = .int .i64 ((0 : Nat) : Int) ∧ Below w.heap.size w wx) (fun _ jv _ => 0 - (intOf jv).toNat)
            case atStart => exact ⟨rfl, hbX⟩
            case round =>
              clear hbX
              obtain ⟨rfl, hbt⟩ := hrel
              go_wp2_with fail
              go_roundw
              case rel => exact ⟨k' + 1, by omega, by go_num, hbt⟩
              case measure => simp [intOf]; omega
          | false =>
            rw [hgn] at q2 hbX
            clear hgz hgn hm
            go_wp2_with (go_at_call 60; refine (hbw _ _ _ _).mono ?_; rintro e w' ⟨rfl, rfl⟩; simp only [hlb])
            go_loopw [8, 53] (fun _ jv wx => ∃ t : Nat, t ≤ m ∧ jv = .int .i64 (t : Int) ∧ Below w.heap.size w wx) (fun _ jv _ => m - (intOf jv).toNat)
            case atStart => exact ⟨0, Nat.zero_le _, rfl, hbX⟩
            case round =>
              clear hbX
              obtain ⟨t, ht, rfl, hbt⟩ := hrel
              by_cases htl : t < m
              · obtain ⟨b2, o2, hAt, hc2⟩ := Ords.at (HOR.out.later hbt) (by omega)
                obtain ⟨r0, r1, r2, r3, r4, r5⟩ := Ords.six (c := h.c) (n := m) hc2 t (by rw [HM.out]; exact htl)
                have hgood := HG.out _ (List.getElem_mem (show t < s.waits.length by rw [HM.out]; exact htl))
                obtain ⟨x, hx⟩ : ∃ x, s.waits[t]'(by rw [HM.out]; exact htl) = x := ⟨_, rfl⟩
                rw [hx] at r0 r1 r2 r3 r4 r5 hgood
                have hro := right_ok x hgood.2
                rw [Ord.cells_eq] at hro
                have hby := hgood.1
                rw [hby] at r0 hro
                have hO := Blk.new wr [.int .i64 (k' : Int), .int .i64 x.kind, .int .i64 x.who, .int .i64 x.x, .int .i64 x.y, .int .i64 x.what] 59 (0, 0)
                have hne : ((k' : Int) != (k' : Int)) = false := by simp
                have hne2 : ((k' : Int) == (k' : Int)) = true := by simp
                have hti : (t : Int) < (m : Int) := by omega
                have hbO := hbt.alloc hbt.size (.cells #[.int .i64 (k' : Int), .int .i64 x.kind, .int .i64 x.who, .int .i64 x.x, .int .i64 x.y, .int .i64 x.what] 59)
                rw [hAt]
                clear hc2 hx hby hgood
                go_wp2_with fail
                refine (hro _).mono ?_
                rintro e w5 ⟨rfl, hb5⟩
                have z0 : w5.cell? ⟨wr.heap.size, 0, none⟩ = some (.int .i64 (k' : Int)) := (hO.later hb5).cell 0
                have hb6 := hbO.trans (hb5.mono hbO.size)
                clear hO hbO hb5
                go_wp2_with fail
                go_roundw
                case rel => exact ⟨t + 1, by omega, by go_num, hb6⟩
                case measure => simp [intOf]; omega
              · go_wp2_with fail
                go_roundw
                case rel => exact ⟨k' + 1, by omega, by go_num, hbt⟩
                case measure => simp [intOf]; omega
        · go_wp2_with fail
          go_ret
          exact ⟨rfl, hb'⟩
end Go.Proofs.Ytmooknaljkeaaaa
