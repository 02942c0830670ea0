/-
  SeatFair: of two players who both wait still, none has had more than one order more than the other; and the turn is full then.
-/
import Derived.Test.YtmooknaljkeaaaaSeatV
import Derived.Test.YtmooknaljkeaaaaSeatX
set_option linter.unusedVariables false
namespace Go.Proofs.Ytmooknaljkeaaaa
open Go.RowKit

theorem Seat.good {l : List Seat} (h : Seat.chk l = 0) : 1 ≤ l.length ∧ l.length ≤ 8 ∧ Seat.ByAll l ∧ (∀ s ∈ l, 0 ≤ s.late ∧ s.late ≤ 1000000) ∧ (∀ s ∈ l, s.waits.length ≤ 50) ∧ Seat.rightAll 0 l = true := by
  unfold Seat.chk at h
  by_cases h1 : l.length < 1 ∨ 8 < l.length
  · rw [if_pos h1] at h; omega
  · rw [if_neg h1] at h
    by_cases h2 : l.any (fun s => decide (50 < s.waits.length)) = true
    · rw [if_pos h2] at h; omega
    · rw [if_neg h2] at h
      by_cases h3 : Seat.rightAll 0 l = true
      · have hr := (rightAll_iff 0 l).1 h3
        refine ⟨by omega, by omega, ?_, ?_, ?_, h3⟩
        · intro j hj o ho
          have := hr j hj
          unfold Seat.right at this
          simp only [Bool.and_eq_true, List.all_eq_true, Int.zero_add] at this
          have := (this.2 o ho).1
          simpa using this
        · intro s hs
          obtain ⟨j, hj, rfl⟩ := List.mem_iff_getElem.1 hs
          have := hr j hj
          unfold Seat.right at this
          simp only [Bool.and_eq_true] at this
          exact inB_true this.1.1
        · intro s hs
          have : ¬ (50 < s.waits.length) := fun h => h2 (by rw [List.any_eq_true]; exact ⟨s, hs, by simpa using h⟩)
          omega
      · rw [if_neg h3] at h; omega
set_option maxRecDepth 100000 in
set_option maxHeartbeats 4000000 in
theorem seatFair_any (a0 : Option Addr) (len0 cap0 : Nat) (a1 : Int) (w : World) (h0 : (.slice (.cons (.slice (.cons (.int .i64) (.cons (.int .i64) (.cons (.int .i64) (.cons (.cons (.int .i64) (.cons (.int .i64) .nil)) (.cons (.int .i64) .nil))))) 48) (.cons (.int .i64) (.cons .bool .nil))) 40 : Sh).Ok w [.slice a0 len0 cap0]) (w1 : (Lit.int .i64 a1).wf = true) :
    Calls Try.prog 6 #[.slice a0 len0 cap0, .int .i64 a1] w fun e w' => e = .returned (.bool true) ∧ Below w.heap.size w w' := by
  obtain ⟨hs, l0, hl⟩ := seats_open h0
  clear h0 w1
  by_cases hgood : Seat.chk l0 = 0
  · by_cases hm : a1 < 1 ∨ 100 < a1
    · have hcl := sclose_arg a0 len0 cap0 hs l0 a1 w hl hgood hm
      clear hl hgood hm
      go_enter Try.func6, Try.ntmps6
      go_wp2_with fail
      refine hcl.mono ?_
      rintro e w1 ⟨rfl, hb1⟩
      clear hcl
      go_wp2_with fail
      refine (slives_any _).mono ?_
      rintro e w2 ⟨rfl, hb2⟩
      go_wp2_with fail
      refine (slives_any _).mono ?_
      rintro e w3 ⟨rfl, hb3⟩
      go_wp2_with fail
      go_ret
      exact ⟨rfl, hb1.trans ((hb2.trans (hb3.mono hb2.size)).mono hb1.size)⟩
    · obtain ⟨most, rfl⟩ := Int.eq_ofNat_of_zero_le (show 0 ≤ a1 by omega)
      obtain ⟨g1, g8, gby, glate, gw, _⟩ := Seat.good hgood
      have hl0 := hl.len
      have hcl := sclose_any a0 len0 cap0 hs l0 most w hl hgood (by omega) (by omega) gby (by omega) (by omega) glate
      unfold ClosePost at hcl
      have hn8 : len0 ≤ 8 := by omega
      have hmost : most ≤ 100 := by omega
      clear hl hgood hm gby glate gw g1 g8 hl0
      go_enter Try.func6, Try.ntmps6
      go_wp2_with fail
      refine hcl.mono ?_
      rintro e w1 ⟨A, c, hs2, l, B, d, out, rfl, hclosed, hmine, hout, hb1⟩
      have HS := Lib.hid (hmine.seats (by omega))
      have HO := Lib.hid hout
      have HC := Lib.hid hclosed
      have hol := hclosed.le
      clear hcl hclosed hmine hout
      go_wp2_with fail
      refine (slives_any _).mono ?_
      rintro e w2 ⟨rfl, hb2⟩
      have HS := Lib.hid (HS.out.later hb2)
      have HO := Lib.hid (HO.out.later hb2)
      have hb2 := hb1.trans (hb2.mono hb1.size)
      clear hb1
      have HOR : Hid (Ords w2 B out.length d out) := by
        obtain ⟨A', c', e, hle, hmx, hrd, _, hnn⟩ := HO.out.shape
        injection e with e1 _ e2
        subst e1; subst e2
        exact ⟨rfl, hle, by omega, by unfold maxLen at hmx; omega, fun h => by have := hnn h; injection this with _ h1 h2; exact ⟨h1, h2⟩, hrd⟩
      go_wp2_with fail
      go_loopw [8, 9, 10, 39] (fun _ _ _ iv wr => ∃ k : Nat, k ≤ len0 ∧ iv = .int .i64 (k : Int) ∧ Below w2.heap.size w2 wr) (fun _ _ _ iv _ => len0 - (intOf iv).toNat)
      case atStart => exact ⟨0, Nat.zero_le _, rfl, Below.refl _ _⟩
      case round =>
        obtain ⟨k, hk, rfl, hbr⟩ := hrel
        by_cases hlt : k < len0
        · have hlen := HS.out.len
          obtain ⟨s, hsx⟩ : ∃ s, l[k]? = some s := ⟨_, List.getElem?_eq_getElem (by omega)⟩
          obtain ⟨b, o, h, rfl, _, _, q0, q1, q2⟩ := (HS.out.later hbr).get hsx
          have hfull : s.waits.length = 0 ∨ out.length = most := by
            obtain ⟨hj, rfl⟩ := List.getElem?_eq_some_iff.1 hsx
            by_cases hw : l[k].waits = []
            · exact .inl (by rw [hw]; rfl)
            · exact .inr (HC.out.full k hj hw)
          have hfair : ∀ j, j < len0 → s.waits.length = 0 ∨ (ofP j out).length ≤ (ofP k out).length + 1 := by
            intro j hj
            obtain ⟨hjk, rfl⟩ := List.getElem?_eq_some_iff.1 hsx
            by_cases hw : l[k].waits = []
            · exact .inl (by rw [hw]; rfl)
            · obtain ⟨r, hr⟩ := HC.out.fair
              have h1 := (hr j (by omega)).1
              have h2 := (hr k hjk).2 hw
              unfold Seat.cnt at h1 h2
              exact .inr (by omega)
          have HFU := Lib.hid hfull
          have HFA := Lib.hid hfair
          have hX := Blk.new wr [.slice h.A s.waits.length h.c, .int .i64 s.late, .bool s.gone] 49 (0, 0)
          have hbX : Below w2.heap.size w2 (wr.alloc (.cells #[.slice h.A s.waits.length h.c, .int .i64 s.late, .bool s.gone] 49)) := hbr.alloc hbr.size _
          have hpl := fun b W (hW : Ords W B out.length d out) => player_any b B out.length d out W hW (by omega)
          unfold PlayerPost at hpl
          have hpn : (ofP k out).length ≤ out.length := by unfold ofP; exact List.length_filter_le _ _
          clear hsx hfull hfair hlen
          obtain ⟨m, HM⟩ : ∃ m, Hid (s.waits.length = m) := ⟨_, Lib.hid rfl⟩
          rw [HM.out] at q0 hX hbX HFU HFA
          go_wp2_with fail
          refine (hpl k _ (HOR.out.later hbX)).mono ?_
          rintro e w3 ⟨A3, c3, rfl, hown3, hb3⟩
          have hX3 := hX.later hb3
          have x0 : w3.cell? ⟨wr.heap.size, 0, none⟩ = some (.slice h.A m h.c) := hX3.cell 0
          have hb3' : Below w2.heap.size w2 w3 := hbX.trans (hb3.mono hbX.size)
          have HX3 := Lib.hid hX3
          obtain ⟨pk, HPK⟩ : ∃ pk, Hid ((ofP k out).length = pk) := ⟨_, Lib.hid rfl⟩
          rw [HPK.out] at hpn ⊢
          clear hown3 hX hbX hb3 hX3 q0 q1 q2
          by_cases hm0 : m = 0
          · subst hm0
            have hz : ¬ (0 : Int) < ((0 : Nat) : Int) := by decide
            go_wp2_with fail
            go_loopw [11, 60] (fun _ jv wx => ∃ j : Nat, j ≤ len0 ∧ jv = .int .i64 (j : Int) ∧ Below w3.heap.size w3 wx) (fun _ jv _ => len0 - (intOf jv).toNat)
            case atStart => exact ⟨0, Nat.zero_le _, rfl, Below.refl _ _⟩
            case round =>
              obtain ⟨wo, hwo⟩ : ∃ wo : World, wo = wr := ⟨_, rfl⟩
              obtain ⟨j, hj, rfl, hbj⟩ := hrel
              by_cases hjl : j < len0
              · have x1 := cell_later hbj x0
                clear x0
                go_wp2_with fail
                go_roundw
                case rel => exact ⟨j + 1, by omega, by go_num, hbj⟩
                case measure => simp [intOf]; omega
              · go_wp2_with fail
                go_roundw
                case rel => exact ⟨k + 1, by omega, by go_num, hb3'.trans (hbj.mono hb3'.size)⟩
                case measure => simp [intOf]; omega
          · have hom : out.length = most := by
              rcases HFU.out with h | h
              · exact absurd h hm0
              · exact h
            have hmp : (0 : Int) < (m : Int) := by omega
            have homi : ((out.length : Int) != (most : Int)) = false := by rw [hom]; simp
            have homi2 : ((out.length : Int) == (most : Int)) = true := by rw [hom]; simp
            have HOM := Lib.hid hom
            clear hom
            go_wp2_with fail
            go_loopw [11, 60] (fun _ jv wx => ∃ j : Nat, j ≤ len0 ∧ jv = .int .i64 (j : Int) ∧ Below w3.heap.size w3 wx) (fun _ jv _ => len0 - (intOf jv).toNat)
            case atStart => exact ⟨0, Nat.zero_le _, rfl, Below.refl _ _⟩
            case round =>
              clear homi homi2
              obtain ⟨j, hj, rfl, hbj⟩ := hrel
              by_cases hjl : j < len0
              · have x1 := cell_later hbj x0
                have hfj : (ofP j out).length ≤ pk + 1 := by
                  rcases HFA.out j hjl with h | h
                  · exact absurd h hm0
                  · rw [← HPK.out]; exact h
                clear x0
                go_wp2_with fail
                refine (hpl j _ (HOR.out.later (hb3'.trans (hbj.mono hb3'.size)))).mono ?_
                rintro e w4 ⟨A4, c4, rfl, hown4, hb4⟩
                obtain ⟨pj, HPJ⟩ : ∃ pj, Hid ((ofP j out).length = pj) := ⟨_, Lib.hid rfl⟩
                rw [HPJ.out] at hfj ⊢
                have hno : ¬ (pk : Int) + 1 < (pj : Int) := by omega
                clear hown4
                go_wp2_with fail
                go_roundw
                case rel => exact ⟨j + 1, by omega, by go_num, hbj.trans (hb4.mono hbj.size)⟩
                case measure => simp [intOf]; omega
              · go_wp2_with fail
                go_roundw
                case rel => exact ⟨k + 1, by omega, by go_num, hb3'.trans (hbj.mono hb3'.size)⟩
                case measure => simp [intOf]; omega
        · go_wp2_with fail
          go_ret
          exact ⟨rfl, hb2.trans (hbr.mono hb2.size)⟩
  · have hcl := sclose_bad a0 len0 cap0 hs l0 a1 w hl hgood
    have hne : (Seat.chk l0 != 0) = true := by rw [bne_iff_ne]; exact hgood
    have hne2 : (Seat.chk l0 == 0) = false := by rw [beq_eq_false_iff_ne]; exact hgood
    generalize Seat.chk l0 = e0 at *
    clear hl hgood
    go_enter Try.func6, Try.ntmps6
    go_wp2_with fail
    refine hcl.mono ?_
    rintro e w1 ⟨rfl, hb1⟩
    clear hcl
    go_wp2_with fail
    refine (slives_any _).mono ?_
    rintro e w2 ⟨rfl, hb2⟩
    go_wp2_with fail
    refine (slives_any _).mono ?_
    rintro e w3 ⟨rfl, hb3⟩
    go_wp2_with fail
    go_ret
    exact ⟨rfl, hb1.trans ((hb2.trans (hb3.mono hb2.size)).mono hb1.size)⟩
end Go.Proofs.Ytmooknaljkeaaaa
