/-
  SeatOwn: seats that are handed in stay as they were, and what is told shares nothing with them.
-/
import Derived.Test.YtmooknaljkeaaaaSeatB
import Derived.Test.YtmooknaljkeaaaaSeatV
import Derived.Test.YtmooknaljkeaaaaSeatX
set_option linter.unusedVariables false
namespace Go.Proofs.Ytmooknaljkeaaaa
open Go.RowKit

structure V3 where
  A : Option Addr
  n : Nat
  c : Nat
  hs : List Seat.At
def V3.v (x : V3) : Value := .slice x.A x.n x.c
/-- All that was told, amid its being written. -/
structure Three (wb wr : World) (F : Nat → V3) (O : Option Addr) (d : Nat) : Prop where
  each : ∀ t, t < 3 → ∃ l, Loose wr wb.heap.size (F t).v (F t).n (F t).hs l
  apart : ∀ t u, t < 3 → u < 3 → t ≠ u → ∀ g, (F t).v.ownBlock = some g → (F u).v.ownBlock ≠ some g
  out : Free wr wb.heap.size O d
  below : Below wb.heap.size wb wr
variable {wb wr : World} {F : Nat → V3} {O : Option Addr} {d : Nat}
theorem Three.drewN (h : Three wb wr F O d) (q : Nat) : Three wb (wr.drewN q) F O d := by
  have hq := below_drewN (Below.refl wr.heap.size wr) q
  exact ⟨fun t ht => (h.each t ht).imp fun l hl => hl.later hq, h.apart, h.out, below_drewN h.below q⟩
theorem Three.store (h : Three wb wr F O d) {x j : Nat} (hx : OrdsAt wr x) (hw : wb.heap.size ≤ x) (k : Int) : Three wb (wr.setCell ⟨x, j, none⟩ (.int .i64 k)) F O d :=
  ⟨fun t ht => (h.each t ht).imp fun l hl => hl.store hx k, h.apart, h.out.store k, h.below.setCell (p := ⟨x, j, none⟩) hw _⟩
theorem Three.late (h : Three wb wr F O d) (t : Nat) (ht : t < 3) {g n c : Nat} {hs : List Seat.At} (e : F t = ⟨some ⟨g, 0, none⟩, n, c, hs⟩) (i : Nat) (hi : i < n) (x : Int) : Three wb (wr.setCell ⟨g, i * 3 + 1, none⟩ (.int .i64 x)) F O d := by
  have ht2 : (F t).v.ownBlock = some g := by rw [e]; rfl
  obtain ⟨l, hl⟩ := h.each t ht
  rw [e] at hl
  have hl : Loose wr wb.heap.size (.slice (some ⟨g, 0, none⟩) n c) n hs l := hl
  have hty := hl.row.typed (g := g) rfl
  refine ⟨fun u hu => ?_, h.apart, h.out.aside hty _, h.below.setCell (p := ⟨g, i * 3 + 1, none⟩) (hl.row.row.lt g rfl).1 _⟩
  by_cases hut : u = t
  · subst hut; rw [e]; exact ⟨_, hl.late i (by rw [hl.len]; exact hi) x⟩
  · obtain ⟨k, hk⟩ := h.each u hu
    exact ⟨k, hk.aside (h.apart t u ht hu (Ne.symm hut) g ht2) hty _⟩
theorem Three.at_ (h : Three wb wr F O d) {t : Nat} (ht : t < 3) {A : Option Addr} {n c : Nat} {hs : List Seat.At} (e : F t = ⟨A, n, c, hs⟩) : ∃ l, Loose wr wb.heap.size (.slice A n c) n hs l := by
  obtain ⟨l, hl⟩ := h.each t ht
  rw [e] at hl
  exact ⟨l, hl⟩
theorem three_cases {t : Nat} (h : t < 3) : t = 0 ∨ t = 1 ∨ t = 2 := by omega
set_option maxRecDepth 100000 in
set_option maxHeartbeats 8000000 in
theorem seatOwn_any (a0 : Option Addr) (len0 cap0 : Nat) (c1 : Array Value) (a2 : Int) (w : World) (h0 : (.slice (.cons (.slice (.cons (.int .i64) (.cons (.int .i64) (.cons (.int .i64) (.cons (.cons (.int .i64) (.cons (.int .i64) .nil)) (.cons (.int .i64) .nil))))) 48) (.cons (.int .i64) (.cons .bool .nil))) 40 : Sh).Ok w [.slice a0 len0 cap0]) (h1 : (.cons (.int .i64) (.cons (.int .i64) (.cons (.int .i64) (.cons (.cons (.int .i64) (.cons (.int .i64) .nil)) (.cons (.int .i64) .nil)))) : Sh).Ok w c1.toList) (w2 : (Lit.int .i64 a2).wf = true) :
    Calls Try.prog 10 #[.slice a0 len0 cap0, .agg c1, .int .i64 a2] w fun e w' => e = .returned (.bool true) ∧ Below w.heap.size w w' := by
  obtain ⟨hs, l, hl⟩ := seats_open h0
  obtain ⟨od, hod⟩ := ord_of h1
  have hc1 : c1 = od.cells.toArray := by rw [← hod]
  subst hc1
  rw [Ord.cells_eq]
  clear h0 h1 w2 hod
  have hn := hl.cap.2.1
  have hlen := hl.len
  have hhlen := hl.hlen
  obtain ⟨i0, hi, hz0, hz1, hz2⟩ := info_parts infoSeat
  have hBX := Blk.new w (ordBlk od) 59 (0, 0)
  have hb0 : Below w.heap.size w (w.alloc (.cells #[.int .i64 od.by_, .int .i64 od.kind, .int .i64 od.who, .int .i64 od.x, .int .i64 od.y, .int .i64 od.what] 59)) := below_alloc0 w _
  have hl := hl.later hb0
  obtain ⟨w0, HW0⟩ : ∃ w0, Hid (w.alloc (.cells #[.int .i64 od.by_, .int .i64 od.kind, .int .i64 od.who, .int .i64 od.x, .int .i64 od.y, .int .i64 od.what] 59) = w0) := ⟨_, Lib.hid rfl⟩
  have hBX : Blk w0 w.heap.size (ordBlk od) 59 (0, 0) := by rw [← HW0.out]; exact hBX
  rw [HW0.out] at hb0 hl
  have HL := Lib.hid hl
  have HBX := Lib.hid hBX
  have HBW := Lib.hid hb0
  have HF0 : Hid (Fresh w0 w0.heap.size (.slice none 0 0) 0 [] (l.take 0)) := ⟨⟨rfl, rfl, Own.nil _ _ _ _ _, (fun i h => by simp at h), (fun i h => by simp at h), (fun i h => by simp at h)⟩, (fun i h => by simp at h), (fun i j h => by simp at h)⟩
  clear hl hBX hb0
  go_enter Try.func10, Try.ntmps10
  go_wp2_with fail
  rw [HW0.out]
  go_loopw [7, 9, 26] (fun v _ iv wr => ∃ (k : Nat) (hs' : List Seat.At), k ≤ len0 ∧ iv = .int .i64 (k : Int) ∧ Hid (Fresh wr w0.heap.size v k hs' (l.take k)) ∧ Below w0.heap.size w0 wr) (fun _ _ iv _ => len0 - (intOf iv).toNat)
  case atStart => exact ⟨0, [], Nat.zero_le _, rfl, HF0, Below.refl _ _⟩
  case round =>
    clear HF0
    obtain ⟨k, hs', hk, rfl, HM, hb⟩ := hrel
    by_cases hlt : k < len0
    · obtain ⟨b, o, rfl, hcell⟩ := (HL.out.later hb).three (by omega)
      obtain ⟨q0, q1, q2⟩ := hcell k (by omega) (by omega)
      have ho := (HL.out.ords k (by omega) (by omega)).later hb
      have htk : l.take (k + 1) = l.take k ++ [l[k]'(by omega)] := List.take_succ_eq_append_getElem (by omega)
      have HTK := Lib.hid htk
      have HO := Lib.hid ho
      clear hcell htk ho
      generalize l[k]'(by omega) = s at *
      generalize hs[k]'(by omega) = h at *
      obtain ⟨m, HMM⟩ : ∃ m, Hid (s.waits.length = m) := ⟨_, Lib.hid rfl⟩
      have HO : Hid (Ords wr h.A m h.c s.waits) := by have := HO.out; rw [HMM.out] at this; exact this
      rw [HMM.out] at q0
      have hA := Blk.new wr [.slice h.A m h.c, .int .i64 s.late, .bool s.gone] 49 (0, 0)
      go_wp2_with fail
      refine (clone_o (HO.out.later (below_alloc0 _ _))).mono ?_
      rintro e w2 ⟨A', c', rfl, hown, hle, hnone, hb2⟩
      have hA2 := hA.later hb2
      have c0 : w2.cell? ⟨wr.heap.size, 0, none⟩ = some (.slice h.A m h.c) := hA2.cell 0
      have c1 : w2.cell? ⟨wr.heap.size, 1, none⟩ = some (.int .i64 s.late) := hA2.cell 1
      have c2 : w2.cell? ⟨wr.heap.size, 2, none⟩ = some (.bool s.gone) := hA2.cell 2
      have f0 : w2.frozen? ⟨wr.heap.size, 0, none⟩ = false := hA2.free 0 (.inr (Nat.zero_le _))
      have hX : wr.heap.size < w2.heap.size := hA2.lt
      have hb3 : Below wr.heap.size wr (w2.setCell ⟨wr.heap.size, 0, none⟩ (.slice A' m c')) := ((below_alloc0 _ _).trans (hb2.mono (by simp))).setCell (p := ⟨wr.heap.size, 0, none⟩) (Nat.le_refl _) _
      have hsz : (w2.setCell ⟨wr.heap.size, 0, none⟩ (.slice A' m c')).heap.size = w2.heap.size := by simp [World.setCell]
      have hb4 : Below wr.heap.size wr ((w2.setCell ⟨wr.heap.size, 0, none⟩ (.slice A' m c')).alloc (.cells #[.slice A' m c', .int .i64 s.late, .bool s.gone] 49)) := hb3.alloc hb3.size _
      have HM4 := Lib.hid (HM.out.later hb4)
      have hfar : A' = none ∨ ∃ a, A' = some a ∧ wr.heap.size < a.block ∧ a.block < w2.heap.size := by
        obtain ⟨A2, c2', e, _, _, _, hbd, _⟩ := hown.shape
        injection e with e1 _ e2
        subst e1
        cases A' with
        | none => exact .inl rfl
        | some a => exact .inr ⟨a, rfl, by have := (hbd a rfl).1; simp at this; omega, (hbd a rfl).2⟩
      have HFAR := Lib.hid hfar
      clear hA hA2 hfar
      have hown3 : Own ((w2.setCell ⟨wr.heap.size, 0, none⟩ (.slice A' m c')).alloc (.cells #[.slice A' m c', .int .i64 s.late, .bool s.gone] 49)) w0.heap.size 59 6 GO (.slice A' m c') m (ordCells s.waits) := by
        refine Own.later ?_ (below_alloc0 _ _)
        refine ((hown.mono (by have := hb.size; simp; omega)).other ?_ _)
        intro e
        rcases HFAR.out with h | ⟨a, h, h1, h2⟩
        · rw [h] at e; cases e
        · rw [h] at e; injection e with e; exact absurd (show a.block = wr.heap.size from e) (by omega)
      have HOWN := Lib.hid hown3
      clear hown hown3 hnone
      
      have HW5 : ∃ W5, Hid (W5 = (w2.setCell ⟨wr.heap.size, 0, none⟩ (.slice A' m c')).alloc (.cells #[.slice A' m c', .int .i64 s.late, .bool s.gone] 49)) := ⟨_, Lib.hid rfl⟩
      have hrd : Rd ((w2.setCell ⟨wr.heap.size, 0, none⟩ (.slice A' m c')).alloc (.cells #[.slice A' m c', .int .i64 s.late, .bool s.gone] 49)) 3 (some ⟨w2.heap.size, 0, none⟩) 1 (Seat.cells ⟨A', c'⟩ s) := by
        have hB := Blk.new (w2.setCell ⟨wr.heap.size, 0, none⟩ (.slice A' m c')) [.slice A' m c', .int .i64 s.late, .bool s.gone] 49 (0, 0)
        rw [hsz] at hB
        refine ⟨rfl, fun _ => ⟨w2.heap.size, 0, rfl, fun j u hu => ?_⟩⟩
        rw [Nat.zero_add, hB.cell j, ← hu]
        unfold Seat.cells
        rw [HMM.out]
      have HRD := Lib.hid hrd
      clear hrd HW5
      go_wp2_with (at_builtin; refine wpList_append_all _ rfl _ _ 44 rfl w0.heap.size 49 i0 seatZero 3 40 Try.underlying44 hi hz0 hz1 hz2 rfl (by decide) GS3 (fun _ _ _ => trivial) _ k (Seat.row hs' (l.take k)) rfl ?g0 (some ⟨w2.heap.size, 0, none⟩) 1 1 (Seat.cells ⟨A', c'⟩ s) rfl HRD.out (cells_one _ _) (fun _ _ _ => trivial) ?g4 ?g5 ?g6 ?_)
      case g0 => exact HM4.out.mine.row
      case g4 => unfold maxLen; omega
      case g5 => omega
      case g6 => exact Nat.le_trans hb.size hb4.size
      intro v' w6 hown6 hgrow6 _ hat6
      have hmb : m ≤ 2932031007317 := HO.out.big
      have hm6 : Fresh w6 w0.heap.size v' (k + 1) (hs' ++ [⟨A', c'⟩]) (l.take k ++ [s]) := by
        refine HM4.out.push (h := ⟨A', c'⟩) (s := s) HMM.out HOWN.out hmb ?_ ?_ hown6 hgrow6 (hat6.imp id fun h => by rw [h]; simp [World.setCell])
        · intro a ha e
          rcases HFAR.out with h1 | ⟨a2, h1, h2, h3⟩
          · rw [h1] at ha; cases ha
          · rw [h1] at ha
            obtain rfl := Option.some.inj ha
            have := (HM.out.mine.row.row.lt _ e).2
            omega
        · intro j hj a b ha hb e
          rcases HFAR.out with h1 | ⟨a2, h1, h2, h3⟩
          · rw [h1] at hb; cases hb
          · rw [h1] at hb
            obtain rfl := Option.some.inj hb
            have := ((HM.out.mine.free j hj).lt ha).2
            omega
      rw [← HTK.out] at hm6
      have hb6 : Below w0.heap.size w0 w6 := (hb.trans (hb4.mono hb.size)).grown hgrow6 (Nat.le_trans hb.size hb4.size) (fun q hq => (HM4.out.mine.row.row.lt q hq).1)
      have HM6 := Lib.hid hm6
      clear hm6 hgrow6 hat6 hown6
      go_wp2_with fail
      go_roundw
      case rel => exact ⟨k + 1, hs' ++ [⟨A', c'⟩], by omega, by go_num, HM6, hb6⟩
      case measure => simp [intOf]; omega
    · obtain rfl : k = len0 := by omega
      have hm := HM.out.mine
      rw [List.take_of_length_le (by omega)] at hm
      obtain ⟨A2, c2, hv, _⟩ := hm.row.shape
      subst hv
      have HS2 := Lib.hid (hm.seats hn)
      have HL2 := Lib.hid (HL.out.later hb)
      obtain ⟨p0, p1, p2, p3, p4, p5⟩ := six_of (HBX.out.later hb)
      obtain ⟨wb, hwb⟩ : ∃ wb, wb = wr := ⟨_, rfl⟩
      subst hwb
      have hbb : Below w.heap.size w wb := HBW.out.trans (hb.mono HBW.out.size)
      have hsay := fun W (hW : Seats W a0 k cap0 hs l) => say_loose a0 k cap0 hs l od W hW
      have hclo := fun W (hW : Seats W a0 k cap0 hs l) => close_loose a0 k cap0 hs l a2 W hW
      have hlea := fun W (hW : Seats W a0 k cap0 hs l) => leave_loose a0 k cap0 hs l W hW
      rw [Ord.cells_eq] at hsay
      unfold SayLoose at hsay hlea
      unfold CloseLoose at hclo
      clear hm HM
      go_wp2_with fail
      refine (hsay _ HL2.out).mono ?_
      rintro e w3 ⟨Aa, na, ca, ka, ha, la, rfl, hla, hna, hb3⟩
      have HLA := Lib.hid hla
      clear hsay hla p0 p1 p2 p3 p4 p5
      go_wp2_with fail
      refine (hclo _ (HL2.out.later hb3)).mono ?_
      rintro e w4 ⟨Ab, nb, cb, Bb, mb, db, kb, hhb, lb, rfl, hlb, hfb, hmb, hmb2, hnb0, hnb, hb4⟩
      have HLB := Lib.hid hlb
      have HFB := Lib.hid hfb
      have hb34 := hb3.trans (hb4.mono hb3.size)
      clear hclo hlb hfb
      go_wp2_with fail
      refine (hlea _ (HL2.out.later hb34)).mono ?_
      rintro e w5 ⟨Ac, nc, cc, kc, hhc, lc, rfl, hlc, hnc, hb5⟩
      have HLC := Lib.hid hlc
      have hb35 := hb34.trans (hb5.mono hb34.size)
      have hsm := sames_any a0 A2 k cap0 c2 hs hs' l w5 (HL2.out.later hb35) (HS2.out.later hb35)
      clear hlea hlc
      go_wp2_with fail
      refine hsm.mono ?_
      rintro e w6 ⟨rfl, hb6⟩
      clear hsm
      have hb36 := hb35.trans (hb6.mono hb35.size)
      go_wp2_with fail
      have hsz3 := hb3.size
      have hsz34 := hb34.size
      obtain ⟨F, hF⟩ : ∃ F : Nat → V3, F = fun t => if t = 0 then ⟨Aa, na, ca, ha⟩ else if t = 1 then ⟨Ab, nb, cb, hhb⟩ else ⟨Ac, nc, cc, hhc⟩ := ⟨_, rfl⟩
      have F0 : F 0 = ⟨Aa, na, ca, ha⟩ := by rw [hF]; rfl
      have F1 : F 1 = ⟨Ab, nb, cb, hhb⟩ := by rw [hF]; rfl
      have F2 : F 2 = ⟨Ac, nc, cc, hhc⟩ := by rw [hF]; rfl
      clear hF
      have HIX : Hid (∀ t : Nat, t < 3 → ∀ w, (Instr.index 68 (.agg #[.slice Aa na ca, .slice Ab nb cb, .slice Ac nc cc]) (.int .i64 (t : Int))).run Try.prog w = .ok (F t).v w) := by
        intro t ht w
        rcases three_cases ht with rfl | rfl | rfl
        · rw [F0]; kernel_rfl
        · rw [F1]; kernel_rfl
        · rw [F2]; kernel_rfl
      have HN8 : Hid (∀ t : Nat, t < 3 → (F t).n ≤ 8) := by
        intro t ht
        rcases three_cases ht with rfl | rfl | rfl
        · rw [F0]; exact hna
        · rw [F1]; exact hnb
        · rw [F2]; exact hnc
      have HA0 : Hid (Three wb w6 F Bb db) := by
        have h45 := hb4.trans (hb5.mono hb4.size)
        have h46 := h45.trans (hb6.mono h45.size)
        have h56 := hb5.trans (hb6.mono hb5.size)
        have hla := HLA.out.later h46
        have hlb := (HLB.out.later h56).down hsz3
        have hlc := (HLC.out.later hb6).down hsz34
        have hab : ∀ g, (Value.slice Aa na ca).ownBlock = some g → (Value.slice Ab nb cb).ownBlock ≠ some g := fun g h1 h2 => by have := (HLA.out.row.row.lt g h1).2; have := (HLB.out.row.row.lt g h2).1; omega
        have hac : ∀ g, (Value.slice Aa na ca).ownBlock = some g → (Value.slice Ac nc cc).ownBlock ≠ some g := fun g h1 h2 => by have := (HLA.out.row.row.lt g h1).2; have := (HLC.out.row.row.lt g h2).1; have := hb4.size; omega
        have hbc : ∀ g, (Value.slice Ab nb cb).ownBlock = some g → (Value.slice Ac nc cc).ownBlock ≠ some g := fun g h1 h2 => by have := (HLB.out.row.row.lt g h1).2; have := (HLC.out.row.row.lt g h2).1; omega
        refine ⟨fun t ht => ?_, fun t u ht hu hne g => ?_, (HFB.out.of_block fun a ha => h56.block _ (HFB.out.lt ha).2).down hsz3, hb36⟩
        · rcases three_cases ht with rfl | rfl | rfl
          · rw [F0]; exact ⟨la, hla⟩
          · rw [F1]; exact ⟨lb, hlb⟩
          · rw [F2]; exact ⟨lc, hlc⟩
        · rcases three_cases ht with rfl | rfl | rfl <;> rcases three_cases hu with rfl | rfl | rfl <;> first | exact absurd rfl hne | skip
          all_goals simp only [F0, F1, F2]
          · exact hab g
          · exact hac g
          · exact fun h1 h2 => hab g h2 h1
          · exact hbc g
          · exact fun h1 h2 => hac g h2 h1
          · exact fun h1 h2 => hbc g h2 h1
      have HSS := Lib.hid (fun (W : World) (hW : Below wb.heap.size wb W) => sames_any a0 A2 k cap0 c2 hs hs' l W (HL2.out.later hW) (HS2.out.later hW))
      clear HLA HLB HLC HFB hb3 hb4 hb5 hb6 hb34 hb35 hb36 hsz3 hsz34 F0 F1 F2 hna hnb hnc HL2 HS2
      go_loopw [19, 20, 21, 22, 64, 69, 86] (fun _ _ _ _ tv _ _ wx => ∃ t : Nat, t ≤ 3 ∧ tv = .int .i64 (t : Int) ∧ Hid (Three wb wx F Bb db)) (fun _ _ _ _ tv _ _ _ => 3 - (intOf tv).toNat)
      case atStart => exact ⟨0, by decide, rfl, HA0⟩
      case round =>
        clear HA0
        obtain ⟨t, ht3, rfl, HA⟩ := hrel
        by_cases ht : t < 3
        · obtain ⟨⟨yA, yn, ycap, yh⟩, hFt⟩ : ∃ y, F t = y := ⟨_, rfl⟩
          have hny : yn ≤ 8 := by have := HN8.out t ht; rw [hFt] at this; exact this
          have hix := HIX.out t ht
          rw [hFt] at hix
          simp only [V3.v] at hix
          have HFT := Lib.hid hFt
          have htd : decide ((t : Int) < 3) = true := by simp; omega
          clear hFt
          go_wp2_with fail
          clear hix
          go_loopw [20, 21, 22, 69, 86] (fun _ _ _ iv _ wx => ∃ i : Nat, i ≤ yn ∧ iv = .int .i64 (i : Int) ∧ Hid (Three wb wx F Bb db)) (fun _ _ _ iv _ _ => yn - (intOf iv).toNat)
          case atStart => exact ⟨0, Nat.zero_le _, rfl, HA⟩
          case round =>
            clear HA
            obtain ⟨i, hin, rfl, HA⟩ := hrel
            by_cases hil : i < yn
            · obtain ⟨ly, hly⟩ := HA.out.at_ ht HFT.out
              obtain ⟨g, cy, e, _⟩ := hly.row.addr (by omega)
              injection e with e1 _ e2
              subst e1; subst e2
              have hlyl := hly.len
              have hlyh := hly.hlen
              obtain ⟨q0, q1, f1⟩ := hly.cells i (by omega) (by omega)
              obtain ⟨cp1, cp2, cp3⟩ := hly.cap i (by omega) (by omega)
              have hfr := hly.free i (by omega)
              obtain ⟨y, hy⟩ : ∃ y, yh[i]'(by omega) = y := ⟨_, rfl⟩
              rw [hy] at q0 cp1 cp2 cp3 hfr
              have HY := Lib.hid hy
              have hii : (i : Int) < (yn : Int) := by omega
              have hi0 : (0 : Int) ≤ (i : Int) := by omega
              generalize (ly[i]'(by omega)).waits.length = m at *
              clear hy hly
              obtain ⟨yA, yc⟩ := y
              simp only at q0 cp1 cp2 cp3 hfr
              cases yA with
              | none =>
                have hc0 := cp3 rfl
                subst hc0
                obtain rfl : m = 0 := by omega
                clear cp1 cp2 cp3 hfr
                go_wp2_with fail
                go_quiet (fail)
                have HAQ := Lib.hid (HA.out.drewN nq)
                clear q0 q1 f1
                obtain ⟨l2, hl2⟩ := HAQ.out.at_ ht HFT.out
                have hl2l := hl2.len
                have hl2h := hl2.hlen
                obtain ⟨_, q1, f1⟩ := hl2.cells i (by omega) (by omega)
                clear hl2
                have hlast := fun x => HAQ.out.late t ht HFT.out i hil x
                have HLAST := Lib.hid hlast
                clear hlast
                go_wp2_with fail
                go_loopw [22, 86] (fun _ kv wx => kv = .int .i64 ((0 : Nat) : Int) ∧ Hid (wx = wr.drewN nq)) (fun _ kv _ => 0 - (intOf kv).toNat)
                case atStart => exact ⟨rfl, rfl⟩
                case round =>
                  obtain ⟨rfl, HWX⟩ := hrel
                  have hwx := HWX.out
                  subst hwx
                  go_wp2_with fail
                  go_roundw
                  case rel => exact ⟨i + 1, by omega, by go_num, HLAST.out _⟩
                  case measure => simp [intOf]; omega
              | some ya =>
                have hyb : ∃ b o, ya = ⟨b, o, none⟩ := by
                  rcases hfr with h | ⟨b, o, cur, h, _⟩
                  · cases h
                  · exact ⟨b, o, Option.some.inj h⟩
                obtain ⟨b, o, rfl⟩ := hyb
                clear cp3 hfr
                go_wp2_with fail
                go_quiet (fail)
                have HAQ := Lib.hid (HA.out.drewN nq)
                clear q0 q1 f1
                go_wp2_with fail
                go_loopw [22, 86] (fun _ kv wx => ∃ k : Nat, k ≤ yc ∧ kv = .int .i64 (k : Int) ∧ Hid (Three wb wx F Bb db)) (fun _ kv _ => yc - (intOf kv).toNat)
                case atStart => exact ⟨0, Nat.zero_le _, rfl, HAQ⟩
                case round =>
                  clear HAQ
                  obtain ⟨k2, hk2, rfl, HA2⟩ := hrel
                  obtain ⟨l2, hl2⟩ := HA2.out.at_ ht HFT.out
                  have hl2l := hl2.len
                  have hl2h := hl2.hlen
                  by_cases hkl : k2 < yc
                  · have hfr := hl2.free i (by omega)
                    rw [HY.out] at hfr
                    obtain ⟨z, hz, hf⟩ := hfr.cell (k2 * 6) (show k2 * 6 < yc * 6 by omega)
                    have hst := fun x => HA2.out.store (j := o + k2 * 6) (hfr.at_ rfl) (hfr.lt rfl).1 x
                    have HST := Lib.hid hst
                    have hki : (k2 : Int) < (yc : Int) := by omega
                    have hk0 : (0 : Int) ≤ (k2 : Int) := by omega
                    clear hst hfr hl2
                    go_wp2_with fail
                    go_roundw
                    case rel => exact ⟨k2 + 1, by omega, by go_num, HST.out _⟩
                    case measure => simp [intOf]; omega
                  · obtain ⟨_, q1, f1⟩ := hl2.cells i (by omega) (by omega)
                    have HLAST := Lib.hid (fun x => HA2.out.late t ht HFT.out i hil x)
                    clear hl2
                    go_wp2_with fail
                    go_roundw
                    case rel => exact ⟨i + 1, by omega, by go_num, HLAST.out _⟩
                    case measure => simp [intOf]; omega
            · go_wp2_with fail
              go_roundw
              case rel => exact ⟨t + 1, by omega, by go_num, HA⟩
              case measure => simp [intOf]; omega
        · obtain rfl : t = 3 := by omega
          go_wp2_with fail
          go_loopw [23, 110] (fun _ iv wx => ∃ i : Nat, i ≤ mb ∧ iv = .int .i64 (i : Int) ∧ Hid (Free wx wb.heap.size Bb db) ∧ Below wb.heap.size wb wx) (fun _ iv _ => mb - (intOf iv).toNat)
          case atStart => exact ⟨0, Nat.zero_le _, rfl, HA.out.out, HA.out.below⟩
          case round =>
            clear HA
            obtain ⟨i, hin, rfl, HFR, hbx⟩ := hrel
            by_cases hil : i < mb
            · have hfr := HFR.out
              cases Bb with
              | none => exact absurd (hnb0 rfl) (by omega)
              | some ya =>
                have hyb : ∃ b o, ya = ⟨b, o, none⟩ := by
                  rcases hfr with h | ⟨b, o, cur, h, _⟩
                  · cases h
                  · exact ⟨b, o, Option.some.inj h⟩
                obtain ⟨b, o, rfl⟩ := hyb
                obtain ⟨z, hz, hf⟩ := hfr.cell (i * 6) (show i * 6 < db * 6 by omega)
                have hst := fun x : Int => (⟨hfr.store (b := b) (j := o + i * 6) x, hbx.setCell (p := ⟨b, o + i * 6, none⟩) (hfr.lt rfl).1 (.int .i64 x)⟩ : Free _ _ _ _ ∧ Below _ _ _)
                have HST := Lib.hid hst
                have hki : (i : Int) < (mb : Int) := by omega
                have hk0 : (0 : Int) ≤ (i : Int) := by omega
                clear hst hfr hbx HFR
                go_wp2_with fail
                go_roundw
                case rel => exact ⟨i + 1, by omega, by go_num, (HST.out _).1, (HST.out _).2⟩
                case measure => simp [intOf]; omega
            · clear HFR
              have HSS2 := Lib.hid (fun (W : World) (hW : Below wr.heap.size wr W) => HSS.out W (hbx.trans (hW.mono hbx.size)))
              have HBB := Lib.hid (hbb.trans (hbx.mono hbb.size))
              clear HSS hbb hbx
              go_wp2_with fail
              refine (slives_any _).mono ?_
              rintro e w7 ⟨rfl, hb7⟩
              go_wp2_with fail
              refine (HSS2.out _ hb7).mono ?_
              rintro e w8 ⟨rfl, hb8⟩
              go_wp2_with fail
              go_ret
              exact ⟨rfl, HBB.out.trans ((hb7.trans (hb8.mono hb7.size)).mono HBB.out.size)⟩
end Go.Proofs.Ytmooknaljkeaaaa
