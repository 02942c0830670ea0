/-
  SeatLate: who says nothing is late, turn by turn, as often as that; who says something is not; who is gone is never late, and says nothing.
-/
import Derived.Test.YtmooknaljkeaaaaSeatZ
set_option linter.unusedVariables false
namespace Go.Proofs.Ytmooknaljkeaaaa
open Go.RowKit

theorem drop_ok (i : Nat) (h : i ≤ 7) : (⟨(i : Int), 4, 1, 0, 0, 0⟩ : Ord).chk = 0 := by
  refine Ord.chk_good ?_ ?_
  · unfold Ord.range
    simp [inB]
    omega
  · rfl
theorem set_gone_chk {l : List Seat} (h : Seat.chk l = 0) (i : Nat) (hi : i < l.length) : Seat.chk (l.set i goneSeat) = 0 := by
  obtain ⟨g1, g8, _, _, gw, _⟩ := Seat.good h
  have hr := Seat.rights h
  refine Seat.chk_of (by rw [List.length_set]; exact g1) (by rw [List.length_set]; exact g8) ?_ ?_
  · intro j hj
    rw [List.length_set] at hj
    by_cases e : i = j
    · subst e; rw [List.getElem_set_self]; exact Nat.zero_le _
    · rw [List.getElem_set_ne e]; exact gw _ (List.getElem_mem hj)
  · intro j hj
    rw [List.length_set] at hj
    by_cases e : i = j
    · subst e; rw [List.getElem_set_self]; rfl
    · rw [List.getElem_set_ne e]; exact hr j hj
def dropO (pl : Nat) : Ord := ⟨(pl : Int), 4, 1, 0, 0, 0⟩
theorem late_say {l : List Seat} {pl : Nat} {sa : Seat} (hchk : Seat.chk l = 0) (hs : l[pl]? = some sa) (hg : sa.gone = false) (hw : sa.waits = []) (hpl : pl ≤ 7) :
    sayCode l (dropO pl) = 0 ∧ sayTo l (dropO pl) = l.set pl ⟨[dropO pl], sa.late, false⟩ := by
  have hto : (dropO pl).by_.toNat = pl := rfl
  have hd : (dropO pl).chk = 0 := drop_ok pl hpl
  constructor
  · unfold sayCode
    rw [if_neg (by rw [hchk]; simp), if_neg (by rw [hd]; simp), hto, hs]
    simp [hg, hw]
  · unfold sayTo
    rw [hto, hs]
    simp [hg, hw]
theorem late_close {l l' : List Seat} {out : List Ord} {pl : Nat} {o : Ord} {late : Int} (hb : l[pl]? = some ⟨[o], late, false⟩) (h : Seat.Closed 1 l l' out) : out.length = 1 ∧ ∃ sc, l'[pl]? = some sc ∧ sc.late = 0 ∧ sc.gone = false := by
  obtain ⟨hj, hb⟩ := List.getElem?_eq_some_iff.1 hb
  have hl := h.kept.len
  have hj' : pl < l'.length := by omega
  have hw := h.kept.waits pl hj' hj
  obtain ⟨k1, k2⟩ := h.kept.late pl hj' hj
  rw [hb] at hw k1 k2
  refine ⟨?_, l'[pl], List.getElem?_eq_getElem hj', by rw [k1]; rfl, k2⟩
  have hle := h.le
  cases out with
  | nil =>
    have : l'[pl].waits = [o] := hw
    have := h.full pl hj' (by rw [this]; simp)
    simp at this
  | cons x r => simp at hle ⊢; exact hle
def clr (s : Seat) : Seat := ⟨[], s.late, s.gone⟩
/-- Amid the loop that lets all orders be forgotten. -/
structure Clr (wr : World) (B g c n : Nat) (l0 : List Seat) (hs : List Seat.At) (l : List Seat) (k : Nat) : Prop where
  own : Own wr B 49 3 GS3 (.slice (some ⟨g, 0, none⟩) n c) n (Seat.row hs l)
  len : l.length = n
  hlen : hs.length = n
  done : ∀ j (h : j < l.length) (h2 : j < hs.length) (h0 : j < l0.length), j < k → l[j] = clr l0[j] ∧ hs[j] = ⟨none, 0⟩
  rest : ∀ j (h : j < l.length) (h0 : j < l0.length), k ≤ j → l[j] = l0[j]
theorem Clr.step {wr : World} {B g c n k : Nat} {l0 : List Seat} {hs : List Seat.At} {l : List Seat} (h : Clr wr B g c n l0 hs l k) (hl0 : l0.length = n) (hk : k < n) :
    Clr (wr.setCell ⟨g, k * 3, none⟩ (.slice none 0 0)) B g c n l0 (hs.set k ⟨none, 0⟩) (l.set k (clr (l0[k]'(by omega)))) (k + 1) := by
  have hl := h.len
  have hh := h.hlen
  have hlk := h.rest k (by omega) (by omega) (Nat.le_refl _)
  refine ⟨?_, by rw [List.length_set]; exact hl, by rw [List.length_set]; exact hh, ?_, ?_⟩
  · have h1 := h.own.stored (k * 3 + 0) (.slice none 0 0) trivial
    rw [Seat.row_set hs l (hh.trans hl.symm) k 0 (by omega) (by decide) ⟨none, 0⟩ (clr (l0[k]'(by omega))) _ (by rw [hlk]; rfl)] at h1
    exact h1
  · intro j hj hj2 h0 hjk
    rw [List.length_set] at hj hj2
    by_cases e : k = j
    · subst e; rw [List.getElem_set_self, List.getElem_set_self]; exact ⟨rfl, rfl⟩
    · rw [List.getElem_set_ne e, List.getElem_set_ne e]; exact h.done j hj hj2 h0 (by omega)
  · intro j hj h0 hjk
    rw [List.length_set] at hj
    rw [List.getElem_set_ne (by omega)]
    exact h.rest j hj h0 (by omega)
theorem Clr.mine {wr : World} {B g c n : Nat} {l0 : List Seat} {hs : List Seat.At} {l : List Seat} (h : Clr wr B g c n l0 hs l n) (hl0 : l0.length = n) : Mine wr B (.slice (some ⟨g, 0, none⟩) n c) n hs l ∧ l = l0.map clr := by
  have hl := h.len
  have hh := h.hlen
  have hd := fun j (hj : j < n) => h.done j (by omega) (by omega) (by omega) hj
  refine ⟨⟨hl, hh, h.own, ?_, ?_, ?_⟩, ?_⟩
  · intro i h1 h2
    obtain ⟨e1, e2⟩ := hd i (by omega)
    rw [e1, e2]
    exact ⟨rfl, Nat.le_refl _, by show 0 ≤ _; omega, by show 0 ≤ _; omega, (fun _ => ⟨rfl, rfl⟩), Rd.zero _ _ _⟩
  · intro i h1
    rw [(hd i (by omega)).2]
    exact .inl rfl
  · intro i h1 a ha
    rw [(hd i (by omega)).2] at ha
    cases ha
  · apply List.ext_getElem
    · rw [List.length_map]; omega
    · intro i h1 h2
      rw [List.getElem_map]
      exact (hd i (by omega)).1
set_option maxRecDepth 100000 in
set_option maxHeartbeats 8000000 in
theorem seatLate_any (a0 : Option Addr) (len0 cap0 : Nat) (a1 : Int) (a2 : Int) (w : World) (h0 : (.slice (.cons (.slice (.cons (.int .i64) (.cons (.int .i64) (.cons (.int .i64) (.cons (.cons (.int .i64) (.cons (.int .i64) .nil)) (.cons (.int .i64) .nil))))) 48) (.cons (.int .i64) (.cons .bool .nil))) 40 : Sh).Ok w [.slice a0 len0 cap0]) (w1 : (Lit.int .i64 a1).wf = true) (w2 : (Lit.int .i64 a2).wf = true) :
    Calls Try.prog 7 #[.slice a0 len0 cap0, .int .i64 a1, .int .i64 a2] w fun e w' => e = .returned (.bool true) ∧ Below w.heap.size w w' := by
  obtain ⟨hs, l0, hl⟩ := seats_open h0
  clear h0 w1 w2
  have hck := fun W (hW : Seats W a0 len0 cap0 hs l0) => scheck_any a0 len0 cap0 hs l0 W hW
  have HL := Lib.hid hl
  have hl0 := hl.len
  clear hl
  by_cases hgood : Seat.chk l0 = 0
  rotate_left
  · obtain ⟨e0, HE⟩ : ∃ e0, Hid (Seat.chk l0 = e0) := ⟨_, Lib.hid rfl⟩
    rw [HE.out] at hck hgood
    have hne : (e0 != 0) = true := by rw [bne_iff_ne]; exact hgood
    have hne2 : (e0 == 0) = false := by rw [beq_eq_false_iff_ne]; exact hgood
    clear hgood hl0
    go_enter Try.func7, Try.ntmps7
    go_wp2_with fail
    refine (slives_any _).mono ?_
    rintro e w2 ⟨rfl, hb2⟩
    go_wp2_with fail
    refine (hck _ (HL.out.later hb2)).mono ?_
    rintro e w3 ⟨rfl, hb3⟩
    go_wp2_with fail
    refine (slives_any _).mono ?_
    rintro e w4 ⟨rfl, hb4⟩
    go_wp2_with fail
    go_ret
    exact ⟨rfl, hb2.trans ((hb3.trans (hb4.mono hb3.size)).mono hb2.size)⟩
  have HGOOD := Lib.hid hgood
  rw [hgood] at hck
  clear hgood
  by_cases hb_0 : a1 < 0
  · clear hl0
    go_enter Try.func7, Try.ntmps7
    go_wp2_with fail
    refine (slives_any _).mono ?_
    rintro e w2 ⟨rfl, hb2⟩
    go_wp2_with fail
    refine (hck _ (HL.out.later hb2)).mono ?_
    rintro e w3 ⟨rfl, hb3⟩
    go_wp2_with fail
    refine (slives_any _).mono ?_
    rintro e w4 ⟨rfl, hb4⟩
    go_wp2_with fail
    go_ret
    exact ⟨rfl, hb2.trans ((hb3.trans (hb4.mono hb3.size)).mono hb2.size)⟩
  by_cases hb_1 : (len0 : Int) ≤ a1
  · clear hl0
    go_enter Try.func7, Try.ntmps7
    go_wp2_with fail
    refine (slives_any _).mono ?_
    rintro e w2 ⟨rfl, hb2⟩
    go_wp2_with fail
    refine (hck _ (HL.out.later hb2)).mono ?_
    rintro e w3 ⟨rfl, hb3⟩
    go_wp2_with fail
    refine (slives_any _).mono ?_
    rintro e w4 ⟨rfl, hb4⟩
    go_wp2_with fail
    go_ret
    exact ⟨rfl, hb2.trans ((hb3.trans (hb4.mono hb3.size)).mono hb2.size)⟩
  by_cases hb_2 : a2 < 0
  · clear hl0
    go_enter Try.func7, Try.ntmps7
    go_wp2_with fail
    refine (slives_any _).mono ?_
    rintro e w2 ⟨rfl, hb2⟩
    go_wp2_with fail
    refine (hck _ (HL.out.later hb2)).mono ?_
    rintro e w3 ⟨rfl, hb3⟩
    go_wp2_with fail
    refine (slives_any _).mono ?_
    rintro e w4 ⟨rfl, hb4⟩
    go_wp2_with fail
    go_ret
    exact ⟨rfl, hb2.trans ((hb3.trans (hb4.mono hb3.size)).mono hb2.size)⟩
  by_cases hb_3 : 50 < a2
  · clear hl0
    go_enter Try.func7, Try.ntmps7
    go_wp2_with fail
    refine (slives_any _).mono ?_
    rintro e w2 ⟨rfl, hb2⟩
    go_wp2_with fail
    refine (hck _ (HL.out.later hb2)).mono ?_
    rintro e w3 ⟨rfl, hb3⟩
    go_wp2_with fail
    refine (slives_any _).mono ?_
    rintro e w4 ⟨rfl, hb4⟩
    go_wp2_with fail
    go_ret
    exact ⟨rfl, hb2.trans ((hb3.trans (hb4.mono hb3.size)).mono hb2.size)⟩
  obtain ⟨pl, rfl⟩ := Int.eq_ofNat_of_zero_le (show 0 ≤ a1 by omega)
  obtain ⟨nn, rfl⟩ := Int.eq_ofNat_of_zero_le (show 0 ≤ a2 by omega)
  have hpl : pl < len0 := by omega
  have hnn : nn ≤ 50 := by omega
  obtain ⟨g1, g8, _, glate, _, _⟩ := Seat.good HGOOD.out
  obtain ⟨s, hs0⟩ : ∃ s, l0[pl]? = some s := ⟨_, List.getElem?_eq_getElem (by omega)⟩
  have hsl : 0 ≤ s.late ∧ s.late ≤ 1000000 := glate s (List.mem_of_getElem? hs0)
  have hsg : s.gone = true → s.late = 0 := by
    intro hg
    obtain ⟨hj, rfl⟩ := List.getElem?_eq_some_iff.1 hs0
    have := Seat.rights HGOOD.out pl hj
    unfold Seat.right at this
    simp only [Bool.and_eq_true, hg, Bool.not_true, Bool.false_or, beq_iff_eq] at this
    exact this.1.2.1
  have HS0 := Lib.hid hs0
  have HSG := Lib.hid hsg
  have HLN := Lib.hid hl0
  have hn1 : 1 ≤ len0 := by omega
  have hn8 : len0 ≤ 8 := by omega
  have hcl := fun W (hW : Seats W a0 len0 cap0 hs l0) => clone_t hW hn1
  unfold CloneT at hcl
  clear glate hs0 hsg hl0 g1 g8
  go_enter Try.func7, Try.ntmps7
  go_wp2_with fail
  refine (slives_any _).mono ?_
  rintro e w2 ⟨rfl, hb2⟩
  go_wp2_with fail
  refine (hck _ (HL.out.later hb2)).mono ?_
  rintro e w3 ⟨rfl, hb3⟩
  have hb3 := hb2.trans (hb3.mono hb2.size)
  clear hck hb2
  go_wp2_with fail
  refine (hcl _ (HL.out.later hb3)).mono ?_
  rintro e w4 ⟨A4, c4, rfl, hown4, hb4⟩
  obtain ⟨g, c4', e, hc4, hc4b⟩ := hown4.addr (by omega)
  injection e with e1 _ e2
  subst e1; subst e2
  have hown4 := hown4.mono hb3.size
  have hb4 := hb3.trans (hb4.mono hb3.size)
  have HC0 : Hid (Clr w4 w.heap.size g c4 len0 l0 hs l0 0) := ⟨hown4, HLN.out, HL.out.hlen, (fun j h h2 h0 hj => by omega), (fun j h h0 _ => rfl)⟩
  clear hcl hown4 hb3
  go_wp2_with fail
  go_loopw [8, 53] (fun _ iv wr => ∃ (k : Nat) (hs' : List Seat.At) (l' : List Seat), k ≤ len0 ∧ iv = .int .i64 (k : Int) ∧ Hid (Clr wr w.heap.size g c4 len0 l0 hs' l' k) ∧ Below w.heap.size w wr) (fun _ iv _ => len0 - (intOf iv).toNat)
  case atStart => exact ⟨0, hs, l0, Nat.zero_le _, rfl, HC0, hb4⟩
  case round =>
    clear HC0 hb4
    obtain ⟨k, hs', l', hk, rfl, HC, hbk⟩ := hrel
    by_cases hlt : k < len0
    · have hstep := Lib.hid (HC.out.step HLN.out hlt)
      have hgl := HC.out.own.row.lt g rfl
      have hcell : ∃ u, wr.cell? ⟨g, k * 3, none⟩ = some u := by
        obtain ⟨u, hu, _⟩ := HC.out.own.some_ (k * 3) (by omega)
        exact ⟨u, hu⟩
      obtain ⟨u, q0⟩ := hcell
      have f0 := HC.out.own.free (k * 3)
      have hki : (k : Int) < (len0 : Int) := by omega
      have hk0 : (0 : Int) ≤ (k : Int) := by omega
      go_wp2_with fail
      go_roundw
      case rel => exact ⟨k + 1, _, _, by omega, by go_num, hstep, hbk.setCell (p := ⟨g, k * 3, none⟩) hgl.1 _⟩
      case measure => simp [intOf]; omega
    · obtain rfl : k = len0 := by omega
      obtain ⟨hmine, hmap⟩ := HC.out.mine HLN.out
      have hidle : Idle l0 l' 0 := by rw [hmap]; exact Idle.start HGOOD.out
      have HM := Lib.hid (hmine.seats (by omega))
      have HI := Lib.hid hidle
      clear hmine hmap hidle HC
      go_wp2_with fail
      go_loopw [7, 9, 10, 11, 62] (fun av _ _ _ iv wx => ∃ (t : Nat) (A : Option Addr) (c : Nat) (h : List Seat.At) (l : List Seat), t ≤ nn ∧ av = .slice A k c ∧ iv = .int .i64 (t : Int) ∧ Hid (Seats wx A k c h l) ∧ Hid (Idle l0 l t) ∧ Below w.heap.size w wx) (fun _ _ _ _ iv _ => nn - (intOf iv).toNat)
      case atStart => exact ⟨0, _, _, hs', l', Nat.zero_le _, rfl, rfl, HM, HI, hbk⟩
      case round =>
        clear HM HI hbk
        obtain ⟨t, A, c, h, l, ht, rfl, rfl, HM, HI, hbt⟩ := hrel
        by_cases htl : t < nn
        · obtain ⟨_, _, gby, glate, _, _⟩ := Seat.good HI.out.chk
          have hclo := sclose_any A k c h l 100 wr HM.out HI.out.chk (by decide) (by decide) gby hn1 hn8 glate
          unfold ClosePost at hclo
          clear gby glate
          go_wp2_with fail
          refine hclo.mono ?_
          rintro e w6 ⟨A6, c6, h6, l6, B6, d6, out6, rfl, hclosed, hm6, ho6, hb6⟩
          obtain ⟨hid6, rfl⟩ := HI.out.step hclosed
          have HI6 := Lib.hid hid6
          have HM6 := Lib.hid (hm6.seats (by omega))
          have hb7 := hbt.trans (hb6.mono hbt.size)
          have hz : (([] : List Ord).length : Int) = 0 := rfl
          clear hclo hclosed hm6 ho6 hid6 hb6
          simp only [List.length_nil] at *
          go_wp2_with fail
          go_roundw
          case rel => exact ⟨t + 1, A6, c6, h6, l6, by omega, rfl, by go_num, HM6, HI6, hb7⟩
          case measure => simp [intOf]; omega
        · obtain rfl : t = nn := by omega
          obtain ⟨sa, hsa⟩ : ∃ sa, l[pl]? = some sa := ⟨_, List.getElem?_eq_getElem (by rw [HI.out.len, HLN.out]; exact hpl)⟩
          have hfacts : sa.waits = [] ∧ sa.gone = s.gone ∧ sa.late = if s.gone then s.late else min (s.late + (t : Int)) 1000000 := by
            obtain ⟨hj, rfl⟩ := List.getElem?_eq_some_iff.1 hsa
            obtain ⟨hj0, rfl⟩ := List.getElem?_eq_some_iff.1 HS0.out
            exact ⟨HI.out.waits pl hj, HI.out.late pl hj hj0⟩
          obtain ⟨hfw, hfg, hfl⟩ := hfacts
          obtain ⟨b, o, hh, rfl, _, _, _, p1, p2⟩ := HL.out.get HS0.out
          have p1 := cell_later hbt p1
          have p2 := cell_later hbt p2
          obtain ⟨b2, o2, hh2, rfl, _, _, _, r1, _⟩ := HM.out.get hsa
          have hpli : (pl : Int) < (k : Int) := by omega
          have hpl0 : (0 : Int) ≤ (pl : Int) := by omega
          have hpl1 : ¬ (pl : Int) < 0 := by omega
          have hpl2 : ¬ (k : Int) ≤ (pl : Int) := by omega
          have hdo : (dropO pl).cells.toArray = #[.int .i64 (pl : Int), .int .i64 4, .int .i64 1, .int .i64 0, .int .i64 0, .int .i64 0] := rfl
          have HSA := Lib.hid hsa
          obtain ⟨gn, hgn⟩ : ∃ gn, s.gone = gn := ⟨_, rfl⟩
          rw [hgn] at hfg hfl p2
          have HFW := Lib.hid hfw
          have HFG := Lib.hid hfg
          have HGN := Lib.hid hgn
          clear hsa hfw hgn hfg
          cases gn with
          | true =>
            have hz := HSG.out HGN.out
            have hla : sa.late = 0 := by rw [hfl, if_pos rfl]; exact hz
            rw [hla] at r1
            have hsay := say_full (some ⟨b2, o2, none⟩) k c h l (dropO pl) wr HM.out HI.out.chk (drop_ok pl (by omega)) pl rfl sa HSA.out (.inl HFG.out)
            rw [HFG.out, hdo] at hsay
            simp only [if_true] at hsay
            unfold SayErr at hsay
            clear hfl hla hz hdo
            go_wp2_with fail
            refine hsay.mono ?_
            rintro e w6 ⟨rfl, hb6⟩
            have p2 := cell_later hb6 p2
            have r1 := cell_later hb6 r1
            clear hsay p1
            go_wp2_with fail
            go_ret
            exact ⟨rfl, hbt.trans (hb6.mono hbt.size)⟩
          | false =>
            simp only [Bool.false_eq_true, if_false] at hfl
            rw [hfl] at r1
            obtain ⟨hcode, hto⟩ := late_say HI.out.chk HSA.out HFG.out HFW.out (by omega)
            obtain ⟨hchkb, _⟩ := say_chk hcode
            have hsay := say_ok (some ⟨b2, o2, none⟩) k c h l (dropO pl) wr HM.out HI.out.chk (drop_ok pl (by omega)) pl rfl sa HSA.out HFG.out (by rw [HFW.out]; decide) hn8
            rw [hdo] at hsay
            unfold SayPost at hsay
            rw [hto] at hsay hchkb
            obtain ⟨_, _, gby, glate, _, _⟩ := Seat.good hchkb
            have hlb : (l.set pl ⟨[dropO pl], sa.late, false⟩)[pl]? = some ⟨[dropO pl], sa.late, false⟩ := by
              rw [List.getElem?_set_self (List.getElem?_eq_some_iff.1 HSA.out).1]
            generalize l.set pl ⟨[dropO pl], sa.late, false⟩ = lb at *
            have HLB := Lib.hid hlb
            have HCB := Lib.hid hchkb
            have hclo := fun A c hs W (hW : Seats W A k c hs lb) => sclose_any A k c hs lb 1 W hW hchkb (by decide) (by decide) gby hn1 hn8 glate
            unfold ClosePost at hclo
            obtain ⟨want, hwant⟩ : ∃ want, min (s.late + (t : Int)) 1000000 = want := ⟨_, rfl⟩
            rw [hwant] at r1
            clear hfl hdo hcode hto hlb hchkb gby glate
            have HWT := Lib.hid hwant
            clear hwant
            go_wp2_with fail
            rw [HWT.out]
            refine hsay.mono ?_
            rintro e w6 ⟨A6, c6, h6, rfl, hm6, hb6⟩
            have HM6 := Lib.hid (hm6.seats (by omega))
            have p2 := cell_later hb6 p2
            have r1 := cell_later hb6 r1
            have hbb := hbt.trans (hb6.mono hbt.size)
            clear hsay hm6 hb6 p1
            go_wp2_with fail
            refine (hclo A6 c6 h6 w6 HM6.out).mono ?_
            rintro e w7 ⟨A7, c7, h7, l7, B7, d7, out7, rfl, hclosed, hm7, ho7, hb7⟩
            obtain ⟨ho1, sc, hsc, hsc1, hsc2⟩ := late_close HLB.out hclosed
            have hchk7 := closed_chk HCB.out hclosed
            have HM7 := Lib.hid (hm7.seats (by omega))
            have r1 := cell_later hb7 r1
            have hbb := hbb.trans (hb7.mono hbb.size)
            obtain ⟨b7, o7, hh7, rfl, _, _, _, s1, s2⟩ := HM7.out.get hsc
            rw [hsc1] at s1
            have hlv := leave_ok (some ⟨b7, o7, none⟩) k c7 h7 l7 w7 HM7.out hchk7 pl sc hsc hsc2 hn8
            unfold LeavePost at hlv
            have hchk8 := set_gone_chk hchk7 pl (List.getElem?_eq_some_iff.1 hsc).1
            have hg8 : (l7.set pl goneSeat)[pl]? = some goneSeat := by
              rw [List.getElem?_set_self (List.getElem?_eq_some_iff.1 hsc).1]
            generalize l7.set pl goneSeat = l8 at *
            obtain ⟨_, _, gby, glate, _, _⟩ := Seat.good hchk8
            have hclo2 := fun A c hs W (hW : Seats W A k c hs l8) => sclose_any A k c hs l8 1 W hW hchk8 (by decide) (by decide) gby hn1 hn8 glate
            unfold ClosePost at hclo2
            have HG8 := Lib.hid hg8
            rw [ho1]
            have HO1 := Lib.hid ho1
            clear hclo hclosed hm7 ho7 hb7 hsc hsc1 hsc2 hchk7 hchk8 hg8 gby glate s2 ho1
            go_wp2_with fail
            refine hlv.mono ?_
            rintro e w8 ⟨A8, c8, h8, rfl, hm8, hb8⟩
            have HM8 := Lib.hid (hm8.seats (by omega))
            have r1 := cell_later hb8 r1
            have s1 := cell_later hb8 s1
            have hbb := hbb.trans (hb8.mono hbb.size)
            clear hlv hm8 hb8
            go_wp2_with fail
            refine (hclo2 A8 c8 h8 w8 HM8.out).mono ?_
            rintro e w9 ⟨A9, c9, h9, l9, B9, d9, out9, rfl, hclosed9, hm9, ho9, hb9⟩
            have r1 := cell_later hb9 r1
            have s1 := cell_later hb9 s1
            have hbb := hbb.trans (hb9.mono hbb.size)
            obtain ⟨b8, o8, hh8, rfl, _, _, _, _, z2⟩ := (HM8.out.later hb9).get HG8.out
            have z2 : w9.cell? ⟨b8, o8 + pl * 3 + 2, none⟩ = some (.bool true) := z2
            clear hclo2 hclosed9 hm9 ho9 hb9
            go_wp2_with fail
            go_ret
            exact ⟨rfl, hbb⟩
end Go.Proofs.Ytmooknaljkeaaaa
