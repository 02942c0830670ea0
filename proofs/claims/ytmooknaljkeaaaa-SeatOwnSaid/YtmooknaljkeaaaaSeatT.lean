/-
  The walk of seat.Say where it is refused.
-/
import Derived.Test.YtmooknaljkeaaaaSeatS
set_option linter.unusedVariables false
namespace Go.Proofs.Ytmooknaljkeaaaa
open Go.RowKit

theorem Ord.by_range {o : Ord} (h : o.chk = 0) : 0 ≤ o.by_ ∧ o.by_ ≤ 7 := by
  have := Ord.chk_ok.1 h
  unfold Ord.ok Ord.range at this
  simp only [Bool.and_eq_true] at this
  exact inB_true this.1.1.1.1.1.1
def SayErr (w : World) (k : Int) (e : Ending) (w' : World) : Prop := e = .returned (.tuple #[.slice none 0 0, .int .i64 k]) ∧ Below w.heap.size w w'
set_option maxRecDepth 100000 in
theorem say_bad (A : Option Addr) (n c : Nat) (hs : List Seat.At) (l : List Seat) (o : Ord) (w : World) (hl : Seats w A n c hs l) (h1 : Seat.chk l ≠ 0) :
    Calls Try.prog 31 #[.slice A n c, .agg o.cells.toArray] w (SayErr w (Seat.chk l)) := by
  have hb0 := below_alloc0 w (.cells #[.int .i64 o.by_, .int .i64 o.kind, .int .i64 o.who, .int .i64 o.x, .int .i64 o.y, .int .i64 o.what] 59)
  have hc := scheck_any A n c hs l _ (hl.later hb0)
  rw [Ord.cells_eq]
  generalize Seat.chk l = k at *
  have k1 : (k != 0) = true := by rw [bne_iff_ne]; exact h1
  have k2 : (k == 0) = false := by rw [beq_eq_false_iff_ne]; exact h1
  clear hl h1
  go_enter Try.func31, Try.ntmps31
  go_wp2_with fail
  refine hc.mono ?_
  rintro e w2 ⟨rfl, hb2⟩
  clear hc
  go_wp2_with fail
  go_ret2
  exact ⟨rfl, hb0.trans (hb2.mono hb0.size)⟩
set_option maxRecDepth 100000 in
theorem say_badO (A : Option Addr) (n c : Nat) (hs : List Seat.At) (l : List Seat) (o : Ord) (w : World) (hl : Seats w A n c hs l) (h1 : Seat.chk l = 0) (h2 : o.chk ≠ 0) :
    Calls Try.prog 31 #[.slice A n c, .agg o.cells.toArray] w (SayErr w o.chk) := by
  have hA := Blk.new w (ordBlk o) 59 (0, 0)
  have hb0 := below_alloc0 w (.cells #[.int .i64 o.by_, .int .i64 o.kind, .int .i64 o.who, .int .i64 o.x, .int .i64 o.y, .int .i64 o.what] 59)
  have hc := scheck_any A n c hs l _ (hl.later hb0)
  have ho := check_any o
  rw [h1] at hc
  rw [Ord.cells_eq] at ho ⊢
  generalize o.chk = k at *
  have k1 : (k != 0) = true := by rw [bne_iff_ne]; exact h2
  have k2 : (k == 0) = false := by rw [beq_eq_false_iff_ne]; exact h2
  clear hl h1 h2
  go_enter Try.func31, Try.ntmps31
  go_wp2_with fail
  refine hc.mono ?_
  rintro e w2 ⟨rfl, hb2⟩
  obtain ⟨p0, p1, p2, p3, p4, p5⟩ := six_of (hA.later hb2)
  have hb3 := hb0.trans (hb2.mono hb0.size)
  clear hc hA
  go_wp2_with fail
  refine (ho _).mono ?_
  rintro e w4 ⟨rfl, hb4⟩
  clear ho p0 p1 p2 p3 p4 p5
  go_wp2_with fail
  go_ret2
  exact ⟨rfl, hb3.trans (hb4.mono hb3.size)⟩
set_option maxRecDepth 100000 in
theorem say_none (A : Option Addr) (n c : Nat) (hs : List Seat.At) (l : List Seat) (o : Ord) (w : World) (hl : Seats w A n c hs l) (h1 : Seat.chk l = 0) (h2 : o.chk = 0) (hn : (n : Int) ≤ o.by_) :
    Calls Try.prog 31 #[.slice A n c, .agg o.cells.toArray] w (SayErr w 7) := by
  have hA := Blk.new w (ordBlk o) 59 (0, 0)
  have hb0 := below_alloc0 w (.cells #[.int .i64 o.by_, .int .i64 o.kind, .int .i64 o.who, .int .i64 o.x, .int .i64 o.y, .int .i64 o.what] 59)
  have hc := scheck_any A n c hs l _ (hl.later hb0)
  have ho := check_any o
  rw [h1] at hc
  rw [h2] at ho
  rw [Ord.cells_eq] at ho ⊢
  clear hl h1 h2
  go_enter Try.func31, Try.ntmps31
  go_wp2_with fail
  refine hc.mono ?_
  rintro e w2 ⟨rfl, hb2⟩
  have hA2 := hA.later hb2
  obtain ⟨p0, p1, p2, p3, p4, p5⟩ := six_of hA2
  have hb3 := hb0.trans (hb2.mono hb0.size)
  clear hc hA
  go_wp2_with fail
  refine (ho _).mono ?_
  rintro e w4 ⟨rfl, hb4⟩
  clear ho p0 p1 p2 p3 p4 p5
  obtain ⟨p0, p1, p2, p3, p4, p5⟩ := six_of (hA2.later hb4)
  clear hA2
  go_wp2_with fail
  go_ret2
  exact ⟨rfl, hb3.trans (hb4.mono hb3.size)⟩
set_option maxRecDepth 100000 in
set_option maxHeartbeats 1000000 in
theorem say_full (A : Option Addr) (n c : Nat) (hs : List Seat.At) (l : List Seat) (o : Ord) (w : World) (hl : Seats w A n c hs l) (h1 : Seat.chk l = 0) (h2 : o.chk = 0) (i : Nat) (hi : o.by_ = (i : Int)) (s : Seat) (hs0 : l[i]? = some s) (hbad : s.gone = true ∨ s.waits.length = 50) :
    Calls Try.prog 31 #[.slice A n c, .agg o.cells.toArray] w (SayErr w (if s.gone then 9 else 6)) := by
  have hA := Blk.new w (ordBlk o) 59 (0, 0)
  have hb0 := below_alloc0 w (.cells #[.int .i64 o.by_, .int .i64 o.kind, .int .i64 o.who, .int .i64 o.x, .int .i64 o.y, .int .i64 o.what] 59)
  have hc := scheck_any A n c hs l _ (hl.later hb0)
  have ho := check_any o
  rw [h1] at hc
  rw [h2] at ho
  rw [Ord.cells_eq] at ho ⊢
  obtain ⟨b, o0, k, rfl, hk0, hor, q0, q1, q2⟩ := hl.get hs0
  have hin : i < n := by have := (List.getElem?_eq_some_iff.1 hs0).1; rw [← hl.len]; exact this
  have hin' : ¬ (n : Int) ≤ (i : Int) := by omega
  have hin2 : (i : Int) < (n : Int) := by omega
  have hi0 : (0 : Int) ≤ (i : Int) := by omega
  have HI := Lib.hid hi
  have hwl : s.gone = true ∨ (s.gone = false ∧ s.waits.length = 50) := by
    rcases hbad with h | h
    · exact .inl h
    · cases hg : s.gone with
      | true => exact .inl rfl
      | false => exact .inr ⟨rfl, h⟩
  have HWL := Lib.hid hwl
  obtain ⟨m, hm⟩ : ∃ m, s.waits.length = m := ⟨_, rfl⟩
  rw [hm] at q0
  have HM := Lib.hid hm
  clear hl h1 h2 hi hs0 hbad hk0 hor hwl hm
  obtain ⟨gn, hgn⟩ : ∃ gn, s.gone = gn := ⟨_, rfl⟩
  rw [hgn] at q2 ⊢
  have HGN := Lib.hid hgn
  clear hgn
  cases gn with
  | true =>
    go_enter Try.func31, Try.ntmps31
    go_wp2_with fail
    refine hc.mono ?_
    rintro e w2 ⟨rfl, hb2⟩
    have hA2 := hA.later hb2
    obtain ⟨p0, p1, p2, p3, p4, p5⟩ := six_of hA2
    have hb3 := hb0.trans (hb2.mono hb0.size)
    clear hc hA
    go_wp2_with fail
    refine (ho _).mono ?_
    rintro e w4 ⟨rfl, hb4⟩
    clear ho p0 p1 p2 p3 p4 p5
    obtain ⟨p0, p1, p2, p3, p4, p5⟩ := six_of (hA2.later hb4)
    rw [HI.out] at p0
    have hb5 := hb3.trans (hb4.mono hb3.size)
    have q0 := cell_later hb5 q0
    have q2 := cell_later hb5 q2
    clear hA2
    go_wp2_with fail
    go_ret2
    exact ⟨rfl, hb5⟩
  | false =>
    have hm50 : m = 50 := by
      rcases HWL.out with h | h
      · rw [HGN.out] at h; cases h
      · rw [← HM.out]; exact h.2
    subst hm50
    go_enter Try.func31, Try.ntmps31
    go_wp2_with fail
    refine hc.mono ?_
    rintro e w2 ⟨rfl, hb2⟩
    have hA2 := hA.later hb2
    obtain ⟨p0, p1, p2, p3, p4, p5⟩ := six_of hA2
    have hb3 := hb0.trans (hb2.mono hb0.size)
    clear hc hA
    go_wp2_with fail
    refine (ho _).mono ?_
    rintro e w4 ⟨rfl, hb4⟩
    clear ho p0 p1 p2 p3 p4 p5
    obtain ⟨p0, p1, p2, p3, p4, p5⟩ := six_of (hA2.later hb4)
    rw [HI.out] at p0
    have hb5 := hb3.trans (hb4.mono hb3.size)
    have q0 := cell_later hb5 q0
    have q2 := cell_later hb5 q2
    clear hA2
    go_wp2_with fail
    go_ret2
    exact ⟨rfl, hb5⟩
/-- seat.Say, whatever it is given. -/
def SayAny (w : World) (n : Nat) (l : List Seat) (o : Ord) (e : Ending) (w' : World) : Prop :=
  (sayCode l o ≠ 0 ∧ SayErr w (sayCode l o) e w') ∨ (sayCode l o = 0 ∧ SayPost w n l o e w')
theorem say_any (A : Option Addr) (n c : Nat) (hs : List Seat.At) (l : List Seat) (o : Ord) (w : World) (hl : Seats w A n c hs l) (h50 : ∀ s ∈ l, s.waits.length ≤ 50) (hn8 : n ≤ 8) :
    Calls Try.prog 31 #[.slice A n c, .agg o.cells.toArray] w (SayAny w n l o) := by
  by_cases h1 : Seat.chk l = 0
  · by_cases h2 : o.chk = 0
    · obtain ⟨hb0, hb7⟩ := Ord.by_range h2
      obtain ⟨i, hi⟩ := Int.eq_ofNat_of_zero_le hb0
      have hcode : sayCode l o = match l[i]? with | none => 7 | some s => if s.gone then 9 else if s.waits.length = 50 then 6 else 0 := by
        unfold sayCode
        rw [if_neg (by rw [h1]; simp), if_neg (by rw [h2]; simp), hi]
        rfl
      cases hs0 : l[i]? with
      | none =>
        rw [hs0] at hcode
        have hn : (n : Int) ≤ o.by_ := by
          rw [List.getElem?_eq_none_iff, hl.len] at hs0
          rw [hi]; show (n : Int) ≤ (i : Int); omega
        refine (say_none A n c hs l o w hl h1 h2 hn).mono fun e w' h => .inl ?_
        rw [hcode]
        exact ⟨by decide, h⟩
      | some s =>
        rw [hs0] at hcode
        simp only at hcode
        by_cases hbad : s.gone = true ∨ s.waits.length = 50
        · refine (say_full A n c hs l o w hl h1 h2 i hi s hs0 hbad).mono fun e w' h => .inl ?_
          have hk : sayCode l o = if s.gone then 9 else 6 := by
            rw [hcode]
            cases hg : s.gone with
            | true => rfl
            | false =>
              rcases hbad with h | h
              · rw [hg] at h; cases h
              · simp [h]
          rw [hk]
          refine ⟨?_, h⟩
          split <;> decide
        · simp only [not_or] at hbad
          have hg : s.gone = false := by simpa using hbad.1
          have hle := h50 s (List.mem_of_getElem? hs0)
          have hk : sayCode l o = 0 := by rw [hcode, hg]; simp [hbad.2]
          exact (say_ok A n c hs l o w hl h1 h2 i hi s hs0 hg (by omega) hn8).mono fun e w' h => .inr ⟨hk, h⟩
    · have hk : sayCode l o = o.chk := by unfold sayCode; rw [if_neg (by rw [h1]; simp), if_pos h2]
      refine (say_badO A n c hs l o w hl h1 h2).mono fun e w' h => .inl ?_
      rw [hk]; exact ⟨h2, h⟩
  · have hk : sayCode l o = Seat.chk l := by unfold sayCode; rw [if_pos h1]
    refine (say_bad A n c hs l o w hl h1).mono fun e w' h => .inl ?_
    rw [hk]; exact ⟨h1, h⟩
end Go.Proofs.Ytmooknaljkeaaaa
