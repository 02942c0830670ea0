/-
  The walks of seat.right and seat.Check.
-/
import Derived.Test.YtmooknaljkeaaaaSeatF
set_option linter.unusedVariables false
namespace Go.Proofs.Ytmooknaljkeaaaa
open Go.RowKit

theorem all_bad (i : Int) (l : List Ord) : (l.all fun o => o.by_ == i && o.ok) = !l.any (badO i) := by
  induction l with
  | nil => rfl
  | cons o r ih =>
    rw [List.all_cons, List.any_cons, ih]
    unfold badO
    cases h1 : o.by_ == i <;> cases h2 : o.ok <;> simp_all
set_option maxRecDepth 100000 in
set_option maxHeartbeats 1000000 in
theorem sright_any (i : Int) (h : Seat.At) (s : Seat) (w : World) (ho : Ords w h.A s.waits.length h.c s.waits) :
    Calls Try.prog 58 #[.agg #[.slice h.A s.waits.length h.c, .int .i64 s.late, .bool s.gone], .int .i64 i] w fun e w' => e = .returned (.bool (s.right i)) ∧ Below w.heap.size w w' := by
  have hB1 : Below w.heap.size w (w.alloc (.cells #[.slice h.A s.waits.length h.c, .int .i64 s.late, .bool s.gone] 49)) := below_alloc0 w _
  have hB2 := hB1.alloc hB1.size (.cells #[.int .i64 i] 3)
  have hI := Blk.new (w.alloc (.cells #[.slice h.A s.waits.length h.c, .int .i64 s.late, .bool s.gone] 49)) [.int .i64 i] 3 (0, 0)
  have hg := hI.cell 0
  have hsz : (w.alloc (.cells #[.slice h.A s.waits.length h.c, .int .i64 s.late, .bool s.gone] 49)).heap.size = w.heap.size + 1 := by simp
  rw [hsz] at hg
  have hc := has_right i (w.heap.size + 1) h.A s.waits.length h.c s.waits _ hg (ho.later hB2)
  have hr : s.right i = (inB s.late 0 1000000 && (!s.gone || (s.late == 0 && s.waits.isEmpty)) && !s.waits.any (badO i)) := by unfold Seat.right; rw [all_bad]
  have he : s.waits.isEmpty = decide (s.waits.length = 0) := by cases s.waits <;> simp
  rw [he] at hr
  rw [hr]
  clear hI hg hsz ho hr he
  generalize s.waits.any (badO i) = bad at *
  have hlen : s.waits.length ≤ 9223372036854775807 ∨ True := .inr trivial
  clear hlen
  generalize s.waits.length = m at *
  generalize s.late = late at *
  cases hl : inB late 0 1000000 with
  | false =>
    rcases inB_false hl with h1 | h1
    · clear hl hc
      go_enter Try.func58, Try.ntmps58
      go_wp2_with fail
      go_ret
      exact ⟨rfl, hB2⟩
    · have h0 : ¬ late < 0 := by omega
      clear hl hc
      go_enter Try.func58, Try.ntmps58
      go_wp2_with fail
      go_ret
      exact ⟨rfl, hB2⟩
  | true =>
    obtain ⟨h1, h2⟩ := inB_true hl
    clear hl
    cases hgn : s.gone with
    | false =>
      rw [hgn] at hc hB2
      go_enter Try.func58, Try.ntmps58
      go_wp2_with (go_at_call 77; refine hc.mono ?_; rintro e w' ⟨rfl, hb2⟩)
      go_ret
      exact ⟨rfl, hB2.trans (hb2.mono hB2.size)⟩
    | true =>
      rw [hgn] at hc hB2
      by_cases hz : late = 0
      · subst hz
        cases m with
        | zero =>
          go_enter Try.func58, Try.ntmps58
          go_wp2_with (go_at_call 77; refine hc.mono ?_; rintro e w' ⟨rfl, hb2⟩)
          go_ret
          exact ⟨rfl, hB2.trans (hb2.mono hB2.size)⟩
        | succ m =>
          have hm : (0 : Int) < ((m + 1 : Nat) : Int) := by omega
          clear hc
          go_enter Try.func58, Try.ntmps58
          go_wp2_with fail
          go_ret
          exact ⟨by simp, hB2⟩
      · have hz2 : (late == 0) = false := by rw [beq_eq_false_iff_ne]; exact hz
        have hz3 : (late != 0) = true := by rw [bne_iff_ne]; exact hz
        clear hc
        go_enter Try.func58, Try.ntmps58
        go_wp2_with fail
        go_ret
        exact ⟨by simp [hz2], hB2⟩
theorem rightAll_iff (i : Int) (l : List Seat) : Seat.rightAll i l = true ↔ ∀ j (hj : j < l.length), (l[j]).right (i + (j : Int)) = true := by
  induction l generalizing i with
  | nil => simp [Seat.rightAll]
  | cons s r ih =>
    rw [Seat.rightAll, Bool.and_eq_true, ih]
    constructor
    · rintro ⟨h1, h2⟩ j hj
      cases j with
      | zero => simpa using h1
      | succ j =>
        have := h2 j (by simpa using hj)
        rw [show i + 1 + (j : Int) = i + ((j + 1 : Nat) : Int) from by omega] at this
        exact this
    · intro h
      have h0 : Seat.right (i + ((0 : Nat) : Int)) s = true := h 0 (by simp)
      refine ⟨by simpa using h0, fun j hj => ?_⟩
      have := h (j + 1) (by simpa using hj)
      rw [show i + ((j + 1 : Nat) : Int) = i + 1 + (j : Int) from by omega] at this
      exact this
theorem Seat.chk_one {l : List Seat} (h : l.length < 1 ∨ 8 < l.length) : Seat.chk l = 1 := by unfold Seat.chk; rw [if_pos h]
theorem Seat.chk_two {l : List Seat} (h1 : 1 ≤ l.length) (h2 : l.length ≤ 8) (h : l.any longS = true) : Seat.chk l = 2 := by
  unfold Seat.chk; rw [if_neg (by omega), if_pos]; exact h
theorem Seat.chk_four {l : List Seat} (h1 : 1 ≤ l.length) (h2 : l.length ≤ 8) (h : l.any longS = false) (hr : Seat.rightAll 0 l = false) : Seat.chk l = 4 := by
  unfold Seat.chk; rw [if_neg (by omega), if_neg (by intro e; rw [show l.any longS = true from e] at h; cases h), hr]; rfl
theorem Seat.chk_zero {l : List Seat} (h1 : 1 ≤ l.length) (h2 : l.length ≤ 8) (h : l.any longS = false) (hr : Seat.rightAll 0 l = true) : Seat.chk l = 0 := by
  unfold Seat.chk; rw [if_neg (by omega), if_neg (by intro e; rw [show l.any longS = true from e] at h; cases h), hr]; rfl
set_option maxRecDepth 100000 in
set_option maxHeartbeats 1000000 in
/-- seat.Check. -/
theorem scheck_any (A : Option Addr) (n c : Nat) (hs : List Seat.At) (l : List Seat) (w : World) (hl : Seats w A n c hs l) :
    Calls Try.prog 29 #[.slice A n c] w fun e w' => e = .returned (.int .i64 (Seat.chk l)) ∧ Below w.heap.size w w' := by
  have hn := hl.cap.2.1
  have hlen := hl.len
  have hhlen := hl.hlen
  by_cases h1 : n < 1
  · have hr := Seat.chk_one (l := l) (by omega)
    rw [hr]
    clear hr hlen hhlen hl
    go_enter Try.func29, Try.ntmps29
    go_wp2_with fail
    go_ret
    exact ⟨rfl, Below.refl _ _⟩
  by_cases h8 : 8 < n
  · have hr := Seat.chk_one (l := l) (by omega)
    rw [hr]
    clear hr hlen hhlen hl
    go_enter Try.func29, Try.ntmps29
    go_wp2_with fail
    go_ret
    exact ⟨rfl, Below.refl _ _⟩
  have hc := has_long A n c hs l w hl
  cases hlong : l.any longS with
  | true =>
    have hr := Seat.chk_two (l := l) (by omega) (by omega) hlong
    rw [hr]
    rw [hlong] at hc
    clear hr hlen hhlen hl hlong
    go_enter Try.func29, Try.ntmps29
    go_wp2_with (go_at_call 56; refine hc.mono ?_; rintro e w' ⟨rfl, hb2⟩)
    go_ret
    exact ⟨rfl, hb2⟩
  | false =>
    rw [hlong] at hc
    have H4 : Hid (∀ j (hj : j < l.length), l[j].right (j : Int) = false → Seat.chk l = 4) := by
      intro j hj hf
      refine Seat.chk_four (by omega) (by omega) hlong ?_
      cases hall : Seat.rightAll 0 l with
      | false => rfl
      | true =>
        have := (rightAll_iff 0 l).1 hall j hj
        rw [Int.zero_add, hf] at this; cases this
    have H0 : Hid ((∀ j (hj : j < l.length), l[j].right (j : Int) = true) → Seat.chk l = 0) := by
      intro h
      refine Seat.chk_zero (by omega) (by omega) hlong ((rightAll_iff 0 l).2 fun j hj => ?_)
      rw [Int.zero_add]; exact h j hj
    generalize Seat.chk l = res at *
    have HL := Lib.hid hl
    clear hlong hl
    go_enter Try.func29, Try.ntmps29
    go_wp2_with (go_at_call 56; refine hc.mono ?_; rintro e w' ⟨rfl, hb0⟩)
    clear hc
    go_loopw [3, 4, 17] (fun _ _ iv wr => ∃ k : Nat, k ≤ n ∧ iv = .int .i64 (k : Int) ∧ Hid (∀ j (hj : j < k) (hj2 : j < l.length), l[j].right (j : Int) = true) ∧ Below w.heap.size w wr) (fun _ _ iv _ => n - (intOf iv).toNat)
    case atStart => exact ⟨0, Nat.zero_le _, rfl, (fun j hj => by omega), hb0⟩
    case round =>
      clear hb0
      obtain ⟨k, hk, rfl, HK, hb⟩ := hrel
      by_cases hlt : k < n
      · obtain ⟨b, o, rfl, hcell⟩ := (HL.out.later hb).three (by omega)
        obtain ⟨q0, q1, q2⟩ := hcell k (by omega) (by omega)
        have hc := fun W (hW : Ords W _ _ _ _) => sright_any (k : Int) (hs[k]'(by omega)) (l[k]'(by omega)) W hW
        have ho := HL.out.ords k (by omega) (by omega)
        clear hcell
        cases hbad : (l[k]'(by omega)).right (k : Int) with
        | true =>
          have HK2 : Hid (∀ j (hj : j < k + 1) (hj2 : j < l.length), l[j].right (j : Int) = true) := by
            intro j hj hj2
            by_cases h : j < k
            · exact HK.out j h hj2
            · obtain rfl : j = k := by omega
              exact hbad
          rw [hbad] at hc
          clear hbad
          have HO := Lib.hid (ho.later hb)
          clear ho
          generalize l[k]'(by omega) = s at *
          generalize hs[k]'(by omega) = h at *
          go_wp2_with (go_at_call 58; refine (hc _ (HO.out.later (below_alloc0 _ _))).mono ?_; rintro e w' ⟨rfl, hb2⟩)
          go_roundw
          case rel => exact ⟨k + 1, by omega, by go_num, HK2, hb.trans (((below_alloc0 _ _).trans (hb2.mono (by simp))).mono hb.size)⟩
          case measure => simp [intOf]; omega
        | false =>
          have hres := H4.out k (by omega) hbad
          rw [hbad] at hc
          have HRES := Lib.hid hres
          clear hbad hres
          have HO := Lib.hid (ho.later hb)
          clear ho
          generalize l[k]'(by omega) = s at *
          generalize hs[k]'(by omega) = h at *
          go_wp2_with (go_at_call 58; refine (hc _ (HO.out.later (below_alloc0 _ _))).mono ?_; rintro e w' ⟨rfl, hb2⟩)
          go_ret
          exact ⟨by rw [HRES.out]; rfl, hb.trans (((below_alloc0 _ _).trans (hb2.mono (by simp))).mono hb.size)⟩
      · have hres := H0.out fun j hj => HK.out j (by omega) hj
        have HRES := Lib.hid hres
        clear hres
        go_wp2_with fail
        go_ret
        exact ⟨by rw [HRES.out]; rfl, hb⟩
end Go.Proofs.Ytmooknaljkeaaaa
