/-
  The walks of seat.right's and Check's function literals, and of slices.ContainsFunc with them.
-/
import Derived.Test.YtmooknaljkeaaaaSeatM
set_option linter.unusedVariables false
namespace Go.Proofs.Ytmooknaljkeaaaa
open Go.RowKit

def badO (i : Int) (o : Ord) : Bool := o.by_ != i || !o.ok
set_option maxRecDepth 100000 in
theorem right1_any (o : Ord) (i : Int) (g : Nat) (w : World) (hg : w.cell? ⟨g, 0, none⟩ = some (.int .i64 i)) :
    Calls Try.prog 78 #[.agg o.cells.toArray, .pointer (some ⟨g, 0, none⟩)] w fun e w' => e = .returned (.bool (badO i o)) ∧ Below w.heap.size w w' := by
  have HB := below_alloc0 w (.cells #[.int .i64 o.by_, .int .i64 o.kind, .int .i64 o.who, .int .i64 o.x, .int .i64 o.y, .int .i64 o.what] 59)
  have hc := check_any o
  have hgl := World.block_lt_of_cell? w _ hg
  rw [Ord.cells_eq] at hc ⊢
  by_cases hb : o.by_ = i
  · have h1 : (o.by_ == i) = true := by rw [beq_iff_eq]; exact hb
    have h2 : (o.by_ != i) = false := by simp [hb]
    cases hok : o.ok with
    | true =>
      have hz : o.chk = 0 := Ord.chk_ok.2 hok
      rw [hz] at hc
      have hr : badO i o = false := by simp [badO, hb, hok]
      rw [hr]
      clear hb hok hz hr
      go_enter Try.func78, Try.ntmps78
      go_wp2_with (go_at_call 59; refine (hc _).mono ?_; rintro e w' ⟨rfl, hb2⟩)
      go_ret
      exact ⟨rfl, HB.trans (hb2.mono HB.size)⟩
    | false =>
      have hz : (o.chk != 0) = true := by
        rw [bne_iff_ne]; intro h; rw [Ord.chk_ok.1 h] at hok; cases hok
      have hz2 : (o.chk == 0) = false := by
        rw [beq_eq_false_iff_ne]; intro h; rw [Ord.chk_ok.1 h] at hok; cases hok
      have hr : badO i o = true := by simp [badO, hok]
      rw [hr]
      clear hb hok hr
      go_enter Try.func78, Try.ntmps78
      go_wp2_with (go_at_call 59; refine (hc _).mono ?_; rintro e w' ⟨rfl, hb2⟩)
      go_ret
      exact ⟨rfl, HB.trans (hb2.mono HB.size)⟩
  · have h1 : (o.by_ == i) = false := by rw [beq_eq_false_iff_ne]; exact hb
    have h2 : (o.by_ != i) = true := by simp [hb]
    have hr : badO i o = true := by simp [badO, hb]
    rw [hr]
    clear hb hr hc
    go_enter Try.func78, Try.ntmps78
    go_wp2_with fail
    go_ret
    exact ⟨rfl, HB⟩
def idxI {α : Type} (p : α → Bool) (l : List α) : Int := match l.findIdx? p with | some k => (k : Int) | none => -1
theorem idxI_some {α : Type} {p : α → Bool} {l : List α} {k : Nat} (hk : k < l.length) (h1 : p l[k] = true) (h2 : ∀ j (hj : j < k), p (l[j]'(by omega)) = false) : idxI p l = (k : Int) := by
  unfold idxI
  have : l.findIdx? p = some k := by
    rw [List.findIdx?_eq_some_iff_getElem]
    exact ⟨hk, h1, fun j hj => by rw [h2 j hj]; simp⟩
  rw [this]
theorem idxI_none {α : Type} {p : α → Bool} {l : List α} (h2 : ∀ j (hj : j < l.length), p l[j] = false) : idxI p l = -1 := by
  unfold idxI
  have : l.findIdx? p = none := by
    rw [List.findIdx?_eq_none_iff]
    intro x hx
    obtain ⟨j, hj, rfl⟩ := List.mem_iff_getElem.1 hx
    exact h2 j hj
  rw [this]
theorem idxI_any {α : Type} (p : α → Bool) (l : List α) : decide (0 ≤ idxI p l) = l.any p := by
  by_cases h : ∀ j (hj : j < l.length), p l[j] = false
  · rw [idxI_none h]
    have : l.any p = false := by
      rw [List.any_eq_false]
      intro x hx
      obtain ⟨j, hj, rfl⟩ := List.mem_iff_getElem.1 hx
      rw [h j hj]; simp
    rw [this]; rfl
  · have : l.any p = true := by
      rw [List.any_eq_true]
      simp only [Classical.not_forall] at h
      obtain ⟨j, hj, h⟩ := h
      exact ⟨l[j], List.getElem_mem hj, by simpa using h⟩
    rw [this]
    unfold idxI
    cases hf : l.findIdx? p with
    | none =>
      rw [List.findIdx?_eq_none_iff] at hf
      rw [List.any_eq_true] at this
      obtain ⟨x, hx, hp⟩ := this
      rw [hf x hx] at hp; cases hp
    | some k => simp
set_option maxRecDepth 100000 in
set_option maxHeartbeats 1000000 in
theorem idx_right (i : Int) (g : Nat) (A : Option Addr) (n c : Nat) (l : List Ord) (w : World) (hg : w.cell? ⟨g, 0, none⟩ = some (.int .i64 i)) (hl : Ords w A n c l) :
    Calls Try.prog 75 #[.slice A n c, .func (.func 78) #[] #[.pointer (some ⟨g, 0, none⟩)]] w fun e w' => e = .returned (.int .i64 (idxI (badO i) l)) ∧ Below w.heap.size w w' := by
  have hn := hl.big
  have hlen := hl.len
  have HL := Lib.hid hl
  clear hl
  go_enter Try.func75, Try.ntmps75
  go_wp2_with fail
  go_loopw [5, 8] (fun _ iv wr => ∃ k : Nat, k ≤ n ∧ iv = .int .i64 (k : Int) ∧ Hid (∀ j (hj : j < k) (hj2 : j < l.length), badO i l[j] = false) ∧ Below w.heap.size w wr) (fun _ iv _ => n - (intOf iv).toNat)
  case atStart => exact ⟨0, Nat.zero_le _, rfl, (fun j hj => by omega), Below.refl _ _⟩
  case round =>
    obtain ⟨k, hk, rfl, HK, hb⟩ := hrel
    by_cases hlt : k < n
    · obtain ⟨b, o, rfl, hcell⟩ := Ords.at (HL.out.later hb) (by omega)
      obtain ⟨q0, q1, q2, q3, q4, q5⟩ := Ords.six (c := c) (n := n) hcell k (by omega)
      have hc := right1_any (l[k]'(by omega)) i g wr (cell_later hb hg)
      rw [Ord.cells_eq] at hc
      clear hcell
      cases hbad : badO i (l[k]'(by omega)) with
      | true =>
        have hres : idxI (badO i) l = (k : Int) := idxI_some (by omega) hbad fun j hj => HK.out j hj (by omega)
        rw [hbad] at hc
        have HRES := Lib.hid hres
        clear hres hbad
        go_wp2_with (go_at_call 78; refine hc.mono ?_; rintro e w' ⟨rfl, hb2⟩)
        go_ret
        exact ⟨by rw [HRES.out]; rfl, hb.trans (hb2.mono hb.size)⟩
      | false =>
        rw [hbad] at hc
        have HK2 : Hid (∀ j (hj : j < k + 1) (hj2 : j < l.length), badO i l[j] = false) := by
          intro j hj hj2
          by_cases h : j < k
          · exact HK.out j h hj2
          · obtain rfl : j = k := by omega
            exact hbad
        clear hbad
        go_wp2_with (go_at_call 78; refine hc.mono ?_; rintro e w' ⟨rfl, hb2⟩)
        go_roundw
        case rel => exact ⟨k + 1, by omega, by go_num, HK2, hb.trans (hb2.mono hb.size)⟩
        case measure => simp [intOf]; omega
    · have hres : idxI (badO i) l = -1 := idxI_none fun j hj => HK.out j (by omega) hj
      have HRES := Lib.hid hres
      clear hres
      go_wp2_with fail
      go_ret
      exact ⟨by rw [HRES.out]; rfl, hb⟩
theorem has_right (i : Int) (g : Nat) (A : Option Addr) (n c : Nat) (l : List Ord) (w : World) (hg : w.cell? ⟨g, 0, none⟩ = some (.int .i64 i)) (hl : Ords w A n c l) :
    Calls Try.prog 77 #[.slice A n c, .func (.func 78) #[] #[.pointer (some ⟨g, 0, none⟩)]] w fun e w' => e = .returned (.bool (l.any (badO i))) ∧ Below w.heap.size w w' := by
  have hc := idx_right i g A n c l w hg hl
  rw [← idxI_any]
  generalize idxI (badO i) l = r at *
  clear hl hg
  go_enter Try.func77, Try.ntmps77
  go_wp2_with (go_at_call 75; refine hc.mono ?_; rintro e w' ⟨rfl, hb2⟩)
  go_ret
  exact ⟨rfl, hb2⟩
def longS (s : Seat) : Bool := decide (50 < s.waits.length)
theorem check1_any (B : Option Addr) (m d : Nat) (late : Int) (gone : Bool) (w : World) :
    Calls Try.prog 57 #[.agg #[.slice B m d, .int .i64 late, .bool gone]] w fun e w' => e = .returned (.bool (decide (50 < m))) ∧ Below w.heap.size w w' := by
  have HB := below_alloc0 w (.cells #[.slice B m d, .int .i64 late, .bool gone] 49)
  have hd : decide (50 < m) = decide ((50 : Int) < (m : Int)) := decide_eq_decide.2 (by omega)
  rw [hd]
  clear hd
  go_enter Try.func57, Try.ntmps57
  go_wp2_with fail
  go_ret
  exact ⟨rfl, HB⟩
set_option maxRecDepth 100000 in
set_option maxHeartbeats 1000000 in
theorem idx_long (A : Option Addr) (n c : Nat) (hs : List Seat.At) (l : List Seat) (w : World) (hl : Seats w A n c hs l) :
    Calls Try.prog 76 #[.slice A n c, .func (.func 57) #[] #[]] w fun e w' => e = .returned (.int .i64 (idxI longS l)) ∧ Below w.heap.size w w' := by
  have hn := hl.cap.2.1
  have hlen := hl.len
  have hhlen := hl.hlen
  have HL := Lib.hid hl
  clear hl
  go_enter Try.func76, Try.ntmps76
  go_wp2_with fail
  go_loopw [5, 8] (fun _ iv wr => ∃ k : Nat, k ≤ n ∧ iv = .int .i64 (k : Int) ∧ Hid (∀ j (hj : j < k) (hj2 : j < l.length), longS l[j] = false) ∧ Below w.heap.size w wr) (fun _ iv _ => n - (intOf iv).toNat)
  case atStart => exact ⟨0, Nat.zero_le _, rfl, (fun j hj => by omega), Below.refl _ _⟩
  case round =>
    obtain ⟨k, hk, rfl, HK, hb⟩ := hrel
    by_cases hlt : k < n
    · obtain ⟨b, o, rfl, hcell⟩ := (HL.out.later hb).three (by omega)
      obtain ⟨q0, q1, q2⟩ := hcell k (by omega) (by omega)
      have hc := check1_any (hs[k]'(by omega)).A (l[k]'(by omega)).waits.length (hs[k]'(by omega)).c (l[k]'(by omega)).late (l[k]'(by omega)).gone wr
      have hdec : longS (l[k]'(by omega)) = decide (50 < (l[k]'(by omega)).waits.length) := rfl
      clear hcell
      cases hbad : longS (l[k]'(by omega)) with
      | true =>
        have hres : idxI longS l = (k : Int) := idxI_some (by omega) hbad fun j hj => HK.out j hj (by omega)
        rw [← hdec, hbad] at hc
        have HRES := Lib.hid hres
        clear hres hbad hdec
        generalize (l[k]'(by omega)).waits.length = m at *
        go_wp2_with (go_at_call 57; refine hc.mono ?_; rintro e w' ⟨rfl, hb2⟩)
        go_ret
        exact ⟨by rw [HRES.out]; rfl, hb.trans (hb2.mono hb.size)⟩
      | false =>
        have HK2 : Hid (∀ j (hj : j < k + 1) (hj2 : j < l.length), longS l[j] = false) := by
          intro j hj hj2
          by_cases h : j < k
          · exact HK.out j h hj2
          · obtain rfl : j = k := by omega
            exact hbad
        rw [← hdec, hbad] at hc
        clear hbad hdec
        generalize (l[k]'(by omega)).waits.length = m at *
        go_wp2_with (go_at_call 57; refine hc.mono ?_; rintro e w' ⟨rfl, hb2⟩)
        go_roundw
        case rel => exact ⟨k + 1, by omega, by go_num, HK2, hb.trans (hb2.mono hb.size)⟩
        case measure => simp [intOf]; omega
    · have hres : idxI longS l = -1 := idxI_none fun j hj => HK.out j (by omega) hj
      have HRES := Lib.hid hres
      clear hres
      go_wp2_with fail
      go_ret
      exact ⟨by rw [HRES.out]; rfl, hb⟩
theorem has_long (A : Option Addr) (n c : Nat) (hs : List Seat.At) (l : List Seat) (w : World) (hl : Seats w A n c hs l) :
    Calls Try.prog 56 #[.slice A n c, .func (.func 57) #[] #[]] w fun e w' => e = .returned (.bool (l.any longS)) ∧ Below w.heap.size w w' := by
  have hc := idx_long A n c hs l w hl
  rw [← idxI_any]
  generalize idxI longS l = r at *
  clear hl
  go_enter Try.func56, Try.ntmps56
  go_wp2_with (go_at_call 76; refine hc.mono ?_; rintro e w' ⟨rfl, hb2⟩)
  go_ret
  exact ⟨rfl, hb2⟩
end Go.Proofs.Ytmooknaljkeaaaa
