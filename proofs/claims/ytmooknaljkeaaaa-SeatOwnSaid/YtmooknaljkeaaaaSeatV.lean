/-
  mustkeep.seatLives holds.
-/
import Derived.Test.YtmooknaljkeaaaaSeatS
import Derived.Test.YtmooknaljkeaaaaSeatL
import Derived.Test.YtmooknaljkeaaaaSeatG
set_option linter.unusedVariables false
namespace Go.Proofs.Ytmooknaljkeaaaa
open Go.RowKit

def oOne : Ord := ⟨1, 4, 5, 0, 0, 0⟩
def oTwo : Ord := ⟨0, 4, 6, 0, 0, 0⟩
def lives0 : List Seat := [seat0, seat0]
def lives1 : List Seat := [seat0, ⟨[oOne], 0, false⟩]
def lives2 : List Seat := [⟨[oTwo], 0, false⟩, ⟨[oOne], 0, false⟩]
theorem lives_facts : Seat.chk lives0 = 0 ∧ Seat.chk lives1 = 0 ∧ Seat.chk lives2 = 0 ∧ oOne.chk = 0 ∧ oTwo.chk = 0 := by decide +kernel
theorem lives_say1 : sayTo lives0 oOne = lives1 := rfl
theorem lives_say2 : sayTo lives1 oTwo = lives2 := rfl
theorem lives_by : Seat.ByAll lives2 := by
  intro j hj o ho
  match j, hj with
  | 0, _ => simp [lives2] at ho; subst ho; rfl
  | 1, _ => simp [lives2] at ho; subst ho; rfl
theorem lives_late : ∀ s ∈ lives2, 0 ≤ s.late ∧ s.late ≤ 1000000 := by
  intro s hs
  simp [lives2] at hs
  rcases hs with rfl | rfl <;> simp
theorem lives_closed {l : List Seat} {out : List Ord} (h : Seat.Closed 1 lives2 l out) : ∃ s0 s1 : Seat, l = [s0, s1] ∧ out = [oTwo] ∧ s1.waits.length = 1 := by
  have hlen : l.length = 2 := h.kept.len
  match l, hlen with
  | [s0, s1], _ =>
    have h0 := h.kept.waits 0 (by simp) (by decide)
    have h1 := h.kept.waits 1 (by simp) (by decide)
    have e0 : ofP 0 out ++ s0.waits = [oTwo] := h0
    have e1 : ofP 1 out ++ s1.waits = [oOne] := h1
    have hle := h.le
    match out, hle with
    | [], _ =>
      have : s0.waits = [oTwo] := e0
      have := h.full 0 (by simp) (by show s0.waits ≠ []; rw [this]; simp)
      simp at this
    | [x], _ =>
      obtain ⟨j, hj, hk, hx⟩ := h.first x rfl
      match j, hj with
      | 0, _ =>
        have hx : some oTwo = some x := hx
        obtain rfl := Option.some.inj hx
        refine ⟨s0, s1, rfl, rfl, ?_⟩
        have : ofP 1 [oTwo] = [] := rfl
        rw [this, List.nil_append] at e1
        rw [e1]; rfl
      | 1, _ =>
        have := hk 0 (by decide)
        have : [oTwo] = [] := this
        cases this
set_option maxRecDepth 100000 in
set_option maxHeartbeats 2000000 in
theorem slives_any (w : World) : Calls Try.prog 27 #[] w fun e w' => e = .returned (.bool true) ∧ Below w.heap.size w w' := by
  obtain ⟨f0, f1, f2, f3, f4⟩ := lives_facts
  have hnew := new_any 2 (by decide) (by decide) w
  unfold NewPost at hnew
  have hs1 := fun A c hs W (hW : Seats W A 2 c hs lives0) => say_ok A 2 c hs lives0 oOne W hW f0 f3 1 rfl seat0 rfl rfl (by decide) (by decide)
  have hs2 := fun A c hs W (hW : Seats W A 2 c hs lives1) => say_ok A 2 c hs lives1 oTwo W hW f1 f4 0 rfl seat0 rfl rfl (by decide) (by decide)
  have hcl := fun A c hs W (hW : Seats W A 2 c hs lives2) => sclose_any A 2 c hs lives2 1 W hW f2 (by decide) (by decide) lives_by (by decide) (by decide) lives_late
  unfold SayPost at hs1 hs2
  unfold ClosePost at hcl
  rw [lives_say1] at hs1
  rw [lives_say2] at hs2
  have HC : Hid (∀ l out, Seat.Closed 1 lives2 l out → ∃ s0 s1 : Seat, l = [s0, s1] ∧ out = [oTwo] ∧ s1.waits.length = 1) := fun l out h => lives_closed h
  have HR : Hid (List.replicate 2 seat0 = lives0) := rfl
  have hone : oOne.cells.toArray = #[.int .i64 1, .int .i64 4, .int .i64 5, .int .i64 0, .int .i64 0, .int .i64 0] := rfl
  have htwo : oTwo.cells.toArray = #[.int .i64 0, .int .i64 4, .int .i64 6, .int .i64 0, .int .i64 0, .int .i64 0] := rfl
  rw [hone] at hs1
  rw [htwo] at hs2
  rw [HR.out] at hnew
  clear f0 f1 f2 f3 f4 hone htwo
  go_enter Try.func27, Try.ntmps27
  go_wp2_with fail
  refine hnew.mono ?_
  rintro e w1 ⟨A1, c1, h1, rfl, hm1, hb1⟩
  have HM1 := Lib.hid (hm1.seats (by decide))
  clear hm1 hnew
  go_wp2_with fail
  refine (hs1 A1 c1 h1 w1 HM1.out).mono ?_
  rintro e w2 ⟨A2, c2, h2, rfl, hm2, hb2⟩
  have HM2 := Lib.hid (hm2.seats (by decide))
  have hb2 := hb1.trans (hb2.mono hb1.size)
  clear hm2 hs1 hb1
  go_wp2_with fail
  refine (hs2 A2 c2 h2 w2 HM2.out).mono ?_
  rintro e w3 ⟨A3, c3, h3, rfl, hm3, hb3⟩
  have HM3 := Lib.hid (hm3.seats (by decide))
  have hb3 := hb2.trans (hb3.mono hb2.size)
  clear hm3 hs2 hb2
  go_wp2_with fail
  refine (hcl A3 c3 h3 w3 HM3.out).mono ?_
  rintro e w4 ⟨A4, c4, h4, l4, B4, d4, out4, rfl, hclosed, hm4, ho4, hb4⟩
  have hb4 := hb3.trans (hb4.mono hb3.size)
  obtain ⟨s0, s1, rfl, rfl, hw1⟩ := HC.out _ _ hclosed
  obtain ⟨k1, _, _, _, hka⟩ : ∃ k1, h4[1]? = some k1 ∧ True ∧ True ∧ True := ⟨_, List.getElem?_eq_getElem (by rw [hm4.hlen]; decide), trivial, trivial, trivial⟩
  obtain ⟨b, o, k, rfl, _, _, q0, _, _⟩ := (hm4.seats (by decide)).get (i := 1) (s := s1) rfl
  obtain ⟨g, cg, e, _⟩ := ho4.addr (by decide)
  have hsix := ho4.rd rfl
  injection e with e1 _ e2
  subst e1; subst e2
  obtain ⟨b', o', e, hcell⟩ := hsix.2 (by decide)
  injection e with e
  injection e with e1 e2
  subst e1; subst e2
  have hwho : w4.cell? ⟨g, 0 + 2, none⟩ = some (.int .i64 6) := hcell 2 _ rfl
  rw [hw1] at q0
  clear hclosed hm4 ho4 hcl hsix hcell HM1 HM2 HM3
  simp only [Nat.zero_add, Nat.one_mul] at hwho q0
  go_wp2_with fail
  go_ret
  exact ⟨rfl, hb4⟩
end Go.Proofs.Ytmooknaljkeaaaa
