/-
  What is seen: plain law.
-/
import Derived.Test.YtkijhejjnlmbmaaSigL
set_option linter.unusedVariables false
set_option linter.unusedSimpArgs false
namespace Go.Proofs.Ytkijhejjnlmbmaa
open Go.RowKit

theorem Fld.opens (w : World) (cs : List Value) (h : Wd.fsh.Ok w cs) : ∃ (f : Fld) (A : Option Addr) (c : Nat), cs = [.int .i64 f.wide, .int .i64 f.high, .slice A f.places.length c] ∧ repI.SHas 8 w A c f.places ∧ okI f.wide ∧ okI f.high := by
  obtain ⟨_, _, rfl, _, _, ⟨x0, rfl, k0⟩, _, _, rfl, _, _, ⟨x1, rfl, k1⟩, _, _, rfl, _, _, hP, rfl⟩ := h
  obtain ⟨aP, cP, lP, rfl, HP⟩ := Rep.opens_slice (R := repI) repI_opens rfl (by decide) hP
  exact ⟨⟨x0, x1, lP⟩, aP, cP, rfl, HP, k0, k1⟩
theorem seesE_ok {f : Fld} {a b : Cel} (h : seesE f a b = 0) : f.atE a = 0 ∧ f.atE b = 0 := by
  unfold seesE at h
  split at h
  · contradiction
  · rename_i h1; exact ⟨by simpa using h1, h⟩
theorem seesE_mk {f : Fld} {a b : Cel} (h : f.atE a = 0) (h2 : f.atE b = 0) : seesE f a b = 0 := by unfold seesE; rw [if_neg (by simpa using h)]; exact h2
theorem seesV_ok {f : Fld} {a b : Cel} (h : seesE f a b = 0) : seesV f a b = seenB f a b := by unfold seesV; rw [if_neg (by simpa using h)]; rfl
/-! All that is near enough -/
theorem seenE_ok {f : Fld} {c : Cel} {r : Int} (h : seenE f c r = 0) : f.atE c = 0 ∧ 0 ≤ r ∧ r ≤ 12 := by
  unfold seenE at h
  split at h
  · contradiction
  · rename_i h1
    split at h
    · exact nomatch h
    · exact ⟨by simpa using h1, by omega⟩
/-! Farther, and with a place taken away -/
theorem seen_mem {f : Fld} {c n : Cel} {r : Int} (h0 : f.atE c = 0) (hr : 0 ≤ r ∧ r ≤ 12) : n ∈ seenL f c r ↔ (max 0 (c.x - r) ≤ n.x ∧ n.x ≤ min (f.wide - 1) (c.x + r) ∧ max 0 (c.y - r) ≤ n.y ∧ n.y ≤ min (f.high - 1) (c.y + r)) ∧ seenB f c n = true := by
  rw [(seen_ok h0 hr).2]
  unfold seenTo seenRow
  simp only [List.mem_flatMap, List.mem_range, List.mem_filter, List.mem_map]
  constructor
  · rintro ⟨i, hi, ⟨j, hj, rfl⟩, hb⟩
    unfold seenH at hi
    unfold seenW at hj
    refine ⟨?_, hb⟩
    unfold seenAt
    simp only
    omega
  · rintro ⟨⟨a1, a2, a3, a4⟩, hb⟩
    refine ⟨(n.y - max 0 (c.y - r)).toNat, by unfold seenH; omega, ⟨(n.x - max 0 (c.x - r)).toNat, by unfold seenW; omega, ?_⟩, hb⟩
    obtain ⟨x, y⟩ := n
    unfold seenAt
    simp only at *
    congr 1 <;> omega
theorem atE_in {f : Fld} (hc : f.chk = 0) {n : Cel} (h : 0 ≤ n.x ∧ n.x ≤ f.wide - 1 ∧ 0 ≤ n.y ∧ n.y ≤ f.high - 1) : f.atE n = 0 := by
  refine (Fld.at_in hc ?_).1
  unfold Fld.isIn
  rw [inB_mk h.1 h.2.1, inB_mk h.2.2.1 h.2.2.2]; rfl
theorem seen_sees {f : Fld} {c n : Cel} {r : Int} (h : seenE f c r = 0) (hn : n ∈ seenL f c r) : seesE f c n = 0 ∧ seesV f c n = true := by
  obtain ⟨h0, hr⟩ := seenE_ok h
  obtain ⟨a, b⟩ := (seen_mem h0 hr).1 hn
  have e := seesE_mk h0 (atE_in (atE_chk h0).1 (n := n) (by omega))
  exact ⟨e, by rw [seesV_ok e]; exact b⟩
/-- A field with one place plain. -/
def Fld.plainAt (f : Fld) (i : Nat) : Fld := { f with places := f.places.set i 0 }
end Go.Proofs.Ytkijhejjnlmbmaa
