/-
  free's closure; ContainsFunc of troops with it. (Printed by bin/gooF.py.)
-/
import Derived.Test.YticfnngppcmidaaGooD
set_option linter.unusedVariables false
set_option linter.unusedSimpArgs false
namespace Go.Proofs.Yticfnngppcmidaa
open Go.RowKit

set_option maxHeartbeats 1000000 in
theorem free1 (t : Trp) (p : Cel) (g : Nat) (w : World) (hg : w.cell? ⟨g, 0, none⟩ = some (.int .i64 p.x) ∧ w.cell? ⟨g, 1, none⟩ = some (.int .i64 p.y)) :
    Calls Try.prog 93 #[.agg #[.int .i64 t.id, .int .i64 t.owner, .int .i64 t.kind, .int .i64 t.spot.x, .int .i64 t.spot.y, .int .i64 t.life, .int .i64 t.load], .pointer (some ⟨g, 0, none⟩)] w fun e w' => e = .returned (.bool (isAt p t)) ∧ Below w.heap.size w w' := by
  have hb := below_alloc0 w (.cells #[.int .i64 t.id, .int .i64 t.owner, .int .i64 t.kind, .int .i64 t.spot.x, .int .i64 t.spot.y, .int .i64 t.life, .int .i64 t.load] 39)
  obtain ⟨hg, hg2⟩ := hg
  have hlt := World.block_lt_of_cell? w _ hg
  simp only at hlt
  by_cases h : t.spot = p
  · have hr : isAt p t = true := by unfold isAt; simp [h]
    rw [hr]
    subst h
    clear hr
    go_enter Try.func93, Try.ntmps93
    go_wp2_with fail
    go_ret
    exact ⟨rfl, hb⟩
  · have hr : isAt p t = false := by unfold isAt; simp [h]
    have hne : (t.spot.x == p.x) = false ∨ ((t.spot.x == p.x) = true ∧ (t.spot.y == p.y) = false) := by
      obtain ⟨_, _, _, ⟨a, b⟩, _, _⟩ := t
      obtain ⟨c, d⟩ := p
      simp at h ⊢
      omega
    rw [hr]
    clear hr h
    rcases hne with h1 | ⟨h1, h2⟩
    all_goals
      go_enter Try.func93, Try.ntmps93
      go_wp2_with fail
      go_ret
      exact ⟨ret_bool (by simp_all), hb⟩
set_option maxRecDepth 100000 in
set_option maxHeartbeats 1000000 in
theorem idx_fr (p : Cel) (g : Nat) (A : Option Addr) (c : Nat) (l : List Trp) (w : World) (hl : Trp.rep.SHas 56 w A c l) (hg : w.cell? ⟨g, 0, none⟩ = some (.int .i64 p.x) ∧ w.cell? ⟨g, 1, none⟩ = some (.int .i64 p.y)) :
    Calls Try.prog 90 #[.slice A l.length c, .func (.func 93) #[] #[.pointer (some ⟨g, 0, none⟩)]] w fun e w' => e = .returned (.int .i64 (idxI (isAt p) l)) ∧ Below w.heap.size w w' := by
  obtain ⟨n, hn⟩ : ∃ n, l.length = n := ⟨_, rfl⟩
  have hle : n ≤ 9223372036854775807 := by have := hl.1; have := hl.2.1; omega
  rw [hn]
  have HL := Lib.hid hl
  have HN := Lib.hid hn
  clear hl hn
  go_enter Try.func90, Try.ntmps90
  go_wp2_with fail
  go_loopw [5, 8] (fun _ iv wr => ∃ k : Nat, k ≤ n ∧ iv = .int .i64 (k : Int) ∧ Hid (∀ j (hj : j < k) (hj2 : j < l.length), (isAt p) l[j] = false) ∧ Below w.heap.size w wr) (fun _ iv _ => n - (intOf iv).toNat)
  case atStart => exact ⟨0, Nat.zero_le _, rfl, (fun j hj => by omega), Below.refl _ _⟩
  case round =>
    obtain ⟨k, hk, rfl, HK, hb⟩ := hrel
    by_cases hlt : k < n
    · have hkl : k < l.length := by rw [HN.out]; exact hlt
      obtain ⟨b, o, rfl, hcell⟩ := Trp.at_ (HL.out.keep hb) (by omega)
      obtain ⟨x, hxe⟩ : ∃ x, l[k]'hkl = x := ⟨_, rfl⟩
      obtain ⟨q0, q1, q2, q3, q4, q5, q6⟩ := hcell k x (by rw [List.getElem?_eq_getElem hkl, hxe])
      have HXE := Lib.hid hxe
      have hg' : wr.cell? ⟨g, 0, none⟩ = some (.int .i64 p.x) ∧ wr.cell? ⟨g, 1, none⟩ = some (.int .i64 p.y) := ⟨cell_later hb hg.1, cell_later hb hg.2⟩
      have hc := free1 x p g wr hg'
      clear hcell hxe
      cases hbad : (isAt p) x with
      | true =>
        have hres : idxI (isAt p) l = (k : Int) := idxI_some hkl (by rw [HXE.out]; exact hbad) fun j hj => HK.out j hj (by omega)
        rw [hbad] at hc
        have HRES := Lib.hid hres
        clear hres hbad
        go_wp2_with (go_at_call 93; refine hc.mono ?_; rintro e w' ⟨rfl, hb2⟩)
        go_ret
        exact ⟨by rw [HRES.out]; rfl, hb.trans (hb2.mono hb.size)⟩
      | false =>
        rw [hbad] at hc
        have HK2 : Hid (∀ j (hj : j < k + 1) (hj2 : j < l.length), (isAt p) l[j] = false) := by
          intro j hj hj2
          by_cases h : j < k
          · exact HK.out j h hj2
          · obtain rfl : j = k := by omega
            rw [HXE.out]; exact hbad
        clear hbad
        go_wp2_with (go_at_call 93; refine hc.mono ?_; rintro e w' ⟨rfl, hb2⟩)
        go_roundw
        case rel => exact ⟨k + 1, by omega, by go_num, HK2, hb.trans (hb2.mono hb.size)⟩
        case measure => simp [intOf]; omega
    · have hres : idxI (isAt p) l = -1 := idxI_none fun j hj => HK.out j (by have := HN.out; omega) hj
      have HRES := Lib.hid hres
      clear hres
      go_wp2_with fail
      go_ret
      exact ⟨by rw [HRES.out]; rfl, hb⟩
theorem has_fr (p : Cel) (g : Nat) (A : Option Addr) (c : Nat) (l : List Trp) (w : World) (hl : Trp.rep.SHas 56 w A c l) (hg : w.cell? ⟨g, 0, none⟩ = some (.int .i64 p.x) ∧ w.cell? ⟨g, 1, none⟩ = some (.int .i64 p.y)) :
    Calls Try.prog 92 #[.slice A l.length c, .func (.func 93) #[] #[.pointer (some ⟨g, 0, none⟩)]] w fun e w' => e = .returned (.bool (l.any (isAt p))) ∧ Below w.heap.size w w' := by
  have hc := idx_fr p g A c l w hl hg
  rw [← idxI_any]
  generalize idxI (isAt p) l = r at *
  generalize l.length = n at *
  clear hl hg
  go_enter Try.func92, Try.ntmps92
  go_wp2_with (go_at_call 90; refine hc.mono ?_; rintro e w' ⟨rfl, hb2⟩)
  go_ret
  exact ⟨rfl, hb2⟩
end Go.Proofs.Yticfnngppcmidaa
