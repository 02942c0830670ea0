/-
  slices.Contains of cells.
-/
import Derived.Test.YticfnngppcmidaaTroC
set_option linter.unusedVariables false
namespace Go.Proofs.Yticfnngppcmidaa
open Go.RowKit

def Cel.is (p x : Cel) : Bool := decide (x = p)
theorem Cel.is_true {p x : Cel} (h : Cel.is p x = true) : x = p := by simpa [Cel.is] using h
theorem Cel.is_false {p x : Cel} (h : Cel.is p x = false) : ((p.x == x.x) = false) ∨ ((p.x == x.x) = true ∧ (p.y == x.y) = false) := by
  have : ¬ x = p := by simpa [Cel.is] using h
  obtain ⟨a, b⟩ := p
  obtain ⟨c, d⟩ := x
  simp at this ⊢
  omega
set_option maxRecDepth 100000 in
set_option maxHeartbeats 1000000 in
theorem idx_cell (p : Cel) (A : Option Addr) (c : Nat) (l : List Cel) (w : World) (hl : Cel.rep.SHas 16 w A c l) :
    Calls Try.prog 64 #[.slice A l.length c, .agg #[.int .i64 p.x, .int .i64 p.y]] w fun e w' => e = .returned (.int .i64 (idxI (Cel.is p) l)) ∧ Below w.heap.size w w' := by
  obtain ⟨n, hn⟩ : ∃ n, l.length = n := ⟨_, rfl⟩
  have hle : n ≤ 9223372036854775807 := by have := hl.1; have := hl.2.1; omega
  rw [hn]
  have hb0 := below_alloc0 w (.cells #[.int .i64 p.x, .int .i64 p.y] 37)
  have HB := Lib.hid (Blk.new w p.cells 37 (0, 0))
  have HL := Lib.hid (hl.keep hb0)
  have HN := Lib.hid hn
  clear hl hn
  go_enter Try.func64, Try.ntmps64
  go_wp2_with fail
  obtain ⟨w0, HW0⟩ : ∃ w0, Hid (w0 = w.alloc (.cells #[.int .i64 p.x, .int .i64 p.y] 37)) := ⟨_, Lib.hid rfl⟩
  rw [← HW0.out] at hb0 ⊢
  have HB : Hid (Blk w0 w.heap.size p.cells 37 (0, 0)) := by rw [HW0.out]; exact HB
  have HL : Hid (Cel.rep.SHas 16 w0 A c l) := by rw [HW0.out]; exact HL
  go_loopw [5, 8] (fun _ iv wr => ∃ k m : Nat, k ≤ n ∧ iv = .int .i64 (k : Int) ∧ Hid (∀ j (hj : j < k) (hj2 : j < l.length), (Cel.is p) l[j] = false) ∧ Hid (wr = w0.drewN m)) (fun _ iv _ => n - (intOf iv).toNat)
  case atStart => exact ⟨0, 0, Nat.zero_le _, rfl, (fun j hj => by omega), rfl⟩
  case round =>
    obtain ⟨k, m, hk, rfl, HK, HW⟩ := hrel
    by_cases hlt : k < n
    · have hkl : k < l.length := by rw [HN.out]; exact hlt
      have hLr : Cel.rep.SHas 16 wr A c l := by rw [HW.out]; exact HL.out.drewN m
      have hBr : Blk wr w.heap.size p.cells 37 (0, 0) := by rw [HW.out]; exact HB.out.drewN m
      have hbr : Below w.heap.size w wr := by rw [HW.out]; exact below_drewN hb0 m
      obtain ⟨b, o, rfl, hcell⟩ := Cel.at_ hLr (by omega)
      obtain ⟨x, hxe⟩ : ∃ x, l[k]'hkl = x := ⟨_, rfl⟩
      obtain ⟨q0, q1⟩ := hcell k x (by rw [List.getElem?_eq_getElem hkl, hxe])
      obtain ⟨r0, r1⟩ := Cel.blk hBr
      have HXE := Lib.hid hxe
      have hki : (k : Int) < (n : Int) := by omega
      have hk0 : (0 : Int) ≤ (k : Int) := by omega
      clear hcell hxe hLr hBr
      cases hbad : (Cel.is p) x with
      | true =>
        have hres : idxI (Cel.is p) l = (k : Int) := idxI_some hkl (by rw [HXE.out]; exact hbad) fun j hj => HK.out j hj (by omega)
        have HRES := Lib.hid hres
        have hxp := Cel.is_true hbad
        subst hxp
        clear hres hbad
        go_wp2_with fail
        go_quiet (fail)
        go_wp2_with fail
        go_ret
        exact ⟨by rw [HRES.out]; rfl, below_drewN hbr _⟩
      | false =>
        have HK2 : Hid (∀ j (hj : j < k + 1) (hj2 : j < l.length), (Cel.is p) l[j] = false) := by
          intro j hj hj2
          by_cases h : j < k
          · exact HK.out j h hj2
          · obtain rfl : j = k := by omega
            rw [HXE.out]; exact hbad
        have hne := Cel.is_false hbad
        clear hbad
        rcases hne with h1 | ⟨h1, h2⟩
        all_goals
          go_wp2_with fail
          go_quiet (fail)
          go_wp2_with fail
          go_roundw
          case rel => exact ⟨k + 1, _, by omega, by go_num, HK2, by show _ = _; rw [HW.out]; simp; rfl⟩
          case measure => simp [intOf]; omega
    · have hres : idxI (Cel.is p) l = -1 := idxI_none fun j hj => HK.out j (by have := HN.out; omega) hj
      have HRES := Lib.hid hres
      have hwr := HW.out
      subst hwr
      clear hres
      go_wp2_with fail
      go_ret
      exact ⟨by rw [HRES.out]; rfl, below_drewN hb0 _⟩
theorem has_cell (p : Cel) (A : Option Addr) (c : Nat) (l : List Cel) (w : World) (hl : Cel.rep.SHas 16 w A c l) :
    Calls Try.prog 49 #[.slice A l.length c, .agg #[.int .i64 p.x, .int .i64 p.y]] w fun e w' => e = .returned (.bool (l.contains p)) ∧ Below w.heap.size w w' := by
  have hb0 := below_alloc0 w (.cells #[.int .i64 p.x, .int .i64 p.y] 37)
  have hc := idx_cell p A c l _ (hl.keep hb0)
  have hany : l.contains p = decide (0 ≤ idxI (Cel.is p) l) := by
    rw [idxI_any, List.contains_eq_any_beq]
    congr 1
    funext x
    unfold Cel.is
    by_cases h : x = p
    · simp [h]
    · simp [h, Ne.symm h]
  rw [hany]
  generalize idxI (Cel.is p) l = r at *
  generalize l.length = n at *
  clear hl hany
  go_enter Try.func49, Try.ntmps49
  go_wp2_with (go_at_call 64; refine hc.mono ?_; rintro e w' ⟨rfl, hb2⟩)
  go_ret
  exact ⟨rfl, hb0.trans (hb2.mono hb0.size)⟩
end Go.Proofs.Yticfnngppcmidaa
