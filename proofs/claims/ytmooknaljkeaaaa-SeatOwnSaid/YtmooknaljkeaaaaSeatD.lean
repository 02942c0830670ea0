/-
  The walks of mustkeep.ofPlayer and slices.DeleteFunc.
-/
import Derived.Test.YtmooknaljkeaaaaSeatQ
import Derived.Laws.IdiomCopy
set_option linter.unusedVariables false
namespace Go.Proofs.Ytmooknaljkeaaaa
open Go.RowKit

def delO (i : Int) (o : Ord) : Bool := o.by_ != i
theorem of1_any (o : Ord) (i : Int) (g : Nat) (w : World) (hg : w.cell? ⟨g, 0, none⟩ = some (.int .i64 i)) :
    Calls Try.prog 55 #[.agg o.cells.toArray, .pointer (some ⟨g, 0, none⟩)] w fun e w' => e = .returned (.bool (delO i o)) ∧ Below w.heap.size w w' := by
  have HB := below_alloc0 w (.cells #[.int .i64 o.by_, .int .i64 o.kind, .int .i64 o.who, .int .i64 o.x, .int .i64 o.y, .int .i64 o.what] 59)
  have hgl := World.block_lt_of_cell? w _ hg
  rw [Ord.cells_eq]
  have hd : delO i o = (o.by_ != i) := rfl
  rw [hd]
  clear hd
  go_enter Try.func55, Try.ntmps55
  go_wp2_with fail
  go_ret
  exact ⟨rfl, HB⟩
set_option maxRecDepth 100000 in
set_option maxHeartbeats 1000000 in
theorem idx_of (i : Int) (g : Nat) (A : Option Addr) (n c : Nat) (l : List Ord) (w : World) (hg : w.cell? ⟨g, 0, none⟩ = some (.int .i64 i)) (hl : Ords w A n c l) :
    Calls Try.prog 75 #[.slice A n c, .func (.func 55) #[] #[.pointer (some ⟨g, 0, none⟩)]] w fun e w' => e = .returned (.int .i64 (idxI (delO i) l)) ∧ Below w.heap.size w w' := by
  have hn := hl.big
  have hlen := hl.len
  have HL := Lib.hid hl
  clear hl
  go_enter Try.func75, Try.ntmps75
  go_wp2_with fail
  go_loopw [5, 8] (fun _ iv wr => ∃ k : Nat, k ≤ n ∧ iv = .int .i64 (k : Int) ∧ Hid (∀ j (hj : j < k) (hj2 : j < l.length), delO i l[j] = false) ∧ Below w.heap.size w wr) (fun _ iv _ => n - (intOf iv).toNat)
  case atStart => exact ⟨0, Nat.zero_le _, rfl, (fun j hj => by omega), Below.refl _ _⟩
  case round =>
    obtain ⟨k, hk, rfl, HK, hb⟩ := hrel
    by_cases hlt : k < n
    · obtain ⟨b, o, rfl, hcell⟩ := Ords.at (HL.out.later hb) (by omega)
      obtain ⟨q0, q1, q2, q3, q4, q5⟩ := Ords.six (c := c) (n := n) hcell k (by omega)
      have hc := of1_any (l[k]'(by omega)) i g wr (cell_later hb hg)
      rw [Ord.cells_eq] at hc
      clear hcell
      cases hbad : delO i (l[k]'(by omega)) with
      | true =>
        have hres : idxI (delO i) l = (k : Int) := idxI_some (by omega) hbad fun j hj => HK.out j hj (by omega)
        rw [hbad] at hc
        have HRES := Lib.hid hres
        clear hres hbad
        go_wp2_with (go_at_call 55; refine hc.mono ?_; rintro e w' ⟨rfl, hb2⟩)
        go_ret
        exact ⟨by rw [HRES.out]; rfl, hb.trans (hb2.mono hb.size)⟩
      | false =>
        rw [hbad] at hc
        have HK2 : Hid (∀ j (hj : j < k + 1) (hj2 : j < l.length), delO i l[j] = false) := by
          intro j hj hj2
          by_cases h : j < k
          · exact HK.out j h hj2
          · obtain rfl : j = k := by omega
            exact hbad
        clear hbad
        go_wp2_with (go_at_call 55; refine hc.mono ?_; rintro e w' ⟨rfl, hb2⟩)
        go_roundw
        case rel => exact ⟨k + 1, by omega, by go_num, HK2, hb.trans (hb2.mono hb.size)⟩
        case measure => simp [intOf]; omega
    · have hres : idxI (delO i) l = -1 := idxI_none fun j hj => HK.out j (by omega) hj
      have HRES := Lib.hid hres
      clear hres
      go_wp2_with fail
      go_ret
      exact ⟨by rw [HRES.out]; rfl, hb⟩
def setFrom : List Value → Nat → List Value → List Value
  | xs, _, [] => xs
  | xs, o, v :: r => setFrom (xs.set o v) (o + 1) r
theorem setFrom_len : ∀ (zs xs : List Value) (o : Nat), (setFrom xs o zs).length = xs.length
  | [], _, _ => rfl
  | v :: r, xs, o => by rw [setFrom, setFrom_len r, List.length_set]
theorem setFrom_right : ∀ (zs a b : List Value) (o : Nat), setFrom (a ++ b) (a.length + o) zs = a ++ setFrom b o zs
  | [], _, _, _ => rfl
  | v :: r, a, b, o => by
    rw [setFrom, setFrom, List.set_append_right _ _ (by omega), show a.length + o - a.length = o from by omega, Nat.add_assoc, setFrom_right r a (b.set o v) (o + 1)]
theorem setFrom_out : ∀ (zs xs : List Value) (o : Nat), xs.length ≤ o → setFrom xs o zs = xs
  | [], _, _, _ => rfl
  | v :: r, xs, o, h => by
    rw [setFrom, List.set_eq_of_length_le h, setFrom_out r xs (o + 1) (by omega)]
theorem setFrom_ord (l : List Ord) (i : Nat) (o : Ord) (hi : i < l.length) : setFrom (ordCells l) (i * 6) o.cells = ordCells (l.set i o) := by
  induction l generalizing i with
  | nil => simp at hi
  | cons a r ih =>
    cases i with
    | zero => rfl
    | succ i =>
      rw [List.set_cons_succ, ordCells_cons, ordCells_cons, show (i + 1) * 6 = a.cells.length + i * 6 from by rw [Ord.cells_len]; omega, setFrom_right, ih i (by simpa using hi)]
theorem Own.setCells {base e size n g c : Nat} {G : Nat → Value → Prop} : ∀ (zs : List Value) (o : Nat) (xs : List Value) (w : World), Own w base e size G (.slice (some ⟨g, 0, none⟩) n c) n xs → (∀ j u, zs[j]? = some u → G ((o + j) % size) u) →
    Own (w.setCells g o zs) base e size G (.slice (some ⟨g, 0, none⟩) n c) n (setFrom xs o zs)
  | [], _, _, _, h, _ => h
  | v :: r, o, xs, w, h, hG => by
    rw [World.setCells, setFrom]
    refine Own.setCells r (o + 1) _ _ (h.stored o v (hG 0 v rfl)) fun j u hu => ?_
    have := hG (j + 1) u hu
    rwa [show o + 1 + j = o + (j + 1) from by omega]
theorem Own.cut {w : World} {base e size n g c : Nat} {G : Nat → Value → Prop} {xs : List Value} (h : Own w base e size G (.slice (some ⟨g, 0, none⟩) n c) n xs) (i : Nat) (hi : i ≤ n) : Own w base e size G (.slice (some ⟨g, 0, none⟩) i c) i (xs.take (i * size)) := by
  obtain ⟨h1, h2⟩ := h
  have hle : i * size ≤ n * size := Nat.mul_le_mul_right _ hi
  refine ⟨by rw [List.length_take]; omega, ?_⟩
  rcases h2 with ⟨h2, _⟩ | ⟨g', cap, cur, hv, b, hh, d, hm, hs, ht, hG⟩
  · cases h2
  · injection hv with hv _ hc
    injection hv with hv
    injection hv with hv
    subst hv; subst hc
    refine .inr ⟨g, c, cur, rfl, b, hh, by omega, hm, hs, ?_, hG⟩
    rw [← ht, List.take_take, Nat.min_eq_left hle]
theorem zero_ord_go (n : Nat) : ∀ (j : Nat) (u : Value), (Builtin.zeroCells ordZero.cells n).toList[j]? = some u → ∃ k : Int, u = Value.int .i64 k := by
  intro j u hu
  rw [Array.getElem?_toList] at hu
  obtain ⟨h, hv⟩ := Array.getElem?_eq_some_iff.1 hu
  simp only [Builtin.zeroCells, Array.getElem_map, Array.getElem_range] at hv
  have hr : j % ordZero.cells.size < 6 := Nat.mod_lt _ (by decide)
  generalize j % ordZero.cells.size = r at *
  rw [← hv]
  match r, hr with
  | 0, _ => exact ⟨0, rfl⟩
  | 1, _ => exact ⟨0, rfl⟩
  | 2, _ => exact ⟨0, rfl⟩
  | 3, _ => exact ⟨0, rfl⟩
  | 4, _ => exact ⟨0, rfl⟩
  | 5, _ => exact ⟨0, rfl⟩
/-- clear(s[i:]). -/
theorem run_clear_ord (w : World) (ty : TypeId) (b o n c : Nat) (hn : 0 < n) (hc : ∀ j, j < n * 6 → (w.cell? ⟨b, o + j, none⟩).isSome = true) (hf : ∀ j, j < n * 6 → w.frozen? ⟨b, o + j, none⟩ = false) :
    (Builtin.clear_ #[45] ty #[.slice (some ⟨b, o, none⟩) n c]).run Try.prog w = .ok (.tuple #[]) (w.setCells b o (Builtin.zeroCells ordZero.cells n).toList) := by
  have hl : (Builtin.zeroCells ordZero.cells n).toList.length = n * 6 := by rw [Array.length_toList]; simp [Builtin.zeroCells]; rfl
  have hst := run_storeCells_cells (P := Try.prog) b o (Builtin.zeroCells ordZero.cells n).toList 0 w (by rw [hl]; simpa using hc) (by rw [hl]; simpa using hf) (by
    intro v hv
    obtain ⟨j, hj⟩ := List.mem_iff_getElem?.1 hv
    obtain ⟨k, rfl⟩ := zero_ord_go n j v hj
    rfl)
  simp only [Nat.add_zero] at hst
  have hz : ∀ w, (zeroValue 59).run Try.prog w = .ok ordZero w := fun w => by
    obtain ⟨i0, hi, hz0, hz1, hz2⟩ := info_parts infoOrd
    simp [zeroValue, typeInfo, hi, hz0]
  obtain ⟨m, rfl⟩ : ∃ m, n = m + 1 := ⟨n - 1, by omega⟩
  simp [Builtin.clear_, run_underlying Try.underlying45, hz, hst]
end Go.Proofs.Ytmooknaljkeaaaa
