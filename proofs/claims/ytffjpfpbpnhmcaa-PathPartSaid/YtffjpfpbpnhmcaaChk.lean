/-
  slices.Chunk. (Printed by bin/chunk.py.)
-/
import Derived.Test.YtffjpfpbpnhmcaaGolR
set_option linter.unusedVariables false
set_option linter.unusedSimpArgs false
namespace Go.Proofs.Ytffjpfpbpnhmcaa
open Go.RowKit

theorem Chk_ag_int : Ag Try.prog 3 false := fun _ => by kernel_rfl
theorem Chk_ag_S_int : Ag Try.prog 22 false := fun _ => by kernel_rfl
theorem Chk_sz_int : Sz Try.prog 3 1 := fun _ => by kernel_rfl
set_option maxRecDepth 100000 in
set_option maxHeartbeats 400000 in
theorem chunk_any (A : Option Addr) (len c n : Nat) (w : World) (hn : 1 ≤ n) :
    Calls Try.prog 109 #[.slice A len c, .int .i64 (n : Int)] w (fun e w' => ∃ b2 b3, e = .returned (.func (.func 123) #[] #[.pointer (some ⟨b2, 0, none⟩), .pointer (some ⟨b3, 0, none⟩)]) ∧ Blk w' b2 [.slice A len c] 22 (0, 0) ∧ Blk w' b3 [.int .i64 (n : Int)] 3 (0, 0) ∧ w.heap.size ≤ b2 ∧ b2 < b3 ∧ Ext w w') := by
  refine calls_W (n := 9) Try.func109 rfl rfl rfl ?_
  refine sq <| rg <| bx rfl rfl rfl rfl fun w_1 b_2 x_3 l_4 B_5 => ?_
  have q_6 := x_3.size
  have z_1 := Ext.tr (Ext.rf w) x_3
  have q_7 := B_5.lt
  refine bx rfl rfl rfl rfl fun w_8 b_9 x_10 l_11 B_12 => ?_
  have q_13 := x_10.size
  have z_8 := Ext.tr z_1 x_10
  have q_14 := B_12.lt
  refine vl (as_ rfl) rfl <| nl <| nT <| sq <| sq <| rg <| vl (ld rfl (B_12.one Chk_ag_int rfl)) rfl <| vl (blt rfl rfl) rfl <| nl <| nT <| ?_
  have h_15 : (decide ((n : Int) < 1)) = false := by rw [decide_eq_false_iff_not]; omega
  refine cF (by rw [← h_15]; rfl) <| sk <| nT <| sq <| rg <| vl (mf rfl rfl) rfl <| vl (as_ rfl) rfl <| nl <| nT <| rt <| tR (.tmp rfl .nil) <| ?_
  have B_5 := B_5.later x_10
  exact ⟨b_2, b_9, rfl, B_5, B_12, by omega, by omega, z_8⟩
set_option maxRecDepth 100000 in
set_option maxHeartbeats 400000 in
theorem chunk_in (q n len c b2 b3 : Nat) (A : Option Addr) (w0 : World) (hn : 1 ≤ n) (hlen : len = q * n) (hlc : len ≤ c) (hcm : c ≤ 9223372036854775807) (m : Nat) (B20 : Blk w0 b2 [.slice A len c] 22 (0, 0)) (B30 : Blk w0 b3 [.int .i64 (n : Int)] 3 (0, 0)) :
    SeqStopsK (fen none) m Try.prog 123 #[.pointer (some ⟨b2, 0, none⟩), .pointer (some ⟨b3, 0, none⟩)] (fun k : Fin q => #[.slice (sA A (k.1 * n + n) (k.1 * n) 1) n n]) (Keep2 b2 b3) (fun xs => xs = List.finRange q) (fun _ => True) q w0 := by
  intro l J Jx W hb hab habx hY hj0
  have B2 := B20.keepc (hb.block b2 B20.lt)
  have B3 := B30.keepc (hb.block b3 B30.lt)
  have hJ : JAt W.heap.size J [] W := ⟨hab, hj0⟩
  refine Rd.calls_I (n := 31) Try.func123 rfl rfl rfl ?_
  refine Rd.sq <| Rd.rg <| vl (as_ rfl) rfl <| nl <| Rd.nT <| Rd.bk <| ?_
  refine Rd.lp (fun mI EI wI => ∃ k : Nat, EI = [(0, .func (.yield l) #[] #[]), (1, .pointer (some ⟨b2, 0, none⟩)), (2, .pointer (some ⟨b3, 0, none⟩)), (4, .int .i64 (((k * n : Nat) : Int)))] ∧ mI = q - k ∧ True ∧ Blk wI b2 [.slice A len c] 22 (0, 0) ∧ Blk wI b3 [.int .i64 (n : Int)] 3 (0, 0) ∧ JAt W.heap.size J ((List.finRange q).take k) wI ∧ (k ≤ q)) _ _ ⟨0, rfl, rfl, trivial, B2, B3, (hJ : JAt W.heap.size J [] _), by omega⟩ (.cons rfl (.cons rfl (.cons rfl (.cons (loI rfl (by first | omega | rfl | (simp <;> omega))) .nil)))) ?_
  rintro m_2 E_3 w_1 ⟨k, rfl, rfl, z_1, B2, B3, hJ, hk⟩
  have q_4 := B2.lt
  have q_5 := B3.lt
  have hc := k
  refine Rd.sq <| Rd.sq <| Rd.rg <| vl (mv rfl) rfl <| vl (ld rfl (B2.one Chk_ag_S_int rfl)) rfl <| vl (ln Try.underlying22 rfl) rfl <| vl (blt rfl rfl) rfl <| nl <| Rd.nT <| ?_
  refine Rd.clt rfl (fun h_6 => ?_) (fun h_6 => ?_)
  · have hkq : k < q := Nat.lt_of_mul_lt_mul_right (a := n) (by omega)
    have hkn : k * n + n ≤ q * n := by rw [← Nat.succ_mul]; exact Nat.mul_le_mul_right _ hkq
    refine Rd.sk <| Rd.nT <| Rd.sq <| Rd.bk <| Rd.sq <| ?_
    refine Rd.rd [(0, 0), (1, 0)] [0, 1, 2, 3, 4, 5, 6] (by kernel_rfl) (by kernel_rfl) ?_
    refine fq rfl rfl (fun _ x => ld rfl ((B3.later x).one Chk_ag_int rfl)) rfl <| fq rfl rfl (fun _ x => ld rfl ((B2.later x).one Chk_ag_S_int rfl)) rfl <| fw rfl rfl (fun _ => mv rfl) rfl <| fw rfl rfl (fun _ => sL (k * n) Try.underlying22 Chk_sz_int rfl rfl rfl (by omega)) rfl <| fw rfl rfl (fun _ => ln Try.underlying22 rfl) rfl <| fw rfl rfl (fun _ => mn rfl rfl) rfl <| fw rfl rfl (fun _ => as_ rfl) rfl <| fn fun w_7 x_8 => ?_
    have q_9 := x_8.size
    refine Rd.nT <| Rd.sq <| Ri.rg <| Ri.vl (mv rfl) rfl <| ?_
    have B2 := B2.later x_8
    refine Ri.vl (ld rfl (B2.one Chk_ag_S_int rfl)) rfl <| Ri.vl (mv rfl) rfl <| Ri.vl (mv rfl) rfl <| Ri.vl (mv rfl) rfl <| Ri.vl (bad rfl rfl (inI (by omega))) rfl <| Ri.vl (mv rfl) rfl <| Ri.vl (mv rfl) rfl <| Ri.vl (bad rfl rfl (inI (by omega))) rfl <| Ri.vl (sJ (k * n) (k * n + n) n Try.underlying22 Chk_sz_int rfl rfl rfl rfl rfl (by omega) (by omega) (by omega) (by omega) (by omega)) rfl <| ?_
    have B3 := B3.later x_8
    have hJ := hJ.later x_8
    refine Ri.yd rfl rfl rfl (ymono (hY _ (⟨k, hkq⟩ : Fin q) _ hJ.at_ (by rw [List.length_take, List.length_finRange]; omega)) ?_)
    rintro e wy hres
    obtain ⟨bq, rfl, h1, h2⟩ := yres hres
    refine ⟨_, rfl, ?_⟩
    replace h1 : bq = true → JAt W.heap.size J ((List.finRange q).take k ++ [⟨k, hkq⟩]) wy ∧ Keep2 b2 b3 _ wy := fun h => ⟨⟨hJ.ab, (h1 h).1⟩, (h1 h).2⟩
    refine Ri.vl (nt rfl) rfl <| Ri.nl <| Rd.nT <| ?_
    refine Rd.cb rfl (fun h_10 => ?_) (fun h_10 => ?_)
    · refine Rd.rt <| tB <| Rd.tT <| tK <| tB <| tR .nil <| ?_
      exact ⟨⟨_, rfl⟩, .inr ⟨_, trivial, h2 (by simpa using h_10)⟩⟩
    · obtain ⟨hJ2, hk2⟩ := h1 (by simpa using h_10)
      have B2 := B2.keepc hk2.1
      have B3 := B3.keepc hk2.2
      refine Rd.sk <| Rd.nB <| Rd.nT <| Rd.rg <| vl (mv rfl) rfl <| vl (ld rfl (B3.one Chk_ag_int rfl)) rfl <| vl (bad rfl rfl (inI (by omega))) rfl <| vl (as_ rfl) rfl <| nl <| ?_
      exact Rd.nI _ _ ⟨k + 1, rfl, rfl, trivial, B2, B3, (by rw [← fin_take hkq]; exact hJ2), by omega⟩ (by omega) (.cons rfl (.cons rfl (.cons rfl (.cons (loI rfl (by rw [Nat.succ_mul]; omega)) .nil))))
  · have hkq : k = q := Nat.le_antisymm hk (Nat.le_of_mul_le_mul_right (c := n) (by omega) hn)
    refine Rd.xt <| Rd.xT <| xK <| Rd.xB <| Rd.ne <| tR .nil <| ?_
    exact ⟨⟨_, rfl⟩, .inl ⟨_, rfl, by have := hJ.at_; rwa [hkq, List.take_of_length_le (by rw [List.length_finRange]; omega)] at this⟩⟩
end Go.Proofs.Ytffjpfpbpnhmcaa
