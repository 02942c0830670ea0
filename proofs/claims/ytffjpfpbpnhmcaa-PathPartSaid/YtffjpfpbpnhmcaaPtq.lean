/-
  path: push. (Printed by bin/path.py.)
-/
import Derived.Test.YtffjpfpbpnhmcaaPth
import Derived.Test.YtffjpfpbpnhmcaaGolU
set_option linter.unusedVariables false
set_option linter.unusedSimpArgs false
namespace Go.Proofs.Ytffjpfpbpnhmcaa
open Go.RowKit

theorem Ptq_ag_api_Cell : Ag Try.prog 32 true := fun _ => by kernel_rfl
theorem Ptq_sz_api_Cell : Sz Try.prog 32 2 := fun _ => by kernel_rfl
theorem Ptq_fd_path_search_1 : Fd Try.prog 105 1 3 := fun _ _ _ => by kernel_rfl
theorem Ptq_en_line_Apart : Enters Try.prog 111 := en Try.func111 (by kernel_rfl) (by kernel_rfl)
theorem Ptq_fd_path_search_3 : Fd Try.prog 105 3 6 := fun _ _ _ => by kernel_rfl
theorem Ptq_en_container_heap_Push : Enters Try.prog 51 := en Try.func51 (by kernel_rfl) (by kernel_rfl)
set_option maxRecDepth 100000 in
set_option maxHeartbeats 400000 in
theorem ppush_any (w0 : World) (f : Fld) (P F A : Option Addr) (pc cf c b : Nat) (far : List Int) (l : List Nod) (to : Cel) (p : Cel) (d : Int) (w : World) (hx0 : Ext w0 w) (hf : f.chk = 0) (hP : repI.SHas 8 w0 P pc f.places) (HB : Blk w b [.int .i64 f.wide, .int .i64 f.high, .slice P f.places.length pc, .int .i64 to.x, .int .i64 to.y, .slice F far.length cf, .slice A l.length c] 105 (0, 0)) (hb : w0.heap.size ≤ b) (HQ : Nod.rep.SOwn 167 32 w w0.heap.size (Rep.blkOf A) A c l) (hdQ : ∀ q ∈ Rep.blkOf A, q = b → False) (hok : ∀ y ∈ l, y.ok) (hl : l.length ≤ 1000000) (hp : -500 ≤ p.x ∧ p.x ≤ 500 ∧ -500 ≤ p.y ∧ p.y ≤ 500) (ht : -500 ≤ to.x ∧ to.x ≤ 500 ∧ -500 ≤ to.y ∧ to.y ≤ 500) (hd : 0 ≤ d ∧ d ≤ 100000) :
    Calls Try.prog 88 #[.pointer (some ⟨b, 0, none⟩), .agg #[.int .i64 p.x, .int .i64 p.y], .int .i64 d] w (fun e w' => ∃ A' c', e = .returned (.tuple #[]) ∧ Blk w' b [.int .i64 f.wide, .int .i64 f.high, .slice P f.places.length pc, .int .i64 to.x, .int .i64 to.y, .slice F far.length cf, .slice A' ((Hp.push Nod.all l ⟨p, d, d + Fld.est to p⟩).length) c'] 105 (0, 0) ∧ Nod.rep.SOwn 167 32 w' w0.heap.size (Rep.blkOf A') A' c' (Hp.push Nod.all l ⟨p, d, d + Fld.est to p⟩) ∧ (∀ q ∈ Rep.blkOf A', q = b → False) ∧ (∀ q ∈ Rep.blkOf A', q ∈ Rep.blkOf A ∨ w.heap.size ≤ q) ∧ Mod (b :: Rep.blkOf A) w w') := by
  have qB := HB.lt
  obtain ⟨g1, g2, g3, g4, g5, g6⟩ := Fld.good hf
  have q0 := hx0.size
  have uHQ := fun q hq => (HQ.lt q hq).2
  have hll := HQ.has.len_le
  have hzb : ∀ q ∈ b :: Rep.blkOf A, w0.heap.size ≤ q := fun q hq => (List.mem_cons.1 hq).elim (fun h => by omega) fun h => (HQ.lt q h).1
  have hsz1 := sz_bd (to.x - p.x)
  have hsz2 := sz_bd (to.y - p.y)
  refine calls_W (n := 32) Try.func88 rfl rfl rfl ?_
  refine sq <| rg <| bx rfl rfl rfl rfl fun w_1 b_2 x_3 l_4 B_5 => ?_
  have q_6 := x_3.size
  have z_1 := (Mod.rf (b :: Rep.blkOf A) w).trans (Mod.of_ext x_3)
  have q_7 := B_5.lt
  refine nl <| nT <| sq <| ?_
  refine rd [(0, 0), (4, 0), (5, 0)] [0, 1, 2, 3, 4, 5, 6, 7, 8, 9, 10, 11, 12] (by kernel_rfl) (by kernel_rfl) ?_
  refine fq rfl rfl (fun _ x => ld rfl ((B_5.later x).all Ptq_ag_api_Cell Ptq_sz_api_Cell)) rfl <| fw rfl rfl (fun _ => mv rfl) rfl <| fw rfl rfl (fun _ => nc rfl) rfl <| fw rfl rfl (fun _ => fa Ptq_fd_path_search_1 rfl) rfl <| ?_
  have HB := HB.later x_3
  refine fq rfl rfl (fun _ x => ld rfl ((HB.later x).par [.int .i64 to.x, .int .i64 to.y] Ptq_ag_api_Cell Ptq_sz_api_Cell rfl)) rfl <| fc rfl rfl Ptq_en_line_Apart rfl (fun _ x => apart_in p to _ (by omega) (by omega)) rfl <| fw rfl rfl (fun _ => mv rfl) rfl <| fw rfl rfl (fun _ => ex rfl rfl) rfl <| fw rfl rfl (fun _ => ex rfl rfl) rfl <| fw rfl rfl (fun _ => ex rfl rfl) rfl <| fw rfl rfl (fun _ => as_ rfl) rfl <| fw rfl rfl (fun _ => as_ rfl) rfl <| fw rfl rfl (fun _ => as_ rfl) rfl <| fn fun w_8 x_9 => ?_
  have q_10 := x_9.size
  have z_8 := z_1.trans (Mod.of_ext x_9)
  refine nT <| ?_
  refine rd [(4, 0), (12, 3)] [0, 1, 2, 3, 4, 5, 6, 7, 8, 9, 10, 11, 12] (by kernel_rfl) (by kernel_rfl) ?_
  refine fw rfl rfl (fun _ => mv rfl) rfl <| fw rfl rfl (fun _ => nc rfl) rfl <| fw rfl rfl (fun _ => fa Ptq_fd_path_search_3 rfl) rfl <| fw rfl rfl (fun _ => mkI (fun w => by kernel_rfl) rfl) rfl <| ?_
  have B_5 := B_5.later x_9
  refine fq rfl rfl (fun _ x => ld rfl ((B_5.later x).all Ptq_ag_api_Cell Ptq_sz_api_Cell)) rfl <| fw rfl rfl (fun _ => mv rfl) rfl <| fw rfl rfl (fun _ => mv rfl) rfl <| fw rfl rfl (fun _ => mv rfl) rfl <| fw rfl rfl (fun _ => bmu rfl rfl (inI (by omega))) rfl <| fw rfl rfl (fun _ => bad rfl rfl (inI (by omega))) rfl <| fw (v := .agg #[.int .i64 p.x, .int .i64 p.y, .int .i64 d, .int .i64 (d + (2 * (sz (to.x - p.x) + sz (to.y - p.y))))]) rfl rfl (fun _ => bd rfl (by kernel_rfl)) rfl <| fw rfl rfl (fun _ => mkI (fun w => by kernel_rfl) rfl) rfl <| ?_
  have HQ := HQ.later (Ext.tr x_3 x_9)
  have HB := HB.later x_9
  refine fb rfl rfl rfl fun w_11 x_12 Q hK => ca Ptq_en_container_heap_Push rfl rfl ((xP_push b A c w0.heap.size l (.int .i64 f.wide) (.int .i64 f.high) (.slice P f.places.length pc) (.int .i64 to.x) (.int .i64 to.y) (.slice F far.length cf) ((⟨⟨p.x, p.y⟩, d, d + (2 * (sz (to.x - p.x) + sz (to.y - p.y)))⟩ : Nod)) _ (HB.later x_12) (HQ.later x_12) hok hdQ ⟨okI_iff.2 (by dsimp only; omega), okI_iff.2 (by dsimp only; omega), okI_iff.2 (by dsimp only; omega), okI_iff.2 (by dsimp only; omega)⟩ hl (by have := x_12.size; omega)).mono ?_)
  rintro e w_15 ⟨A13, c13, rfl, HB13, HQ13, hg13, m_14⟩
  refine ⟨_, rfl, hK _ _ ?_⟩
  have q_16 := x_12.size
  have z_11 := z_8.trans (Mod.of_ext x_12)
  have q_17 := m_14.size
  have z_15 := z_11.md m_14 (fun q hq => .inl hq)
  have u_18 := fun q hq => (HQ13.lt q hq).2
  refine fn fun w_19 x_20 => ?_
  have q_21 := x_20.size
  have z_19 := z_15.trans (Mod.of_ext x_20)
  refine ne <| tR .nil <| ?_
  have HQ13 := HQ13.later x_20
  have HB13 := HB13.later x_20
  exact ⟨A13, c13, rfl, HB13, HQ13, fun q hq hb => by exfalso; (exact Or.elim (hg13 q hq) (fun k_22 => by (exact hdQ q k_22 hb)) (fun k_22 => by omega)), fun q hq => (hg13 q hq).imp id fun h => by omega, z_19⟩
end Go.Proofs.Ytffjpfpbpnhmcaa
