/-
  path.run. (Printed by bin/pathrun.py.)
-/
import Derived.Test.YtffjpfpbpnhmcaaPtq
import Derived.Test.YtffjpfpbpnhmcaaAsp
set_option linter.unusedVariables false
set_option linter.unusedSimpArgs false
namespace Go.Proofs.Ytffjpfpbpnhmcaa
open Go.RowKit

theorem Ptr_fd_path_search_1 : Fd Try.prog 105 1 3 := fun _ _ _ => by kernel_rfl
theorem Ptr_ag_api_Cell : Ag Try.prog 32 true := fun _ => by kernel_rfl
theorem Ptr_sz_api_Cell : Sz Try.prog 32 2 := fun _ => by kernel_rfl
theorem Ptr_en__P_path_search__index : Enters Try.prog 59 := en Try.func59 (by kernel_rfl) (by kernel_rfl)
theorem Ptr_fd_path_search_3 : Fd Try.prog 105 3 6 := fun _ _ _ => by kernel_rfl
theorem Ptr_ag_path_open : Ag Try.prog 103 false := fun _ => by kernel_rfl
theorem Ptr_en__path_open__Len : Enters Try.prog 112 := en Try.func112 (by kernel_rfl) (by kernel_rfl)
theorem Ptr_fd_path_search_2 : Fd Try.prog 105 2 5 := fun _ _ _ => by kernel_rfl
theorem Ptr_ag_S_int : Ag Try.prog 22 false := fun _ => by kernel_rfl
theorem Ptr_sz_int : Sz Try.prog 3 1 := fun _ => by kernel_rfl
theorem Ptr_ag_int : Ag Try.prog 3 false := fun _ => by kernel_rfl
theorem Ptr_sz_path_node : Sz Try.prog 167 4 := fun _ => by kernel_rfl
theorem Ptr_fd_path_node_2 : Fd Try.prog 167 2 3 := fun _ _ _ => by kernel_rfl
theorem Ptr_en_container_heap_Pop : Enters Try.prog 53 := en Try.func53 (by kernel_rfl) (by kernel_rfl)
theorem Ptr_zv_path_node : Zv Try.prog 167 (.agg #[.int .i64 0, .int .i64 0, .int .i64 0, .int .i64 0]) := fun _ => by kernel_rfl
theorem Ptr_fd_path_node_0 : Fd Try.prog 167 0 0 := fun _ _ _ => by kernel_rfl
theorem Ptr_fd_path_node_1 : Fd Try.prog 167 1 2 := fun _ _ _ => by kernel_rfl
theorem Ptr_en_path_sides : Enters Try.prog 58 := en Try.func58 (by kernel_rfl) (by kernel_rfl)
theorem Ptr_zv_api_Cell : Zv Try.prog 32 (.agg #[.int .i64 0, .int .i64 0]) := fun _ => by kernel_rfl
theorem Ptr_en__P_path_search__cost : Enters Try.prog 57 := en Try.func57 (by kernel_rfl) (by kernel_rfl)
theorem Ptr_en__P_path_search__push : Enters Try.prog 88 := en Try.func88 (by kernel_rfl) (by kernel_rfl)
theorem psides_ix0 (c : Cel) (w : World) : (Instr.index 100 (.agg #[.int .i64 c.x, .int .i64 (c.y - 1), .int .i64 (c.x - 1), .int .i64 c.y, .int .i64 (c.x + 1), .int .i64 c.y, .int .i64 c.x, .int .i64 (c.y + 1)]) (.int .i64 0)).run Try.prog w = .ok (.agg #[.int .i64 c.x, .int .i64 (c.y - 1)]) w := by kernel_rfl
theorem psides_ix1 (c : Cel) (w : World) : (Instr.index 100 (.agg #[.int .i64 c.x, .int .i64 (c.y - 1), .int .i64 (c.x - 1), .int .i64 c.y, .int .i64 (c.x + 1), .int .i64 c.y, .int .i64 c.x, .int .i64 (c.y + 1)]) (.int .i64 1)).run Try.prog w = .ok (.agg #[.int .i64 (c.x - 1), .int .i64 c.y]) w := by kernel_rfl
theorem psides_ix2 (c : Cel) (w : World) : (Instr.index 100 (.agg #[.int .i64 c.x, .int .i64 (c.y - 1), .int .i64 (c.x - 1), .int .i64 c.y, .int .i64 (c.x + 1), .int .i64 c.y, .int .i64 c.x, .int .i64 (c.y + 1)]) (.int .i64 2)).run Try.prog w = .ok (.agg #[.int .i64 (c.x + 1), .int .i64 c.y]) w := by kernel_rfl
theorem psides_ix3 (c : Cel) (w : World) : (Instr.index 100 (.agg #[.int .i64 c.x, .int .i64 (c.y - 1), .int .i64 (c.x - 1), .int .i64 c.y, .int .i64 (c.x + 1), .int .i64 c.y, .int .i64 c.x, .int .i64 (c.y + 1)]) (.int .i64 3)).run Try.prog w = .ok (.agg #[.int .i64 c.x, .int .i64 (c.y + 1)]) w := by kernel_rfl
theorem psides_ix (c : Cel) (j : Nat) (hj : j < 4) {nd : Cel} (h : (sidesC c).getD j default = nd) (w : World) : (Instr.index 100 (.agg #[.int .i64 c.x, .int .i64 (c.y - 1), .int .i64 (c.x - 1), .int .i64 c.y, .int .i64 (c.x + 1), .int .i64 c.y, .int .i64 c.x, .int .i64 (c.y + 1)]) (.int .i64 (j : Int))).run Try.prog w = .ok (.agg #[.int .i64 nd.x, .int .i64 nd.y]) w := by
  subst h
  have : j = 0 ∨ j = 1 ∨ j = 2 ∨ j = 3 := by omega
  rcases this with rfl | rfl | rfl | rfl
  · exact psides_ix0 c w
  · exact psides_ix1 c w
  · exact psides_ix2 c w
  · exact psides_ix3 c w
theorem sides_bd {c : Cel} {j : Nat} (hj : j < 4) : c.x - 1 ≤ ((sidesC c).getD j default).x ∧ ((sidesC c).getD j default).x ≤ c.x + 1 ∧ c.y - 1 ≤ ((sidesC c).getD j default).y ∧ ((sidesC c).getD j default).y ≤ c.y + 1 := by
  have : j = 0 ∨ j = 1 ∨ j = 2 ∨ j = 3 := by omega
  rcases this with rfl | rfl | rfl | rfl <;> simp [sidesC] <;> omega
set_option maxRecDepth 100000 in
set_option maxHeartbeats 1000000 in
theorem prun_any (w0 : World) (f : Fld) (P F A : Option Addr) (pc cf c b : Nat) (far : List Int) (l : List Nod) (to : Cel) (a x0 : Cel) (w : World) (hx0 : Ext w0 w) (hf : f.chk = 0) (hP : repI.SHas 8 w0 P pc f.places) (HB : Blk w b [.int .i64 f.wide, .int .i64 f.high, .slice P f.places.length pc, .int .i64 to.x, .int .i64 to.y, .slice F far.length cf, .slice A l.length c] 105 (0, 0)) (hb : w0.heap.size ≤ b) (HF : repI.SOwn 3 8 w w0.heap.size (Rep.blkOf F) F cf far) (HQ : Nod.rep.SOwn 167 32 w w0.heap.size (Rep.blkOf A) A c l) (hdF : ∀ q ∈ Rep.blkOf F, q = b → False) (hdQ : ∀ q ∈ Rep.blkOf A, q = b → False) (hdQF : ∀ q ∈ Rep.blkOf A, q ∈ Rep.blkOf F → False) (hs : PS f a to far l x0 []) (hv : Vis f to far) (hin : f.isIn to = true) (hbnd : l.length + 5 * und far ≤ 20000) :
    Calls Try.prog 89 #[.pointer (some ⟨b, 0, none⟩)] w (fun e w' => ∃ far' A' c' l', e = .returned (.tuple #[]) ∧ Blk w' b [.int .i64 f.wide, .int .i64 f.high, .slice P f.places.length pc, .int .i64 to.x, .int .i64 to.y, .slice F far'.length cf, .slice A' ((l' : List Nod).length) c'] 105 (0, 0) ∧ repI.SOwn 3 8 w' w0.heap.size (Rep.blkOf F) F cf far' ∧ PEnd f a to far' ∧ Mod (b :: (Rep.blkOf F ++ Rep.blkOf A)) w w') := by
  have qB := HB.lt
  obtain ⟨g1, g2, g3, g4, g5, g6⟩ := Fld.good hf
  have q0 := hx0.size
  have uHF := fun q hq => (HF.lt q hq).2
  have uHQ := fun q hq => (HQ.lt q hq).2
  have hll := HQ.has.len_le
  have hzb : ∀ q ∈ b :: (Rep.blkOf F ++ Rep.blkOf A), w0.heap.size ≤ q := fun q hq => (List.mem_cons.1 hq).elim (fun h => by omega) fun h => (List.mem_append.1 h).elim (fun h => (HF.lt q h).1) fun h => (HQ.lt q h).1
  obtain ⟨_, _, ti1, ti2, ti3, ti4⟩ := Fld.idx hf hin
  refine calls_W (n := 108) Try.func89 rfl rfl rfl ?_
  refine sq <| rg <| vl (mv rfl) rfl <| vl (mv rfl) rfl <| vl (nc rfl) rfl <| vl (fa Ptr_fd_path_search_1 rfl) rfl <| vl (ld rfl (HB.par [.int .i64 to.x, .int .i64 to.y] Ptr_ag_api_Cell Ptr_sz_api_Cell rfl)) rfl <| ca Ptr_en__P_path_search__index rfl rfl ((pindex_any w0 f P F A pc cf c b far l to to _ (Ext.mod hx0 (Mod.rf (b :: (Rep.blkOf F ++ Rep.blkOf A)) w) hzb) hf hP HB (by first | omega | (dsimp only; omega))).mono ?_)
  rintro e w_1 ⟨rfl, x_2⟩
  refine ⟨_, rfl, ?_⟩
  have q_3 := x_2.size
  have z_1 := (Mod.rf (b :: (Rep.blkOf F ++ Rep.blkOf A)) w).trans (Mod.of_ext x_2)
  refine vl (as_ rfl) rfl <| nl <| nT <| bk <| ?_
  have HB := HB.later x_2
  have HF := HF.later x_2
  have HQ := HQ.later x_2
  refine lp (fun mI EI wI => ∃ far1 : List Int, ∃ l1 : List Nod, ∃ A1 : Option Addr, ∃ c1 : Nat, ∃ x1 : Cel, EI = [(0, .pointer (some ⟨b, 0, none⟩)), (2, .int .i64 (to.y * f.wide + to.x))] ∧ mI = (l1.length + 5 * und far1) ∧ Mod (b :: (Rep.blkOf F ++ Rep.blkOf A)) w wI ∧ Blk wI b [.int .i64 f.wide, .int .i64 f.high, .slice P f.places.length pc, .int .i64 to.x, .int .i64 to.y, .slice F far1.length cf, .slice A1 l1.length c1] 105 (0, 0) ∧ repI.SOwn 3 8 wI w0.heap.size (Rep.blkOf F) F cf far1 ∧ Nod.rep.SOwn 167 32 wI w0.heap.size (Rep.blkOf A1) A1 c1 l1 ∧ (PS f a to far1 l1 x1 []) ∧ (Vis f to far1) ∧ (l1.length + 5 * und far1 ≤ 20000) ∧ (∀ q ∈ Rep.blkOf A1, q ∈ Rep.blkOf A ∨ w.heap.size ≤ q) ∧ (∀ q ∈ Rep.blkOf F, q = b → False) ∧ (∀ q ∈ Rep.blkOf A1, q = b → False) ∧ (∀ q ∈ Rep.blkOf A1, q ∈ Rep.blkOf F → False)) _ _ ⟨far, l, A, c, x0, rfl, rfl, z_1, HB, HF, HQ, hs, hv, hbnd, fun q hq => .inl hq, (fun q hq hb => by (exact hdF q hq hb)), (fun q hq hb => by (exact hdQ q hq hb)), (fun q hq hb => by (exact hdQF q hq hb))⟩ (.cons rfl (.cons rfl .nil)) ?_
  rintro m_8 E_9 w_7 ⟨far1, l1, A1, c1, x1, rfl, rfl, z_7, HB1, HF1, HQ1, hs1, hv1, hbn, hgA1, d_4, d_5, d_6⟩
  have q_10 := z_7.size
  have q_11 := HB1.lt
  have u_12 := fun q hq => (HF1.lt q hq).2
  have u_13 := fun q hq => (HQ1.lt q hq).2
  obtain ⟨tl1, tl2, tl3⟩ := fr_lt hf hs1.len hin
  refine sq <| sq <| ?_
  rcases b3g_ (decide (0 < (l1.length : Int))) ((decide (f.fr far1 to < 0)) || (decide ((l1.getD 0 default).all ≤ f.fr far1 to))) with c0 | ⟨c0, c1_⟩ | ⟨c0, c1_⟩
  · have hend := pend_nil hs1 hv1 (by have h9 := of_decide_eq_false c0; omega)
    refine rd [(3, 0), (4, 0), (10, 0), (13, 0), (19, 0), (22, 0), (26, 0), (29, 0)] [0, 1, 2, 3, 4, 5, 6, 7, 8, 9, 10, 11, 12, 13, 14, 15, 16, 17, 18, 19, 20, 21, 22, 23, 24, 25, 26, 27, 28, 29, 30, 31, 32] (by kernel_rfl) (by kernel_rfl) ?_
    refine fw rfl rfl (fun _ => mv rfl) rfl <| fw rfl rfl (fun _ => nc rfl) rfl <| fw rfl rfl (fun _ => fa Ptr_fd_path_search_3 rfl) rfl <| fq rfl rfl (fun _ x => ld rfl ((HB1.later x).one Ptr_ag_path_open rfl)) rfl <| fc rfl rfl Ptr_en__path_open__Len rfl (fun _ x => xP_len _ l1.length _ _) rfl <| fw rfl rfl (fun _ => bgt rfl rfl) rfl <| fw rfl rfl (fun _ => mv (evb rfl c0)) rfl <| fW (v := undef) rfl rfl rfl rfl rfl rfl (fun hc => nomatch hc) rfl <| fW (v := undef) rfl rfl rfl rfl rfl rfl (fun hc => nomatch hc) rfl <| fW (v := undef) rfl rfl rfl rfl rfl rfl (fun hc => nomatch hc) rfl <| fQ (v := undef) rfl rfl rfl rfl rfl rfl (fun hc => nomatch hc) rfl <| fW (v := undef) rfl rfl rfl rfl rfl rfl (fun hc => nomatch hc) rfl <| fW (v := undef) rfl rfl rfl rfl rfl rfl (fun hc => nomatch hc) rfl <| fQ (v := undef) rfl rfl rfl rfl rfl rfl (fun hc => nomatch hc) rfl <| fW (v := undef) rfl rfl rfl rfl rfl rfl (fun hc => nomatch hc) rfl <| fW (v := undef) rfl rfl rfl rfl rfl rfl (fun hc => nomatch hc) rfl <| fU rfl rfl rfl rfl rfl rfl <| fU rfl rfl rfl rfl rfl rfl <| fU rfl rfl rfl rfl rfl rfl <| fU rfl rfl rfl rfl rfl rfl <| fU rfl rfl rfl rfl rfl rfl <| fU rfl rfl rfl rfl rfl rfl <| fU rfl rfl rfl rfl rfl rfl <| fU rfl rfl rfl rfl rfl rfl <| ?_
    refine fU rfl rfl rfl rfl rfl rfl <| fU rfl rfl rfl rfl rfl rfl <| fU rfl rfl rfl rfl rfl rfl <| fU rfl rfl rfl rfl rfl rfl <| fU rfl rfl rfl rfl rfl rfl <| fU rfl rfl rfl rfl rfl rfl <| fU rfl rfl rfl rfl rfl rfl <| fW (v := undef) rfl rfl rfl rfl rfl rfl (fun hc => nomatch hc) rfl <| fw rfl rfl (fun _ => pkF rfl rfl) rfl <| fn fun w_14 x_15 => ?_
    have q_16 := x_15.size
    have z_14 := z_7.trans (Mod.of_ext x_15)
    refine nT <| cF rfl <| xt <| xT <| xK <| xB <| ne <| tR .nil <| ?_
    have HQ1 := HQ1.later x_15
    have HF1 := HF1.later x_15
    have HB1 := HB1.later x_15
    exact ⟨far1, A1, c1, l1, rfl, HB1, HF1, hend, z_14⟩
  · have h0p : 0 < l1.length := by simpa using c0
    obtain ⟨xn, hxn⟩ : ∃ xn, l1.getD 0 default = xn := ⟨_, rfl⟩
    have hxm : xn ∈ l1 := by rw [← hxn]; exact mem_dd h0p
    obtain ⟨nx1, nx2, nx3, nx4, nx5, nx6, nx7, nx8, nx9⟩ := hs1.node hf hin hxm
    have hxi := Fld.ground_in (hs1.all xn hxm).2
    obtain ⟨xl1, xl2, xl3⟩ := fr_lt hf hs1.len hxi
    have hcon : f.fr far1 to < 0 ∨ xn.all ≤ f.fr far1 to := by rw [hxn] at c1_; rw [Bool.or_eq_true, decide_eq_true_eq, decide_eq_true_eq] at c1_; exact c1_
    refine rd [(3, 0), (4, 0), (10, 0), (13, 0), (19, 0), (22, 0), (26, 0), (29, 0)] [0, 1, 2, 3, 4, 5, 6, 7, 8, 9, 10, 11, 12, 13, 14, 15, 16, 17, 18, 19, 20, 21, 22, 23, 24, 25, 26, 27, 28, 29, 30, 31, 32] (by kernel_rfl) (by kernel_rfl) ?_
    refine fw rfl rfl (fun _ => mv rfl) rfl <| fw rfl rfl (fun _ => nc rfl) rfl <| fw rfl rfl (fun _ => fa Ptr_fd_path_search_3 rfl) rfl <| fq rfl rfl (fun _ x => ld rfl ((HB1.later x).one Ptr_ag_path_open rfl)) rfl <| fc rfl rfl Ptr_en__path_open__Len rfl (fun _ x => xP_len _ l1.length _ _) rfl <| fw rfl rfl (fun _ => bgt rfl rfl) rfl <| fw rfl rfl (fun _ => mv (evb rfl c0)) rfl <| fW rfl rfl rfl rfl rfl rfl (fun hc _ => mv rfl) rfl <| fW rfl rfl rfl rfl rfl rfl (fun hc _ => nc rfl) rfl <| fW rfl rfl rfl rfl rfl rfl (fun hc _ => fa Ptr_fd_path_search_2 rfl) rfl <| fQ rfl rfl rfl rfl rfl rfl (fun hc _ x => ld rfl ((HB1.later x).one Ptr_ag_S_int rfl)) rfl <| fW rfl rfl rfl rfl rfl rfl (fun hc _ => mv rfl) rfl <| fW rfl rfl rfl rfl rfl rfl (fun hc _ => iA ((to.y * f.wide + to.x).toNat) Try.underlying22 Ptr_sz_int rfl rfl (HF1.has.adr (Nat.zero_lt_of_lt (show (to.y * f.wide + to.x).toNat < _ from (by have h_ := (fr_lt hf hs1.len hin).1; omega)))) (by (try simp only [Bool.or_eq_true, Bool.or_eq_false_iff, Bool.and_eq_true, Bool.and_eq_false_iff, decide_eq_true_eq, decide_eq_false_iff_not, beq_iff_eq, bne_iff_ne, beq_eq_false_iff_ne, bne_eq_false_iff_eq, Bool.not_eq_true', Bool.not_eq_false', Bool.not_eq_true, Bool.not_eq_false, Int.not_lt, Int.not_le, Nat.not_lt, Nat.not_le, ne_eq, Classical.not_not] at hc); omega) (by have h_ := (fr_lt hf hs1.len hin).1; omega)) rfl <| fQ rfl rfl rfl rfl rfl rfl (fun hc _ x => ld rfl (Rep.SHas.one' hcI ((HF1.later x).has.adh (Nat.zero_lt_of_lt (show (to.y * f.wide + to.x).toNat < _ from (by have h_ := (fr_lt hf hs1.len hin).1; omega)))) (fr_get hf hs1.len hin) rfl Ptr_ag_int)) rfl <| fW rfl rfl rfl rfl rfl rfl (fun hc _ => blt rfl rfl) rfl <| fW rfl rfl rfl rfl rfl rfl (fun hc _ => mv rfl) rfl <| fW rfl rfl rfl rfl rfl rfl (fun hc _ => mv rfl) rfl <| fW rfl rfl rfl rfl rfl rfl (fun hc _ => nc (gt hc rfl)) rfl <| fW rfl rfl rfl rfl rfl rfl (fun hc _ => fa Ptr_fd_path_search_3 (gt hc rfl)) rfl <| fQ rfl rfl rfl rfl rfl rfl (fun hc _ x => ld (gt hc rfl) ((HB1.later x).one Ptr_ag_path_open rfl)) rfl <| fW rfl rfl rfl rfl rfl rfl (fun hc _ => iA 0 Try.underlying103 Ptr_sz_path_node (gt hc rfl) rfl (HQ1.has.adr (Nat.zero_lt_of_lt (show 0 < _ from (by (try simp only [Bool.or_eq_true, Bool.or_eq_false_iff, Bool.and_eq_true, Bool.and_eq_false_iff, decide_eq_true_eq, decide_eq_false_iff_not, beq_iff_eq, bne_iff_ne, beq_eq_false_iff_ne, bne_eq_false_iff_eq, Bool.not_eq_true', Bool.not_eq_false', Bool.not_eq_true, Bool.not_eq_false, Int.not_lt, Int.not_le, Nat.not_lt, Nat.not_le, ne_eq, Classical.not_not] at hc); omega)))) rfl (by (try simp only [Bool.or_eq_true, Bool.or_eq_false_iff, Bool.and_eq_true, Bool.and_eq_false_iff, decide_eq_true_eq, decide_eq_false_iff_not, beq_iff_eq, bne_iff_ne, beq_eq_false_iff_ne, bne_eq_false_iff_eq, Bool.not_eq_true', Bool.not_eq_false', Bool.not_eq_true, Bool.not_eq_false, Int.not_lt, Int.not_le, Nat.not_lt, Nat.not_le, ne_eq, Classical.not_not] at hc); omega)) rfl <| fW rfl rfl rfl rfl rfl rfl (fun hc _ => fa Ptr_fd_path_node_2 (gt hc rfl)) rfl <| fQ rfl rfl rfl rfl rfl rfl (fun hc _ x => ld (gt hc rfl) (Rep.SHas.fld hcNo ((HQ1.later x).has.adh (Nat.zero_lt_of_lt (show 0 < _ from (by (try simp only [Bool.or_eq_true, Bool.or_eq_false_iff, Bool.and_eq_true, Bool.and_eq_false_iff, decide_eq_true_eq, decide_eq_false_iff_not, beq_iff_eq, bne_iff_ne, beq_eq_false_iff_ne, bne_eq_false_iff_eq, Bool.not_eq_true', Bool.not_eq_false', Bool.not_eq_true, Bool.not_eq_false, Int.not_lt, Int.not_le, Nat.not_lt, Nat.not_le, ne_eq, Classical.not_not] at hc); omega)))) 3 (get_d (l := l1) (u := default) (by (try simp only [Bool.or_eq_true, Bool.or_eq_false_iff, Bool.and_eq_true, Bool.and_eq_false_iff, decide_eq_true_eq, decide_eq_false_iff_not, beq_iff_eq, bne_iff_ne, beq_eq_false_iff_ne, bne_eq_false_iff_eq, Bool.not_eq_true', Bool.not_eq_false', Bool.not_eq_true, Bool.not_eq_false, Int.not_lt, Int.not_le, Nat.not_lt, Nat.not_le, ne_eq, Classical.not_not] at hc); omega)) rfl Ptr_ag_int)) rfl <| fW rfl rfl rfl rfl rfl rfl (fun hc _ => mv rfl) rfl <| ?_
    refine fW rfl rfl rfl rfl rfl rfl (fun hc _ => nc (gt hc rfl)) rfl <| fW rfl rfl rfl rfl rfl rfl (fun hc _ => fa Ptr_fd_path_search_2 (gt hc rfl)) rfl <| fQ rfl rfl rfl rfl rfl rfl (fun hc _ x => ld (gt hc rfl) ((HB1.later x).one Ptr_ag_S_int rfl)) rfl <| fW rfl rfl rfl rfl rfl rfl (fun hc _ => mv rfl) rfl <| fW rfl rfl rfl rfl rfl rfl (fun hc _ => iA ((to.y * f.wide + to.x).toNat) Try.underlying22 Ptr_sz_int (gt hc rfl) (gt hc rfl) (HF1.has.adr (Nat.zero_lt_of_lt (show (to.y * f.wide + to.x).toNat < _ from (by have h_ := (fr_lt hf hs1.len hin).1; omega)))) (by (try simp only [Bool.or_eq_true, Bool.or_eq_false_iff, Bool.and_eq_true, Bool.and_eq_false_iff, decide_eq_true_eq, decide_eq_false_iff_not, beq_iff_eq, bne_iff_ne, beq_eq_false_iff_ne, bne_eq_false_iff_eq, Bool.not_eq_true', Bool.not_eq_false', Bool.not_eq_true, Bool.not_eq_false, Int.not_lt, Int.not_le, Nat.not_lt, Nat.not_le, ne_eq, Classical.not_not] at hc); omega) (by have h_ := (fr_lt hf hs1.len hin).1; omega)) rfl <| fQ rfl rfl rfl rfl rfl rfl (fun hc _ x => ld (gt hc rfl) (Rep.SHas.one' hcI ((HF1.later x).has.adh (Nat.zero_lt_of_lt (show (to.y * f.wide + to.x).toNat < _ from (by have h_ := (fr_lt hf hs1.len hin).1; omega)))) (fr_get hf hs1.len hin) rfl Ptr_ag_int)) rfl <| fW rfl rfl rfl rfl rfl rfl (fun hc _ => ble (gt hc rfl) (gt hc rfl)) rfl <| fW rfl rfl rfl rfl rfl rfl (fun hc _ => pO rfl rfl rfl rfl) rfl <| fw rfl rfl (fun _ => pkT rfl (evb rfl c1_)) rfl <| fn fun w_17 x_18 => ?_
    have q_19 := x_18.size
    have z_17 := z_7.trans (Mod.of_ext x_18)
    refine nT <| cT rfl <| sk <| nT <| bk <| sq <| rg <| vl (mv rfl) rfl <| vl (nc rfl) rfl <| vl (fa Ptr_fd_path_search_3 rfl) rfl <| vl (mkI (fun w => by kernel_rfl) rfl) rfl <| ?_
    have HQ1 := HQ1.later x_18
    have HB1 := HB1.later x_18
    have hPo := xP_pop b A1 l1.length c1 w0.heap.size l1 (.int .i64 f.wide) (.int .i64 f.high) (.slice P f.places.length pc) (.int .i64 to.x) (.int .i64 to.y) (.slice F far1.length cf) _ HB1 HQ1 (fun y hy => (hs1.node hf hin hy).2.2.2.2.2.2.2.2) rfl (fun q hq hb => by exfalso; (exact d_5 q hq hb)) h0p (by omega)
    rw [hxn] at hPo
    refine ca Ptr_en_container_heap_Pop rfl rfl ((hPo).mono ?_)
    rintro e w_22 ⟨rfl, HB20, HQ20, m_21⟩
    refine ⟨_, rfl, ?_⟩
    have q_23 := m_21.size
    have z_22 := z_17.md m_21 (fun q hq => (List.mem_cons.1 hq).elim (fun h => .inl (by rw [h]; exact List.mem_cons_self)) (fun h => (hgA1 q h).imp (fun h => List.mem_cons_of_mem _ (List.mem_append_right _ h)) id))
    refine vl (tyA (fun w => by kernel_rfl) rfl) rfl <| al rfl Ptr_zv_path_node rfl rfl fun w_24 b_25 x_26 l_27 B_28 => ?_
    have q_29 := x_26.size
    have z_24 := z_22.trans (Mod.of_ext x_26)
    have q_30 := B_28.lt
    refine st (new := [.int .i64 xn.cell.x, .int .i64 xn.cell.y, .int .i64 xn.far, .int .i64 xn.all]) rfl rfl B_28 rfl Ptr_sz_path_node rfl rfl rfl fun w_31 m_32 B_28 => ?_
    have q_34 := m_32.size
    have z_31 := z_24.md m_32 (fun q hq => .inr (by have := List.mem_singleton.1 hq; omega))
    have q_33 := m_32.size
    refine nl <| nT <| sq <| sq <| ?_
    refine rd [(3, 0), (6, 0), (7, 0), (9, 0)] [0, 1, 2, 3, 4, 5, 6, 7, 8, 9, 10] (by kernel_rfl) (by kernel_rfl) ?_
    refine fw rfl rfl (fun _ => mv rfl) rfl <| fw rfl rfl (fun _ => nc rfl) rfl <| fw rfl rfl (fun _ => fa Ptr_fd_path_search_2 rfl) rfl <| ?_
    have HB20 := HB20.later x_26
    have HB20 := HB20.mod m_32 (by simp only [List.mem_singleton]; omega)
    refine fq rfl rfl (fun _ x => ld rfl ((HB20.later x).one Ptr_ag_S_int rfl)) rfl <| fw rfl rfl (fun _ => mv rfl) rfl <| fw rfl rfl (fun _ => fa Ptr_fd_path_node_0 rfl) rfl <| fq rfl rfl (fun _ x => ld rfl ((B_28.later x).par [.int .i64 xn.cell.x, .int .i64 xn.cell.y] Ptr_ag_api_Cell Ptr_sz_api_Cell rfl)) rfl <| fc rfl rfl Ptr_en__P_path_search__index rfl (fun _ x => pindex_any w0 f P F A1 pc cf c1 b far1 (Hp.popL Nod.all l1) to xn.cell _ (Ext.tr (Ext.mod hx0 z_31 hzb) x) hf hP (HB20.later x) (by first | omega | (dsimp only; omega))) rfl <| ?_
    have HF1 := HF1.later x_18
    have HF1 := HF1.mod m_21 (fun q hq h => (List.mem_cons.1 h).elim (fun h => by exfalso; (exact d_4 q hq h)) (fun h => by exfalso; (exact d_6 q h hq)))
    have HF1 := HF1.later x_26
    have HF1 := HF1.mod m_32 (fun q hq h => by have hb := List.mem_singleton.1 h; exfalso; (have := u_12 q hq; omega))
    refine fw rfl rfl (fun _ => iA ((xn.cell.y * f.wide + xn.cell.x).toNat) Try.underlying22 Ptr_sz_int rfl rfl (HF1.has.adr (Nat.zero_lt_of_lt (show (xn.cell.y * f.wide + xn.cell.x).toNat < _ from (by have h_ := (fr_lt hf hs1.len hxi).1; omega)))) (by omega) (by have h_ := (fr_lt hf hs1.len hxi).1; omega)) rfl <| fq rfl rfl (fun _ x => ld rfl (Rep.SHas.one' hcI ((HF1.later x).has.adh (Nat.zero_lt_of_lt (show (xn.cell.y * f.wide + xn.cell.x).toNat < _ from (by have h_ := (fr_lt hf hs1.len hxi).1; omega)))) (fr_get hf hs1.len hxi) rfl Ptr_ag_int)) rfl <| fw rfl rfl (fun _ => bge rfl rfl) rfl <| fn fun w_35 x_36 => ?_
    have q_37 := x_36.size
    have z_35 := z_31.trans (Mod.of_ext x_36)
    refine nT <| ?_
    refine cle rfl (fun h_38 => ?_) (fun h_38 => ?_)
    · have hk := h_38
      refine xt <| xT <| xB <| ?_
      have HB20 := HB20.later x_36
      have HF1 := HF1.later x_36
      have HQ20 := HQ20.later x_26
      have HQ20 := HQ20.mod m_32 (fun q hq h => by have hb := List.mem_singleton.1 h; exfalso; (have := u_13 q hq; omega))
      have HQ20 := HQ20.later x_36
      exact nI _ _ ⟨far1, Hp.popL Nod.all l1, A1, c1, x1, rfl, rfl, z_35, (by first | exact HB20 | (rw [hlen2]; exact HB20)), HF1, HQ20, hs1.skip0 h0p (by rw [hxn]; exact hk), hv1, by rw [Hp.popL_len]; omega, hgA1, (fun q hq hb => by (exact d_4 q hq hb)), (fun q hq hb => by (exact d_5 q hq hb)), (fun q hq hb => by (exact d_6 q hq hb))⟩ (by first | (rw [Hp.popL_len]; omega) | omega) (.cons rfl (.cons rfl .nil))
    · have hk : f.fr far1 xn.cell < 0 := by omega
      obtain ⟨hs2, hu2⟩ := hs1.new hf (Fld.okA f to) h0p (by rw [hxn]; exact hk)
      rw [hxn] at hs2 hu2
      have hv2 := vis_new hs1 hf h0p hxn hk hv1 hcon
      refine sk <| nT <| sq <| ?_
      refine rd [(3, 0), (6, 0), (7, 0), (9, 0), (11, 3)] [0, 1, 2, 3, 4, 5, 6, 7, 8, 9, 10, 11] (by kernel_rfl) (by kernel_rfl) ?_
      refine fw rfl rfl (fun _ => mv rfl) rfl <| fw rfl rfl (fun _ => nc rfl) rfl <| fw rfl rfl (fun _ => fa Ptr_fd_path_search_2 rfl) rfl <| ?_
      have HB20 := HB20.later x_36
      refine fq rfl rfl (fun _ x => ld rfl ((HB20.later x).one Ptr_ag_S_int rfl)) rfl <| fw rfl rfl (fun _ => mv rfl) rfl <| fw rfl rfl (fun _ => fa Ptr_fd_path_node_0 rfl) rfl <| ?_
      have B_28 := B_28.later x_36
      refine fq rfl rfl (fun _ x => ld rfl ((B_28.later x).par [.int .i64 xn.cell.x, .int .i64 xn.cell.y] Ptr_ag_api_Cell Ptr_sz_api_Cell rfl)) rfl <| fc rfl rfl Ptr_en__P_path_search__index rfl (fun _ x => pindex_any w0 f P F A1 pc cf c1 b far1 (Hp.popL Nod.all l1) to xn.cell _ (Ext.tr (Ext.mod hx0 z_35 hzb) x) hf hP (HB20.later x) (by first | omega | (dsimp only; omega))) rfl <| fw rfl rfl (fun _ => fa Ptr_fd_path_node_1 rfl) rfl <| fq rfl rfl (fun _ x => ld rfl ((B_28.later x).one Ptr_ag_int rfl)) rfl <| ?_
      have HF1 := HF1.later x_36
      refine fw rfl rfl (fun _ => iA ((xn.cell.y * f.wide + xn.cell.x).toNat) Try.underlying22 Ptr_sz_int rfl rfl (HF1.has.adr (Nat.zero_lt_of_lt (show (xn.cell.y * f.wide + xn.cell.x).toNat < _ from (by have h_ := (fr_lt hf hs1.len hxi).1; omega)))) (by omega) (by have h_ := (fr_lt hf hs1.len hxi).1; omega)) rfl <| fb rfl rfl rfl fun w_39 x_40 Q hK => so (q' := xn.far) (j := 0) (i := ((xn.cell.y * f.wide + xn.cell.x).toNat)) (HF1.later x_40) Rep.flat_bare (fr_get hf hs1.len hxi) rfl rfl rfl rfl (fun _ cs h => by have ok_ := (show _ ∧ _ from h).2; obtain rfl := hcI h; exact ⟨rfl, okI_iff.2 (by omega)⟩) rfl rfl Ptr_sz_int fun w_41 m_42 O_43 => hK _ _ ?_
      have q_44 := x_40.size
      have z_39 := z_35.trans (Mod.of_ext x_40)
      have q_45 := m_42.size
      have z_41 := z_39.md m_42 (fun q hq => .inl (List.mem_cons_of_mem _ (List.mem_append_left _ hq)))
      have q_46 := m_42.size
      refine fn fun w_47 x_48 => ?_
      have q_49 := x_48.size
      have z_47 := z_41.trans (Mod.of_ext x_48)
      refine nT <| sq <| rg <| vl (fa Ptr_fd_path_node_0 rfl) rfl <| ?_
      have B_28 := B_28.later x_40
      have d_50 : ∀ q ∈ Rep.blkOf F, q = b_25 → False := fun q hq hb => by (have := u_12 q hq; omega)
      have B_28 := B_28.mod m_42 (fun hq => d_50 _ hq rfl)
      have B_28 := B_28.later x_48
      refine vl (ld rfl (B_28.par [.int .i64 xn.cell.x, .int .i64 xn.cell.y] Ptr_ag_api_Cell Ptr_sz_api_Cell rfl)) rfl <| ?_
      have O_43 := O_43.later x_48
      have hfar2 : ∃ far2, far1.set (f.at_ xn.cell) xn.far = far2 := ⟨_, rfl⟩
      obtain ⟨far2, hfar2⟩ := hfar2
      rw [hfar2] at hs2 hu2 hv2
      have hlen2 : far2.length = far1.length := by rw [← hfar2, List.length_set]
      have HF2 : repI.SOwn 3 8 w_47 w0.heap.size (Rep.blkOf F) F cf far2 := by rw [← hfar2]; exact O_43
      have hfx : f.fr far2 xn.cell = xn.far := by rw [← hfar2]; exact Fld.fr_set hf hs1.len hxi
      refine ca Ptr_en_path_sides rfl rfl ((psides_any xn.cell _ (by first | omega | (dsimp only; omega))).mono ?_)
      rintro e w_51 ⟨rfl, x_52⟩
      refine ⟨_, rfl, ?_⟩
      have q_53 := x_52.size
      have z_51 := z_47.trans (Mod.of_ext x_52)
      refine vl (mv rfl) rfl <| nl <| nT <| bk <| ?_
      have HB20 := HB20.later x_40
      have HB20 := HB20.mod m_42 (fun hq => d_4 _ hq rfl)
      have HB20 := HB20.later (Ext.tr x_48 x_52)
      have HQ20 := HQ20.later x_26
      have HQ20 := HQ20.mod m_32 (fun q hq h => by have hb := List.mem_singleton.1 h; exfalso; (have := u_13 q hq; omega))
      have HQ20 := HQ20.later (Ext.tr x_36 x_40)
      have HQ20 := HQ20.mod m_42 (fun q hq h => by exfalso; (exact d_6 q hq h))
      have HQ20 := HQ20.later (Ext.tr x_48 x_52)
      have HF2 := HF2.later x_52
      have B_28 := B_28.later x_52
      refine lp (fun mI EI wI => ∃ j : Nat, ∃ l2 : List Nod, ∃ A2 : Option Addr, ∃ c2 : Nat, EI = [(0, .pointer (some ⟨b, 0, none⟩)), (2, .int .i64 (to.y * f.wide + to.x)), (3, .pointer (some ⟨b_25, 0, none⟩)), (14, .pointer (some ⟨b, 0, none⟩)), (15, .pointer (some ⟨b, 0, none⟩)), (16, .pointer (some ⟨b, 6, none⟩)), (17, .slice A1 l1.length c1), (18, .int .i64 (l1.length : Int)), (19, .bool (decide (0 < (l1.length : Int)))), (20, .bool true), (21, .pointer (some ⟨b, 0, none⟩)), (22, .pointer (some ⟨b, 0, none⟩)), (23, .pointer (some ⟨b, 5, none⟩)), (24, .slice F far1.length cf), (25, .int .i64 (to.y * f.wide + to.x)), (26, .pointer (some ⟨bA F, oA F + ((to.y * f.wide + to.x).toNat) * 1, none⟩)), (27, .int .i64 (f.fr far1 to)), (28, .bool (decide (f.fr far1 to < 0))), (29, .bool (decide (f.fr far1 to < 0))), (30, gv ((decide (f.fr far1 to < 0)) == false) (.pointer (some ⟨b, 0, none⟩))), (31, gv ((decide (f.fr far1 to < 0)) == false) (.pointer (some ⟨b, 0, none⟩))), (32, gv ((decide (f.fr far1 to < 0)) == false) (.pointer (some ⟨b, 6, none⟩))), (33, gv ((decide (f.fr far1 to < 0)) == false) (.slice A1 l1.length c1)), (34, gv ((decide (f.fr far1 to < 0)) == false) (.pointer (some ⟨bA A1, oA A1 + 0 * 4, none⟩))), (35, gv ((decide (f.fr far1 to < 0)) == false) (.pointer (some ⟨bA A1, oA A1 + 0 * 4 + 3, none⟩))), (36, gv ((decide (f.fr far1 to < 0)) == false) (.int .i64 ((l1.getD 0 default).all))), (37, gv ((decide (f.fr far1 to < 0)) == false) (.pointer (some ⟨b, 0, none⟩))), (38, gv ((decide (f.fr far1 to < 0)) == false) (.pointer (some ⟨b, 0, none⟩))), (39, gv ((decide (f.fr far1 to < 0)) == false) (.pointer (some ⟨b, 5, none⟩))), (40, gv ((decide (f.fr far1 to < 0)) == false) (.slice F far1.length cf)), (41, gv ((decide (f.fr far1 to < 0)) == false) (.int .i64 (to.y * f.wide + to.x))), (42, gv ((decide (f.fr far1 to < 0)) == false) (.pointer (some ⟨bA F, oA F + ((to.y * f.wide + to.x).toNat) * 1, none⟩))), (43, gv ((decide (f.fr far1 to < 0)) == false) (.int .i64 (f.fr far1 to))), (44, gv ((decide (f.fr far1 to < 0)) == false) (.bool (decide ((l1.getD 0 default).all ≤ f.fr far1 to)))), (45, .bool ((decide (f.fr far1 to < 0)) || (decide ((l1.getD 0 default).all ≤ f.fr far1 to)))), (46, .bool true), (47, .pointer (some ⟨b, 0, none⟩)), (48, .pointer (some ⟨b, 0, none⟩)), (49, .pointer (some ⟨b, 6, none⟩)), (50, .iface 165 (.pointer (some ⟨b, 6, none⟩))), (51, .iface 167 (.agg #[.int .i64 xn.cell.x, .int .i64 xn.cell.y, .int .i64 xn.far, .int .i64 xn.all])), (52, .agg #[.int .i64 xn.cell.x, .int .i64 xn.cell.y, .int .i64 xn.far, .int .i64 xn.all]), (53, .pointer (some ⟨b, 0, none⟩)), (54, .pointer (some ⟨b, 0, none⟩)), (55, .pointer (some ⟨b, 5, none⟩)), (56, .slice F far1.length cf), (57, .pointer (some ⟨b, 0, none⟩)), (58, .pointer (some ⟨b_25, 0, none⟩)), (59, .agg #[.int .i64 xn.cell.x, .int .i64 xn.cell.y]), (60, .int .i64 (xn.cell.y * f.wide + xn.cell.x)), (61, .pointer (some ⟨bA F, oA F + ((xn.cell.y * f.wide + xn.cell.x).toNat) * 1, none⟩)), (62, .int .i64 (f.fr far1 xn.cell)), (63, .bool (decide (0 ≤ f.fr far1 xn.cell))), (64, .pointer (some ⟨b, 0, none⟩)), (65, .pointer (some ⟨b, 0, none⟩)), (66, .pointer (some ⟨b, 5, none⟩)), (67, .slice F far1.length cf), (68, .pointer (some ⟨b, 0, none⟩)), (69, .pointer (some ⟨b_25, 0, none⟩)), (70, .agg #[.int .i64 xn.cell.x, .int .i64 xn.cell.y]), (71, .int .i64 (xn.cell.y * f.wide + xn.cell.x)), (72, .pointer (some ⟨b_25, 2, none⟩)), (73, .int .i64 xn.far), (74, .pointer (some ⟨bA F, oA F + ((xn.cell.y * f.wide + xn.cell.x).toNat) * 1, none⟩)), (75, .pointer (some ⟨b_25, 0, none⟩)), (76, .agg #[.int .i64 xn.cell.x, .int .i64 xn.cell.y]), (77, .agg #[.int .i64 xn.cell.x, .int .i64 (xn.cell.y - 1), .int .i64 (xn.cell.x - 1), .int .i64 xn.cell.y, .int .i64 (xn.cell.x + 1), .int .i64 xn.cell.y, .int .i64 xn.cell.x, .int .i64 (xn.cell.y + 1)]), (78, .int .i64 (j : Int))] ∧ mI = 4 - j ∧ Mod (b :: (Rep.blkOf F ++ Rep.blkOf A)) w wI ∧ Blk wI b_25 [.int .i64 xn.cell.x, .int .i64 xn.cell.y, .int .i64 xn.far, .int .i64 xn.all] 167 (0, 0) ∧ repI.SOwn 3 8 wI w0.heap.size (Rep.blkOf F) F cf far2 ∧ Blk wI b [.int .i64 f.wide, .int .i64 f.high, .slice P f.places.length pc, .int .i64 to.x, .int .i64 to.y, .slice F far1.length cf, .slice A2 l2.length c2] 105 (0, 0) ∧ Nod.rep.SOwn 167 32 wI w0.heap.size (Rep.blkOf A2) A2 c2 l2 ∧ (j ≤ 4) ∧ (PS f a to far2 l2 xn.cell (((sidesC xn.cell).drop j).filter f.ground)) ∧ (l2.length + 1 ≤ l1.length + j) ∧ (∀ q ∈ Rep.blkOf A2, q ∈ Rep.blkOf A ∨ w.heap.size ≤ q) ∧ (∀ q ∈ Rep.blkOf A2, q = b_25 → False) ∧ (∀ q ∈ Rep.blkOf A2, q = b → False) ∧ (∀ q ∈ Rep.blkOf A2, q ∈ Rep.blkOf F → False)) _ _ ⟨0, Hp.popL Nod.all l1, A1, c1, rfl, rfl, z_51, B_28, HF2, HB20, HQ20, by omega, hs2, by rw [Hp.popL_len]; omega, hgA1, (fun q hq hb => by (have := u_13 q hq; omega)), (fun q hq hb => by (exact d_5 q hq hb)), (fun q hq hb => by (exact d_6 q hq hb))⟩ (.cons rfl (.cons rfl (.cons rfl (.cons rfl (.cons rfl (.cons rfl (.cons rfl (.cons rfl (.cons rfl (.cons rfl (.cons rfl (.cons rfl (.cons rfl (.cons rfl (.cons rfl (.cons rfl (.cons rfl (.cons rfl (.cons rfl (.cons rfl (.cons rfl (.cons rfl (.cons rfl (.cons rfl (.cons rfl (.cons rfl (.cons rfl (.cons rfl (.cons rfl (.cons rfl (.cons rfl (.cons rfl (.cons rfl (.cons rfl (.cons rfl (.cons rfl (.cons rfl (.cons rfl (.cons rfl (.cons rfl (.cons rfl (.cons rfl (.cons rfl (.cons rfl (.cons rfl (.cons rfl (.cons rfl (.cons rfl (.cons rfl (.cons rfl (.cons rfl (.cons rfl (.cons rfl (.cons rfl (.cons rfl (.cons rfl (.cons rfl (.cons rfl (.cons rfl (.cons rfl (.cons rfl (.cons rfl (.cons rfl (.cons rfl (.cons rfl (.cons rfl (.cons rfl (.cons (loI rfl (by first | omega | rfl | (simp <;> omega))) .nil)))))))))))))))))))))))))))))))))))))))))))))))))))))))))))))))))))) ?_
      rintro m_58 E_59 w_57 ⟨j, l2, A2, c2, rfl, rfl, z_57, B_28, HF2, HB2, HQ2, hj, hs2, hl2, hgA2, d_54, d_55, d_56⟩
      have q_60 := z_57.size
      have q_61 := B_28.lt
      have u_62 := fun q hq => (HF2.lt q hq).2
      have q_63 := HB2.lt
      have u_64 := fun q hq => (HQ2.lt q hq).2
      refine sq <| rg <| vl (blt rfl rfl) rfl <| nl <| nT <| sq <| ?_
      refine clt rfl (fun h_65 => ?_) (fun h_65 => ?_)
      · refine sk <| nT <| sq <| bk <| sq <| rg <| ?_
        obtain ⟨nd, hnd⟩ : ∃ nd, (sidesC xn.cell).getD j default = nd := ⟨_, rfl⟩
        have hnb := sides_bd (c := xn.cell) (j := j) (by omega)
        rw [hnd] at hnb
        refine vl (ixk rfl rfl (psides_ix xn.cell j (by omega) hnd _)) rfl <| al rfl Ptr_zv_api_Cell rfl rfl fun w_66 b_67 x_68 l_69 B_70 => ?_
        have q_71 := x_68.size
        have z_66 := z_57.trans (Mod.of_ext x_68)
        have q_72 := B_70.lt
        refine st (new := [.int .i64 nd.x, .int .i64 nd.y]) rfl rfl B_70 rfl Ptr_sz_api_Cell rfl rfl rfl fun w_73 m_74 B_70 => ?_
        have q_76 := m_74.size
        have z_73 := z_66.md m_74 (fun q hq => .inr (by have := List.mem_singleton.1 hq; omega))
        have q_75 := m_74.size
        refine nl <| nT <| sq <| rg <| vl (mv rfl) rfl <| vl (ld rfl (B_70.all Ptr_ag_api_Cell Ptr_sz_api_Cell)) rfl <| ?_
        have HB2 := HB2.later x_68
        have HB2 := HB2.mod m_74 (by simp only [List.mem_singleton]; omega)
        refine ca Ptr_en__P_path_search__cost rfl rfl ((pcost_any w0 f P F A2 pc cf c2 b far1 l2 to nd _ (Ext.mod hx0 z_73 hzb) hf hP HB2).mono ?_)
        rintro e w_77 ⟨rfl, x_78⟩
        refine ⟨_, rfl, ?_⟩
        have q_79 := x_78.size
        have z_77 := z_73.trans (Mod.of_ext x_78)
        refine vl (mv rfl) rfl <| vl (ex rfl rfl) rfl <| vl (ex rfl rfl) rfl <| vl (as_ rfl) rfl <| vl (as_ rfl) rfl <| nl <| nT <| sq <| ?_
        rcases b3g_ (f.ground nd) (decide (f.fr far2 nd < 0)) with c0 | ⟨c0, c1_⟩ | ⟨c0, c1_⟩
        · have hs3 := hs2.look_out (by omega) (by rw [hnd]; exact c0)
          refine rd [(5, 0), (7, 0), (8, 0), (10, 0)] [0, 1, 2, 3, 4, 5, 6, 7, 8, 9, 10, 11, 12] (by kernel_rfl) (by kernel_rfl) ?_
          refine fw rfl rfl (fun _ => mv (evb rfl c0)) rfl <| fw rfl rfl (fun _ => mv rfl) rfl <| fW (v := undef) rfl rfl rfl rfl rfl rfl (fun hc => nomatch hc) rfl <| fW (v := undef) rfl rfl rfl rfl rfl rfl (fun hc => nomatch hc) rfl <| fW (v := undef) rfl rfl rfl rfl rfl rfl (fun hc => nomatch hc) rfl <| fQ (v := undef) rfl rfl rfl rfl rfl rfl (fun hc => nomatch hc) rfl <| fW (v := undef) rfl rfl rfl rfl rfl rfl (fun hc => nomatch hc) rfl <| fQ (v := undef) rfl rfl rfl rfl rfl rfl (fun hc => nomatch hc) rfl <| fC (v := undef) (args := []) rfl rfl rfl rfl rfl rfl Ptr_en__P_path_search__index (fun hc => nomatch hc) (fun hc => nomatch hc) rfl <| fW (v := undef) rfl rfl rfl rfl rfl rfl (fun hc => nomatch hc) rfl <| fQ (v := undef) rfl rfl rfl rfl rfl rfl (fun hc => nomatch hc) rfl <| fW (v := undef) rfl rfl rfl rfl rfl rfl (fun hc => nomatch hc) rfl <| fw rfl rfl (fun _ => pkF rfl rfl) rfl <| fn fun w_80 x_81 => ?_
          have q_82 := x_81.size
          have z_80 := z_77.trans (Mod.of_ext x_81)
          refine nT <| cF rfl <| sk <| nB <| nT <| rg <| vl (bad rfl rfl (inI (by omega))) rfl <| vl (mv rfl) rfl <| nl <| ?_
          have B_28 := B_28.later x_68
          have B_28 := B_28.mod m_74 (by simp only [List.mem_singleton]; omega)
          have B_28 := B_28.later (Ext.tr x_78 x_81)
          have HF2 := HF2.later x_68
          have HF2 := HF2.mod m_74 (fun q hq h => by have hb := List.mem_singleton.1 h; exfalso; (have := u_62 q hq; have := u_12 q hq; omega))
          have HF2 := HF2.later (Ext.tr x_78 x_81)
          have HB2 := HB2.later (Ext.tr x_78 x_81)
          have HQ2 := HQ2.later x_68
          have HQ2 := HQ2.mod m_74 (fun q hq h => by have hb := List.mem_singleton.1 h; exfalso; (have := u_64 q hq; omega))
          have HQ2 := HQ2.later (Ext.tr x_78 x_81)
          exact nI _ _ ⟨j + 1, l2, A2, c2, rfl, rfl, z_80, B_28, HF2, HB2, HQ2, by omega, hs3, by omega, hgA2, (fun q hq hb => by (exact d_54 q hq hb)), (fun q hq hb => by (exact d_55 q hq hb)), (fun q hq hb => by (exact d_56 q hq hb))⟩ (by omega) (.cons rfl (.cons rfl (.cons rfl (.cons rfl (.cons rfl (.cons rfl (.cons rfl (.cons rfl (.cons rfl (.cons rfl (.cons rfl (.cons rfl (.cons rfl (.cons rfl (.cons rfl (.cons rfl (.cons rfl (.cons rfl (.cons rfl (.cons rfl (.cons rfl (.cons rfl (.cons rfl (.cons rfl (.cons rfl (.cons rfl (.cons rfl (.cons rfl (.cons rfl (.cons rfl (.cons rfl (.cons rfl (.cons rfl (.cons rfl (.cons rfl (.cons rfl (.cons rfl (.cons rfl (.cons rfl (.cons rfl (.cons rfl (.cons rfl (.cons rfl (.cons rfl (.cons rfl (.cons rfl (.cons rfl (.cons rfl (.cons rfl (.cons rfl (.cons rfl (.cons rfl (.cons rfl (.cons rfl (.cons rfl (.cons rfl (.cons rfl (.cons rfl (.cons rfl (.cons rfl (.cons rfl (.cons rfl (.cons rfl (.cons rfl (.cons rfl (.cons rfl (.cons rfl (.cons (loI rfl (by first | omega | rfl | (simp <;> omega))) .nil))))))))))))))))))))))))))))))))))))))))))))))))))))))))))))))))))))
        · have hni := Fld.ground_in c0
          obtain ⟨nl1, nl2, nl3⟩ := fr_lt hf hs2.len hni
          have hkd := f.kost_bd (c := nd)
          have hkk := pcK_ground hf c0
          refine rd [(5, 0), (7, 0), (8, 0), (10, 0)] [0, 1, 2, 3, 4, 5, 6, 7, 8, 9, 10, 11, 12] (by kernel_rfl) (by kernel_rfl) ?_
          refine fw rfl rfl (fun _ => mv (evb rfl c0)) rfl <| fw rfl rfl (fun _ => mv rfl) rfl <| fW rfl rfl rfl rfl rfl rfl (fun hc _ => mv rfl) rfl <| fW rfl rfl rfl rfl rfl rfl (fun hc _ => nc rfl) rfl <| fW rfl rfl rfl rfl rfl rfl (fun hc _ => fa Ptr_fd_path_search_2 rfl) rfl <| ?_
          have HB2 := HB2.later x_78
          refine fQ rfl rfl rfl rfl rfl rfl (fun hc _ x => ld rfl ((HB2.later x).one Ptr_ag_S_int rfl)) rfl <| fW rfl rfl rfl rfl rfl rfl (fun hc _ => mv rfl) rfl <| ?_
          have B_70 := B_70.later x_78
          refine fQ rfl rfl rfl rfl rfl rfl (fun hc _ x => ld rfl ((B_70.later x).all Ptr_ag_api_Cell Ptr_sz_api_Cell)) rfl <| fC rfl rfl rfl rfl rfl rfl Ptr_en__P_path_search__index (fun hc => rfl) (fun hc _ x => pindex_any w0 f P F A2 pc cf c2 b far1 l2 to nd _ (Ext.tr (Ext.mod hx0 z_77 hzb) x) hf hP (HB2.later x) (by first | omega | (dsimp only; omega))) rfl <| ?_
          have HF2 := HF2.later x_68
          have HF2 := HF2.mod m_74 (fun q hq h => by have hb := List.mem_singleton.1 h; exfalso; (have := u_62 q hq; have := u_12 q hq; omega))
          have HF2 := HF2.later x_78
          refine fW rfl rfl rfl rfl rfl rfl (fun hc _ => iA ((nd.y * f.wide + nd.x).toNat) Try.underlying22 Ptr_sz_int rfl rfl (HF2.has.adr (Nat.zero_lt_of_lt (show (nd.y * f.wide + nd.x).toNat < _ from (by have h_ := (fr_lt hf hs2.len hni).1; omega)))) (by (try simp only [Bool.or_eq_true, Bool.or_eq_false_iff, Bool.and_eq_true, Bool.and_eq_false_iff, decide_eq_true_eq, decide_eq_false_iff_not, beq_iff_eq, bne_iff_ne, beq_eq_false_iff_ne, bne_eq_false_iff_eq, Bool.not_eq_true', Bool.not_eq_false', Bool.not_eq_true, Bool.not_eq_false, Int.not_lt, Int.not_le, Nat.not_lt, Nat.not_le, ne_eq, Classical.not_not] at hc); omega) (by have h_ := (fr_lt hf hs2.len hni).1; omega)) rfl <| fQ rfl rfl rfl rfl rfl rfl (fun hc _ x => ld rfl (Rep.SHas.one' hcI ((HF2.later x).has.adh (Nat.zero_lt_of_lt (show (nd.y * f.wide + nd.x).toNat < _ from (by have h_ := (fr_lt hf hs2.len hni).1; omega)))) (fr_get hf hs2.len hni) rfl Ptr_ag_int)) rfl <| fW rfl rfl rfl rfl rfl rfl (fun hc _ => blt rfl rfl) rfl <| fw rfl rfl (fun _ => pkT rfl (evb rfl c1_)) rfl <| fn fun w_83 x_84 => ?_
          have q_85 := x_84.size
          have z_83 := z_77.trans (Mod.of_ext x_84)
          refine nT <| cT rfl <| rg <| vl (mv rfl) rfl <| ?_
          have B_70 := B_70.later x_84
          refine vl (ld rfl (B_70.all Ptr_ag_api_Cell Ptr_sz_api_Cell)) rfl <| vl (fa Ptr_fd_path_node_1 rfl) rfl <| ?_
          have B_28 := B_28.later x_68
          have B_28 := B_28.mod m_74 (by simp only [List.mem_singleton]; omega)
          have B_28 := B_28.later (Ext.tr x_78 x_84)
          refine vl (ld rfl (B_28.one Ptr_ag_int rfl)) rfl <| vl (mv rfl) rfl <| vl (bad rfl rfl (inI (by omega))) rfl <| ?_
          have HQ2 := HQ2.later x_68
          have HQ2 := HQ2.mod m_74 (fun q hq h => by have hb := List.mem_singleton.1 h; exfalso; (have := u_64 q hq; omega))
          have HQ2 := HQ2.later (Ext.tr x_78 x_84)
          have HB2 := HB2.later x_84
          refine ca Ptr_en__P_path_search__push rfl rfl ((ppush_any w0 f P F A2 pc cf c2 b far1 l2 to nd (xn.far + (pcK f nd)) _ (Ext.mod hx0 z_83 hzb) hf hP HB2 hb HQ2 (fun q hq hb => by exfalso; (exact d_55 q hq hb)) (fun y hy => (hs2.node hf hin hy).2.2.2.2.2.2.2.2) (by omega) (by omega) (by omega) (by omega)).mono ?_)
          rintro e w_88 ⟨A86, c86, rfl, HB86, HQ86, hdQ86, hg86, m_87⟩
          refine ⟨_, rfl, ?_⟩
          have q_89 := m_87.size
          have z_88 := z_83.md m_87 (fun q hq => (List.mem_cons.1 hq).elim (fun h => .inl (by rw [h]; exact List.mem_cons_self)) (fun h => (hgA2 q h).imp (fun h => List.mem_cons_of_mem _ (List.mem_append_right _ h)) id))
          have u_90 := fun q hq => (HQ86.lt q hq).2
          have hs4 := hs2.look_new (n := ⟨nd, xn.far + (pcK f nd), xn.far + (pcK f nd) + Fld.est to nd⟩) (Fld.okA f to) (by omega) (by rw [hnd]; exact c0) (by rw [hnd]) (by rw [hnd, hfx, ← hkk]) (by rw [hnd])
          refine nl <| nB <| nT <| rg <| vl (bad rfl rfl (inI (by omega))) rfl <| vl (mv rfl) rfl <| nl <| ?_
          have B_28 := B_28.mod m_87 (fun hq => (List.mem_cons.1 hq).elim (fun h => by omega) (fun h => (show ∀ q, q ∈ Rep.blkOf A2 → q = b_25 → False from fun q h hb => by (exact d_54 q h hb)) _ h rfl))
          have HF2 := HF2.later x_84
          have HF2 := HF2.mod m_87 (fun q hq h => (List.mem_cons.1 h).elim (fun h => by exfalso; (exact d_4 q hq h)) (fun h => by exfalso; (exact d_56 q h hq)))
          exact nI _ _ ⟨j + 1, Hp.push Nod.all l2 ⟨nd, xn.far + (pcK f nd), xn.far + (pcK f nd) + Fld.est to nd⟩, A86, c86, rfl, rfl, z_88, B_28, HF2, HB86, HQ86, by omega, hs4, by rw [Hp.push_len]; omega, (fun q hq => (hg86 q hq).elim (hgA2 q) (fun h => .inr (by omega))), (fun q hq hb => by (exact Or.elim (hg86 q hq) (fun k_91 => by (exact d_54 q k_91 hb)) (fun k_91 => by omega))), (fun q hq hb => by (exact hdQ86 q hq hb)), (fun q hq hb => by (exact Or.elim (hg86 q hq) (fun k_92 => by (exact d_56 q k_92 hb)) (fun k_92 => by (have := u_62 q hb; have := u_12 q hb; omega))))⟩ (by omega) (.cons rfl (.cons rfl (.cons rfl (.cons rfl (.cons rfl (.cons rfl (.cons rfl (.cons rfl (.cons rfl (.cons rfl (.cons rfl (.cons rfl (.cons rfl (.cons rfl (.cons rfl (.cons rfl (.cons rfl (.cons rfl (.cons rfl (.cons rfl (.cons rfl (.cons rfl (.cons rfl (.cons rfl (.cons rfl (.cons rfl (.cons rfl (.cons rfl (.cons rfl (.cons rfl (.cons rfl (.cons rfl (.cons rfl (.cons rfl (.cons rfl (.cons rfl (.cons rfl (.cons rfl (.cons rfl (.cons rfl (.cons rfl (.cons rfl (.cons rfl (.cons rfl (.cons rfl (.cons rfl (.cons rfl (.cons rfl (.cons rfl (.cons rfl (.cons rfl (.cons rfl (.cons rfl (.cons rfl (.cons rfl (.cons rfl (.cons rfl (.cons rfl (.cons rfl (.cons rfl (.cons rfl (.cons rfl (.cons rfl (.cons rfl (.cons rfl (.cons rfl (.cons rfl (.cons (loI rfl (by first | omega | rfl | (simp <;> omega))) .nil))))))))))))))))))))))))))))))))))))))))))))))))))))))))))))))))))))
        · have hni := Fld.ground_in c0
          obtain ⟨nl1, nl2, nl3⟩ := fr_lt hf hs2.len hni
          have hs3 := hs2.look_known (by omega) (by rw [hnd]; have h9 := of_decide_eq_false c1_; omega) (by rw [hnd]; exact c0)
          refine rd [(5, 0), (7, 0), (8, 0), (10, 0)] [0, 1, 2, 3, 4, 5, 6, 7, 8, 9, 10, 11, 12] (by kernel_rfl) (by kernel_rfl) ?_
          refine fw rfl rfl (fun _ => mv (evb rfl c0)) rfl <| fw rfl rfl (fun _ => mv rfl) rfl <| fW rfl rfl rfl rfl rfl rfl (fun hc _ => mv rfl) rfl <| fW rfl rfl rfl rfl rfl rfl (fun hc _ => nc rfl) rfl <| fW rfl rfl rfl rfl rfl rfl (fun hc _ => fa Ptr_fd_path_search_2 rfl) rfl <| ?_
          have HB2 := HB2.later x_78
          refine fQ rfl rfl rfl rfl rfl rfl (fun hc _ x => ld rfl ((HB2.later x).one Ptr_ag_S_int rfl)) rfl <| fW rfl rfl rfl rfl rfl rfl (fun hc _ => mv rfl) rfl <| ?_
          have B_70 := B_70.later x_78
          refine fQ rfl rfl rfl rfl rfl rfl (fun hc _ x => ld rfl ((B_70.later x).all Ptr_ag_api_Cell Ptr_sz_api_Cell)) rfl <| fC rfl rfl rfl rfl rfl rfl Ptr_en__P_path_search__index (fun hc => rfl) (fun hc _ x => pindex_any w0 f P F A2 pc cf c2 b far1 l2 to nd _ (Ext.tr (Ext.mod hx0 z_77 hzb) x) hf hP (HB2.later x) (by first | omega | (dsimp only; omega))) rfl <| ?_
          have HF2 := HF2.later x_68
          have HF2 := HF2.mod m_74 (fun q hq h => by have hb := List.mem_singleton.1 h; exfalso; (have := u_62 q hq; have := u_12 q hq; omega))
          have HF2 := HF2.later x_78
          refine fW rfl rfl rfl rfl rfl rfl (fun hc _ => iA ((nd.y * f.wide + nd.x).toNat) Try.underlying22 Ptr_sz_int rfl rfl (HF2.has.adr (Nat.zero_lt_of_lt (show (nd.y * f.wide + nd.x).toNat < _ from (by have h_ := (fr_lt hf hs2.len hni).1; omega)))) (by (try simp only [Bool.or_eq_true, Bool.or_eq_false_iff, Bool.and_eq_true, Bool.and_eq_false_iff, decide_eq_true_eq, decide_eq_false_iff_not, beq_iff_eq, bne_iff_ne, beq_eq_false_iff_ne, bne_eq_false_iff_eq, Bool.not_eq_true', Bool.not_eq_false', Bool.not_eq_true, Bool.not_eq_false, Int.not_lt, Int.not_le, Nat.not_lt, Nat.not_le, ne_eq, Classical.not_not] at hc); omega) (by have h_ := (fr_lt hf hs2.len hni).1; omega)) rfl <| fQ rfl rfl rfl rfl rfl rfl (fun hc _ x => ld rfl (Rep.SHas.one' hcI ((HF2.later x).has.adh (Nat.zero_lt_of_lt (show (nd.y * f.wide + nd.x).toNat < _ from (by have h_ := (fr_lt hf hs2.len hni).1; omega)))) (fr_get hf hs2.len hni) rfl Ptr_ag_int)) rfl <| fW rfl rfl rfl rfl rfl rfl (fun hc _ => blt rfl rfl) rfl <| fw rfl rfl (fun _ => pkT rfl (evb rfl c1_)) rfl <| fn fun w_93 x_94 => ?_
          have q_95 := x_94.size
          have z_93 := z_77.trans (Mod.of_ext x_94)
          refine nT <| cF rfl <| sk <| nB <| nT <| rg <| vl (bad rfl rfl (inI (by omega))) rfl <| vl (mv rfl) rfl <| nl <| ?_
          have B_28 := B_28.later x_68
          have B_28 := B_28.mod m_74 (by simp only [List.mem_singleton]; omega)
          have B_28 := B_28.later (Ext.tr x_78 x_94)
          have HF2 := HF2.later x_94
          have HB2 := HB2.later x_94
          have HQ2 := HQ2.later x_68
          have HQ2 := HQ2.mod m_74 (fun q hq h => by have hb := List.mem_singleton.1 h; exfalso; (have := u_64 q hq; omega))
          have HQ2 := HQ2.later (Ext.tr x_78 x_94)
          exact nI _ _ ⟨j + 1, l2, A2, c2, rfl, rfl, z_93, B_28, HF2, HB2, HQ2, by omega, hs3, by omega, hgA2, (fun q hq hb => by (exact d_54 q hq hb)), (fun q hq hb => by (exact d_55 q hq hb)), (fun q hq hb => by (exact d_56 q hq hb))⟩ (by omega) (.cons rfl (.cons rfl (.cons rfl (.cons rfl (.cons rfl (.cons rfl (.cons rfl (.cons rfl (.cons rfl (.cons rfl (.cons rfl (.cons rfl (.cons rfl (.cons rfl (.cons rfl (.cons rfl (.cons rfl (.cons rfl (.cons rfl (.cons rfl (.cons rfl (.cons rfl (.cons rfl (.cons rfl (.cons rfl (.cons rfl (.cons rfl (.cons rfl (.cons rfl (.cons rfl (.cons rfl (.cons rfl (.cons rfl (.cons rfl (.cons rfl (.cons rfl (.cons rfl (.cons rfl (.cons rfl (.cons rfl (.cons rfl (.cons rfl (.cons rfl (.cons rfl (.cons rfl (.cons rfl (.cons rfl (.cons rfl (.cons rfl (.cons rfl (.cons rfl (.cons rfl (.cons rfl (.cons rfl (.cons rfl (.cons rfl (.cons rfl (.cons rfl (.cons rfl (.cons rfl (.cons rfl (.cons rfl (.cons rfl (.cons rfl (.cons rfl (.cons rfl (.cons rfl (.cons (loI rfl (by first | omega | rfl | (simp <;> omega))) .nil))))))))))))))))))))))))))))))))))))))))))))))))))))))))))))))))))))
      · refine xt <| xT <| xK <| xB <| nB <| ?_
        exact nI _ _ ⟨far2, l2, A2, c2, xn.cell, rfl, rfl, z_57, (by first | exact HB2 | (rw [hlen2]; exact HB2)), HF2, HQ2, (by have e : j = 4 := (by omega); subst e; exact hs2), hv2, by omega, hgA2, (fun q hq hb => by (exact d_4 q hq hb)), (fun q hq hb => by (exact d_55 q hq hb)), (fun q hq hb => by (exact d_56 q hq hb))⟩ (by first | (rw [Hp.popL_len]; omega) | omega) (.cons rfl (.cons rfl .nil))
  · have h0p : 0 < l1.length := by simpa using c0
    have hend := pend_more hs1 hv1 h0p (by rw [Bool.or_eq_false_iff, decide_eq_false_iff_not, decide_eq_false_iff_not] at c1_; omega) (by rw [Bool.or_eq_false_iff, decide_eq_false_iff_not, decide_eq_false_iff_not] at c1_; omega)
    refine rd [(3, 0), (4, 0), (10, 0), (13, 0), (19, 0), (22, 0), (26, 0), (29, 0)] [0, 1, 2, 3, 4, 5, 6, 7, 8, 9, 10, 11, 12, 13, 14, 15, 16, 17, 18, 19, 20, 21, 22, 23, 24, 25, 26, 27, 28, 29, 30, 31, 32] (by kernel_rfl) (by kernel_rfl) ?_
    refine fw rfl rfl (fun _ => mv rfl) rfl <| fw rfl rfl (fun _ => nc rfl) rfl <| fw rfl rfl (fun _ => fa Ptr_fd_path_search_3 rfl) rfl <| fq rfl rfl (fun _ x => ld rfl ((HB1.later x).one Ptr_ag_path_open rfl)) rfl <| fc rfl rfl Ptr_en__path_open__Len rfl (fun _ x => xP_len _ l1.length _ _) rfl <| fw rfl rfl (fun _ => bgt rfl rfl) rfl <| fw rfl rfl (fun _ => mv (evb rfl c0)) rfl <| fW rfl rfl rfl rfl rfl rfl (fun hc _ => mv rfl) rfl <| fW rfl rfl rfl rfl rfl rfl (fun hc _ => nc rfl) rfl <| fW rfl rfl rfl rfl rfl rfl (fun hc _ => fa Ptr_fd_path_search_2 rfl) rfl <| fQ rfl rfl rfl rfl rfl rfl (fun hc _ x => ld rfl ((HB1.later x).one Ptr_ag_S_int rfl)) rfl <| fW rfl rfl rfl rfl rfl rfl (fun hc _ => mv rfl) rfl <| fW rfl rfl rfl rfl rfl rfl (fun hc _ => iA ((to.y * f.wide + to.x).toNat) Try.underlying22 Ptr_sz_int rfl rfl (HF1.has.adr (Nat.zero_lt_of_lt (show (to.y * f.wide + to.x).toNat < _ from (by have h_ := (fr_lt hf hs1.len hin).1; omega)))) (by (try simp only [Bool.or_eq_true, Bool.or_eq_false_iff, Bool.and_eq_true, Bool.and_eq_false_iff, decide_eq_true_eq, decide_eq_false_iff_not, beq_iff_eq, bne_iff_ne, beq_eq_false_iff_ne, bne_eq_false_iff_eq, Bool.not_eq_true', Bool.not_eq_false', Bool.not_eq_true, Bool.not_eq_false, Int.not_lt, Int.not_le, Nat.not_lt, Nat.not_le, ne_eq, Classical.not_not] at hc); omega) (by have h_ := (fr_lt hf hs1.len hin).1; omega)) rfl <| fQ rfl rfl rfl rfl rfl rfl (fun hc _ x => ld rfl (Rep.SHas.one' hcI ((HF1.later x).has.adh (Nat.zero_lt_of_lt (show (to.y * f.wide + to.x).toNat < _ from (by have h_ := (fr_lt hf hs1.len hin).1; omega)))) (fr_get hf hs1.len hin) rfl Ptr_ag_int)) rfl <| fW rfl rfl rfl rfl rfl rfl (fun hc _ => blt rfl rfl) rfl <| fW rfl rfl rfl rfl rfl rfl (fun hc _ => mv rfl) rfl <| fW rfl rfl rfl rfl rfl rfl (fun hc _ => mv rfl) rfl <| fW rfl rfl rfl rfl rfl rfl (fun hc _ => nc (gt hc rfl)) rfl <| fW rfl rfl rfl rfl rfl rfl (fun hc _ => fa Ptr_fd_path_search_3 (gt hc rfl)) rfl <| fQ rfl rfl rfl rfl rfl rfl (fun hc _ x => ld (gt hc rfl) ((HB1.later x).one Ptr_ag_path_open rfl)) rfl <| fW rfl rfl rfl rfl rfl rfl (fun hc _ => iA 0 Try.underlying103 Ptr_sz_path_node (gt hc rfl) rfl (HQ1.has.adr (Nat.zero_lt_of_lt (show 0 < _ from (by (try simp only [Bool.or_eq_true, Bool.or_eq_false_iff, Bool.and_eq_true, Bool.and_eq_false_iff, decide_eq_true_eq, decide_eq_false_iff_not, beq_iff_eq, bne_iff_ne, beq_eq_false_iff_ne, bne_eq_false_iff_eq, Bool.not_eq_true', Bool.not_eq_false', Bool.not_eq_true, Bool.not_eq_false, Int.not_lt, Int.not_le, Nat.not_lt, Nat.not_le, ne_eq, Classical.not_not] at hc); omega)))) rfl (by (try simp only [Bool.or_eq_true, Bool.or_eq_false_iff, Bool.and_eq_true, Bool.and_eq_false_iff, decide_eq_true_eq, decide_eq_false_iff_not, beq_iff_eq, bne_iff_ne, beq_eq_false_iff_ne, bne_eq_false_iff_eq, Bool.not_eq_true', Bool.not_eq_false', Bool.not_eq_true, Bool.not_eq_false, Int.not_lt, Int.not_le, Nat.not_lt, Nat.not_le, ne_eq, Classical.not_not] at hc); omega)) rfl <| fW rfl rfl rfl rfl rfl rfl (fun hc _ => fa Ptr_fd_path_node_2 (gt hc rfl)) rfl <| fQ rfl rfl rfl rfl rfl rfl (fun hc _ x => ld (gt hc rfl) (Rep.SHas.fld hcNo ((HQ1.later x).has.adh (Nat.zero_lt_of_lt (show 0 < _ from (by (try simp only [Bool.or_eq_true, Bool.or_eq_false_iff, Bool.and_eq_true, Bool.and_eq_false_iff, decide_eq_true_eq, decide_eq_false_iff_not, beq_iff_eq, bne_iff_ne, beq_eq_false_iff_ne, bne_eq_false_iff_eq, Bool.not_eq_true', Bool.not_eq_false', Bool.not_eq_true, Bool.not_eq_false, Int.not_lt, Int.not_le, Nat.not_lt, Nat.not_le, ne_eq, Classical.not_not] at hc); omega)))) 3 (get_d (l := l1) (u := default) (by (try simp only [Bool.or_eq_true, Bool.or_eq_false_iff, Bool.and_eq_true, Bool.and_eq_false_iff, decide_eq_true_eq, decide_eq_false_iff_not, beq_iff_eq, bne_iff_ne, beq_eq_false_iff_ne, bne_eq_false_iff_eq, Bool.not_eq_true', Bool.not_eq_false', Bool.not_eq_true, Bool.not_eq_false, Int.not_lt, Int.not_le, Nat.not_lt, Nat.not_le, ne_eq, Classical.not_not] at hc); omega)) rfl Ptr_ag_int)) rfl <| fW rfl rfl rfl rfl rfl rfl (fun hc _ => mv rfl) rfl <| ?_
    refine fW rfl rfl rfl rfl rfl rfl (fun hc _ => nc (gt hc rfl)) rfl <| fW rfl rfl rfl rfl rfl rfl (fun hc _ => fa Ptr_fd_path_search_2 (gt hc rfl)) rfl <| fQ rfl rfl rfl rfl rfl rfl (fun hc _ x => ld (gt hc rfl) ((HB1.later x).one Ptr_ag_S_int rfl)) rfl <| fW rfl rfl rfl rfl rfl rfl (fun hc _ => mv rfl) rfl <| fW rfl rfl rfl rfl rfl rfl (fun hc _ => iA ((to.y * f.wide + to.x).toNat) Try.underlying22 Ptr_sz_int (gt hc rfl) (gt hc rfl) (HF1.has.adr (Nat.zero_lt_of_lt (show (to.y * f.wide + to.x).toNat < _ from (by have h_ := (fr_lt hf hs1.len hin).1; omega)))) (by (try simp only [Bool.or_eq_true, Bool.or_eq_false_iff, Bool.and_eq_true, Bool.and_eq_false_iff, decide_eq_true_eq, decide_eq_false_iff_not, beq_iff_eq, bne_iff_ne, beq_eq_false_iff_ne, bne_eq_false_iff_eq, Bool.not_eq_true', Bool.not_eq_false', Bool.not_eq_true, Bool.not_eq_false, Int.not_lt, Int.not_le, Nat.not_lt, Nat.not_le, ne_eq, Classical.not_not] at hc); omega) (by have h_ := (fr_lt hf hs1.len hin).1; omega)) rfl <| fQ rfl rfl rfl rfl rfl rfl (fun hc _ x => ld (gt hc rfl) (Rep.SHas.one' hcI ((HF1.later x).has.adh (Nat.zero_lt_of_lt (show (to.y * f.wide + to.x).toNat < _ from (by have h_ := (fr_lt hf hs1.len hin).1; omega)))) (fr_get hf hs1.len hin) rfl Ptr_ag_int)) rfl <| fW rfl rfl rfl rfl rfl rfl (fun hc _ => ble (gt hc rfl) (gt hc rfl)) rfl <| fW rfl rfl rfl rfl rfl rfl (fun hc _ => pO rfl rfl rfl rfl) rfl <| fw rfl rfl (fun _ => pkT rfl (evb rfl c1_)) rfl <| fn fun w_96 x_97 => ?_
    have q_98 := x_97.size
    have z_96 := z_7.trans (Mod.of_ext x_97)
    refine nT <| cF rfl <| xt <| xT <| xK <| xB <| ne <| tR .nil <| ?_
    have HQ1 := HQ1.later x_97
    have HF1 := HF1.later x_97
    have HB1 := HB1.later x_97
    exact ⟨far1, A1, c1, l1, rfl, HB1, HF1, hend, z_96⟩
end Go.Proofs.Ytffjpfpbpnhmcaa
