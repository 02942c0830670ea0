/-
  path: cost, index, sides; flood.Cost. (Printed by bin/path.py.)
-/
import Derived.Test.YtffjpfpbpnhmcaaAst
import Derived.Test.YtffjpfpbpnhmcaaHpa
import Derived.Test.YtffjpfpbpnhmcaaWOwn2
set_option linter.unusedVariables false
set_option linter.unusedSimpArgs false
namespace Go.Proofs.Ytffjpfpbpnhmcaa
open Go.RowKit

theorem Pth_fd_api_Cell_1 : Fd Try.prog 32 1 1 := fun _ _ _ => by kernel_rfl
theorem Pth_ag_int : Ag Try.prog 3 false := fun _ => by kernel_rfl
theorem Pth_fd_path_search_0 : Fd Try.prog 105 0 0 := fun _ _ _ => by kernel_rfl
theorem Pth_fd_api_Field_0 : Fd Try.prog 24 0 0 := fun _ _ _ => by kernel_rfl
theorem Pth_fd_api_Cell_0 : Fd Try.prog 32 0 0 := fun _ _ _ => by kernel_rfl
theorem Pth_ag_api_Field : Ag Try.prog 24 true := fun _ => by kernel_rfl
theorem Pth_sz_api_Field : Sz Try.prog 24 3 := fun _ => by kernel_rfl
theorem Pth_ag_api_Cell : Ag Try.prog 32 true := fun _ => by kernel_rfl
theorem Pth_sz_api_Cell : Sz Try.prog 32 2 := fun _ => by kernel_rfl
theorem Pth_en_field_At : Enters Try.prog 25 := en Try.func25 (by kernel_rfl) (by kernel_rfl)
theorem Pth_en_flood_Cost : Enters Try.prog 17 := en Try.func17 (by kernel_rfl) (by kernel_rfl)
theorem Pth_zv__4_api_Cell : Zv Try.prog 100 (.agg #[.int .i64 0, .int .i64 0, .int .i64 0, .int .i64 0, .int .i64 0, .int .i64 0, .int .i64 0, .int .i64 0]) := fun _ => by kernel_rfl
theorem Pth_sz__4_api_Cell : Sz Try.prog 100 8 := fun _ => by kernel_rfl
theorem Pth_ag__4_api_Cell : Ag Try.prog 100 true := fun _ => by kernel_rfl
/-- What a cell costs who enters; nothing, where none may. -/
def pcK (f : Fld) (c : Cel) : Int := if f.isIn c then costK (f.place c) else 0
theorem cost_ground {f : Fld} {c : Cel} (hf : f.chk = 0) (hc : f.isIn c = true) : (costE (f.place c) == 0) = f.ground c ∧ (f.ground c = true → costK (f.place c) = f.kost c) := by
  obtain ⟨_, _, _, _, _, g6⟩ := Fld.good hf
  have hp := g6 (f.place c) (by unfold Fld.place; exact mem_dd (Fld.at_lt hf hc).1)
  unfold Fld.ground
  rw [hc]
  have : f.place c = 0 ∨ f.place c = 1 ∨ f.place c = 2 ∨ f.place c = 3 := by omega
  unfold Fld.kost costE costK
  rcases this with h | h | h | h <;> rw [h] <;> simp
theorem pc_out {f : Fld} {c : Cel} (hf : f.chk = 0) (h : ¬ f.atE c = 0) : pcK f c = 0 ∧ f.ground c = false := by
  have hc : f.isIn c = false := by
    cases hc : f.isIn c with
    | false => rfl
    | true => exact absurd (Fld.at_in hf hc).1 h
  unfold pcK Fld.ground; rw [hc]; exact ⟨rfl, rfl⟩
theorem pc_in {f : Fld} {c : Cel} (hf : f.chk = 0) (h : f.atE c = 0) : pcK f c = costK (f.atV c) ∧ f.ground c = (costE (f.atV c) == 0) := by
  have hc := atE_zero hf h
  rw [(Fld.at_in hf hc).2]
  unfold pcK; rw [hc]; exact ⟨rfl, (cost_ground hf hc).1.symm⟩
theorem pcK_ground {f : Fld} {c : Cel} (hf : f.chk = 0) (h : f.ground c = true) : pcK f c = f.kost c := by
  have hc := Fld.ground_in h
  unfold pcK; rw [if_pos hc]; exact (cost_ground hf hc).2 h
set_option maxRecDepth 100000 in
set_option maxHeartbeats 400000 in
theorem fcost_any (p : Int) (w : World) :
    Calls Try.prog 17 #[.int .i64 p] w (fun e w' => e = .returned (.tuple #[.int .i64 (costK p), .int .i64 (costE p)]) ∧ Ext w w') := by
  refine calls_W (n := 12) Try.func17 rfl rfl rfl ?_
  refine sq <| rg <| vl (as_ rfl) rfl <| vl (as_ rfl) rfl <| nl <| nT <| sq <| sq <| rg <| vl (mv rfl) rfl <| nl <| nT <| bk <| sq <| sq <| rg <| vl (beq rfl rfl) rfl <| vl (as_ rfl) rfl <| nl <| nT <| ?_
  refine ceq rfl (fun h_1 => ?_) (fun h_1 => ?_)
  · have k_2 : (p == 0) = true := by simpa using h_1
    refine sk <| nT <| ?_
    refine ceq rfl (fun h_3 => ?_) (fun h_3 => ?_)
    · have k_4 : (p == 0) = true := by simpa using h_3
      refine sq <| rg <| vl (as_ rfl) rfl <| vl (as_ rfl) rfl <| nl <| nT <| rt <| tB <| tT <| tR (.tmp rfl (.tmp rfl .nil)) <| ?_
      exact ⟨by simp_all [costK, costE, tup], (Ext.rf w)⟩
    · have k_5 : (p == 0) = false := by simpa using h_3
      refine sq <| rg <| vl (beq rfl rfl) rfl <| vl (as_ rfl) rfl <| nl <| nT <| ?_
      refine ceq rfl (fun h_6 => ?_) (fun h_6 => ?_)
      · have k_7 : (p == 2) = true := by simpa using h_6
        refine sq <| rg <| vl (as_ rfl) rfl <| vl (as_ rfl) rfl <| nl <| nT <| rt <| tB <| tT <| tR (.tmp rfl (.tmp rfl .nil)) <| ?_
        exact ⟨by simp_all [costK, costE, tup], (Ext.rf w)⟩
      · have k_8 : (p == 2) = false := by simpa using h_6
        refine sq <| rg <| vl (beq rfl rfl) rfl <| vl (as_ rfl) rfl <| nl <| nT <| ?_
        refine ceq rfl (fun h_9 => ?_) (fun h_9 => ?_)
        · have k_10 : (p == 1) = true := by simpa using h_9
          refine sq <| rg <| vl (as_ rfl) rfl <| vl (as_ rfl) rfl <| nl <| nT <| rt <| tB <| tT <| tR (.tmp rfl (.tmp rfl .nil)) <| ?_
          exact ⟨by simp_all [costK, costE, tup], (Ext.rf w)⟩
        · have k_11 : (p == 1) = false := by simpa using h_9
          refine sk <| nB <| nT <| sq <| rg <| vl (as_ rfl) rfl <| vl (as_ rfl) rfl <| nl <| nT <| rt <| tR (.tmp rfl (.tmp rfl .nil)) <| ?_
          exact ⟨by simp_all [costK, costE, tup], (Ext.rf w)⟩
  · have k_12 : (p == 0) = false := by simpa using h_1
    refine rg <| vl (beq rfl rfl) rfl <| vl (as_ rfl) rfl <| nl <| nT <| ?_
    refine ceq rfl (fun h_13 => ?_) (fun h_13 => ?_)
    · have k_14 : (p == 3) = true := by simpa using h_13
      refine sq <| rg <| vl (as_ rfl) rfl <| vl (as_ rfl) rfl <| nl <| nT <| rt <| tB <| tT <| tR (.tmp rfl (.tmp rfl .nil)) <| ?_
      exact ⟨by simp_all [costK, costE, tup], (Ext.rf w)⟩
    · have k_15 : (p == 3) = false := by simpa using h_13
      refine sq <| rg <| vl (beq rfl rfl) rfl <| vl (as_ rfl) rfl <| nl <| nT <| ?_
      refine ceq rfl (fun h_16 => ?_) (fun h_16 => ?_)
      · have k_17 : (p == 2) = true := by simpa using h_16
        refine sq <| rg <| vl (as_ rfl) rfl <| vl (as_ rfl) rfl <| nl <| nT <| rt <| tB <| tT <| tR (.tmp rfl (.tmp rfl .nil)) <| ?_
        exact ⟨by simp_all [costK, costE, tup], (Ext.rf w)⟩
      · have k_18 : (p == 2) = false := by simpa using h_16
        refine sq <| rg <| vl (beq rfl rfl) rfl <| vl (as_ rfl) rfl <| nl <| nT <| ?_
        refine ceq rfl (fun h_19 => ?_) (fun h_19 => ?_)
        · have k_20 : (p == 1) = true := by simpa using h_19
          refine sq <| rg <| vl (as_ rfl) rfl <| vl (as_ rfl) rfl <| nl <| nT <| rt <| tB <| tT <| tR (.tmp rfl (.tmp rfl .nil)) <| ?_
          exact ⟨by simp_all [costK, costE, tup], (Ext.rf w)⟩
        · have k_21 : (p == 1) = false := by simpa using h_19
          refine sk <| nB <| nT <| sq <| rg <| vl (as_ rfl) rfl <| vl (as_ rfl) rfl <| nl <| nT <| rt <| tR (.tmp rfl (.tmp rfl .nil)) <| ?_
          exact ⟨by simp_all [costK, costE, tup], (Ext.rf w)⟩
set_option maxRecDepth 100000 in
set_option maxHeartbeats 400000 in
theorem pindex_any (w0 : World) (f : Fld) (P F A : Option Addr) (pc cf c b : Nat) (far : List Int) (l : List Nod) (to : Cel) (p : Cel) (w : World) (hx0 : Ext w0 w) (hf : f.chk = 0) (hP : repI.SHas 8 w0 P pc f.places) (HB : Blk w b [.int .i64 f.wide, .int .i64 f.high, .slice P f.places.length pc, .int .i64 to.x, .int .i64 to.y, .slice F far.length cf, .slice A l.length c] 105 (0, 0)) (hp : -500 ≤ p.x ∧ p.x ≤ 500 ∧ -500 ≤ p.y ∧ p.y ≤ 500) :
    Calls Try.prog 59 #[.pointer (some ⟨b, 0, none⟩), .agg #[.int .i64 p.x, .int .i64 p.y]] w (fun e w' => e = .returned (.int .i64 (p.y * f.wide + p.x)) ∧ Ext w w') := by
  have qB := HB.lt
  obtain ⟨g1, g2, g3, g4, g5, g6⟩ := Fld.good hf
  have q0 := hx0.size
  refine calls_W (n := 16) Try.func59 rfl rfl rfl ?_
  refine sq <| rg <| bx rfl rfl rfl rfl fun w_1 b_2 x_3 l_4 B_5 => ?_
  have q_6 := x_3.size
  have z_1 := Ext.tr hx0 x_3
  have q_7 := B_5.lt
  refine vl (as_ rfl) rfl <| nl <| nT <| sq <| ?_
  refine rd [(1, 0), (6, 0), (9, 0)] [0, 1, 2, 3, 4, 5, 6, 7, 8, 9, 10, 11] (by kernel_rfl) (by kernel_rfl) ?_
  refine fw rfl rfl (fun _ => fa Pth_fd_api_Cell_1 rfl) rfl <| fq rfl rfl (fun _ x => ld rfl ((B_5.later x).one Pth_ag_int rfl)) rfl <| fw rfl rfl (fun _ => mv rfl) rfl <| fw rfl rfl (fun _ => nc rfl) rfl <| fw rfl rfl (fun _ => fa Pth_fd_path_search_0 rfl) rfl <| fw rfl rfl (fun _ => fa Pth_fd_api_Field_0 rfl) rfl <| ?_
  have HB := HB.later x_3
  refine fq rfl rfl (fun _ x => ld rfl ((HB.later x).one Pth_ag_int rfl)) rfl <| fw rfl rfl (fun _ => bmu rfl rfl (inI ((by have := Int.mul_le_mul (show p.y ≤ 500 by omega) g2 (by omega) (by omega); have := Int.mul_le_mul (show -p.y ≤ 500 by omega) g2 (by omega) (by omega); rw [Int.neg_mul] at this; omega)))) rfl <| fw rfl rfl (fun _ => fa Pth_fd_api_Cell_0 rfl) rfl <| fq rfl rfl (fun _ x => ld rfl ((B_5.later x).one Pth_ag_int rfl)) rfl <| fw rfl rfl (fun _ => bad rfl rfl (inI ((by have := Int.mul_le_mul (show p.y ≤ 500 by omega) g2 (by omega) (by omega); have := Int.mul_le_mul (show -p.y ≤ 500 by omega) g2 (by omega) (by omega); rw [Int.neg_mul] at this; omega)))) rfl <| fw rfl rfl (fun _ => as_ rfl) rfl <| fn fun w_8 x_9 => ?_
  have q_10 := x_9.size
  have z_8 := Ext.tr z_1 x_9
  refine nT <| rt <| tR (.tmp rfl .nil) <| ?_
  exact ⟨rfl, Ext.tr x_3 x_9⟩
set_option maxRecDepth 100000 in
set_option maxHeartbeats 400000 in
theorem pcost_any (w0 : World) (f : Fld) (P F A : Option Addr) (pc cf c b : Nat) (far : List Int) (l : List Nod) (to : Cel) (p : Cel) (w : World) (hx0 : Ext w0 w) (hf : f.chk = 0) (hP : repI.SHas 8 w0 P pc f.places) (HB : Blk w b [.int .i64 f.wide, .int .i64 f.high, .slice P f.places.length pc, .int .i64 to.x, .int .i64 to.y, .slice F far.length cf, .slice A l.length c] 105 (0, 0)) :
    Calls Try.prog 57 #[.pointer (some ⟨b, 0, none⟩), .agg #[.int .i64 p.x, .int .i64 p.y]] w (fun e w' => e = .returned (.tuple #[.int .i64 (pcK f p), .bool (f.ground p)]) ∧ Ext w w') := by
  have qB := HB.lt
  obtain ⟨g1, g2, g3, g4, g5, g6⟩ := Fld.good hf
  have q0 := hx0.size
  refine calls_W (n := 28) Try.func57 rfl rfl rfl ?_
  refine sq <| rg <| bx rfl rfl rfl rfl fun w_1 b_2 x_3 l_4 B_5 => ?_
  have q_6 := x_3.size
  have z_1 := Ext.tr hx0 x_3
  have q_7 := B_5.lt
  refine vl (as_ rfl) rfl <| vl (as_ rfl) rfl <| nl <| nT <| sq <| ?_
  refine rd [(3, 0), (4, 0), (5, 0)] [0, 1, 2, 3, 4, 5, 6, 7, 8, 9, 10] (by kernel_rfl) (by kernel_rfl) ?_
  refine fw rfl rfl (fun _ => mv rfl) rfl <| fw rfl rfl (fun _ => nc rfl) rfl <| fw rfl rfl (fun _ => fa Pth_fd_path_search_0 rfl) rfl <| ?_
  have HB := HB.later x_3
  refine fq rfl rfl (fun _ x => ld rfl ((HB.later x).par [.int .i64 f.wide, .int .i64 f.high, .slice P f.places.length pc] Pth_ag_api_Field Pth_sz_api_Field rfl)) rfl <| fq rfl rfl (fun _ x => ld rfl ((B_5.later x).all Pth_ag_api_Cell Pth_sz_api_Cell)) rfl <| fc rfl rfl Pth_en_field_At rfl (fun _ x => fldAt2 f p _ _ _ (hP.keep (Ext.tr z_1 x))) rfl <| fw rfl rfl (fun _ => mv rfl) rfl <| fw rfl rfl (fun _ => ex rfl rfl) rfl <| fw rfl rfl (fun _ => ex rfl rfl) rfl <| fw rfl rfl (fun _ => as_ rfl) rfl <| fw rfl rfl (fun _ => as_ rfl) rfl <| fn fun w_8 x_9 => ?_
  have q_10 := x_9.size
  have z_8 := Ext.tr z_1 x_9
  refine nT <| sq <| sq <| rg <| vl (mv rfl) rfl <| vl (bne rfl rfl) rfl <| nl <| nT <| ?_
  refine cne rfl (fun h_11 => ?_) (fun h_11 => ?_)
  · have hpc := pc_out hf h_11
    refine sq <| rg <| vl (as_ rfl) rfl <| vl (as_ rfl) rfl <| nl <| nT <| rt <| tT <| tR (.tmp rfl (.tmp rfl .nil)) <| ?_
    exact ⟨by rw [hpc.1, hpc.2]; rfl, Ext.tr x_3 x_9⟩
  · have hpc := pc_in hf h_11
    refine sk <| nT <| sq <| rg <| vl (mv rfl) rfl <| ca Pth_en_flood_Cost rfl rfl ((fcost_any (f.atV p) _).mono ?_)
    rintro e w_12 ⟨rfl, x_13⟩
    refine ⟨_, rfl, ?_⟩
    have q_14 := x_13.size
    have z_12 := Ext.tr z_8 x_13
    refine vl (mv rfl) rfl <| vl (ex rfl rfl) rfl <| vl (ex rfl rfl) rfl <| vl (as_ rfl) rfl <| vl (as_ rfl) rfl <| nl <| nT <| sq <| rg <| vl (mv rfl) rfl <| vl (mv rfl) rfl <| vl (beq rfl rfl) rfl <| vl (as_ rfl) rfl <| vl (as_ rfl) rfl <| nl <| nT <| rt <| tR (.tmp rfl (.tmp rfl .nil)) <| ?_
    exact ⟨by rw [hpc.1, hpc.2]; rfl, Ext.tr (Ext.tr x_3 x_9) x_13⟩
set_option maxRecDepth 100000 in
set_option maxHeartbeats 400000 in
theorem psides_any (p : Cel) (w : World) (hp : -100000 ≤ p.x ∧ p.x ≤ 100000 ∧ -100000 ≤ p.y ∧ p.y ≤ 100000) :
    Calls Try.prog 58 #[.agg #[.int .i64 p.x, .int .i64 p.y]] w (fun e w' => e = .returned (.agg #[.int .i64 p.x, .int .i64 (p.y - 1), .int .i64 (p.x - 1), .int .i64 p.y, .int .i64 (p.x + 1), .int .i64 p.y, .int .i64 p.x, .int .i64 (p.y + 1)]) ∧ Ext w w') := by
  refine calls_W (n := 28) Try.func58 rfl rfl rfl ?_
  refine sq <| rg <| bx rfl rfl rfl rfl fun w_1 b_2 x_3 l_4 B_5 => ?_
  have q_6 := x_3.size
  have z_1 := Ext.tr (Ext.rf w) x_3
  have q_7 := B_5.lt
  refine al rfl Pth_zv__4_api_Cell rfl rfl fun w_8 b_9 x_10 l_11 B_12 => ?_
  have q_13 := x_10.size
  have z_8 := Ext.tr z_1 x_10
  have q_14 := B_12.lt
  refine nl <| nT <| sq <| rg <| vl (fa Pth_fd_api_Cell_0 rfl) rfl <| ?_
  have B_5 := B_5.later x_10
  refine vl (ld rfl (B_5.one Pth_ag_int rfl)) rfl <| vl (fa Pth_fd_api_Cell_1 rfl) rfl <| vl (ld rfl (B_5.one Pth_ag_int rfl)) rfl <| vl (bsu rfl rfl (inI (by omega))) rfl <| vl (v := .agg #[.int .i64 p.x, .int .i64 (p.y - 1)]) (bd rfl (by kernel_rfl)) rfl <| vl (fa Pth_fd_api_Cell_0 rfl) rfl <| vl (ld rfl (B_5.one Pth_ag_int rfl)) rfl <| vl (bsu rfl rfl (inI (by omega))) rfl <| vl (fa Pth_fd_api_Cell_1 rfl) rfl <| vl (ld rfl (B_5.one Pth_ag_int rfl)) rfl <| vl (v := .agg #[.int .i64 (p.x - 1), .int .i64 p.y]) (bd rfl (by kernel_rfl)) rfl <| vl (fa Pth_fd_api_Cell_0 rfl) rfl <| vl (ld rfl (B_5.one Pth_ag_int rfl)) rfl <| vl (bad rfl rfl (inI (by omega))) rfl <| vl (fa Pth_fd_api_Cell_1 rfl) rfl <| vl (ld rfl (B_5.one Pth_ag_int rfl)) rfl <| vl (v := .agg #[.int .i64 (p.x + 1), .int .i64 p.y]) (bd rfl (by kernel_rfl)) rfl <| vl (fa Pth_fd_api_Cell_0 rfl) rfl <| vl (ld rfl (B_5.one Pth_ag_int rfl)) rfl <| vl (fa Pth_fd_api_Cell_1 rfl) rfl <| vl (ld rfl (B_5.one Pth_ag_int rfl)) rfl <| vl (bad rfl rfl (inI (by omega))) rfl <| vl (v := .agg #[.int .i64 p.x, .int .i64 (p.y + 1)]) (bd rfl (by kernel_rfl)) rfl <| vl (v := .agg #[.int .i64 p.x, .int .i64 (p.y - 1), .int .i64 (p.x - 1), .int .i64 p.y, .int .i64 (p.x + 1), .int .i64 p.y, .int .i64 p.x, .int .i64 (p.y + 1)]) (bd rfl (by kernel_rfl)) rfl <| ?_
  refine st (new := [.int .i64 p.x, .int .i64 (p.y - 1), .int .i64 (p.x - 1), .int .i64 p.y, .int .i64 (p.x + 1), .int .i64 p.y, .int .i64 p.x, .int .i64 (p.y + 1)]) rfl rfl B_12 rfl Pth_sz__4_api_Cell rfl rfl rfl fun w_15 m_16 B_12 => ?_
  have q_18 := m_16.size
  have z_15 := Ext.mod z_8 m_16 (by simp only [List.mem_singleton, forall_eq]; omega)
  have q_17 := m_16.size
  refine nl <| nT <| rt <| tR (.cell rfl (B_12.all Pth_ag__4_api_Cell Pth_sz__4_api_Cell) .nil) <| ?_
  exact ⟨rfl, z_15⟩
end Go.Proofs.Ytffjpfpbpnhmcaa
