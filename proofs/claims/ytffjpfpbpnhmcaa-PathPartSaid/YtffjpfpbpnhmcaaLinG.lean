/-
  line.near, sign, Apart, Cells of near cells. (Printed by bin/lineg.py.)
-/
import Derived.Test.YtffjpfpbpnhmcaaGol
import Derived.Test.YtffjpfpbpnhmcaaWld
set_option linter.unusedVariables false
set_option linter.unusedSimpArgs false
namespace Go.Proofs.Ytffjpfpbpnhmcaa
open Go.RowKit

theorem LinG_fd_api_Cell_0 : Fd Try.prog 32 0 0 := fun _ _ _ => by kernel_rfl
theorem LinG_ag_int : Ag Try.prog 3 false := fun _ => by kernel_rfl
theorem LinG_fd_api_Cell_1 : Fd Try.prog 32 1 1 := fun _ _ _ => by kernel_rfl
theorem LinG_ag_api_Cell : Ag Try.prog 32 true := fun _ => by kernel_rfl
theorem LinG_sz_api_Cell : Sz Try.prog 32 2 := fun _ => by kernel_rfl
theorem LinG_en_line_near : Enters Try.prog 126 := en Try.func126 (by kernel_rfl) (by kernel_rfl)
theorem LinG_en_line_sign : Enters Try.prog 127 := en Try.func127 (by kernel_rfl) (by kernel_rfl)
def sgn (n : Int) : Int := if n < 0 then -1 else if 0 < n then 1 else 0
def sz (n : Int) : Int := if n < 0 then -n else if 0 < n then n else 0
theorem sz_bd (n : Int) : 0 ≤ sz n ∧ (-2000 ≤ n ∧ n ≤ 2000 → sz n ≤ 2000) ∧ (0 ≤ n → sz n = n) ∧ (n < 0 → sz n = -n) := by unfold sz; split <;> (try split) <;> omega
def far (a b : Cel) : Int := max (sz (b.x - a.x)) (sz (b.y - a.y))
def nar (a b : Cel) : Int := min (sz (b.x - a.x)) (sz (b.y - a.y))
/-- One step of a line. -/
def lstep (a b : Cel) (s : Int × Cel) : Int × Cel :=
  (if decide (far a b ≤ s.1 + 2 * nar a b) then s.1 + 2 * nar a b - 2 * far a b else s.1 + 2 * nar a b,
   ⟨if !decide (sz (b.x - a.x) < sz (b.y - a.y)) || decide (far a b ≤ s.1 + 2 * nar a b) then s.2.x + sgn (b.x - a.x) else s.2.x,
    if decide (sz (b.x - a.x) < sz (b.y - a.y)) || decide (far a b ≤ s.1 + 2 * nar a b) then s.2.y + sgn (b.y - a.y) else s.2.y⟩)
def lst (a b : Cel) : Nat → Int × Cel
  | 0 => (0, a)
  | k + 1 => lstep a b (lst a b k)
def pts (a b : Cel) (k : Nat) : List Cel := (List.range (k + 1)).map fun i => (lst a b i).2
def lineC (a b : Cel) : List Cel := pts a b (far a b).toNat
set_option maxRecDepth 100000 in
set_option maxHeartbeats 400000 in
theorem near_in (c : Cel) (w : World) (h : -1000 ≤ c.x ∧ c.x ≤ 1000 ∧ -1000 ≤ c.y ∧ c.y ≤ 1000) :
    Calls Try.prog 126 #[.agg #[.int .i64 c.x, .int .i64 c.y]] w (fun e w' => e = .returned (.bool true) ∧ Ext w w') := by
  refine calls_W (n := 23) Try.func126 rfl rfl rfl ?_
  refine sq <| rg <| bx rfl rfl rfl rfl fun w_1 b_2 x_3 l_4 B_5 => ?_
  have q_6 := x_3.size
  have z_1 := Ext.tr (Ext.rf w) x_3
  have q_7 := B_5.lt
  refine vl (as_ rfl) rfl <| nl <| nT <| sq <| rg <| vl (fa LinG_fd_api_Cell_0 rfl) rfl <| vl (ld rfl (B_5.one LinG_ag_int rfl)) rfl <| vl (fa LinG_fd_api_Cell_0 rfl) rfl <| vl (ld rfl (B_5.one LinG_ag_int rfl)) rfl <| vl (ng rfl (inI (by omega))) rfl <| vl (fa LinG_fd_api_Cell_1 rfl) rfl <| vl (ld rfl (B_5.one LinG_ag_int rfl)) rfl <| vl (fa LinG_fd_api_Cell_1 rfl) rfl <| vl (ld rfl (B_5.one LinG_ag_int rfl)) rfl <| vl (ng rfl (inI (by omega))) rfl <| vl (mX rfl rfl rfl rfl) rfl <| vl (ble rfl rfl) rfl <| vl (mv rfl) rfl <| vQ rfl rfl rfl rfl (fun hc => fa LinG_fd_api_Cell_0 rfl) rfl <| vQ rfl rfl rfl rfl (fun hc => ld (gt hc rfl) (B_5.one LinG_ag_int rfl)) rfl <| vQ rfl rfl rfl rfl (fun hc => fa LinG_fd_api_Cell_1 rfl) rfl <| vQ rfl rfl rfl rfl (fun hc => ld (gt hc rfl) (B_5.one LinG_ag_int rfl)) rfl <| vQ rfl rfl rfl rfl (fun hc => mn (gt hc rfl) (gt hc rfl)) rfl <| vQ rfl rfl rfl rfl (fun hc => bge (gt hc rfl) rfl) rfl <| ?_
  refine vl (pA rfl rfl rfl rfl) rfl <| vl (as_ rfl) rfl <| nl <| nT <| rt <| tR (.tmp rfl .nil) <| ?_
  exact ⟨ret_true (by simp only [Bool.and_eq_true, decide_eq_true_eq]; omega), z_1⟩
set_option maxRecDepth 100000 in
set_option maxHeartbeats 400000 in
theorem sign_in (n : Int) (w : World) (h : -2000 ≤ n ∧ n ≤ 2000) :
    Calls Try.prog 127 #[.int .i64 n] w (fun e w' => e = .returned (.tuple #[.int .i64 (sgn n), .int .i64 (sz n)]) ∧ Ext w w') := by
  refine calls_W (n := 13) Try.func127 rfl rfl rfl ?_
  refine sq <| rg <| vl (as_ rfl) rfl <| vl (as_ rfl) rfl <| nl <| nT <| sq <| bk <| sq <| rg <| vl (mv rfl) rfl <| vl (blt rfl rfl) rfl <| vl (as_ rfl) rfl <| nl <| nT <| ?_
  refine clt rfl (fun h_1 => ?_) (fun h_1 => ?_)
  · refine sq <| rg <| vl (mv rfl) rfl <| vl (ng rfl (inI (by omega))) rfl <| vl (as_ rfl) rfl <| vl (as_ rfl) rfl <| nl <| nT <| rt <| tB <| tT <| tR (.tmp rfl (.tmp rfl .nil)) <| ?_
    exact ⟨by unfold sgn sz; simp only [*, if_true, if_false]; try rfl, (Ext.rf w)⟩
  · refine sq <| rg <| vl (mv rfl) rfl <| vl (bgt rfl rfl) rfl <| vl (as_ rfl) rfl <| nl <| nT <| ?_
    refine clt rfl (fun h_2 => ?_) (fun h_2 => ?_)
    · refine sq <| rg <| vl (mv rfl) rfl <| vl (as_ rfl) rfl <| vl (as_ rfl) rfl <| nl <| nT <| rt <| tB <| tT <| tR (.tmp rfl (.tmp rfl .nil)) <| ?_
      exact ⟨by unfold sgn sz; simp only [*, if_true, if_false]; try rfl, (Ext.rf w)⟩
    · refine sk <| nB <| nT <| sq <| rg <| vl (as_ rfl) rfl <| vl (as_ rfl) rfl <| nl <| nT <| rt <| tR (.tmp rfl (.tmp rfl .nil)) <| ?_
      exact ⟨by unfold sgn sz; simp only [*, if_true, if_false]; try rfl, (Ext.rf w)⟩
set_option maxRecDepth 100000 in
set_option maxHeartbeats 400000 in
theorem apart_in (a b : Cel) (w : World) (h : -1000 ≤ a.x ∧ a.x ≤ 1000 ∧ -1000 ≤ a.y ∧ a.y ≤ 1000) (h2 : -1000 ≤ b.x ∧ b.x ≤ 1000 ∧ -1000 ≤ b.y ∧ b.y ≤ 1000) :
    Calls Try.prog 111 #[.agg #[.int .i64 a.x, .int .i64 a.y], .agg #[.int .i64 b.x, .int .i64 b.y]] w (fun e w' => e = .returned (.tuple #[.int .i64 (far a b), .int .i64 (sz (b.x - a.x) + sz (b.y - a.y)), .int .i64 0]) ∧ Ext w w') := by
  refine calls_W (n := 43) Try.func111 rfl rfl rfl ?_
  refine sq <| rg <| bx rfl rfl rfl rfl fun w_1 b_2 x_3 l_4 B_5 => ?_
  have q_6 := x_3.size
  have z_1 := Ext.tr (Ext.rf w) x_3
  have q_7 := B_5.lt
  refine bx rfl rfl rfl rfl fun w_8 b_9 x_10 l_11 B_12 => ?_
  have q_13 := x_10.size
  have z_8 := Ext.tr z_1 x_10
  have q_14 := B_12.lt
  refine vl (as_ rfl) rfl <| vl (as_ rfl) rfl <| vl (as_ rfl) rfl <| nl <| nT <| sq <| sq <| rg <| ?_
  have B_5 := B_5.later x_10
  refine vl (ld rfl (B_5.all LinG_ag_api_Cell LinG_sz_api_Cell)) rfl <| ca LinG_en_line_near rfl rfl ((near_in a _ (by omega)).mono ?_)
  rintro e w_15 ⟨rfl, x_16⟩
  refine ⟨_, rfl, ?_⟩
  have q_17 := x_16.size
  have z_15 := Ext.tr z_8 x_16
  refine vl (nt rfl) rfl <| vl (mv rfl) rfl <| ug rfl rfl rfl <| ?_
  have B_12 := B_12.later x_16
  refine vl (ld rfl (B_12.all LinG_ag_api_Cell LinG_sz_api_Cell)) rfl <| ug rfl rfl rfl <| ca LinG_en_line_near rfl rfl ((near_in b _ (by omega)).mono ?_)
  rintro e w_18 ⟨rfl, x_19⟩
  refine ⟨_, rfl, ?_⟩
  have q_20 := x_19.size
  have z_18 := Ext.tr z_15 x_19
  refine ug rfl rfl rfl <| vl (nt rfl) rfl <| vl (pkF rfl rfl) rfl <| nl <| nT <| cF rfl <| sk <| nT <| sq <| rg <| vl (fa LinG_fd_api_Cell_0 rfl) rfl <| ?_
  have B_12 := B_12.later x_19
  refine vl (ld rfl (B_12.one LinG_ag_int rfl)) rfl <| vl (fa LinG_fd_api_Cell_0 rfl) rfl <| ?_
  have B_5 := B_5.later (Ext.tr x_16 x_19)
  refine vl (ld rfl (B_5.one LinG_ag_int rfl)) rfl <| vl (bsu rfl rfl (inI (by have := sz_bd (b.x - a.x); have := sz_bd (b.y - a.y); omega))) rfl <| ca LinG_en_line_sign rfl rfl ((sign_in (b.x - a.x) _ (by omega)).mono ?_)
  rintro e w_21 ⟨rfl, x_22⟩
  refine ⟨_, rfl, ?_⟩
  have q_23 := x_22.size
  have z_21 := Ext.tr z_18 x_22
  refine vl (mv rfl) rfl <| vl (ex rfl rfl) rfl <| vl (ex rfl rfl) rfl <| vl (as_ rfl) rfl <| vl (as_ rfl) rfl <| nl <| nT <| sq <| rg <| vl (fa LinG_fd_api_Cell_1 rfl) rfl <| ?_
  have B_12 := B_12.later x_22
  refine vl (ld rfl (B_12.one LinG_ag_int rfl)) rfl <| vl (fa LinG_fd_api_Cell_1 rfl) rfl <| ?_
  have B_5 := B_5.later x_22
  refine vl (ld rfl (B_5.one LinG_ag_int rfl)) rfl <| vl (bsu rfl rfl (inI (by have := sz_bd (b.x - a.x); have := sz_bd (b.y - a.y); omega))) rfl <| ca LinG_en_line_sign rfl rfl ((sign_in (b.y - a.y) _ (by omega)).mono ?_)
  rintro e w_24 ⟨rfl, x_25⟩
  refine ⟨_, rfl, ?_⟩
  have q_26 := x_25.size
  have z_24 := Ext.tr z_21 x_25
  refine vl (mv rfl) rfl <| vl (ex rfl rfl) rfl <| vl (ex rfl rfl) rfl <| vl (as_ rfl) rfl <| vl (as_ rfl) rfl <| nl <| nT <| sq <| rg <| vl (mv rfl) rfl <| vl (mv rfl) rfl <| vl (mx rfl rfl) rfl <| vl (mv rfl) rfl <| vl (mv rfl) rfl <| vl (bad rfl rfl (inI (by have := sz_bd (b.x - a.x); have := sz_bd (b.y - a.y); omega))) rfl <| vl (as_ rfl) rfl <| vl (as_ rfl) rfl <| vl (as_ rfl) rfl <| nl <| nT <| rt <| tR (.tmp rfl (.tmp rfl (.tmp rfl .nil))) <| ?_
  exact ⟨rfl, z_24⟩
end Go.Proofs.Ytffjpfpbpnhmcaa
