/-
  line.near, sign, Apart, Cells of near cells. (Printed by bin/lineg.py.)
-/
import Derived.Test.YtkijhejjnlmbmaaGol
import Derived.Test.YtkijhejjnlmbmaaWld
set_option linter.unusedVariables false
set_option linter.unusedSimpArgs false
namespace Go.Proofs.Ytkijhejjnlmbmaa
open Go.RowKit

theorem LinG_fd_api_Cell_0 : Fd Try.prog 42 0 0 := fun _ _ _ => by kernel_rfl
theorem LinG_ag_int : Ag Try.prog 3 false := fun _ => by kernel_rfl
theorem LinG_fd_api_Cell_1 : Fd Try.prog 42 1 1 := fun _ _ _ => by kernel_rfl
theorem LinG_ag_api_Cell : Ag Try.prog 42 true := fun _ => by kernel_rfl
theorem LinG_sz_api_Cell : Sz Try.prog 42 2 := fun _ => by kernel_rfl
theorem LinG_en_line_near : Enters Try.prog 166 := en Try.func166 (by kernel_rfl) (by kernel_rfl)
theorem LinG_en_line_sign : Enters Try.prog 167 := en Try.func167 (by kernel_rfl) (by kernel_rfl)
theorem LinG_sz_int : Sz Try.prog 3 1 := fun _ => by kernel_rfl
theorem LinG_el_S_api_Cell : ElT Try.prog Cel.rep 43 42 16 := ElT.mk_ (z := Cel.zero) (k := 2) Try.underlying43 Cel.info rfl rfl (by decide) Cel.zero_raw
def sgn (n : Int) : Int := if n < 0 then -1 else if 0 < n then 1 else 0
def sz (n : Int) : Int := if n < 0 then -n else if 0 < n then n else 0
theorem sz_bd (n : Int) : 0 ≤ sz n ∧ (-2000 ≤ n ∧ n ≤ 2000 → sz n ≤ 2000) ∧ (0 ≤ n → sz n = n) ∧ (n < 0 → sz n = -n) := by unfold sz; split <;> (try split) <;> omega
theorem sgn_bd (n : Int) : -1 ≤ sgn n ∧ sgn n ≤ 1 := by unfold sgn; split <;> (try split) <;> omega
def far (a b : Cel) : Int := max (sz (b.x - a.x)) (sz (b.y - a.y))
def nar (a b : Cel) : Int := min (sz (b.x - a.x)) (sz (b.y - a.y))
/-- One step of a line. -/
def lstep (a b : Cel) (s : Int × Cel) : Int × Cel :=
  (if decide (far a b ≤ s.1 + 2 * nar a b) then s.1 + 2 * nar a b - 2 * far a b else s.1 + 2 * nar a b,
   ⟨if !decide (sz (b.x - a.x) < sz (b.y - a.y)) || decide (far a b ≤ s.1 + 2 * nar a b) then s.2.x + sgn (b.x - a.x) else s.2.x,
    if decide (sz (b.x - a.x) < sz (b.y - a.y)) || decide (far a b ≤ s.1 + 2 * nar a b) then s.2.y + sgn (b.y - a.y) else s.2.y⟩)
def lst (a b : Cel) : Nat → Int × Cel
  | 0 => (0, a)
  | k + 1 => lstep a b (lst a b k)
def pts (a b : Cel) (k : Nat) : List Cel := (List.range (k + 1)).map fun i => (lst a b i).2
def lineC (a b : Cel) : List Cel := pts a b (far a b).toNat
theorem pts_succ (a b : Cel) (k : Nat) : pts a b (k + 1) = pts a b k ++ [(lst a b (k + 1)).2] := by unfold pts; rw [List.range_succ, List.map_append]; rfl
theorem pts_len (a b : Cel) (k : Nat) : (pts a b k).length = k + 1 := by simp [pts]
theorem far_bd (a b : Cel) : 0 ≤ nar a b ∧ nar a b ≤ far a b := by
  have h1 := sz_bd (b.x - a.x); have h2 := sz_bd (b.y - a.y)
  unfold nar far; omega
theorem lst_bd (a b : Cel) (k : Nat) : -far a b ≤ (lst a b k).1 ∧ (lst a b k).1 ≤ far a b := by
  have hf := far_bd a b
  induction k with
  | zero => show -far a b ≤ 0 ∧ 0 ≤ far a b; omega
  | succ k ih =>
    show -far a b ≤ (lstep a b (lst a b k)).1 ∧ (lstep a b (lst a b k)).1 ≤ far a b
    unfold lstep
    simp only [decide_eq_true_eq]
    split <;> omega
theorem lst_pos (a b : Cel) (k : Nat) : a.x - k ≤ (lst a b k).2.x ∧ (lst a b k).2.x ≤ a.x + k ∧ a.y - k ≤ (lst a b k).2.y ∧ (lst a b k).2.y ≤ a.y + k := by
  have h1 := sgn_bd (b.x - a.x); have h2 := sgn_bd (b.y - a.y)
  induction k with
  | zero => show a.x - _ ≤ a.x ∧ a.x ≤ a.x + _ ∧ a.y - _ ≤ a.y ∧ a.y ≤ a.y + _; omega
  | succ k ih =>
    show a.x - _ ≤ (lstep a b (lst a b k)).2.x ∧ (lstep a b (lst a b k)).2.x ≤ a.x + _ ∧ a.y - _ ≤ (lstep a b (lst a b k)).2.y ∧ (lstep a b (lst a b k)).2.y ≤ a.y + _
    unfold lstep
    simp only
    split <;> split <;> omega
set_option maxRecDepth 100000 in
set_option maxHeartbeats 400000 in
theorem near_in (c : Cel) (w : World) (h : -1000 ≤ c.x ∧ c.x ≤ 1000 ∧ -1000 ≤ c.y ∧ c.y ≤ 1000) :
    Calls Try.prog 166 #[.agg #[.int .i64 c.x, .int .i64 c.y]] w (fun e w' => e = .returned (.bool true) ∧ Ext w w') := by
  refine calls_W (n := 23) Try.func166 rfl rfl rfl ?_
  refine sq <| rg <| bx rfl rfl rfl rfl fun w_1 b_2 x_3 l_4 B_5 => ?_
  have q_6 := x_3.size
  have z_1 := Ext.tr (Ext.rf w) x_3
  have q_7 := B_5.lt
  refine vl (as_ rfl) rfl <| nl <| nT <| sq <| rg <| vl (fa LinG_fd_api_Cell_0 rfl) rfl <| vl (ld rfl (B_5.one LinG_ag_int rfl)) rfl <| vl (fa LinG_fd_api_Cell_0 rfl) rfl <| vl (ld rfl (B_5.one LinG_ag_int rfl)) rfl <| vl (ng rfl (inI (by omega))) rfl <| vl (fa LinG_fd_api_Cell_1 rfl) rfl <| vl (ld rfl (B_5.one LinG_ag_int rfl)) rfl <| vl (fa LinG_fd_api_Cell_1 rfl) rfl <| vl (ld rfl (B_5.one LinG_ag_int rfl)) rfl <| vl (ng rfl (inI (by omega))) rfl <| vl (mX rfl rfl rfl rfl) rfl <| vl (ble rfl rfl) rfl <| vl (mv rfl) rfl <| vQ rfl rfl rfl rfl (fun hc => fa LinG_fd_api_Cell_0 rfl) rfl <| vQ rfl rfl rfl rfl (fun hc => ld (gt hc rfl) (B_5.one LinG_ag_int rfl)) rfl <| vQ rfl rfl rfl rfl (fun hc => fa LinG_fd_api_Cell_1 rfl) rfl <| vQ rfl rfl rfl rfl (fun hc => ld (gt hc rfl) (B_5.one LinG_ag_int rfl)) rfl <| vQ rfl rfl rfl rfl (fun hc => mn (gt hc rfl) (gt hc rfl)) rfl <| vQ rfl rfl rfl rfl (fun hc => bge (gt hc rfl) rfl) rfl <| ?_
  refine vl (pA rfl rfl rfl rfl) rfl <| vl (as_ rfl) rfl <| nl <| nT <| rt <| tR (.tmp rfl .nil) <| ?_
  exact ⟨ret_true (by simp only [Bool.and_eq_true, decide_eq_true_eq]; omega), z_1⟩
set_option maxRecDepth 100000 in
set_option maxHeartbeats 400000 in
theorem sign_in (n : Int) (w : World) (h : -2000 ≤ n ∧ n ≤ 2000) :
    Calls Try.prog 167 #[.int .i64 n] w (fun e w' => e = .returned (.tuple #[.int .i64 (sgn n), .int .i64 (sz n)]) ∧ Ext w w') := by
  refine calls_W (n := 13) Try.func167 rfl rfl rfl ?_
  refine sq <| rg <| vl (as_ rfl) rfl <| vl (as_ rfl) rfl <| nl <| nT <| sq <| bk <| sq <| rg <| vl (mv rfl) rfl <| vl (blt rfl rfl) rfl <| vl (as_ rfl) rfl <| nl <| nT <| ?_
  refine clt rfl (fun h_1 => ?_) (fun h_1 => ?_)
  · refine sq <| rg <| vl (mv rfl) rfl <| vl (ng rfl (inI (by omega))) rfl <| vl (as_ rfl) rfl <| vl (as_ rfl) rfl <| nl <| nT <| rt <| tB <| tT <| tR (.tmp rfl (.tmp rfl .nil)) <| ?_
    exact ⟨by unfold sgn sz; simp only [*, if_true, if_false]; try rfl, (Ext.rf w)⟩
  · refine sq <| rg <| vl (mv rfl) rfl <| vl (bgt rfl rfl) rfl <| vl (as_ rfl) rfl <| nl <| nT <| ?_
    refine clt rfl (fun h_2 => ?_) (fun h_2 => ?_)
    · refine sq <| rg <| vl (mv rfl) rfl <| vl (as_ rfl) rfl <| vl (as_ rfl) rfl <| nl <| nT <| rt <| tB <| tT <| tR (.tmp rfl (.tmp rfl .nil)) <| ?_
      exact ⟨by unfold sgn sz; simp only [*, if_true, if_false]; try rfl, (Ext.rf w)⟩
    · refine sk <| nB <| nT <| sq <| rg <| vl (as_ rfl) rfl <| vl (as_ rfl) rfl <| nl <| nT <| rt <| tR (.tmp rfl (.tmp rfl .nil)) <| ?_
      exact ⟨by unfold sgn sz; simp only [*, if_true, if_false]; try rfl, (Ext.rf w)⟩
set_option maxRecDepth 100000 in
set_option maxHeartbeats 400000 in
theorem cells_in (a b : Cel) (w : World) (h : -1000 ≤ a.x ∧ a.x ≤ 1000 ∧ -1000 ≤ a.y ∧ a.y ≤ 1000) (h2 : -1000 ≤ b.x ∧ b.x ≤ 1000 ∧ -1000 ≤ b.y ∧ b.y ≤ 1000) :
    Calls Try.prog 161 #[.agg #[.int .i64 a.x, .int .i64 a.y], .agg #[.int .i64 b.x, .int .i64 b.y]] w (fun e w' => ∃ A c, e = .returned (.tuple #[.slice A (lineC a b).length c, .int .i64 0]) ∧ Cel.rep.SOwn 42 16 w' w.heap.size (Rep.blkOf A) A c (lineC a b) ∧ Ext w w') := by
  refine calls_W (n := 93) Try.func161 rfl rfl rfl ?_
  refine sq <| rg <| bx rfl rfl rfl rfl fun w_1 b_2 x_3 l_4 B_5 => ?_
  have q_6 := x_3.size
  have z_1 := Ext.tr (Ext.rf w) x_3
  have q_7 := B_5.lt
  refine bx rfl rfl rfl rfl fun w_8 b_9 x_10 l_11 B_12 => ?_
  have q_13 := x_10.size
  have z_8 := Ext.tr z_1 x_10
  have q_14 := B_12.lt
  refine vl (as_ rfl) rfl <| vl (as_ rfl) rfl <| nl <| nT <| sq <| sq <| rg <| ?_
  have B_5 := B_5.later x_10
  refine vl (ld rfl (B_5.all LinG_ag_api_Cell LinG_sz_api_Cell)) rfl <| ca LinG_en_line_near rfl rfl ((near_in a _ (by omega)).mono ?_)
  rintro e w_15 ⟨rfl, x_16⟩
  refine ⟨_, rfl, ?_⟩
  have q_17 := x_16.size
  have z_15 := Ext.tr z_8 x_16
  refine vl (nt rfl) rfl <| vl (mv rfl) rfl <| ug rfl rfl rfl <| ?_
  have B_12 := B_12.later x_16
  refine vl (ld rfl (B_12.all LinG_ag_api_Cell LinG_sz_api_Cell)) rfl <| ug rfl rfl rfl <| ca LinG_en_line_near rfl rfl ((near_in b _ (by omega)).mono ?_)
  rintro e w_18 ⟨rfl, x_19⟩
  refine ⟨_, rfl, ?_⟩
  have q_20 := x_19.size
  have z_18 := Ext.tr z_15 x_19
  refine ug rfl rfl rfl <| vl (nt rfl) rfl <| vl (pkF rfl rfl) rfl <| nl <| nT <| cF rfl <| sk <| nT <| sq <| rg <| vl (fa LinG_fd_api_Cell_0 rfl) rfl <| ?_
  have B_12 := B_12.later x_19
  refine vl (ld rfl (B_12.one LinG_ag_int rfl)) rfl <| vl (fa LinG_fd_api_Cell_0 rfl) rfl <| ?_
  have B_5 := B_5.later (Ext.tr x_16 x_19)
  refine vl (ld rfl (B_5.one LinG_ag_int rfl)) rfl <| vl (bsu rfl rfl (inI (by omega))) rfl <| ca LinG_en_line_sign rfl rfl ((sign_in (b.x - a.x) _ (by omega)).mono ?_)
  rintro e w_21 ⟨rfl, x_22⟩
  refine ⟨_, rfl, ?_⟩
  have q_23 := x_22.size
  have z_21 := Ext.tr z_18 x_22
  refine vl (mv rfl) rfl <| vl (ex rfl rfl) rfl <| vl (ex rfl rfl) rfl <| vl (as_ rfl) rfl <| vl (as_ rfl) rfl <| nl <| nT <| sq <| rg <| vl (fa LinG_fd_api_Cell_1 rfl) rfl <| ?_
  have B_12 := B_12.later x_22
  refine vl (ld rfl (B_12.one LinG_ag_int rfl)) rfl <| vl (fa LinG_fd_api_Cell_1 rfl) rfl <| ?_
  have B_5 := B_5.later x_22
  refine vl (ld rfl (B_5.one LinG_ag_int rfl)) rfl <| vl (bsu rfl rfl (inI (by omega))) rfl <| ca LinG_en_line_sign rfl rfl ((sign_in (b.y - a.y) _ (by omega)).mono ?_)
  rintro e w_24 ⟨rfl, x_25⟩
  refine ⟨_, rfl, ?_⟩
  have q_26 := x_25.size
  have z_24 := Ext.tr z_21 x_25
  refine vl (mv rfl) rfl <| vl (ex rfl rfl) rfl <| vl (ex rfl rfl) rfl <| vl (as_ rfl) rfl <| vl (as_ rfl) rfl <| nl <| nT <| sq <| rg <| vl (mv rfl) rfl <| vl (mv rfl) rfl <| vl (as_ rfl) rfl <| vl (as_ rfl) rfl <| nl <| nT <| sq <| sq <| rg <| vl (mv rfl) rfl <| vl (mv rfl) rfl <| vl (bgt rfl rfl) rfl <| nl <| nT <| ?_
  refine clt rfl (fun h_27 => ?_) (fun h_27 => ?_)
  · have hl1 := sz_bd (b.x - a.x)
    have hl2 := sz_bd (b.y - a.y)
    have hfar : far a b = sz (b.y - a.y) := by unfold far; omega
    have hnar : nar a b = sz (b.x - a.x) := by unfold nar; omega
    have hdec : decide (sz (b.x - a.x) < sz (b.y - a.y)) = true := by exact decide_eq_true h_27
    refine rg <| vl (mv rfl) rfl <| vl (mv rfl) rfl <| vl (as_ rfl) rfl <| vl (as_ rfl) rfl <| nl <| nT <| sq <| rg <| ?_
    have B_5 := B_5.later x_25
    refine vl (ld rfl (B_5.all LinG_ag_api_Cell LinG_sz_api_Cell)) rfl <| bs (e := 42) (cs := [.int .i64 a.x, .int .i64 a.y]) rfl (fun _ => by kernel_rfl) rfl fun w_28 b_29 x_30 l_31 B_32 => ?_
    have q_33 := x_30.size
    have z_28 := Ext.tr z_24 x_30
    have q_34 := B_32.lt
    refine vl (as_ rfl) rfl <| nl <| nT <| sq <| rg <| vl (as_ rfl) rfl <| nl <| nT <| sq <| sq <| rg <| vl (mv rfl) rfl <| vl (mv rfl) rfl <| nl <| nT <| bk <| ?_
    have B_5 := B_5.later x_30
    have lo_35 : ∀ q ∈ Rep.blkOf (some ⟨b_29, 0, none⟩), b_29 ≤ q := fun q hq => Nat.le_of_eq (List.mem_singleton.1 hq).symm
    refine lp (fun mI EI wI => ∃ k : Nat, ∃ Ao : Option Addr, ∃ co : Nat, EI = [(2, .pointer (some ⟨b_2, 0, none⟩)), (4, .slice none 0 0), (5, .int .i64 0), (6, .int .i64 (sgn (b.x - a.x))), (7, .int .i64 (sz (b.x - a.x))), (8, .int .i64 (sgn (b.y - a.y))), (9, .int .i64 (sz (b.y - a.y))), (10, .int .i64 (sz (b.y - a.y))), (11, .int .i64 (sz (b.x - a.x))), (12, .slice Ao ((pts a b k).length) co), (13, .int .i64 ((lst a b k).1)), (50, .int .i64 (sz (b.y - a.y))), (51, .int .i64 (k : Int))] ∧ mI = (sz (b.y - a.y)).toNat - k ∧ Ext w wI ∧ Blk wI b_2 [.int .i64 ((lst a b k).2.x), .int .i64 ((lst a b k).2.y)] 42 (0, 0) ∧ Cel.rep.SOwn 42 16 wI w.heap.size (Rep.blkOf Ao) Ao co (pts a b k) ∧ ((k : Int) ≤ sz (b.y - a.y)) ∧ (∀ q ∈ Rep.blkOf Ao, q = b_2 → False)) _ _ ⟨0, some ⟨b_29, 0, none⟩, 1, rfl, rfl, z_28, B_5, (Blk.ownN (R := Cel.rep) (by_ := 16) (B := w.heap.size) (k := [a]) B_32 [[.int .i64 a.x, .int .i64 a.y]] rfl ⟨⟨rfl, okI_iff.2 (by omega), okI_iff.2 (by omega)⟩, trivial⟩ (by simp) (by simp) (by decide) (by omega)), (by have := sz_bd (b.y - a.y); have := sz_bd (b.x - a.x); omega), (fun q hq hb => by (have := lo_35 q hq; omega))⟩ (.cons rfl (.cons rfl (.cons rfl (.cons rfl (.cons rfl (.cons rfl (.cons rfl (.cons rfl (.cons rfl (.cons rfl (.cons (loI rfl (by first | omega | rfl | (simp <;> omega))) (.cons rfl (.cons (loI rfl (by first | omega | rfl | (simp <;> omega))) .nil))))))))))))) ?_
    rintro m_38 E_39 w_37 ⟨k, Ao, co, rfl, rfl, z_37, BL, OO, hk, d_36⟩
    have q_40 := z_37.size
    have q_41 := BL.lt
    have u_42 := fun q hq => (OO.lt q hq).2
    have hb := lst_bd a b k
    have hp := lst_pos a b k
    have hs1 := sgn_bd (b.x - a.x)
    have hs2 := sgn_bd (b.y - a.y)
    have hl1 := sz_bd (b.x - a.x)
    have hl2 := sz_bd (b.y - a.y)
    have hpl := pts_len a b k
    refine sq <| rg <| vl (blt rfl rfl) rfl <| nl <| nT <| sq <| ?_
    refine clt rfl (fun h_43 => ?_) (fun h_43 => ?_)
    · refine sk <| nT <| sq <| bk <| sq <| rg <| vl (mv rfl) rfl <| vl (mv rfl) rfl <| vl (bmu rfl rfl (inI (by omega))) rfl <| vl (bad rfl rfl (inI (by omega))) rfl <| vl (as_ rfl) rfl <| nl <| nT <| sq <| rg <| vl (mv rfl) rfl <| vl (mv rfl) rfl <| vl (bge rfl rfl) rfl <| vl (as_ rfl) rfl <| nl <| nT <| sq <| sq <| rg <| ?_
      refine vl (mv rfl) rfl <| nl <| nT <| ?_
      refine cle rfl (fun h_44 => ?_) (fun h_44 => ?_)
      · rw [hfar] at hb
        have hasd : decide (sz (b.y - a.y) ≤ ((lst a b k).1) + (2 * (sz (b.x - a.x)))) = true := by exact decide_eq_true h_44
        refine rg <| vl (mv rfl) rfl <| vl (mv rfl) rfl <| vl (bmu rfl rfl (inI (by omega))) rfl <| vl (bsu rfl rfl (inI (by omega))) rfl <| vl (as_ rfl) rfl <| nl <| nT <| sq <| sq <| rg <| vl (mv rfl) rfl <| vl (mv rfl) rfl <| vl (bge rfl rfl) rfl <| vl (mv rfl) rfl <| vQ rfl rfl rfl rfl (fun hc => mv rfl) rfl <| vl (pO rfl rfl rfl rfl) rfl <| nl <| nT <| ?_
        have h_45 : ((decide (sz (b.y - a.y) ≤ sz (b.x - a.x))) || (decide (sz (b.y - a.y) ≤ ((lst a b k).1) + (2 * (sz (b.x - a.x)))))) = true := by simp only [Bool.or_eq_true, decide_eq_true_eq]; omega
        refine cT (by rw [← h_45]; rfl) <| rg <| vl (fa LinG_fd_api_Cell_0 rfl) rfl <| vl (ld rfl (BL.one LinG_ag_int rfl)) rfl <| vl (mv rfl) rfl <| vl (bad rfl rfl (inI (by omega))) rfl <| vl (fa LinG_fd_api_Cell_0 rfl) rfl <| st (new := [.int .i64 (((lst a b k).2.x) + (sgn (b.x - a.x))), .int .i64 ((lst a b k).2.y)]) rfl rfl BL rfl LinG_sz_int rfl rfl rfl fun w_46 m_47 BL => ?_
        have q_49 := m_47.size
        have z_46 := Ext.mod z_37 m_47 (by simp only [List.mem_singleton, forall_eq]; omega)
        have q_48 := m_47.size
        refine nl <| nT <| sq <| sq <| rg <| vl (mv rfl) rfl <| vl (mv rfl) rfl <| vl (bgt rfl rfl) rfl <| vl (mv rfl) rfl <| vQ rfl rfl rfl rfl (fun hc => mv rfl) rfl <| vl (pO rfl rfl rfl rfl) rfl <| nl <| nT <| ?_
        have h_50 : ((decide (sz (b.x - a.x) < sz (b.y - a.y))) || (decide (sz (b.y - a.y) ≤ ((lst a b k).1) + (2 * (sz (b.x - a.x)))))) = true := by simp only [Bool.or_eq_true, decide_eq_true_eq]; omega
        refine cT (by rw [← h_50]; rfl) <| rg <| vl (fa LinG_fd_api_Cell_1 rfl) rfl <| vl (ld rfl (BL.one LinG_ag_int rfl)) rfl <| vl (mv rfl) rfl <| vl (bad rfl rfl (inI (by omega))) rfl <| vl (fa LinG_fd_api_Cell_1 rfl) rfl <| st (new := [.int .i64 (((lst a b k).2.x) + (sgn (b.x - a.x))), .int .i64 (((lst a b k).2.y) + (sgn (b.y - a.y)))]) rfl rfl BL rfl LinG_sz_int rfl rfl rfl fun w_51 m_52 BL => ?_
        have q_54 := m_52.size
        have z_51 := Ext.mod z_46 m_52 (by simp only [List.mem_singleton, forall_eq]; omega)
        have q_53 := m_52.size
        refine nl <| nT <| rg <| vl (mv rfl) rfl <| vl (ld rfl (BL.all LinG_ag_api_Cell LinG_sz_api_Cell)) rfl <| bs (e := 42) (cs := [.int .i64 (((lst a b k).2.x) + (sgn (b.x - a.x))), .int .i64 (((lst a b k).2.y) + (sgn (b.y - a.y)))]) rfl (fun _ => by kernel_rfl) rfl fun w_55 b_56 x_57 l_58 B_59 => ?_
        have q_60 := x_57.size
        have z_55 := Ext.tr z_51 x_57
        have q_61 := B_59.lt
        have OO := OO.mod m_47 (fun q hq h => by have hb := List.mem_singleton.1 h; exfalso; (exact d_36 q hq hb))
        have OO := OO.mod m_52 (fun q hq h => by have hb := List.mem_singleton.1 h; exfalso; (exact d_36 q hq hb))
        have OO := OO.later x_57
        refine ap LinG_el_S_api_Cell Rep.flat_bare OO (Blk.has1 (R := Cel.rep) (by_ := 16) (q := (⟨((lst a b k).2.x) + (sgn (b.x - a.x)), ((lst a b k).2.y) + (sgn (b.y - a.y))⟩ : Cel)) B_59 ⟨rfl, ⟨okI_iff.2 (by (try dsimp only); omega), okI_iff.2 (by (try dsimp only); omega)⟩⟩ (by decide)) rfl rfl (by simp only [List.length_cons, List.length_nil]; omega) (by simp only [List.length_cons, List.length_nil]; omega) z_55.size rfl fun w_62 A_63 c_64 m_65 O_66 g_67 n_68 => ?_
        have q_69 := m_65.size
        have z_62 := Ext.mod z_55 m_65 (fun q hq => (OO.lt q hq).1)
        have u_70 := fun q hq => (O_66.lt q hq).2
        have q_71 := m_65.size
        refine vl (as_ rfl) rfl <| nl <| nB <| nT <| rg <| vl (bad rfl rfl (inI (by omega))) rfl <| vl (mv rfl) rfl <| nl <| ?_
        have e1 : lst a b (k + 1) = ((((lst a b k).1) + (2 * (sz (b.x - a.x)))) - (2 * (sz (b.y - a.y))), ⟨((lst a b k).2.x) + (sgn (b.x - a.x)), ((lst a b k).2.y) + (sgn (b.y - a.y))⟩) := by
          show lstep a b (lst a b k) = _
          unfold lstep
          simp only [hfar, hnar, hdec, hasd, if_true, if_false, Bool.or_true, Bool.true_or, Bool.or_false, Bool.false_or, Bool.false_eq_true, decide_true, decide_false, Bool.not_true, Bool.not_false]
        have e2 := pts_succ a b k
        rw [e1] at e2
        have e3 : (pts a b (k + 1)).length = k + 2 := pts_len a b (k + 1)
        have BL := BL.later x_57
        have BL := BL.mod m_65 (fun hq => d_36 _ hq rfl)
        exact nI _ _ ⟨k + 1, A_63, c_64, rfl, rfl, z_62, (by rw [e1]; exact BL), (by rw [e2]; exact O_66), by omega, (fun q hq hb => by (exact Or.elim (g_67 q hq) (fun k_72 => by (exact d_36 q k_72 hb)) (fun k_72 => by omega)))⟩ (by omega) (.cons rfl (.cons rfl (.cons rfl (.cons rfl (.cons rfl (.cons rfl (.cons rfl (.cons rfl (.cons rfl (.cons (by rw [e2]; rfl) (.cons (loI rfl (by rw [e1])) (.cons rfl (.cons (loI rfl (by first | omega | rfl | (simp <;> omega))) .nil)))))))))))))
      · rw [hfar] at hb
        have hasd : decide (sz (b.y - a.y) ≤ ((lst a b k).1) + (2 * (sz (b.x - a.x)))) = false := by exact decide_eq_false h_44
        refine sk <| nT <| sq <| sq <| rg <| vl (mv rfl) rfl <| vl (mv rfl) rfl <| vl (bge rfl rfl) rfl <| vl (mv rfl) rfl <| vQ rfl rfl rfl rfl (fun hc => mv rfl) rfl <| vl (pO rfl rfl rfl rfl) rfl <| nl <| nT <| ?_
        have h_73 : ((decide (sz (b.y - a.y) ≤ sz (b.x - a.x))) || (decide (sz (b.y - a.y) ≤ ((lst a b k).1) + (2 * (sz (b.x - a.x)))))) = false := by simp only [Bool.or_eq_false_iff, decide_eq_false_iff_not]; omega
        refine cF (by rw [← h_73]; rfl) <| sk <| nT <| sq <| sq <| rg <| vl (mv rfl) rfl <| vl (mv rfl) rfl <| vl (bgt rfl rfl) rfl <| vl (mv rfl) rfl <| vQ rfl rfl rfl rfl (fun hc => mv rfl) rfl <| vl (pO rfl rfl rfl rfl) rfl <| nl <| nT <| ?_
        have h_74 : ((decide (sz (b.x - a.x) < sz (b.y - a.y))) || (decide (sz (b.y - a.y) ≤ ((lst a b k).1) + (2 * (sz (b.x - a.x)))))) = true := by simp only [Bool.or_eq_true, decide_eq_true_eq]; omega
        refine cT (by rw [← h_74]; rfl) <| rg <| vl (fa LinG_fd_api_Cell_1 rfl) rfl <| vl (ld rfl (BL.one LinG_ag_int rfl)) rfl <| vl (mv rfl) rfl <| vl (bad rfl rfl (inI (by omega))) rfl <| vl (fa LinG_fd_api_Cell_1 rfl) rfl <| st (new := [.int .i64 ((lst a b k).2.x), .int .i64 (((lst a b k).2.y) + (sgn (b.y - a.y)))]) rfl rfl BL rfl LinG_sz_int rfl rfl rfl fun w_75 m_76 BL => ?_
        have q_78 := m_76.size
        have z_75 := Ext.mod z_37 m_76 (by simp only [List.mem_singleton, forall_eq]; omega)
        have q_77 := m_76.size
        refine nl <| nT <| rg <| vl (mv rfl) rfl <| vl (ld rfl (BL.all LinG_ag_api_Cell LinG_sz_api_Cell)) rfl <| bs (e := 42) (cs := [.int .i64 ((lst a b k).2.x), .int .i64 (((lst a b k).2.y) + (sgn (b.y - a.y)))]) rfl (fun _ => by kernel_rfl) rfl fun w_79 b_80 x_81 l_82 B_83 => ?_
        have q_84 := x_81.size
        have z_79 := Ext.tr z_75 x_81
        have q_85 := B_83.lt
        have OO := OO.mod m_76 (fun q hq h => by have hb := List.mem_singleton.1 h; exfalso; (exact d_36 q hq hb))
        have OO := OO.later x_81
        refine ap LinG_el_S_api_Cell Rep.flat_bare OO (Blk.has1 (R := Cel.rep) (by_ := 16) (q := (⟨(lst a b k).2.x, ((lst a b k).2.y) + (sgn (b.y - a.y))⟩ : Cel)) B_83 ⟨rfl, ⟨okI_iff.2 (by (try dsimp only); omega), okI_iff.2 (by (try dsimp only); omega)⟩⟩ (by decide)) rfl rfl (by simp only [List.length_cons, List.length_nil]; omega) (by simp only [List.length_cons, List.length_nil]; omega) z_79.size rfl fun w_86 A_87 c_88 m_89 O_90 g_91 n_92 => ?_
        have q_93 := m_89.size
        have z_86 := Ext.mod z_79 m_89 (fun q hq => (OO.lt q hq).1)
        have u_94 := fun q hq => (O_90.lt q hq).2
        have q_95 := m_89.size
        refine vl (as_ rfl) rfl <| nl <| nB <| nT <| rg <| vl (bad rfl rfl (inI (by omega))) rfl <| vl (mv rfl) rfl <| nl <| ?_
        have e1 : lst a b (k + 1) = (((lst a b k).1) + (2 * (sz (b.x - a.x))), ⟨(lst a b k).2.x, ((lst a b k).2.y) + (sgn (b.y - a.y))⟩) := by
          show lstep a b (lst a b k) = _
          unfold lstep
          simp only [hfar, hnar, hdec, hasd, if_true, if_false, Bool.or_true, Bool.true_or, Bool.or_false, Bool.false_or, Bool.false_eq_true, decide_true, decide_false, Bool.not_true, Bool.not_false]
        have e2 := pts_succ a b k
        rw [e1] at e2
        have e3 : (pts a b (k + 1)).length = k + 2 := pts_len a b (k + 1)
        have BL := BL.later x_81
        have BL := BL.mod m_89 (fun hq => d_36 _ hq rfl)
        exact nI _ _ ⟨k + 1, A_87, c_88, rfl, rfl, z_86, (by rw [e1]; exact BL), (by rw [e2]; exact O_90), by omega, (fun q hq hb => by (exact Or.elim (g_91 q hq) (fun k_96 => by (exact d_36 q k_96 hb)) (fun k_96 => by omega)))⟩ (by omega) (.cons rfl (.cons rfl (.cons rfl (.cons rfl (.cons rfl (.cons rfl (.cons rfl (.cons rfl (.cons rfl (.cons (by rw [e2]; rfl) (.cons (loI rfl (by rw [e1])) (.cons rfl (.cons (loI rfl (by first | omega | rfl | (simp <;> omega))) .nil)))))))))))))
    · refine xt <| xT <| xK <| xB <| nT <| sq <| rg <| vl (mv rfl) rfl <| vl (as_ rfl) rfl <| vl (as_ rfl) rfl <| nl <| nT <| rt <| tR (.tmp rfl (.tmp rfl .nil)) <| ?_
      have hkk : k = (far a b).toNat := by omega
      subst hkk
      exact ⟨Ao, co, rfl, OO, z_37⟩
  · have hl1 := sz_bd (b.x - a.x)
    have hl2 := sz_bd (b.y - a.y)
    have hfar : far a b = sz (b.x - a.x) := by unfold far; omega
    have hnar : nar a b = sz (b.y - a.y) := by unfold nar; omega
    have hdec : decide (sz (b.x - a.x) < sz (b.y - a.y)) = false := by exact decide_eq_false h_27
    refine sk <| nT <| sq <| rg <| ?_
    have B_5 := B_5.later x_25
    refine vl (ld rfl (B_5.all LinG_ag_api_Cell LinG_sz_api_Cell)) rfl <| bs (e := 42) (cs := [.int .i64 a.x, .int .i64 a.y]) rfl (fun _ => by kernel_rfl) rfl fun w_97 b_98 x_99 l_100 B_101 => ?_
    have q_102 := x_99.size
    have z_97 := Ext.tr z_24 x_99
    have q_103 := B_101.lt
    refine vl (as_ rfl) rfl <| nl <| nT <| sq <| rg <| vl (as_ rfl) rfl <| nl <| nT <| sq <| sq <| rg <| vl (mv rfl) rfl <| vl (mv rfl) rfl <| nl <| nT <| bk <| ?_
    have B_5 := B_5.later x_99
    have lo_104 : ∀ q ∈ Rep.blkOf (some ⟨b_98, 0, none⟩), b_98 ≤ q := fun q hq => Nat.le_of_eq (List.mem_singleton.1 hq).symm
    refine lp (fun mI EI wI => ∃ k : Nat, ∃ Ao : Option Addr, ∃ co : Nat, EI = [(2, .pointer (some ⟨b_2, 0, none⟩)), (4, .slice none 0 0), (5, .int .i64 0), (6, .int .i64 (sgn (b.x - a.x))), (7, .int .i64 (sz (b.x - a.x))), (8, .int .i64 (sgn (b.y - a.y))), (9, .int .i64 (sz (b.y - a.y))), (10, .int .i64 (sz (b.x - a.x))), (11, .int .i64 (sz (b.y - a.y))), (12, .slice Ao ((pts a b k).length) co), (13, .int .i64 ((lst a b k).1)), (50, .int .i64 (sz (b.x - a.x))), (51, .int .i64 (k : Int))] ∧ mI = (sz (b.x - a.x)).toNat - k ∧ Ext w wI ∧ Blk wI b_2 [.int .i64 ((lst a b k).2.x), .int .i64 ((lst a b k).2.y)] 42 (0, 0) ∧ Cel.rep.SOwn 42 16 wI w.heap.size (Rep.blkOf Ao) Ao co (pts a b k) ∧ ((k : Int) ≤ sz (b.x - a.x)) ∧ (∀ q ∈ Rep.blkOf Ao, q = b_2 → False)) _ _ ⟨0, some ⟨b_98, 0, none⟩, 1, rfl, rfl, z_97, B_5, (Blk.ownN (R := Cel.rep) (by_ := 16) (B := w.heap.size) (k := [a]) B_101 [[.int .i64 a.x, .int .i64 a.y]] rfl ⟨⟨rfl, okI_iff.2 (by omega), okI_iff.2 (by omega)⟩, trivial⟩ (by simp) (by simp) (by decide) (by omega)), (by have := sz_bd (b.y - a.y); have := sz_bd (b.x - a.x); omega), (fun q hq hb => by (have := lo_104 q hq; omega))⟩ (.cons rfl (.cons rfl (.cons rfl (.cons rfl (.cons rfl (.cons rfl (.cons rfl (.cons rfl (.cons rfl (.cons rfl (.cons (loI rfl (by first | omega | rfl | (simp <;> omega))) (.cons rfl (.cons (loI rfl (by first | omega | rfl | (simp <;> omega))) .nil))))))))))))) ?_
    rintro m_107 E_108 w_106 ⟨k, Ao, co, rfl, rfl, z_106, BL, OO, hk, d_105⟩
    have q_109 := z_106.size
    have q_110 := BL.lt
    have u_111 := fun q hq => (OO.lt q hq).2
    have hb := lst_bd a b k
    have hp := lst_pos a b k
    have hs1 := sgn_bd (b.x - a.x)
    have hs2 := sgn_bd (b.y - a.y)
    have hl1 := sz_bd (b.x - a.x)
    have hl2 := sz_bd (b.y - a.y)
    have hpl := pts_len a b k
    refine sq <| rg <| vl (blt rfl rfl) rfl <| nl <| nT <| sq <| ?_
    refine clt rfl (fun h_112 => ?_) (fun h_112 => ?_)
    · refine sk <| nT <| sq <| bk <| sq <| rg <| vl (mv rfl) rfl <| vl (mv rfl) rfl <| vl (bmu rfl rfl (inI (by omega))) rfl <| vl (bad rfl rfl (inI (by omega))) rfl <| vl (as_ rfl) rfl <| nl <| nT <| sq <| rg <| vl (mv rfl) rfl <| vl (mv rfl) rfl <| vl (bge rfl rfl) rfl <| vl (as_ rfl) rfl <| nl <| nT <| sq <| sq <| rg <| ?_
      refine vl (mv rfl) rfl <| nl <| nT <| ?_
      refine cle rfl (fun h_113 => ?_) (fun h_113 => ?_)
      · rw [hfar] at hb
        have hasd : decide (sz (b.x - a.x) ≤ ((lst a b k).1) + (2 * (sz (b.y - a.y)))) = true := by exact decide_eq_true h_113
        refine rg <| vl (mv rfl) rfl <| vl (mv rfl) rfl <| vl (bmu rfl rfl (inI (by omega))) rfl <| vl (bsu rfl rfl (inI (by omega))) rfl <| vl (as_ rfl) rfl <| nl <| nT <| sq <| sq <| rg <| vl (mv rfl) rfl <| vl (mv rfl) rfl <| vl (bge rfl rfl) rfl <| vl (mv rfl) rfl <| vQ rfl rfl rfl rfl (fun hc => mv rfl) rfl <| vl (pO rfl rfl rfl rfl) rfl <| nl <| nT <| ?_
        have h_114 : ((decide (sz (b.y - a.y) ≤ sz (b.x - a.x))) || (decide (sz (b.x - a.x) ≤ ((lst a b k).1) + (2 * (sz (b.y - a.y)))))) = true := by simp only [Bool.or_eq_true, decide_eq_true_eq]; omega
        refine cT (by rw [← h_114]; rfl) <| rg <| vl (fa LinG_fd_api_Cell_0 rfl) rfl <| vl (ld rfl (BL.one LinG_ag_int rfl)) rfl <| vl (mv rfl) rfl <| vl (bad rfl rfl (inI (by omega))) rfl <| vl (fa LinG_fd_api_Cell_0 rfl) rfl <| st (new := [.int .i64 (((lst a b k).2.x) + (sgn (b.x - a.x))), .int .i64 ((lst a b k).2.y)]) rfl rfl BL rfl LinG_sz_int rfl rfl rfl fun w_115 m_116 BL => ?_
        have q_118 := m_116.size
        have z_115 := Ext.mod z_106 m_116 (by simp only [List.mem_singleton, forall_eq]; omega)
        have q_117 := m_116.size
        refine nl <| nT <| sq <| sq <| rg <| vl (mv rfl) rfl <| vl (mv rfl) rfl <| vl (bgt rfl rfl) rfl <| vl (mv rfl) rfl <| vQ rfl rfl rfl rfl (fun hc => mv rfl) rfl <| vl (pO rfl rfl rfl rfl) rfl <| nl <| nT <| ?_
        have h_119 : ((decide (sz (b.x - a.x) < sz (b.y - a.y))) || (decide (sz (b.x - a.x) ≤ ((lst a b k).1) + (2 * (sz (b.y - a.y)))))) = true := by simp only [Bool.or_eq_true, decide_eq_true_eq]; omega
        refine cT (by rw [← h_119]; rfl) <| rg <| vl (fa LinG_fd_api_Cell_1 rfl) rfl <| vl (ld rfl (BL.one LinG_ag_int rfl)) rfl <| vl (mv rfl) rfl <| vl (bad rfl rfl (inI (by omega))) rfl <| vl (fa LinG_fd_api_Cell_1 rfl) rfl <| st (new := [.int .i64 (((lst a b k).2.x) + (sgn (b.x - a.x))), .int .i64 (((lst a b k).2.y) + (sgn (b.y - a.y)))]) rfl rfl BL rfl LinG_sz_int rfl rfl rfl fun w_120 m_121 BL => ?_
        have q_123 := m_121.size
        have z_120 := Ext.mod z_115 m_121 (by simp only [List.mem_singleton, forall_eq]; omega)
        have q_122 := m_121.size
        refine nl <| nT <| rg <| vl (mv rfl) rfl <| vl (ld rfl (BL.all LinG_ag_api_Cell LinG_sz_api_Cell)) rfl <| bs (e := 42) (cs := [.int .i64 (((lst a b k).2.x) + (sgn (b.x - a.x))), .int .i64 (((lst a b k).2.y) + (sgn (b.y - a.y)))]) rfl (fun _ => by kernel_rfl) rfl fun w_124 b_125 x_126 l_127 B_128 => ?_
        have q_129 := x_126.size
        have z_124 := Ext.tr z_120 x_126
        have q_130 := B_128.lt
        have OO := OO.mod m_116 (fun q hq h => by have hb := List.mem_singleton.1 h; exfalso; (exact d_105 q hq hb))
        have OO := OO.mod m_121 (fun q hq h => by have hb := List.mem_singleton.1 h; exfalso; (exact d_105 q hq hb))
        have OO := OO.later x_126
        refine ap LinG_el_S_api_Cell Rep.flat_bare OO (Blk.has1 (R := Cel.rep) (by_ := 16) (q := (⟨((lst a b k).2.x) + (sgn (b.x - a.x)), ((lst a b k).2.y) + (sgn (b.y - a.y))⟩ : Cel)) B_128 ⟨rfl, ⟨okI_iff.2 (by (try dsimp only); omega), okI_iff.2 (by (try dsimp only); omega)⟩⟩ (by decide)) rfl rfl (by simp only [List.length_cons, List.length_nil]; omega) (by simp only [List.length_cons, List.length_nil]; omega) z_124.size rfl fun w_131 A_132 c_133 m_134 O_135 g_136 n_137 => ?_
        have q_138 := m_134.size
        have z_131 := Ext.mod z_124 m_134 (fun q hq => (OO.lt q hq).1)
        have u_139 := fun q hq => (O_135.lt q hq).2
        have q_140 := m_134.size
        refine vl (as_ rfl) rfl <| nl <| nB <| nT <| rg <| vl (bad rfl rfl (inI (by omega))) rfl <| vl (mv rfl) rfl <| nl <| ?_
        have e1 : lst a b (k + 1) = ((((lst a b k).1) + (2 * (sz (b.y - a.y)))) - (2 * (sz (b.x - a.x))), ⟨((lst a b k).2.x) + (sgn (b.x - a.x)), ((lst a b k).2.y) + (sgn (b.y - a.y))⟩) := by
          show lstep a b (lst a b k) = _
          unfold lstep
          simp only [hfar, hnar, hdec, hasd, if_true, if_false, Bool.or_true, Bool.true_or, Bool.or_false, Bool.false_or, Bool.false_eq_true, decide_true, decide_false, Bool.not_true, Bool.not_false]
        have e2 := pts_succ a b k
        rw [e1] at e2
        have e3 : (pts a b (k + 1)).length = k + 2 := pts_len a b (k + 1)
        have BL := BL.later x_126
        have BL := BL.mod m_134 (fun hq => d_105 _ hq rfl)
        exact nI _ _ ⟨k + 1, A_132, c_133, rfl, rfl, z_131, (by rw [e1]; exact BL), (by rw [e2]; exact O_135), by omega, (fun q hq hb => by (exact Or.elim (g_136 q hq) (fun k_141 => by (exact d_105 q k_141 hb)) (fun k_141 => by omega)))⟩ (by omega) (.cons rfl (.cons rfl (.cons rfl (.cons rfl (.cons rfl (.cons rfl (.cons rfl (.cons rfl (.cons rfl (.cons (by rw [e2]; rfl) (.cons (loI rfl (by rw [e1])) (.cons rfl (.cons (loI rfl (by first | omega | rfl | (simp <;> omega))) .nil)))))))))))))
      · rw [hfar] at hb
        have hasd : decide (sz (b.x - a.x) ≤ ((lst a b k).1) + (2 * (sz (b.y - a.y)))) = false := by exact decide_eq_false h_113
        refine sk <| nT <| sq <| sq <| rg <| vl (mv rfl) rfl <| vl (mv rfl) rfl <| vl (bge rfl rfl) rfl <| vl (mv rfl) rfl <| vQ rfl rfl rfl rfl (fun hc => mv rfl) rfl <| vl (pO rfl rfl rfl rfl) rfl <| nl <| nT <| ?_
        have h_142 : ((decide (sz (b.y - a.y) ≤ sz (b.x - a.x))) || (decide (sz (b.x - a.x) ≤ ((lst a b k).1) + (2 * (sz (b.y - a.y)))))) = true := by simp only [Bool.or_eq_true, decide_eq_true_eq]; omega
        refine cT (by rw [← h_142]; rfl) <| rg <| vl (fa LinG_fd_api_Cell_0 rfl) rfl <| vl (ld rfl (BL.one LinG_ag_int rfl)) rfl <| vl (mv rfl) rfl <| vl (bad rfl rfl (inI (by omega))) rfl <| vl (fa LinG_fd_api_Cell_0 rfl) rfl <| st (new := [.int .i64 (((lst a b k).2.x) + (sgn (b.x - a.x))), .int .i64 ((lst a b k).2.y)]) rfl rfl BL rfl LinG_sz_int rfl rfl rfl fun w_143 m_144 BL => ?_
        have q_146 := m_144.size
        have z_143 := Ext.mod z_106 m_144 (by simp only [List.mem_singleton, forall_eq]; omega)
        have q_145 := m_144.size
        refine nl <| nT <| sq <| sq <| rg <| vl (mv rfl) rfl <| vl (mv rfl) rfl <| vl (bgt rfl rfl) rfl <| vl (mv rfl) rfl <| vQ rfl rfl rfl rfl (fun hc => mv rfl) rfl <| vl (pO rfl rfl rfl rfl) rfl <| nl <| nT <| ?_
        have h_147 : ((decide (sz (b.x - a.x) < sz (b.y - a.y))) || (decide (sz (b.x - a.x) ≤ ((lst a b k).1) + (2 * (sz (b.y - a.y)))))) = false := by simp only [Bool.or_eq_false_iff, decide_eq_false_iff_not]; omega
        refine cF (by rw [← h_147]; rfl) <| sk <| nT <| rg <| vl (mv rfl) rfl <| vl (ld rfl (BL.all LinG_ag_api_Cell LinG_sz_api_Cell)) rfl <| bs (e := 42) (cs := [.int .i64 (((lst a b k).2.x) + (sgn (b.x - a.x))), .int .i64 ((lst a b k).2.y)]) rfl (fun _ => by kernel_rfl) rfl fun w_148 b_149 x_150 l_151 B_152 => ?_
        have q_153 := x_150.size
        have z_148 := Ext.tr z_143 x_150
        have q_154 := B_152.lt
        have OO := OO.mod m_144 (fun q hq h => by have hb := List.mem_singleton.1 h; exfalso; (exact d_105 q hq hb))
        have OO := OO.later x_150
        refine ap LinG_el_S_api_Cell Rep.flat_bare OO (Blk.has1 (R := Cel.rep) (by_ := 16) (q := (⟨((lst a b k).2.x) + (sgn (b.x - a.x)), (lst a b k).2.y⟩ : Cel)) B_152 ⟨rfl, ⟨okI_iff.2 (by (try dsimp only); omega), okI_iff.2 (by (try dsimp only); omega)⟩⟩ (by decide)) rfl rfl (by simp only [List.length_cons, List.length_nil]; omega) (by simp only [List.length_cons, List.length_nil]; omega) z_148.size rfl fun w_155 A_156 c_157 m_158 O_159 g_160 n_161 => ?_
        have q_162 := m_158.size
        have z_155 := Ext.mod z_148 m_158 (fun q hq => (OO.lt q hq).1)
        have u_163 := fun q hq => (O_159.lt q hq).2
        have q_164 := m_158.size
        refine vl (as_ rfl) rfl <| nl <| nB <| nT <| rg <| vl (bad rfl rfl (inI (by omega))) rfl <| vl (mv rfl) rfl <| nl <| ?_
        have e1 : lst a b (k + 1) = (((lst a b k).1) + (2 * (sz (b.y - a.y))), ⟨((lst a b k).2.x) + (sgn (b.x - a.x)), (lst a b k).2.y⟩) := by
          show lstep a b (lst a b k) = _
          unfold lstep
          simp only [hfar, hnar, hdec, hasd, if_true, if_false, Bool.or_true, Bool.true_or, Bool.or_false, Bool.false_or, Bool.false_eq_true, decide_true, decide_false, Bool.not_true, Bool.not_false]
        have e2 := pts_succ a b k
        rw [e1] at e2
        have e3 : (pts a b (k + 1)).length = k + 2 := pts_len a b (k + 1)
        have BL := BL.later x_150
        have BL := BL.mod m_158 (fun hq => d_105 _ hq rfl)
        exact nI _ _ ⟨k + 1, A_156, c_157, rfl, rfl, z_155, (by rw [e1]; exact BL), (by rw [e2]; exact O_159), by omega, (fun q hq hb => by (exact Or.elim (g_160 q hq) (fun k_165 => by (exact d_105 q k_165 hb)) (fun k_165 => by omega)))⟩ (by omega) (.cons rfl (.cons rfl (.cons rfl (.cons rfl (.cons rfl (.cons rfl (.cons rfl (.cons rfl (.cons rfl (.cons (by rw [e2]; rfl) (.cons (loI rfl (by rw [e1])) (.cons rfl (.cons (loI rfl (by first | omega | rfl | (simp <;> omega))) .nil)))))))))))))
    · refine xt <| xT <| xK <| xB <| nT <| sq <| rg <| vl (mv rfl) rfl <| vl (as_ rfl) rfl <| vl (as_ rfl) rfl <| nl <| nT <| rt <| tR (.tmp rfl (.tmp rfl .nil)) <| ?_
      have hkk : k = (far a b).toNat := by omega
      subst hkk
      exact ⟨Ao, co, rfl, OO, z_106⟩
end Go.Proofs.Ytkijhejjnlmbmaa
