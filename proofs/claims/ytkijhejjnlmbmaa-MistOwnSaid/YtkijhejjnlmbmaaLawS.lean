/-
  spoilWorld. (Printed by bin/goodslaw5.py.)
-/
import Derived.Test.YtkijhejjnlmbmaaLawP
set_option linter.unusedVariables false
set_option linter.unusedSimpArgs false
namespace Go.Proofs.Ytkijhejjnlmbmaa
open Go.RowKit

theorem LawS_fd_api_World_0 : Fd Try.prog 46 0 0 := fun _ _ _ => by kernel_rfl
theorem LawS_fd_api_Field_2 : Fd Try.prog 24 2 2 := fun _ _ _ => by kernel_rfl
theorem LawS_ag_S_int : Ag Try.prog 22 false := fun _ => by kernel_rfl
theorem LawS_fd_api_World_2 : Fd Try.prog 46 2 4 := fun _ _ _ => by kernel_rfl
theorem LawS_fd_api_World_3 : Fd Try.prog 46 3 5 := fun _ _ _ => by kernel_rfl
theorem LawS_sz_int : Sz Try.prog 3 1 := fun _ => by kernel_rfl
theorem LawS_ag_int : Ag Try.prog 3 false := fun _ => by kernel_rfl
theorem LawS_fd_api_World_1 : Fd Try.prog 46 1 3 := fun _ _ _ => by kernel_rfl
theorem LawS_ag_S_api_Cell : Ag Try.prog 43 false := fun _ => by kernel_rfl
theorem LawS_sz_api_Cell : Sz Try.prog 42 2 := fun _ => by kernel_rfl
theorem LawS_fd_api_Cell_0 : Fd Try.prog 42 0 0 := fun _ _ _ => by kernel_rfl
theorem LawS_fd_api_World_4 : Fd Try.prog 46 4 6 := fun _ _ _ => by kernel_rfl
theorem LawS_ag_S_api_Troop : Ag Try.prog 44 false := fun _ => by kernel_rfl
theorem LawS_sz_api_Troop : Sz Try.prog 51 7 := fun _ => by kernel_rfl
theorem LawS_fd_api_Troop_4 : Fd Try.prog 51 4 5 := fun _ _ _ => by kernel_rfl
set_option maxRecDepth 100000 in
set_option maxHeartbeats 400000 in
theorem spoilWorld_any (a : Wd.At) (W : Wd) (Z : Nat) (w : World) (hW : WOwn w Z a W) :
    Calls Try.prog 36 #[.agg ((Wd.cells a W).toArray)] w (fun e w' => e = .returned (.tuple #[]) ∧ Mod (WOwn.foot a) w w') := by
  have hd0 := hW.pairs
  have RP : Raw Z 1 0 w a.P a.p := Raw.of (R := repI) hW.P rfl (fun u h => h)
  have uP := fun q hq => (RP.lt q hq).2
  have RS : Raw Z 1 0 w a.S a.s := Raw.of (R := repI) hW.S rfl (fun u h => h)
  have uS := fun q hq => (RS.lt q hq).2
  have dSP : ∀ q ∈ Rep.blkOf a.S, q ∈ Rep.blkOf a.P → False := fun q h1 h2 => hd0.PS q h2 h1
  have RM : Raw Z 1 0 w a.M a.m := Raw.of (R := repI) hW.M rfl (fun u h => h)
  have uM := fun q hq => (RM.lt q hq).2
  have dMP : ∀ q ∈ Rep.blkOf a.M, q ∈ Rep.blkOf a.P → False := fun q h1 h2 => hd0.PM q h2 h1
  have dMS : ∀ q ∈ Rep.blkOf a.M, q ∈ Rep.blkOf a.S → False := fun q h1 h2 => hd0.SM q h2 h1
  have RB : Raw Z 2 0 w a.B a.b := Raw.of (R := Cel.rep) hW.B rfl (fun u h => h)
  have uB := fun q hq => (RB.lt q hq).2
  have dBP : ∀ q ∈ Rep.blkOf a.B, q ∈ Rep.blkOf a.P → False := fun q h1 h2 => hd0.PB q h2 h1
  have dBS : ∀ q ∈ Rep.blkOf a.B, q ∈ Rep.blkOf a.S → False := fun q h1 h2 => hd0.SB q h2 h1
  have dBM : ∀ q ∈ Rep.blkOf a.B, q ∈ Rep.blkOf a.M → False := fun q h1 h2 => hd0.MB q h2 h1
  have RT : Raw Z 7 5 w a.T a.t := Raw.of (R := Trp.rep) hW.T rfl (fun u h => h)
  have uT := fun q hq => (RT.lt q hq).2
  have dTP : ∀ q ∈ Rep.blkOf a.T, q ∈ Rep.blkOf a.P → False := fun q h1 h2 => hd0.PT q h2 h1
  have dTS : ∀ q ∈ Rep.blkOf a.T, q ∈ Rep.blkOf a.S → False := fun q h1 h2 => hd0.ST q h2 h1
  have dTM : ∀ q ∈ Rep.blkOf a.T, q ∈ Rep.blkOf a.M → False := fun q h1 h2 => hd0.MT q h2 h1
  have dTB : ∀ q ∈ Rep.blkOf a.T, q ∈ Rep.blkOf a.B → False := fun q h1 h2 => hd0.BT q h2 h1
  refine calls_W (n := 83) Try.func36 rfl rfl rfl ?_
  refine sq <| rg <| bx rfl rfl rfl rfl fun w_1 b_2 x_3 l_4 B_5 => ?_
  have q_6 := x_3.size
  have z_1 := (Mod.rf (WOwn.foot a) w).trans (Mod.of_ext x_3)
  have q_7 := B_5.lt
  refine nl <| nT <| sq <| sq <| rg <| vl (fa LawS_fd_api_World_0 rfl) rfl <| vl (fa LawS_fd_api_Field_2 rfl) rfl <| vl (ld rfl (B_5.one LawS_ag_S_int rfl)) rfl <| vl (fa LawS_fd_api_World_2 rfl) rfl <| vl (ld rfl (B_5.one LawS_ag_S_int rfl)) rfl <| vl (fa LawS_fd_api_World_3 rfl) rfl <| vl (ld rfl (B_5.one LawS_ag_S_int rfl)) rfl <| vl (v := .agg #[.slice a.P W.field.places.length a.p, .slice a.S W.stocks.length a.s, .slice a.M W.mines.length a.m]) (bd rfl (by kernel_rfl)) rfl <| vl (mv rfl) rfl <| nl <| nT <| bk <| ?_
  have eRP : ∀ q ∈ Rep.blkOf a.P, q = b_2 → False := fun q hq e => by have := uP q hq; omega
  have eRS : ∀ q ∈ Rep.blkOf a.S, q = b_2 → False := fun q hq e => by have := uS q hq; omega
  have eRM : ∀ q ∈ Rep.blkOf a.M, q = b_2 → False := fun q hq e => by have := uM q hq; omega
  have eRB : ∀ q ∈ Rep.blkOf a.B, q = b_2 → False := fun q hq e => by have := uB q hq; omega
  have eRT : ∀ q ∈ Rep.blkOf a.T, q = b_2 → False := fun q hq e => by have := uT q hq; omega
  refine lu 4 <| lr <| sq <| rg <| vl (blt rfl rfl) rfl <| nl <| nT <| sq <| cT rfl <| sk <| nT <| sq <| bk <| sq <| rg <| vl (v := .slice a.P W.field.places.length a.p) (ixk rfl rfl (by kernel_rfl)) rfl <| vl (as_ rfl) rfl <| nl <| nT <| sq <| rg <| vl (mv rfl) rfl <| vl (mv rfl) rfl <| vl (cp Try.underlying22 rfl) rfl <| ?_
  refine vl (sx Try.underlying22 LawS_sz_int rfl rfl) rfl <| vl (as_ rfl) rfl <| nl <| nT <| sq <| rg <| vl (mv rfl) rfl <| vl (ln Try.underlying22 rfl) rfl <| vl (mv rfl) rfl <| nl <| nT <| bk <| ?_
  have RP := RP.later x_3
  have RS := RS.later x_3
  have RM := RM.later x_3
  have RB := RB.later x_3
  have RT := RT.later x_3
  refine lp (fun mI EI wI => ∃ k : Nat, EI = [(1, .pointer (some ⟨b_2, 0, none⟩)), (3, .slice a.P a.p a.p), (14, .agg #[.slice a.P W.field.places.length a.p, .slice a.S W.stocks.length a.s, .slice a.M W.mines.length a.m]), (15, .int .i64 0), (16, .bool true), (17, .slice a.P W.field.places.length a.p), (18, .slice a.P W.field.places.length a.p), (19, .slice a.P W.field.places.length a.p), (20, .int .i64 (a.p : Int)), (21, .slice a.P a.p a.p), (22, .slice a.P a.p a.p), (23, .int .i64 (a.p : Int)), (24, .int .i64 (k : Int))] ∧ mI = a.p - k ∧ Mod (WOwn.foot a) w wI ∧ Raw Z 1 0 wI a.P a.p ∧ Raw Z 1 0 wI a.S a.s ∧ Raw Z 1 0 wI a.M a.m ∧ Raw Z 2 0 wI a.B a.b ∧ Raw Z 7 5 wI a.T a.t ∧ Blk wI b_2 (Wd.cells a W) 46 (0, 0) ∧ (k ≤ a.p)) _ _ ⟨0, rfl, rfl, z_1, RP, RS, RM, RB, RT, B_5, by omega⟩ (.cons rfl (.cons rfl (.cons rfl (.cons rfl (.cons rfl (.cons rfl (.cons rfl (.cons rfl (.cons rfl (.cons rfl (.cons rfl (.cons rfl (.cons (loI rfl (by first | omega | rfl | (simp <;> omega))) .nil))))))))))))) ?_
  rintro m_9 E_10 w_8 ⟨k, rfl, rfl, z_8, RP, RS, RM, RB, RT, B_5, hk⟩
  have q_11 := z_8.size
  have u_12 := fun q hq => (RP.lt q hq).2
  have u_13 := fun q hq => (RS.lt q hq).2
  have u_14 := fun q hq => (RM.lt q hq).2
  have u_15 := fun q hq => (RB.lt q hq).2
  have u_16 := fun q hq => (RT.lt q hq).2
  have q_17 := B_5.lt
  have hcap : (a.p : Int) ≤ 9223372036854775807 := by have := hW.caps; omega
  refine sq <| rg <| vl (blt rfl rfl) rfl <| nl <| nT <| sq <| ?_
  refine clt rfl (fun h_18 => ?_) (fun h_18 => ?_)
  · refine sk <| nT <| sq <| bk <| sq <| rg <| vl (mv rfl) rfl <| vl (as_ rfl) rfl <| nl <| nT <| rg <| vl (mv rfl) rfl <| vl (mv rfl) rfl <| vl (iA k Try.underlying22 LawS_sz_int rfl rfl (RP.adr (Nat.zero_lt_of_lt (show k < _ from (by omega)))) rfl (by omega)) rfl <| ?_
    obtain ⟨v_19, hv_20⟩ := RP.get (i := k) (by omega)
    refine vl (ld rfl (Lds.one LawS_ag_int hv_20)) rfl <| vl (badW rfl rfl) rfl <| vl (iA k Try.underlying22 LawS_sz_int rfl rfl (RP.adr (Nat.zero_lt_of_lt (show k < _ from (by omega)))) rfl (by omega)) rfl <| sr (i := k) RP (by omega) rfl rfl LawS_sz_int fun w_21 m_22 RP => ?_
    have q_23 := m_22.size
    have z_21 := z_8.md m_22 (fun q hq => .inl (foot_P hq))
    have q_24 := m_22.size
    refine nl <| nB <| nT <| rg <| vl (bad rfl rfl (inI (by omega))) rfl <| vl (mv rfl) rfl <| nl <| ?_
    have RS := RS.mod m_22 (fun q hq h => by exfalso; (exact dSP q hq h))
    have RM := RM.mod m_22 (fun q hq h => by exfalso; (exact dMP q hq h))
    have RB := RB.mod m_22 (fun q hq h => by exfalso; (exact dBP q hq h))
    have RT := RT.mod m_22 (fun q hq h => by exfalso; (exact dTP q hq h))
    have B_5 := B_5.mod m_22 (fun hq => eRP _ hq rfl)
    exact nI _ _ ⟨k + 1, rfl, rfl, z_21, RP, RS, RM, RB, RT, B_5, by omega⟩ (by omega) (.cons rfl (.cons rfl (.cons rfl (.cons rfl (.cons rfl (.cons rfl (.cons rfl (.cons rfl (.cons rfl (.cons rfl (.cons rfl (.cons rfl (.cons (loI rfl (by first | omega | rfl | (simp <;> omega))) .nil)))))))))))))
  · refine xt <| xT <| xK <| xB <| nB <| nT <| rg <| vl (badL (r := 1) rfl rfl (by decide) (by decide)) rfl <| vl (mv rfl) rfl <| nl <| nR <| lr <| sq <| rg <| vl (blt rfl rfl) rfl <| nl <| nT <| sq <| cT rfl <| sk <| nT <| sq <| bk <| sq <| ?_
    refine rg <| vl (v := .slice a.S W.stocks.length a.s) (ixk rfl rfl (by kernel_rfl)) rfl <| vl (as_ rfl) rfl <| nl <| nT <| sq <| rg <| vl (mv rfl) rfl <| vl (mv rfl) rfl <| vl (cp Try.underlying22 rfl) rfl <| vl (sx Try.underlying22 LawS_sz_int rfl rfl) rfl <| vl (as_ rfl) rfl <| nl <| nT <| sq <| rg <| vl (mv rfl) rfl <| vl (ln Try.underlying22 rfl) rfl <| vl (mv rfl) rfl <| nl <| nT <| bk <| ?_
    refine lp (fun mI EI wI => ∃ k : Nat, EI = [(1, .pointer (some ⟨b_2, 0, none⟩)), (3, .slice a.S a.s a.s), (14, .agg #[.slice a.P W.field.places.length a.p, .slice a.S W.stocks.length a.s, .slice a.M W.mines.length a.m]), (15, .int .i64 1), (16, .bool true), (17, .slice a.S W.stocks.length a.s), (18, .slice a.S W.stocks.length a.s), (19, .slice a.S W.stocks.length a.s), (20, .int .i64 (a.s : Int)), (21, .slice a.S a.s a.s), (22, .slice a.S a.s a.s), (23, .int .i64 (a.s : Int)), (24, .int .i64 (k : Int)), (34, .int .i64 1)] ∧ mI = a.s - k ∧ Mod (WOwn.foot a) w wI ∧ Raw Z 1 0 wI a.P a.p ∧ Raw Z 1 0 wI a.S a.s ∧ Raw Z 1 0 wI a.M a.m ∧ Raw Z 2 0 wI a.B a.b ∧ Raw Z 7 5 wI a.T a.t ∧ Blk wI b_2 (Wd.cells a W) 46 (0, 0) ∧ (k ≤ a.s)) _ _ ⟨0, rfl, rfl, z_8, RP, RS, RM, RB, RT, B_5, by omega⟩ (.cons rfl (.cons rfl (.cons rfl (.cons rfl (.cons rfl (.cons rfl (.cons rfl (.cons rfl (.cons rfl (.cons rfl (.cons rfl (.cons rfl (.cons (loI rfl (by first | omega | rfl | (simp <;> omega))) (.cons rfl .nil)))))))))))))) ?_
    rintro m_26 E_27 w_25 ⟨k, rfl, rfl, z_25, RP, RS, RM, RB, RT, B_5, hk⟩
    have q_28 := z_25.size
    have u_29 := fun q hq => (RP.lt q hq).2
    have u_30 := fun q hq => (RS.lt q hq).2
    have u_31 := fun q hq => (RM.lt q hq).2
    have u_32 := fun q hq => (RB.lt q hq).2
    have u_33 := fun q hq => (RT.lt q hq).2
    have q_34 := B_5.lt
    have hcap : (a.s : Int) ≤ 9223372036854775807 := by have := hW.caps; omega
    refine sq <| rg <| vl (blt rfl rfl) rfl <| nl <| nT <| sq <| ?_
    refine clt rfl (fun h_35 => ?_) (fun h_35 => ?_)
    · refine sk <| nT <| sq <| bk <| sq <| rg <| vl (mv rfl) rfl <| vl (as_ rfl) rfl <| nl <| nT <| rg <| vl (mv rfl) rfl <| vl (mv rfl) rfl <| vl (iA k Try.underlying22 LawS_sz_int rfl rfl (RS.adr (Nat.zero_lt_of_lt (show k < _ from (by omega)))) rfl (by omega)) rfl <| ?_
      obtain ⟨v_36, hv_37⟩ := RS.get (i := k) (by omega)
      refine vl (ld rfl (Lds.one LawS_ag_int hv_37)) rfl <| vl (badW rfl rfl) rfl <| vl (iA k Try.underlying22 LawS_sz_int rfl rfl (RS.adr (Nat.zero_lt_of_lt (show k < _ from (by omega)))) rfl (by omega)) rfl <| sr (i := k) RS (by omega) rfl rfl LawS_sz_int fun w_38 m_39 RS => ?_
      have q_40 := m_39.size
      have z_38 := z_25.md m_39 (fun q hq => .inl (foot_S hq))
      have q_41 := m_39.size
      refine nl <| nB <| nT <| rg <| vl (bad rfl rfl (inI (by omega))) rfl <| vl (mv rfl) rfl <| nl <| ?_
      have RP := RP.mod m_39 (fun q hq h => by exfalso; (exact dSP q h hq))
      have RM := RM.mod m_39 (fun q hq h => by exfalso; (exact dMS q hq h))
      have RB := RB.mod m_39 (fun q hq h => by exfalso; (exact dBS q hq h))
      have RT := RT.mod m_39 (fun q hq h => by exfalso; (exact dTS q hq h))
      have B_5 := B_5.mod m_39 (fun hq => eRS _ hq rfl)
      exact nI _ _ ⟨k + 1, rfl, rfl, z_38, RP, RS, RM, RB, RT, B_5, by omega⟩ (by omega) (.cons rfl (.cons rfl (.cons rfl (.cons rfl (.cons rfl (.cons rfl (.cons rfl (.cons rfl (.cons rfl (.cons rfl (.cons rfl (.cons rfl (.cons (loI rfl (by first | omega | rfl | (simp <;> omega))) (.cons rfl .nil))))))))))))))
    · refine xt <| xT <| xK <| xB <| nB <| nT <| rg <| vl (badL (r := 2) rfl rfl (by decide) (by decide)) rfl <| vl (mv rfl) rfl <| nl <| nR <| lr <| sq <| rg <| vl (blt rfl rfl) rfl <| nl <| nT <| sq <| cT rfl <| sk <| nT <| sq <| bk <| sq <| ?_
      refine rg <| vl (v := .slice a.M W.mines.length a.m) (ixk rfl rfl (by kernel_rfl)) rfl <| vl (as_ rfl) rfl <| nl <| nT <| sq <| rg <| vl (mv rfl) rfl <| vl (mv rfl) rfl <| vl (cp Try.underlying22 rfl) rfl <| vl (sx Try.underlying22 LawS_sz_int rfl rfl) rfl <| vl (as_ rfl) rfl <| nl <| nT <| sq <| rg <| vl (mv rfl) rfl <| vl (ln Try.underlying22 rfl) rfl <| vl (mv rfl) rfl <| nl <| nT <| bk <| ?_
      refine lp (fun mI EI wI => ∃ k : Nat, EI = [(1, .pointer (some ⟨b_2, 0, none⟩)), (3, .slice a.M a.m a.m), (14, .agg #[.slice a.P W.field.places.length a.p, .slice a.S W.stocks.length a.s, .slice a.M W.mines.length a.m]), (15, .int .i64 2), (16, .bool true), (17, .slice a.M W.mines.length a.m), (18, .slice a.M W.mines.length a.m), (19, .slice a.M W.mines.length a.m), (20, .int .i64 (a.m : Int)), (21, .slice a.M a.m a.m), (22, .slice a.M a.m a.m), (23, .int .i64 (a.m : Int)), (24, .int .i64 (k : Int)), (34, .int .i64 2)] ∧ mI = a.m - k ∧ Mod (WOwn.foot a) w wI ∧ Raw Z 1 0 wI a.P a.p ∧ Raw Z 1 0 wI a.S a.s ∧ Raw Z 1 0 wI a.M a.m ∧ Raw Z 2 0 wI a.B a.b ∧ Raw Z 7 5 wI a.T a.t ∧ Blk wI b_2 (Wd.cells a W) 46 (0, 0) ∧ (k ≤ a.m)) _ _ ⟨0, rfl, rfl, z_25, RP, RS, RM, RB, RT, B_5, by omega⟩ (.cons rfl (.cons rfl (.cons rfl (.cons rfl (.cons rfl (.cons rfl (.cons rfl (.cons rfl (.cons rfl (.cons rfl (.cons rfl (.cons rfl (.cons (loI rfl (by first | omega | rfl | (simp <;> omega))) (.cons rfl .nil)))))))))))))) ?_
      rintro m_43 E_44 w_42 ⟨k, rfl, rfl, z_42, RP, RS, RM, RB, RT, B_5, hk⟩
      have q_45 := z_42.size
      have u_46 := fun q hq => (RP.lt q hq).2
      have u_47 := fun q hq => (RS.lt q hq).2
      have u_48 := fun q hq => (RM.lt q hq).2
      have u_49 := fun q hq => (RB.lt q hq).2
      have u_50 := fun q hq => (RT.lt q hq).2
      have q_51 := B_5.lt
      have hcap : (a.m : Int) ≤ 9223372036854775807 := by have := hW.caps; omega
      refine sq <| rg <| vl (blt rfl rfl) rfl <| nl <| nT <| sq <| ?_
      refine clt rfl (fun h_52 => ?_) (fun h_52 => ?_)
      · refine sk <| nT <| sq <| bk <| sq <| rg <| vl (mv rfl) rfl <| vl (as_ rfl) rfl <| nl <| nT <| rg <| vl (mv rfl) rfl <| vl (mv rfl) rfl <| vl (iA k Try.underlying22 LawS_sz_int rfl rfl (RM.adr (Nat.zero_lt_of_lt (show k < _ from (by omega)))) rfl (by omega)) rfl <| ?_
        obtain ⟨v_53, hv_54⟩ := RM.get (i := k) (by omega)
        refine vl (ld rfl (Lds.one LawS_ag_int hv_54)) rfl <| vl (badW rfl rfl) rfl <| vl (iA k Try.underlying22 LawS_sz_int rfl rfl (RM.adr (Nat.zero_lt_of_lt (show k < _ from (by omega)))) rfl (by omega)) rfl <| sr (i := k) RM (by omega) rfl rfl LawS_sz_int fun w_55 m_56 RM => ?_
        have q_57 := m_56.size
        have z_55 := z_42.md m_56 (fun q hq => .inl (foot_M hq))
        have q_58 := m_56.size
        refine nl <| nB <| nT <| rg <| vl (bad rfl rfl (inI (by omega))) rfl <| vl (mv rfl) rfl <| nl <| ?_
        have RP := RP.mod m_56 (fun q hq h => by exfalso; (exact dMP q h hq))
        have RS := RS.mod m_56 (fun q hq h => by exfalso; (exact dMS q h hq))
        have RB := RB.mod m_56 (fun q hq h => by exfalso; (exact dBM q hq h))
        have RT := RT.mod m_56 (fun q hq h => by exfalso; (exact dTM q hq h))
        have B_5 := B_5.mod m_56 (fun hq => eRM _ hq rfl)
        exact nI _ _ ⟨k + 1, rfl, rfl, z_55, RP, RS, RM, RB, RT, B_5, by omega⟩ (by omega) (.cons rfl (.cons rfl (.cons rfl (.cons rfl (.cons rfl (.cons rfl (.cons rfl (.cons rfl (.cons rfl (.cons rfl (.cons rfl (.cons rfl (.cons (loI rfl (by first | omega | rfl | (simp <;> omega))) (.cons rfl .nil))))))))))))))
      · refine xt <| xT <| xK <| xB <| nB <| nT <| rg <| vl (badL (r := 3) rfl rfl (by decide) (by decide)) rfl <| vl (mv rfl) rfl <| nl <| nR <| lr <| sq <| rg <| vl (blt rfl rfl) rfl <| nl <| nT <| sq <| cF rfl <| xt <| xT <| xK <| xB <| nT <| ?_
        refine sq <| sq <| rg <| vl (fa LawS_fd_api_World_1 rfl) rfl <| vl (ld rfl (B_5.one LawS_ag_S_api_Cell rfl)) rfl <| vl (fa LawS_fd_api_World_1 rfl) rfl <| vl (ld rfl (B_5.one LawS_ag_S_api_Cell rfl)) rfl <| vl (cp Try.underlying43 rfl) rfl <| vl (sx Try.underlying43 LawS_sz_api_Cell rfl rfl) rfl <| vl (ln Try.underlying43 rfl) rfl <| vl (mv rfl) rfl <| nl <| nT <| bk <| ?_
        refine lp (fun mI EI wI => ∃ k : Nat, EI = [(1, .pointer (some ⟨b_2, 0, none⟩)), (41, .int .i64 (a.b : Int)), (42, .int .i64 (k : Int))] ∧ mI = a.b - k ∧ Mod (WOwn.foot a) w wI ∧ Raw Z 1 0 wI a.P a.p ∧ Raw Z 1 0 wI a.S a.s ∧ Raw Z 1 0 wI a.M a.m ∧ Raw Z 2 0 wI a.B a.b ∧ Raw Z 7 5 wI a.T a.t ∧ Blk wI b_2 (Wd.cells a W) 46 (0, 0) ∧ (k ≤ a.b)) _ _ ⟨0, rfl, rfl, z_42, RP, RS, RM, RB, RT, B_5, by omega⟩ (.cons rfl (.cons rfl (.cons (loI rfl (by first | omega | rfl | (simp <;> omega))) .nil))) ?_
        rintro m_60 E_61 w_59 ⟨k, rfl, rfl, z_59, RP, RS, RM, RB, RT, B_5, hk⟩
        have q_62 := z_59.size
        have u_63 := fun q hq => (RP.lt q hq).2
        have u_64 := fun q hq => (RS.lt q hq).2
        have u_65 := fun q hq => (RM.lt q hq).2
        have u_66 := fun q hq => (RB.lt q hq).2
        have u_67 := fun q hq => (RT.lt q hq).2
        have q_68 := B_5.lt
        have hcap : (a.b : Int) ≤ 9223372036854775807 := by have := hW.caps; omega
        refine sq <| rg <| vl (blt rfl rfl) rfl <| nl <| nT <| sq <| ?_
        refine clt rfl (fun h_69 => ?_) (fun h_69 => ?_)
        · refine sk <| nT <| sq <| bk <| sq <| rg <| vl (mv rfl) rfl <| vl (as_ rfl) rfl <| nl <| nT <| rg <| vl (fa LawS_fd_api_World_1 rfl) rfl <| vl (ld rfl (B_5.one LawS_ag_S_api_Cell rfl)) rfl <| vl (fa LawS_fd_api_World_1 rfl) rfl <| vl (ld rfl (B_5.one LawS_ag_S_api_Cell rfl)) rfl <| vl (cp Try.underlying43 rfl) rfl <| vl (sx Try.underlying43 LawS_sz_api_Cell rfl rfl) rfl <| vl (mv rfl) rfl <| vl (iA k Try.underlying43 LawS_sz_api_Cell rfl rfl (RB.adr (Nat.zero_lt_of_lt (show k < _ from (by omega)))) rfl (by omega)) rfl <| vl (fa LawS_fd_api_Cell_0 rfl) rfl <| ?_
          obtain ⟨v_70, hv_71⟩ := RB.get (i := k) (by omega)
          refine vl (ld rfl (Lds.one LawS_ag_int hv_71)) rfl <| vl (badW rfl rfl) rfl <| vl (iA k Try.underlying43 LawS_sz_api_Cell rfl rfl (RB.adr (Nat.zero_lt_of_lt (show k < _ from (by omega)))) rfl (by omega)) rfl <| vl (fa LawS_fd_api_Cell_0 rfl) rfl <| sr (i := k) RB (by omega) rfl rfl LawS_sz_int fun w_72 m_73 RB => ?_
          have q_74 := m_73.size
          have z_72 := z_59.md m_73 (fun q hq => .inl (foot_B hq))
          have q_75 := m_73.size
          refine nl <| nB <| nT <| rg <| vl (bad rfl rfl (inI (by omega))) rfl <| vl (mv rfl) rfl <| nl <| ?_
          have RP := RP.mod m_73 (fun q hq h => by exfalso; (exact dBP q h hq))
          have RS := RS.mod m_73 (fun q hq h => by exfalso; (exact dBS q h hq))
          have RM := RM.mod m_73 (fun q hq h => by exfalso; (exact dBM q h hq))
          have RT := RT.mod m_73 (fun q hq h => by exfalso; (exact dTB q hq h))
          have B_5 := B_5.mod m_73 (fun hq => eRB _ hq rfl)
          exact nI _ _ ⟨k + 1, rfl, rfl, z_72, RP, RS, RM, RB, RT, B_5, by omega⟩ (by omega) (.cons rfl (.cons rfl (.cons (loI rfl (by first | omega | rfl | (simp <;> omega))) .nil)))
        · refine xt <| xT <| xK <| xB <| nT <| sq <| rg <| vl (fa LawS_fd_api_World_4 rfl) rfl <| vl (ld rfl (B_5.one LawS_ag_S_api_Troop rfl)) rfl <| vl (fa LawS_fd_api_World_4 rfl) rfl <| vl (ld rfl (B_5.one LawS_ag_S_api_Troop rfl)) rfl <| vl (cp Try.underlying44 rfl) rfl <| vl (sx Try.underlying44 LawS_sz_api_Troop rfl rfl) rfl <| vl (ln Try.underlying44 rfl) rfl <| vl (mv rfl) rfl <| nl <| nT <| bk <| ?_
          refine lp (fun mI EI wI => ∃ k : Nat, EI = [(1, .pointer (some ⟨b_2, 0, none⟩)), (65, .int .i64 (a.t : Int)), (66, .int .i64 (k : Int))] ∧ mI = a.t - k ∧ Mod (WOwn.foot a) w wI ∧ Raw Z 1 0 wI a.P a.p ∧ Raw Z 1 0 wI a.S a.s ∧ Raw Z 1 0 wI a.M a.m ∧ Raw Z 2 0 wI a.B a.b ∧ Raw Z 7 5 wI a.T a.t ∧ Blk wI b_2 (Wd.cells a W) 46 (0, 0) ∧ (k ≤ a.t)) _ _ ⟨0, rfl, rfl, z_59, RP, RS, RM, RB, RT, B_5, by omega⟩ (.cons rfl (.cons rfl (.cons (loI rfl (by first | omega | rfl | (simp <;> omega))) .nil))) ?_
          rintro m_77 E_78 w_76 ⟨k, rfl, rfl, z_76, RP, RS, RM, RB, RT, B_5, hk⟩
          have q_79 := z_76.size
          have u_80 := fun q hq => (RP.lt q hq).2
          have u_81 := fun q hq => (RS.lt q hq).2
          have u_82 := fun q hq => (RM.lt q hq).2
          have u_83 := fun q hq => (RB.lt q hq).2
          have u_84 := fun q hq => (RT.lt q hq).2
          have q_85 := B_5.lt
          have hcap : (a.t : Int) ≤ 9223372036854775807 := by have := hW.caps; omega
          refine sq <| rg <| vl (blt rfl rfl) rfl <| nl <| nT <| sq <| ?_
          refine clt rfl (fun h_86 => ?_) (fun h_86 => ?_)
          · refine sk <| nT <| sq <| bk <| sq <| rg <| vl (mv rfl) rfl <| vl (as_ rfl) rfl <| nl <| nT <| rg <| vl (fa LawS_fd_api_World_4 rfl) rfl <| vl (ld rfl (B_5.one LawS_ag_S_api_Troop rfl)) rfl <| vl (fa LawS_fd_api_World_4 rfl) rfl <| vl (ld rfl (B_5.one LawS_ag_S_api_Troop rfl)) rfl <| vl (cp Try.underlying44 rfl) rfl <| vl (sx Try.underlying44 LawS_sz_api_Troop rfl rfl) rfl <| vl (mv rfl) rfl <| vl (iA k Try.underlying44 LawS_sz_api_Troop rfl rfl (RT.adr (Nat.zero_lt_of_lt (show k < _ from (by omega)))) rfl (by omega)) rfl <| vl (fa LawS_fd_api_Troop_4 rfl) rfl <| ?_
            obtain ⟨v_87, hv_88⟩ := RT.get (i := k) (by omega)
            refine vl (ld rfl (Lds.one LawS_ag_int hv_88)) rfl <| vl (badW rfl rfl) rfl <| vl (iA k Try.underlying44 LawS_sz_api_Troop rfl rfl (RT.adr (Nat.zero_lt_of_lt (show k < _ from (by omega)))) rfl (by omega)) rfl <| vl (fa LawS_fd_api_Troop_4 rfl) rfl <| sr (i := k) RT (by omega) rfl rfl LawS_sz_int fun w_89 m_90 RT => ?_
            have q_91 := m_90.size
            have z_89 := z_76.md m_90 (fun q hq => .inl (foot_T hq))
            have q_92 := m_90.size
            refine nl <| nB <| nT <| rg <| vl (bad rfl rfl (inI (by omega))) rfl <| vl (mv rfl) rfl <| nl <| ?_
            have RP := RP.mod m_90 (fun q hq h => by exfalso; (exact dTP q h hq))
            have RS := RS.mod m_90 (fun q hq h => by exfalso; (exact dTS q h hq))
            have RM := RM.mod m_90 (fun q hq h => by exfalso; (exact dTM q h hq))
            have RB := RB.mod m_90 (fun q hq h => by exfalso; (exact dTB q h hq))
            have B_5 := B_5.mod m_90 (fun hq => eRT _ hq rfl)
            exact nI _ _ ⟨k + 1, rfl, rfl, z_89, RP, RS, RM, RB, RT, B_5, by omega⟩ (by omega) (.cons rfl (.cons rfl (.cons (loI rfl (by first | omega | rfl | (simp <;> omega))) .nil)))
          · refine xt <| xT <| xK <| xB <| ne <| tR .nil <| ?_
            exact ⟨rfl, z_76⟩
end Go.Proofs.Ytkijhejjnlmbmaa
