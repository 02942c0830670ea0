/-
  slices.Reverse of cells. (Printed by bin/rev.py.)
-/
import Derived.Test.YtffjpfpbpnhmcaaRev
import Derived.Test.YtffjpfpbpnhmcaaGolB
import Derived.Test.YtffjpfpbpnhmcaaFnc
import Derived.Test.YtffjpfpbpnhmcaaWld
set_option linter.unusedVariables false
set_option linter.unusedSimpArgs false
namespace Go.Proofs.Ytffjpfpbpnhmcaa
open Go.RowKit

theorem RvC_sz_api_Cell : Sz Try.prog 32 2 := fun _ => by kernel_rfl
theorem RvC_ag_api_Cell : Ag Try.prog 32 true := fun _ => by kernel_rfl
set_option maxRecDepth 100000 in
set_option maxHeartbeats 400000 in
theorem reverse_C (A : Option Addr) (c Z : Nat) (l : List Cel) (w : World) (HO : Cel.rep.SOwn 32 16 w Z (Rep.blkOf A) A c (l)) (hok : ∀ y ∈ l, y.ok) :
    Calls Try.prog 60 #[.slice A l.length c] w (fun e w' => e = .returned (.tuple #[]) ∧ Cel.rep.SOwn 32 16 w' Z (Rep.blkOf A) A c (l.reverse) ∧ Mod (Rep.blkOf A) w w') := by
  have uO := fun q hq => (HO.lt q hq).2
  have hl63 := HO.has.len_le
  refine calls_W (n := 28) Try.func60 rfl rfl rfl ?_
  refine sq <| rg <| vl (mv rfl) rfl <| vl (ln Try.underlying25 rfl) rfl <| vl (bsu rfl rfl (inI (by omega))) rfl <| vl (as_ rfl) rfl <| vl (as_ rfl) rfl <| nl <| nT <| bk <| ?_
  refine lp (fun mI EI wI => ∃ k : Nat, ∃ J : Int, EI = [(0, .slice A l.length c), (2, .int .i64 (k : Int)), (3, .int .i64 J)] ∧ mI = (l.length - k) ∧ Mod (Rep.blkOf A) w wI ∧ Cel.rep.SOwn 32 16 wI Z (Rep.blkOf A) A c (Rv.rv l k) ∧ (J = (l.length : Int) - 1 - (k : Int)) ∧ (2 * k ≤ l.length)) _ _ ⟨0, ((l.length : Int) - 1), rfl, rfl, (Mod.rf (Rep.blkOf A) w), HO, by omega, by omega⟩ (.cons rfl (.cons (loI rfl (by first | omega | rfl | (simp <;> omega))) (.cons (loI rfl (by first | omega | rfl | (simp <;> omega))) .nil))) ?_
  rintro m_2 E_3 w_1 ⟨k, J, rfl, rfl, z_1, HR, hJ, hk⟩
  have q_4 := z_1.size
  have u_5 := fun q hq => (HR.lt q hq).2
  have hlr : (Rv.rv l k).length = l.length := Rv.rv_len
  have hokr : ∀ y ∈ Rv.rv l k, y.ok := fun y hy => hok y ((Rv.rv_perm k (by omega)).subset hy)
  refine sq <| sq <| rg <| vl (mv rfl) rfl <| vl (mv rfl) rfl <| vl (blt rfl rfl) rfl <| nl <| nT <| ?_
  refine clt rfl (fun h_6 => ?_) (fun h_6 => ?_)
  · refine sk <| nT <| sq <| bk <| ?_
    refine rd [(7, 0), (11, 0), (13, 3), (15, 3)] [0, 1, 2, 3, 4, 5, 6, 7, 8, 9, 10, 11, 12, 13, 14, 15] (by kernel_rfl) (by kernel_rfl) ?_
    refine fw rfl rfl (fun _ => mv rfl) rfl <| fw rfl rfl (fun _ => mv rfl) rfl <| fw rfl rfl (fun _ => mv rfl) rfl <| fw rfl rfl (fun _ => mv rfl) rfl <| fw rfl rfl (fun _ => mv rfl) rfl <| fw rfl rfl (fun _ => mv rfl) rfl <| fw rfl rfl (fun _ => iA J.toNat Try.underlying25 RvC_sz_api_Cell rfl rfl (HR.has.adr (Nat.zero_lt_of_lt (show J.toNat < _ from (by first | omega | (rw [List.length_set]; omega))))) (by omega) (by first | omega | (rw [List.length_set]; omega))) rfl <| fq rfl rfl (fun _ x => ld rfl (Rep.SHas.elt hcC ((HR.later x).has.adh (Nat.zero_lt_of_lt (show J.toNat < _ from (by first | omega | (rw [List.length_set]; omega))))) (get_d (l := Rv.rv l k) (u := default) (by first | omega | (rw [List.length_set]; omega))) RvC_ag_api_Cell RvC_sz_api_Cell)) rfl <| fw rfl rfl (fun _ => mv rfl) rfl <| fw rfl rfl (fun _ => mv rfl) rfl <| fw rfl rfl (fun _ => iA k Try.underlying25 RvC_sz_api_Cell rfl rfl (HR.has.adr (Nat.zero_lt_of_lt (show k < _ from (by first | omega | (rw [List.length_set]; omega))))) rfl (by first | omega | (rw [List.length_set]; omega))) rfl <| fq rfl rfl (fun _ x => ld rfl (Rep.SHas.elt hcC ((HR.later x).has.adh (Nat.zero_lt_of_lt (show k < _ from (by first | omega | (rw [List.length_set]; omega))))) (get_d (l := Rv.rv l k) (u := default) (by first | omega | (rw [List.length_set]; omega))) RvC_ag_api_Cell RvC_sz_api_Cell)) rfl <| fw rfl rfl (fun _ => iA k Try.underlying25 RvC_sz_api_Cell rfl rfl (HR.has.adr (Nat.zero_lt_of_lt (show k < _ from (by first | omega | (rw [List.length_set]; omega))))) rfl (by first | omega | (rw [List.length_set]; omega))) rfl <| fb rfl rfl rfl fun w_7 x_8 Q hK => soE (q' := (Rv.rv l k).getD J.toNat default) (i := k) (es := [.int .i64 (((Rv.rv l k).getD J.toNat default).x), .int .i64 (((Rv.rv l k).getD J.toNat default).y)]) (HR.later x_8) Rep.flat_bare (by first | omega | (rw [List.length_set]; omega)) rfl rfl rfl rfl (fun _ => ⟨rfl, (hokr _ (mem_dd (by omega)))⟩) RvC_sz_api_Cell fun w_9 m_10 O_11 => hK _ _ ?_
    have q_12 := x_8.size
    have z_7 := z_1.trans (Mod.of_ext x_8)
    have q_13 := m_10.size
    have z_9 := z_7.md m_10 (fun q hq => .inl hq)
    have q_14 := m_10.size
    refine fw rfl rfl (fun _ => iA J.toNat Try.underlying25 RvC_sz_api_Cell rfl rfl (O_11.has.adr (Nat.zero_lt_of_lt (show J.toNat < _ from (by first | omega | (rw [List.length_set]; omega))))) (by omega) (by first | omega | (rw [List.length_set]; omega))) rfl <| fb rfl rfl rfl fun w_15 x_16 Q hK => soE (q' := (Rv.rv l k).getD k default) (i := J.toNat) (es := [.int .i64 (((Rv.rv l k).getD k default).x), .int .i64 (((Rv.rv l k).getD k default).y)]) (O_11.later x_16) Rep.flat_bare (by first | omega | (rw [List.length_set]; omega)) rfl rfl rfl rfl (fun _ => ⟨rfl, (hokr _ (mem_dd (by omega)))⟩) RvC_sz_api_Cell fun w_17 m_18 O_19 => hK _ _ ?_
    have q_20 := x_16.size
    have z_15 := z_9.trans (Mod.of_ext x_16)
    have q_21 := m_18.size
    have z_17 := z_15.md m_18 (fun q hq => .inl hq)
    have q_22 := m_18.size
    refine fn fun w_23 x_24 => ?_
    have q_25 := x_24.size
    have z_23 := z_17.trans (Mod.of_ext x_24)
    refine nB <| nT <| rg <| vl (mv rfl) rfl <| vl (bad rfl rfl (inI (by omega))) rfl <| vl (mv rfl) rfl <| vl (bsu rfl rfl (inI (by omega))) rfl <| vl (as_ rfl) rfl <| vl (as_ rfl) rfl <| nl <| ?_
    have O_19 := O_19.later x_24
    exact nI _ _ ⟨k + 1, (J - 1), rfl, rfl, z_23, (by have h := O_19; rw [show J.toNat = l.length - 1 - k by omega] at h; exact h), by omega, by omega⟩ (by omega) (.cons rfl (.cons (loI rfl (by first | omega | rfl | (simp <;> omega))) (.cons (loI rfl (by first | omega | rfl | (simp <;> omega))) .nil)))
  · refine xt <| xT <| xK <| xB <| ne <| tR .nil <| ?_
    exact ⟨rfl, by have h := HR; rw [Rv.rv_end (by omega) (by omega)] at h; exact h, z_1⟩
end Go.Proofs.Ytffjpfpbpnhmcaa
