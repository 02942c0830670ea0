/-
  slices.Delete. (Printed by bin/funcd.py.)
-/
import Derived.Test.YtkijhejjnlmbmaaFnc
set_option linter.unusedVariables false
set_option linter.unusedSimpArgs false
namespace Go.Proofs.Ytkijhejjnlmbmaa
open Go.RowKit

theorem Fnd_sz_api_Troop : Sz Try.prog 51 7 := fun _ => by kernel_rfl
theorem Fnd_el_S_api_Troop : ElT Try.prog Trp.rep 44 51 56 := ElT.mk_ (z := Trp.zero) (k := 7) Try.underlying44 Trp.info rfl rfl (by decide) Trp.zero_raw
theorem sA_some {A : Option Addr} {c lo s : Nat} (hA : ∃ b, A = some ⟨b, 0, none⟩) : ∃ a, sA A c lo s = some a := by
  obtain ⟨b, rfl⟩ := hA
  unfold sA
  split
  · exact ⟨_, rfl⟩
  · exact ⟨_, rfl⟩
set_option maxRecDepth 100000 in
set_option maxHeartbeats 400000 in
theorem delAt_T (w0 : World) (A : Option Addr) (c i j : Nat) (l : List Trp) (w : World) (hx0 : Ext w0 w) (hO : Trp.rep.SOwn 51 56 w w0.heap.size (Rep.blkOf A) A c l) (hij : i < j) (hj : j ≤ l.length) :
    Calls Try.prog 37 #[.slice A l.length c, .int .i64 (i : Int), .int .i64 (j : Int)] w (fun e w' => e = .returned (.slice A (l.take i ++ l.drop j).length c) ∧ Trp.rep.SOwn 51 56 w' w0.heap.size (Rep.blkOf A) A c (l.take i ++ l.drop j) ∧ Mod (Rep.blkOf A) w w') := by
  have hl0 := hO.has
  have hll := hl0.len_le
  have hlc := hl0.1
  have hlb := hO.1
  have uA := fun q hq => (hO.lt q hq).2
  have lA : ∀ q ∈ Rep.blkOf A, w0.heap.size ≤ q := fun q hq => (hO.lt q hq).1
  have hx0s := hx0.size
  have hA := hO.block (by omega)
  have ht1 : (l.take i).length = i := by rw [List.length_take]; omega
  have ht2 : ((l.drop j).take (l.length - j)).length = l.length - j := by rw [List.length_take, List.length_drop]; omega
  refine calls_W (n := 33) Try.func37 rfl rfl rfl ?_
  refine sq <| rg <| vl (as_ rfl) rfl <| nl <| nT <| sq <| rg <| vl (mv rfl) rfl <| vl (mv rfl) rfl <| vl (mv rfl) rfl <| vl (mv rfl) rfl <| vl (ln Try.underlying44 rfl) rfl <| vl (s3 i j l.length Try.underlying44 Fnd_sz_api_Troop rfl rfl rfl rfl rfl rfl rfl (by omega) (by omega) (by omega)) rfl <| nl <| nT <| sq <| sq <| rg <| vl (mv rfl) rfl <| vl (mv rfl) rfl <| vl (beq rfl rfl) rfl <| nl <| nT <| ?_
  have h_1 : ((i : Int) == (j : Int)) = false := by simp only [beq_eq_false_iff_ne]; omega
  refine cF (by rw [← h_1]; rfl) <| sk <| nT <| sq <| rg <| vl (mv rfl) rfl <| vl (ln Try.underlying44 rfl) rfl <| vl (as_ rfl) rfl <| nl <| nT <| sq <| ?_
  refine rd [(6, 3)] [0, 1, 2, 3, 4, 5, 6, 7] (by kernel_rfl) (by kernel_rfl) ?_
  refine fw rfl rfl (fun _ => mv rfl) rfl <| fw rfl rfl (fun _ => mv rfl) rfl <| fw rfl rfl (fun _ => sP i (l.take i).length Try.underlying44 Fnd_sz_api_Troop rfl rfl rfl (by omega) ht1) rfl <| fw rfl rfl (fun _ => mv rfl) rfl <| fw rfl rfl (fun _ => mv rfl) rfl <| fw rfl rfl (fun _ => sT j Try.underlying44 Fnd_sz_api_Troop rfl rfl rfl (by omega)) rfl <| fb rfl rfl rfl fun w_2 x_3 Q hK => apf Fnd_el_S_api_Troop Rep.flat_bare (Rep.SOwn.cut (hO.later x_3) Rep.flat_bare i (by omega)) hA ((hO.later x_3).has.sub j l.length (by omega) (by omega)) (sA_some hA) rfl (by rw [ht2]; rfl) (by omega) (by omega) (Nat.le_trans hx0s (by have := x_3.size; omega)) rfl fun w_4 m_5 O_6 => hK _ _ ?_
  have q_7 := x_3.size
  have z_2 := (Mod.rf (Rep.blkOf A) w).trans (Mod.of_ext x_3)
  have q_8 := m_5.size
  have z_4 := z_2.md m_5 (fun q hq => .inl hq)
  refine fw rfl rfl (fun _ => as_ rfl) rfl <| fn fun w_9 x_10 => ?_
  have q_11 := x_10.size
  have z_9 := z_4.trans (Mod.of_ext x_10)
  refine nT <| sq <| rg <| vl (mv rfl) rfl <| vl (mv rfl) rfl <| vl (ln Try.underlying44 rfl) rfl <| vl (mv rfl) rfl <| vl (sI ((l.take i).length + ((l.drop j).take (l.length - j)).length) l.length Try.underlying44 Fnd_sz_api_Troop rfl rfl rfl rfl rfl (by omega) (by omega)) rfl <| ?_
  have O_6 := O_6.later x_10
  refine cl (k := (l.take i).length + ((l.drop j).take (l.length - j)).length) (q := l.length - ((l.take i).length + ((l.drop j).take (l.length - j)).length)) (z := Trp.zero) (m := 7) Try.underlying44 Trp.info rfl (by decide) rfl (by decide) Trp.zero_raw O_6 Rep.flat_bare (by rw [List.length_append]; omega) (by omega) (by omega) hA rfl fun w_12 m_13 O_14 => ?_
  have q_15 := m_13.size
  have z_12 := z_9.md m_13 (fun q hq => .inl hq)
  refine nl <| nT <| sq <| rg <| vl (mv rfl) rfl <| vl (as_ rfl) rfl <| nl <| nT <| rt <| tR (.tmp rfl .nil) <| ?_
  have hF := O_14
  rw [List.take_of_length_le (by rw [List.length_append]; exact Nat.le_refl _), List.take_of_length_le (l := l.drop j) (by rw [List.length_drop]; exact Nat.le_refl _)] at hF
  exact ⟨by rw [List.length_append, List.take_of_length_le (l := l.drop j) (by rw [List.length_drop]; exact Nat.le_refl _)]; rfl, hF, z_12⟩
end Go.Proofs.Ytkijhejjnlmbmaa
