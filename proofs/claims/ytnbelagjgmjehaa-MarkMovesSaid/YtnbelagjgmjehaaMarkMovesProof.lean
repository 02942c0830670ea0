/-
  The law MarkMoves: for every input the program's function returns true, and what it was handed reads as it read before.
-/
import Derived.Test.YtnbelagjgmjehaaRows
import Derived.Test.YtnbelagjgmjehaaMarkMoves
import Derived.WalkKit
import Derived.ProofKit
import Derived.OpenShut
import Derived.ShutString
import Derived.ChangeOld
import Derived.Below
import Derived.SizedLaws
namespace Go.Proofs.Ytnbelagjgmjehaa.markMovesEnd
open Go.ChangeShapes Go.WideShapes Go.ChangeAt Go.RowKit
open Go.ChangeMaps (open_string shut_string)
set_option linter.unusedVariables false

theorem own : ownKnob Try.prog.godebug = none := by kernel_rfl
theorem laidOut : laidOutB Try.prog = true := by kernel_rfl
theorem bytes0 : Try.prog.bytesOf 35 = 8 := by kernel_rfl
theorem bytes1 : Try.prog.bytesOf 3 = 8 := by kernel_rfl
theorem bytes2 : Try.prog.bytesOf 35 = 8 := by kernel_rfl

set_option maxRecDepth 100000 in
theorem contract (H : Type) (enc : TypeId × Value → H) (W : World) (base : Nat) (args : Array Value) (ds gs : List (DataW H)) (before : List MemPlace)
    (hval0 : ∀ (j : Nat) t v, Try.f11.params[j]? = some t → args[j]? = some v → Value.okWide Try.prog W .any base t v)
    (hW : DataW.Whole enc Try.prog Try.f11.params.toList Rows.markMovesSpec.vars false W args.toList ds gs before)
    (hsz0 : (DataW.weightsEach Try.prog (Try.f11.params.toList ++ Rows.markMovesSpec.plain.varTypes Try.prog) (ds ++ gs)).all (· ≤ reachBytes) = true) :
    Calls Try.prog 11 args W fun e W' => ∃ v, e = .returned v ∧ Rows.markMovesSpec.post enc Try.prog Try.f11 false true false false W args v W' := by
  have hval : ∀ (j : Nat) t v, Try.f11.params[j]? = some t → args[j]? = some v → Value.okWide Try.prog W .any base t v := hval0
  have hW' := hW
  obtain ⟨p, q, hA0, hV, rfl, hfz, hnd⟩ := hW
  have hA : DataW.TrodAll enc Try.prog W 0 (fun _ => true) true Try.f11.params.toList args.toList ds p := hA0
  have hsz : (DataW.weightsEach Try.prog (Try.f11.params.toList ++ Rows.markMovesSpec.plain.varTypes Try.prog) (ds ++ gs)).all (· ≤ reachBytes) = true := hsz0
  rw [Try.params11] at hA hval hsz
  obtain ⟨v0, vs0, d0, ds0, p0, q0, hargs, rfl, rfl, h0, r0⟩ := trodAll_cons hA
  obtain ⟨v1, vs1, d1, ds1, p1, q1, rfl, rfl, rfl, h1, r1⟩ := trodAll_cons r0
  obtain ⟨v2, vs2, d2, ds2, p2, q2, rfl, rfl, rfl, h2, r2⟩ := trodAll_cons r1
  obtain ⟨rfl, rfl, rfl⟩ := trodAll_nil r2
  obtain rfl : args = #[v0, v1, v2] := by cases args; simp_all
  obtain ⟨rfl, rfl⟩ := trodVars_none hV
  obtain ⟨a0, len0, cap0, rfl⟩ := okWide_slice Try.underlying47 (hval 0 47 v0 rfl rfl)
  have k0 := h0
  have lt0 : ∀ x ∈ p0, x.block < W.heap.size := by obtain ⟨m, hm⟩ := k0; exact DataW.trod_lt m _ _ _ hm
  obtain ⟨z0, w0, s0, hd0⟩ : ∃ zs, IsRow .u64 W a0 len0 cap0 zs ∧ cap0 * 8 ≤ 140737488351232 ∧ True := by
    obtain ⟨fuel, hf⟩ := h0
    rcases open_ints Try.underlying47 Try.underlying35 (by kernel_rfl) hf with ⟨hcs, hx⟩ | ⟨x, l, c, zs, hcs, _, hl, hm, hz, hx, hcell, hwz⟩
    · simp [Value.cells] at hcs
      obtain ⟨rfl, rfl, rfl⟩ := hcs
      exact ⟨[], .inl ⟨rfl, rfl, rfl, rfl⟩, by omega, trivial⟩
    · simp [Value.cells] at hcs
      obtain ⟨rfl, rfl, rfl⟩ := hcs
      have hd : d0 = .slice ((zs.take len0).map fun n => .lit (.int .u64 n)) ((zs.drop len0).map fun n => .lit (.int .u64 n)) := by
        first | exact hx.1 | exact (Prod.mk.inj hx).1
      have hr := sized_slice hsz (j := 0) (t := 47) (e := 35) rfl (by rw [hd]; rfl) Try.underlying47
      rw [bytes0] at hr
      simp only [List.length_map, List.length_take, List.length_drop, reachBytes] at hr
      have hz' : zs.length = cap0 := by simpa using hz
      have hr' : cap0 * 8 ≤ 140737488351232 := by
        have e : min len0 zs.length + (zs.length - len0) = cap0 := by omega
        rw [e] at hr; exact hr
      exact ⟨zs, .inr ⟨_, rfl, hl, hm, hz', hcell, hwz⟩, hr', trivial⟩
  obtain ⟨a1, len1, cap1, rfl⟩ := okWide_slice Try.underlying48 (hval 1 48 v1 rfl rfl)
  have k1 := h1
  have lt1 : ∀ x ∈ p1, x.block < W.heap.size := by obtain ⟨m, hm⟩ := k1; exact DataW.trod_lt m _ _ _ hm
  obtain ⟨z1, w1, s1, hd1⟩ : ∃ zs, IsRow .i64 W a1 len1 cap1 zs ∧ cap1 * 8 ≤ 140737488351232 ∧ True := by
    obtain ⟨fuel, hf⟩ := h1
    rcases open_ints Try.underlying48 Try.underlying3 (by kernel_rfl) hf with ⟨hcs, hx⟩ | ⟨x, l, c, zs, hcs, _, hl, hm, hz, hx, hcell, hwz⟩
    · simp [Value.cells] at hcs
      obtain ⟨rfl, rfl, rfl⟩ := hcs
      exact ⟨[], .inl ⟨rfl, rfl, rfl, rfl⟩, by omega, trivial⟩
    · simp [Value.cells] at hcs
      obtain ⟨rfl, rfl, rfl⟩ := hcs
      have hd : d1 = .slice ((zs.take len1).map fun n => .lit (.int .i64 n)) ((zs.drop len1).map fun n => .lit (.int .i64 n)) := by
        first | exact hx.1 | exact (Prod.mk.inj hx).1
      have hr := sized_slice hsz (j := 1) (t := 48) (e := 3) rfl (by rw [hd]; rfl) Try.underlying48
      rw [bytes1] at hr
      simp only [List.length_map, List.length_take, List.length_drop, reachBytes] at hr
      have hz' : zs.length = cap1 := by simpa using hz
      have hr' : cap1 * 8 ≤ 140737488351232 := by
        have e : min len1 zs.length + (zs.length - len1) = cap1 := by omega
        rw [e] at hr; exact hr
      exact ⟨zs, .inr ⟨_, rfl, hl, hm, hz', hcell, hwz⟩, hr', trivial⟩
  obtain ⟨a2, len2, cap2, rfl⟩ := okWide_slice Try.underlying47 (hval 2 47 v2 rfl rfl)
  have k2 := h2
  have lt2 : ∀ x ∈ p2, x.block < W.heap.size := by obtain ⟨m, hm⟩ := k2; exact DataW.trod_lt m _ _ _ hm
  obtain ⟨z2, w2, s2, hd2⟩ : ∃ zs, IsRow .u64 W a2 len2 cap2 zs ∧ cap2 * 8 ≤ 140737488351232 ∧ True := by
    obtain ⟨fuel, hf⟩ := h2
    rcases open_ints Try.underlying47 Try.underlying35 (by kernel_rfl) hf with ⟨hcs, hx⟩ | ⟨x, l, c, zs, hcs, _, hl, hm, hz, hx, hcell, hwz⟩
    · simp [Value.cells] at hcs
      obtain ⟨rfl, rfl, rfl⟩ := hcs
      exact ⟨[], .inl ⟨rfl, rfl, rfl, rfl⟩, by omega, trivial⟩
    · simp [Value.cells] at hcs
      obtain ⟨rfl, rfl, rfl⟩ := hcs
      have hd : d2 = .slice ((zs.take len2).map fun n => .lit (.int .u64 n)) ((zs.drop len2).map fun n => .lit (.int .u64 n)) := by
        first | exact hx.1 | exact (Prod.mk.inj hx).1
      have hr := sized_slice hsz (j := 2) (t := 47) (e := 35) rfl (by rw [hd]; rfl) Try.underlying47
      rw [bytes2] at hr
      simp only [List.length_map, List.length_take, List.length_drop, reachBytes] at hr
      have hz' : zs.length = cap2 := by simpa using hz
      have hr' : cap2 * 8 ≤ 140737488351232 := by
        have e : min len2 zs.length + (zs.length - len2) = cap2 := by omega
        rw [e] at hr; exact hr
      exact ⟨zs, .inr ⟨_, rfl, hl, hm, hz', hcell, hwz⟩, hr', trivial⟩
  clear hA0 hval0
  refine (Mark.moves_walk a0 len0 cap0 z0 a1 len1 cap1 z1 a2 len2 cap2 z2 W w0 s0 w1 s1 w2 s2).mono fun e W' ⟨he, bel⟩ => ?_
  subst he
  exact ⟨_, rfl, _, _, _, [], _, [], hW', trodAll_mk1 (shut_bool Try.underlying4 _), (trodAll_cons_mk (Below.trod laidOut (by kernel_rfl) (of_decide_eq_true (by kernel_rfl)) k0 bel lt0) (trodAll_cons_mk (Below.trod laidOut (by kernel_rfl) (of_decide_eq_true (by kernel_rfl)) k1 bel lt1) (trodAll_cons_mk (Below.trod laidOut (by kernel_rfl) (of_decide_eq_true (by kernel_rfl)) k2 bel lt2) trodAll_mk0))), rfl, bel.frame _, fun h => by cases h⟩

set_option maxRecDepth 100000 in
theorem lifted (os : Os) (started : os.Started) (H : Type) (enc : TypeId × Value → H) :
    ReturnsInHanded {} Try.checked os 11 .any (Rows.markMovesSpec.pre6 enc Try.prog Try.f11 Rows.markMovesRow.domain false) (Rows.markMovesSpec.post enc Try.prog Try.f11 false true false false) := by
  refine returnsInHanded_of_change_sized (C := Try.checked) own started (by kernel_rfl) Try.func11
    (ChangeSpec.witness6 (enc := enc) (C := Try.checked) false ⟨#[], #[.slice none 0 0, .slice none 0 0, .slice none 0 0], []⟩ 8 (by kernel_rfl) (by kernel_rfl) (by kernel_rfl) (by kernel_rfl)) ?_
  intro W base args ds gs before hval hW _ hsz _
  exact contract H enc W base args ds gs before hval hW hsz

theorem proved : Rows.MarkMovesSaid :=
  OpenClaim.holds_of_wide 11 Try.f11 rfl rfl rfl rfl rfl rfl rfl ⟨rfl, rfl, rfl, rfl, rfl⟩ rfl rfl rfl rfl rfl (by kernel_rfl) Try.func11 (by kernel_rfl)
    (of_decide_eq_true (by kernel_rfl)) (by unfold Func.isWrapper; first | (rw [if_pos (by decide +kernel)]; kernel_rfl) | (rw [if_neg (by decide +kernel)]; exact ⟨rfl, rfl⟩))
    (fun os started H enc _ => lifted os started H enc)
#print axioms proved
end Go.Proofs.Ytnbelagjgmjehaa.markMovesEnd
