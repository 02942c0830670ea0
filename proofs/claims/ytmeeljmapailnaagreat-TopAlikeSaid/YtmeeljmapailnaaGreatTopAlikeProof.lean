import Derived.Test.YtmeeljmapailnaaGreatTal
import Derived.Test.YtmeeljmapailnaaGreatRows
import Derived.ShutString
/-
  The law TopAlike: for every input the program's function returns true, and what it was handed reads as it read before.
-/
namespace Go.Proofs.YtmeeljmapailnaaGreat.topAlikeEnd
open Go.ChangeShapes Go.WideShapes Go.ChangeAt Go.RowKit
open Go.ChangeMaps (open_string shut_string)
abbrev aX3:=@Go.trodAll_cons_mk
set_option linter.unusedVariables false

theorem own : ownKnob Tryz.prog.godebug = none := by kernel_rfl
theorem laidOut : laidOutB Tryz.prog = true := by kernel_rfl

set_option maxRecDepth 100000 in
theorem contract (H : Type) (enc : TypeId × Value → H) (W : World) (base : Nat) (args : Array Value) (ds gs : List (DataW H)) (before : List MemPlace)
    (ahH : ∀ (j : Nat) t v, Tryz.f4.params[j]? = some t → args[j]? = some v → Value.okWide Tryz.prog W .any base t v)
    (b4 : DataW.Whole enc Tryz.prog Tryz.f4.params.toList Rows.topAlikeSpec.vars false W args.toList ds gs before)
    (Yj : (DataW.weightsEach Tryz.prog (Tryz.f4.params.toList ++ Rows.topAlikeSpec.plain.varTypes Tryz.prog) (ds ++ gs)).all (· ≤ reachBytes) = true) :
    Calls Tryz.prog 4 args W fun e iQ => ∃ v, e = .returned v ∧ Rows.topAlikeSpec.post enc Tryz.prog Tryz.f4 false true false false W args v iQ := by
  have hval : ∀ (j : Nat) t v, Tryz.f4.params[j]? = some t → args[j]? = some v → Value.okWide Tryz.prog W .any base t v := ahH;have awS := b4;obtain ⟨p, q, Fl, nu, rfl, ax3, jK⟩ := b4;have hA : DataW.TrodAll enc Tryz.prog W 0 (fun _ => true) true Tryz.f4.params.toList args.toList ds p := Fl;have jL : (DataW.weightsEach Tryz.prog (Tryz.f4.params.toList ++ Rows.topAlikeSpec.plain.varTypes Tryz.prog) (ds ++ gs)).all (· ≤ reachBytes) = true := Yj;rw [Tryz.params4] at hA hval jL;obtain ⟨v0, aSo, d0, aMs, Nb, ux, QU, rfl, rfl, aK, r0⟩ := trodAll_cons hA;obtain ⟨v1, aSp, d1, aMt, eH, gR, rfl, rfl, rfl, τ, r1⟩ := trodAll_cons r0;obtain ⟨v2, aSq, d2, aMu, fa, ia, rfl, rfl, rfl, ae, r2⟩ := trodAll_cons r1;obtain ⟨rfl, rfl, rfl⟩ := trodAll_nil r2;obtain rfl : args = #[v0, v1, v2] := by cases args; simp_all
  obtain ⟨rfl, rfl⟩ := trodVars_none nu;have rW := aK;have aBk : ∀ x ∈ Nb, x.block < W.heap.size := by obtain ⟨m, hm⟩ := rW; exact DataW.trod_lt m _ _ _ hm
  obtain ⟨bo, rfl, _⟩ := okWide_struct Tryz.underlying28 (hval 0 28 v0 rfl rfl);have z0 := (akq (P := Tryz.prog) (w := W) (.cons (.cons (.int .i64) (.cons (.int .i64) (.cons (.slice (.int .i64) 8) .nil))) (.cons (.slice (.cons (.int .i64) (.cons (.int .i64) .nil)) 16) (.cons (.slice (.int .i64) 8) (.cons (.slice (.int .i64) 8) (.cons (.slice (.cons (.int .i64) (.cons (.int .i64) (.cons (.int .i64) (.cons (.cons (.int .i64) (.cons (.int .i64) .nil)) (.cons (.int .i64) (.cons (.int .i64) .nil)))))) 56) (.cons (.int .i64) (.cons (.int .i64) .nil))))))) (j := 0) (t := 28) (by kernel_rfl) jL rfl rfl aK).2;obtain ⟨cF, rfl, rfl, rfl, aS⟩ := open_int Tryz.underlying3 (hval 1 3 v1 rfl rfl) τ;have eu := ae;have YU : ∀ x ∈ fa, x.block < W.heap.size := by obtain ⟨m, hm⟩ := eu; exact DataW.trod_lt m _ _ _ hm
  obtain ⟨a2, RF, PI, rfl⟩ := okWide_slice Tryz.underlying29 (hval 2 29 v2 rfl rfl);have z2 := (akq (P := Tryz.prog) (w := W) (.slice (.cons (.int .i64) (.cons (.cons (.int .i64) (.cons (.int .i64) (.cons (.int .i64) (.cons (.cons (.int .i64) (.cons (.int .i64) .nil)) (.cons (.int .i64) .nil))))) (.cons (.int .i64) (.cons (.int .i64) .nil)))) 72) (j := 2) (t := 29) (by kernel_rfl) jL rfl rfl ae).2;clear Fl ahH;refine (aGc bo cF a2 RF PI W z0 aS z2).mono fun e iQ ⟨he, Va⟩ => ?_;subst he;exact ⟨_, Z, _, _, _, [], _, [], awS, trodAll_mk1 (shut_bool Tryz.underlying4 _), (aX3 (Below.trod laidOut (by kernel_rfl) (aUK (by kernel_rfl)) rW Va aBk) (aX3 (shut_int Tryz.underlying3 aS) (aX3 (Below.trod laidOut (by kernel_rfl) (aUK (by kernel_rfl)) eu Va YU) trodAll_mk0))), Z, Va.frame _, fun h => by cases h⟩

set_option maxRecDepth 100000 in
theorem lifted (os : Os) (started : os.Started) (H : Type) (enc : TypeId × Value → H) :
    ReturnsInHanded {} Tryz.checked os 4 .any (Rows.topAlikeSpec.pre6 enc Tryz.prog Tryz.f4 Rows.topAlikeRow.domain false) (Rows.topAlikeSpec.post enc Tryz.prog Tryz.f4 false true false false) := by
  refine returnsInHanded_of_change_sized (C := Tryz.checked) own started (by kernel_rfl) Tryz.func4
    (ChangeSpec.witness6 (enc := enc) (C := Tryz.checked) false ⟨#[], #[.agg #[.int .i64 0, .int .i64 0, .slice none 0 0, .slice none 0 0, .slice none 0 0, .slice none 0 0, .slice none 0 0, .int .i64 0, .int .i64 0], .int .i64 0, .slice none 0 0], []⟩ 8 (by kernel_rfl) (by kernel_rfl) (by kernel_rfl) (by kernel_rfl)) ?_
  intro W base args ds gs before hval b4 _ jL _;exact contract H enc W base args ds gs before hval b4 jL

theorem proved : Rows.TopAlikeSaid :=
  OpenClaim.holds_of_wide 4 Tryz.f4 rfl rfl rfl rfl rfl rfl rfl ⟨rfl, rfl, rfl, rfl, rfl⟩ rfl rfl rfl rfl rfl (by kernel_rfl) Tryz.func4 (by kernel_rfl)
    (aUK (by kernel_rfl)) (by unfold Func.isWrapper; first | (rw [aTO (by decide +kernel)]; kernel_rfl) | (rw [aTL (by decide +kernel)]; exact ⟨rfl, rfl⟩))
    (fun os started H enc _ => lifted os started H enc)
#print axioms proved
end Go.Proofs.YtmeeljmapailnaaGreat.topAlikeEnd
