import Derived.Test.YtlikikpgmmkjbaaGreatHsa
import Derived.Test.YtlikikpgmmkjbaaGreatRows
import Derived.ShutString
/-
  The law HostSame: for every input the program's function returns true, and what it was handed reads as it read before.
-/
namespace Go.Proofs.YtlikikpgmmkjbaaGreat.hostSameEnd
open Go.ChangeShapes Go.WideShapes Go.ChangeAt Go.RowKit
open Go.ChangeMaps (open_string shut_string)
abbrev aU9:=@Go.trodAll_cons_mk
abbrev aVo:=@Go.Proofs.Tryz.underlying3
set_option linter.unusedVariables false

theorem own : ownKnob Tryz.prog.godebug = none := by kernel_rfl
theorem laidOut : laidOutB Tryz.prog = true := by kernel_rfl

set_option maxRecDepth 100000 in
theorem contract (H : Type) (enc : TypeId × Value → H) (W : World) (base : Nat) (args : Array Value) (ds gs : List (DataW H)) (before : List MemPlace)
    (ahp : ∀ (j : Nat) t v, Tryz.f10.params[j]? = some t → args[j]? = some v → Value.okWide Tryz.prog W .any base t v)
    (bN : DataW.Whole enc Tryz.prog Tryz.f10.params.toList Rows.hostSameSpec.vars false W args.toList ds gs before)
    (Xi : (DataW.weightsEach Tryz.prog (Tryz.f10.params.toList ++ Rows.hostSameSpec.plain.varTypes Tryz.prog) (ds ++ gs)).all (· ≤ reachBytes) = true) :
    Calls Tryz.prog 10 args W fun e im => ∃ v, e = .returned v ∧ Rows.hostSameSpec.post enc Tryz.prog Tryz.f10 false true false false W args v im := by
  have hval : ∀ (j : Nat) t v, Tryz.f10.params[j]? = some t → args[j]? = some v → Value.okWide Tryz.prog W .any base t v := ahp;have au3 := bN;obtain ⟨p, q, EN, nw, rfl, av6, jH⟩ := bN;have hA : DataW.TrodAll enc Tryz.prog W 0 (fun _ => true) true Tryz.f10.params.toList args.toList ds p := EN;have ja : (DataW.weightsEach Tryz.prog (Tryz.f10.params.toList ++ Rows.hostSameSpec.plain.varTypes Tryz.prog) (ds ++ gs)).all (· ≤ reachBytes) = true := Xi;rw [Tryz.params10] at hA hval ja;obtain ⟨v0, aQJ, d0, aJp, ME, mT, Qc, rfl, rfl, aG, De⟩ := trodAll_cons hA;obtain ⟨v1, aQK, d1, aJq, eR, lF, rfl, rfl, rfl, κ, r1⟩ := trodAll_cons De;obtain ⟨v2, aQL, d2, aJr, fl, mU, rfl, rfl, rfl, aa, r2⟩ := trodAll_cons r1;obtain ⟨v3, aQM, d3, aJs, mn, vZ, rfl, rfl, rfl, aw, uB⟩ := trodAll_cons r2;obtain ⟨rfl, rfl, rfl⟩ := trodAll_nil uB;obtain rfl : args = #[v0, v1, v2, v3] := by cases args; simp_all
  obtain ⟨rfl, rfl⟩ := trodVars_none nw;have vM := aG;have azy : ∀ x ∈ ME, x.block < W.heap.size := by obtain ⟨m, hm⟩ := vM; exact DataW.trod_lt m _ _ _ hm
  obtain ⟨bX, rfl, _⟩ := okWide_struct Tryz.underlying28 (hval 0 28 v0 rfl rfl);have z0 := (ajY (P := Tryz.prog) (w := W) (.cons (.cons (.int .i64) (.cons (.int .i64) (.cons (.slice (.int .i64) 8) .nil))) (.cons (.slice (.cons (.int .i64) (.cons (.int .i64) .nil)) 16) (.cons (.slice (.int .i64) 8) (.cons (.slice (.int .i64) 8) (.cons (.slice (.cons (.int .i64) (.cons (.int .i64) (.cons (.int .i64) (.cons (.cons (.int .i64) (.cons (.int .i64) .nil)) (.cons (.int .i64) (.cons (.int .i64) .nil)))))) 56) (.cons (.int .i64) (.cons (.int .i64) .nil))))))) (j := 0) (t := 28) (by kernel_rfl) ja rfl rfl aG).2;obtain ⟨cf, rfl, rfl, rfl, aW⟩ := open_int aVo (hval 1 3 v1 rfl rfl) κ;have eD := aa;have azz : ∀ x ∈ fl, x.block < W.heap.size := by obtain ⟨m, hm⟩ := eD; exact DataW.trod_lt m _ _ _ hm
  obtain ⟨a2, Q0, O3, rfl⟩ := okWide_slice Tryz.underlying95 (hval 2 95 v2 rfl rfl);have z2 := (ajY (P := Tryz.prog) (w := W) (.slice (.cons (.int .i64) (.cons (.cons (.int .i64) (.cons (.int .i64) (.cons (.int .i64) (.cons (.cons (.int .i64) (.cons (.int .i64) .nil)) (.cons (.int .i64) .nil))))) (.cons (.int .i64) (.cons (.int .i64) .nil)))) 72) (j := 2) (t := 95) (by kernel_rfl) ja rfl rfl aa).2;obtain ⟨a3, rfl, rfl, rfl, w3⟩ := open_int aVo (hval 3 3 v3 rfl rfl) aw;clear EN ahp;refine (aw5 bX cf a2 Q0 O3 a3 W z0 aW z2 w3).mono fun e im ⟨he, T_⟩ => ?_;subst he;exact ⟨_, Z, _, _, _, [], _, [], au3, trodAll_mk1 (shut_bool Tryz.underlying4 _), (aU9 (Below.trod laidOut (by kernel_rfl) (aS3 (by kernel_rfl)) vM T_ azy) (aU9 (shut_int aVo aW) (aU9 (Below.trod laidOut (by kernel_rfl) (aS3 (by kernel_rfl)) eD T_ azz) (aU9 (shut_int aVo w3) trodAll_mk0)))), Z, T_.frame _, fun h => by cases h⟩

set_option maxRecDepth 100000 in
theorem lifted (os : Os) (started : os.Started) (H : Type) (enc : TypeId × Value → H) :
    ReturnsInHanded {} Tryz.checked os 10 .any (Rows.hostSameSpec.pre6 enc Tryz.prog Tryz.f10 Rows.hostSameRow.domain false) (Rows.hostSameSpec.post enc Tryz.prog Tryz.f10 false true false false) := by
  refine returnsInHanded_of_change_sized (C := Tryz.checked) own started (by kernel_rfl) Tryz.func10
    (ChangeSpec.witness6 (enc := enc) (C := Tryz.checked) false ⟨#[], #[.agg #[.int .i64 0, .int .i64 0, .slice none 0 0, .slice none 0 0, .slice none 0 0, .slice none 0 0, .slice none 0 0, .int .i64 0, .int .i64 0], .int .i64 0, .slice none 0 0, .int .i64 0], []⟩ 8 (by kernel_rfl) (by kernel_rfl) (by kernel_rfl) (by kernel_rfl)) ?_
  intro W base args ds gs before hval bN _ ja _;exact contract H enc W base args ds gs before hval bN ja

theorem proved : Rows.HostSameSaid :=
  OpenClaim.holds_of_wide 10 Tryz.f10 rfl rfl rfl rfl rfl rfl rfl ⟨rfl, rfl, rfl, rfl, rfl⟩ rfl rfl rfl rfl rfl (by kernel_rfl) Tryz.func10 (by kernel_rfl)
    (aS3 (by kernel_rfl)) (by unfold Func.isWrapper; first | (rw [aR5 (by decide +kernel)]; kernel_rfl) | (rw [aR0 (by decide +kernel)]; exact ⟨rfl, rfl⟩))
    (fun os started H enc _ => lifted os started H enc)
#print axioms proved
end Go.Proofs.YtlikikpgmmkjbaaGreat.hostSameEnd
