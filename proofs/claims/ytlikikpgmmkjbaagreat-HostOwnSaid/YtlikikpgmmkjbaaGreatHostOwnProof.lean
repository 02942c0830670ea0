import Derived.Test.YtlikikpgmmkjbaaGreatHow
import Derived.Test.YtlikikpgmmkjbaaGreatRows
import Derived.ShutString
/-
  The law HostOwn: for every input the program's function returns true, and what it was handed reads as it read before.
-/
namespace Go.Proofs.YtlikikpgmmkjbaaGreat.hostOwnEnd
open Go.ChangeShapes Go.WideShapes Go.ChangeAt Go.RowKit
open Go.ChangeMaps (open_string shut_string)
set_option linter.unusedVariables false

theorem own : ownKnob Tryz.prog.godebug = none := by kernel_rfl
theorem laidOut : laidOutB Tryz.prog = true := by kernel_rfl

set_option maxRecDepth 100000 in
theorem contract (H : Type) (enc : TypeId × Value → H) (W : World) (base : Nat) (args : Array Value) (ds gs : List (DataW H)) (before : List MemPlace)
    (aic : ∀ (j : Nat) t v, Tryz.f9.params[j]? = some t → args[j]? = some v → Value.okWide Tryz.prog W .any base t v)
    (bQ : DataW.Whole enc Tryz.prog Tryz.f9.params.toList Rows.hostOwnSpec.vars false W args.toList ds gs before)
    (X2 : (DataW.weightsEach Tryz.prog (Tryz.f9.params.toList ++ Rows.hostOwnSpec.plain.varTypes Tryz.prog) (ds ++ gs)).all (· ≤ reachBytes) = true) :
    Calls Tryz.prog 9 args W fun e iz => ∃ v, e = .returned v ∧ Rows.hostOwnSpec.post enc Tryz.prog Tryz.f9 false true false false W args v iz := by
  have hval : ∀ (j : Nat) t v, Tryz.f9.params[j]? = some t → args[j]? = some v → Value.okWide Tryz.prog W .any base t v := aic;have av8 := bQ;obtain ⟨p, q, Fy, qK, rfl, axl, iQ⟩ := bQ;have hA : DataW.TrodAll enc Tryz.prog W 0 (fun _ => true) true Tryz.f9.params.toList args.toList ds p := Fy;have jh : (DataW.weightsEach Tryz.prog (Tryz.f9.params.toList ++ Rows.hostOwnSpec.plain.varTypes Tryz.prog) (ds ++ gs)).all (· ≤ reachBytes) = true := X2;rw [Tryz.params9] at hA hval jh;obtain ⟨v0, aSY, d0, aKR, NH, nb, Q', rfl, rfl, aI, D3⟩ := trodAll_cons hA;obtain ⟨v1, aSZ, d1, aKS, eX, lM, rfl, rfl, rfl, γ, r1⟩ := trodAll_cons D3;obtain ⟨rfl, rfl, rfl⟩ := trodAll_nil r1;obtain rfl : args = #[v0, v1] := by cases args; simp_all
  obtain ⟨rfl, rfl⟩ := trodVars_none qK;have s9 := aI;have aAS : ∀ x ∈ NH, x.block < W.heap.size := by obtain ⟨m, hm⟩ := s9; exact DataW.trod_lt m _ _ _ hm
  obtain ⟨b3, rfl, _⟩ := okWide_struct Tryz.underlying85 (hval 0 85 v0 rfl rfl);have z0 := (akB (P := Tryz.prog) (w := W) (.cons (.cons (.cons (.cons (.int .i64) (.cons (.int .i64) (.cons (.slice (.int .i64) 8) .nil))) (.cons (.slice (.cons (.int .i64) (.cons (.int .i64) .nil)) 16) (.cons (.slice (.int .i64) 8) (.cons (.slice (.int .i64) 8) (.cons (.slice (.cons (.int .i64) (.cons (.int .i64) (.cons (.int .i64) (.cons (.cons (.int .i64) (.cons (.int .i64) .nil)) (.cons (.int .i64) (.cons (.int .i64) .nil)))))) 56) (.cons (.int .i64) (.cons (.int .i64) .nil))))))) (.cons (.slice (.slice (.cons (.int .i64) (.cons (.int .i64) (.cons (.int .i64) (.cons (.cons (.int .i64) (.cons (.int .i64) .nil)) (.cons (.int .i64) .nil))))) 48) 24) .nil)) (.cons (.slice (.cons (.slice (.cons (.int .i64) (.cons (.int .i64) (.cons (.int .i64) (.cons (.cons (.int .i64) (.cons (.int .i64) .nil)) (.cons (.int .i64) .nil))))) 48) (.cons (.int .i64) (.cons .bool .nil))) 40) (.cons (.cons (.int .u32) (.cons (.slice (.int .u32) 4) .nil)) (.cons (.int .i64) .nil)))) (j := 0) (t := 85) (by kernel_rfl) jh rfl rfl aI).2;have dF := γ;have aAT : ∀ x ∈ eX, x.block < W.heap.size := by obtain ⟨m, hm⟩ := dF; exact DataW.trod_lt m _ _ _ hm
  obtain ⟨c1, rfl, _⟩ := okWide_struct Tryz.underlying87 (hval 1 87 v1 rfl rfl);have lQ := (akB (P := Tryz.prog) (w := W) (.cons (.int .i64) (.cons (.cons (.int .i64) (.cons (.int .i64) (.cons (.int .i64) (.cons (.cons (.int .i64) (.cons (.int .i64) .nil)) (.cons (.int .i64) .nil))))) (.cons (.int .i64) (.cons (.int .i64) .nil)))) (j := 1) (t := 87) (by kernel_rfl) jh rfl rfl γ).2;clear Fy aic;refine (ayp b3 c1 W z0 lQ).mono fun e iz ⟨he, U6⟩ => ?_;subst he;exact ⟨_, Z, _, _, _, [], _, [], av8, trodAll_mk1 (shut_bool Tryz.underlying4 _), (trodAll_cons_mk (Below.trod laidOut (by kernel_rfl) (aVz (by kernel_rfl)) s9 U6 aAS) (trodAll_cons_mk (Below.trod laidOut (by kernel_rfl) (aVz (by kernel_rfl)) dF U6 aAT) trodAll_mk0)), Z, U6.frame _, fun h => by cases h⟩

set_option maxRecDepth 100000 in
theorem lifted (os : Os) (started : os.Started) (H : Type) (enc : TypeId × Value → H) :
    ReturnsInHanded {} Tryz.checked os 9 .any (Rows.hostOwnSpec.pre6 enc Tryz.prog Tryz.f9 Rows.hostOwnRow.domain false) (Rows.hostOwnSpec.post enc Tryz.prog Tryz.f9 false true false false) := by
  refine returnsInHanded_of_change_sized (C := Tryz.checked) own started (by kernel_rfl) Tryz.func9
    (ChangeSpec.witness6 (enc := enc) (C := Tryz.checked) false ⟨#[], #[.agg #[.int .i64 0, .int .i64 0, .slice none 0 0, .slice none 0 0, .slice none 0 0, .slice none 0 0, .slice none 0 0, .int .i64 0, .int .i64 0, .slice none 0 0, .slice none 0 0, .int .u32 0, .slice none 0 0, .int .i64 0], .agg #[.int .i64 0, .int .i64 0, .int .i64 0, .int .i64 0, .int .i64 0, .int .i64 0, .int .i64 0, .int .i64 0, .int .i64 0]], []⟩ 8 (by kernel_rfl) (by kernel_rfl) (by kernel_rfl) (by kernel_rfl)) ?_
  intro W base args ds gs before hval bQ _ jh _;exact contract H enc W base args ds gs before hval bQ jh

theorem proved : Rows.HostOwnSaid :=
  OpenClaim.holds_of_wide 9 Tryz.f9 rfl rfl rfl rfl rfl rfl rfl ⟨rfl, rfl, rfl, rfl, rfl⟩ rfl rfl rfl rfl rfl (by kernel_rfl) Tryz.func9 (by kernel_rfl)
    (aVz (by kernel_rfl)) (by unfold Func.isWrapper; first | (rw [aUz (by decide +kernel)]; kernel_rfl) | (rw [aUr (by decide +kernel)]; exact ⟨rfl, rfl⟩))
    (fun os started H enc _ => lifted os started H enc)
#print axioms proved
end Go.Proofs.YtlikikpgmmkjbaaGreat.hostOwnEnd
