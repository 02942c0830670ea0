import Derived.Test.YtlikikpgmmkjbaaGreatRows
import Derived.Test.YtlikikpgmmkjbaaGreatSow
import Derived.ShutString
/-
  The law StoryOwn: for every input the program's function returns true, and what it was handed reads as it read before.
-/
namespace Go.Proofs.YtlikikpgmmkjbaaGreat.storyOwnEnd
open Go.ChangeShapes Go.WideShapes Go.ChangeAt Go.RowKit
open Go.ChangeMaps (open_string shut_string)
set_option linter.unusedVariables false

theorem own : ownKnob Tryz.prog.godebug = none := by kernel_rfl
theorem laidOut : laidOutB Tryz.prog = true := by kernel_rfl

set_option maxRecDepth 100000 in
theorem contract (H : Type) (enc : TypeId × Value → H) (W : World) (base : Nat) (args : Array Value) (ds gs : List (DataW H)) (before : List MemPlace)
    (ZB : ∀ (j : Nat) t v, Tryz.f7.params[j]? = some t → args[j]? = some v → Value.okWide Tryz.prog W .any base t v)
    (bs : DataW.Whole enc Tryz.prog Tryz.f7.params.toList Rows.storyOwnSpec.vars false W args.toList ds gs before)
    (Qz : (DataW.weightsEach Tryz.prog (Tryz.f7.params.toList ++ Rows.storyOwnSpec.plain.varTypes Tryz.prog) (ds ++ gs)).all (· ≤ reachBytes) = true) :
    Calls Tryz.prog 7 args W fun e gO => ∃ v, e = .returned v ∧ Rows.storyOwnSpec.post enc Tryz.prog Tryz.f7 false true false false W args v gO := by
  have hval : ∀ (j : Nat) t v, Tryz.f7.params[j]? = some t → args[j]? = some v → Value.okWide Tryz.prog W .any base t v := ZB;have alB := bs;obtain ⟨p, q, Ba, p7, rfl, amz, h6⟩ := bs;have hA : DataW.TrodAll enc Tryz.prog W 0 (fun _ => true) true Tryz.f7.params.toList args.toList ds p := Ba;have hH : (DataW.weightsEach Tryz.prog (Tryz.f7.params.toList ++ Rows.storyOwnSpec.plain.varTypes Tryz.prog) (ds ++ gs)).all (· ≤ reachBytes) = true := Qz;rw [Tryz.params7] at hA hval hH;obtain ⟨v0, aFE, d0, ay6, HK, kZ, KE, rfl, rfl, aE, zG⟩ := trodAll_cons hA;obtain ⟨v1, aFF, d1, ay7, dY, j1, rfl, rfl, rfl, γ, r1⟩ := trodAll_cons zG;obtain ⟨rfl, rfl, rfl⟩ := trodAll_nil r1;obtain rfl : args = #[v0, v1] := by cases args; simp_all
  obtain ⟨rfl, rfl⟩ := trodVars_none p7;have sk := aE;have apI : ∀ x ∈ HK, x.block < W.heap.size := by obtain ⟨m, hm⟩ := sk; exact DataW.trod_lt m _ _ _ hm
  obtain ⟨bL, rfl, _⟩ := okWide_struct Tryz.underlying31 (hval 0 31 v0 rfl rfl);have z0 := (abJ (P := Tryz.prog) (w := W) (.cons (.cons (.cons (.int .i64) (.cons (.int .i64) (.cons (.slice (.int .i64) 8) .nil))) (.cons (.slice (.cons (.int .i64) (.cons (.int .i64) .nil)) 16) (.cons (.slice (.int .i64) 8) (.cons (.slice (.int .i64) 8) (.cons (.slice (.cons (.int .i64) (.cons (.int .i64) (.cons (.int .i64) (.cons (.cons (.int .i64) (.cons (.int .i64) .nil)) (.cons (.int .i64) (.cons (.int .i64) .nil)))))) 56) (.cons (.int .i64) (.cons (.int .i64) .nil))))))) (.cons (.slice (.slice (.cons (.int .i64) (.cons (.int .i64) (.cons (.int .i64) (.cons (.cons (.int .i64) (.cons (.int .i64) .nil)) (.cons (.int .i64) .nil))))) 48) 24) .nil)) (j := 0) (t := 31) (by kernel_rfl) hH rfl rfl aE).2;have dk := γ;have apJ : ∀ x ∈ dY, x.block < W.heap.size := by obtain ⟨m, hm⟩ := dk; exact DataW.trod_lt m _ _ _ hm
  obtain ⟨b7, Li, JD, rfl⟩ := okWide_slice Tryz.underlying44 (hval 1 44 v1 rfl rfl);have jv := (abJ (P := Tryz.prog) (w := W) (.slice (.cons (.int .i64) (.cons (.int .i64) (.cons (.int .i64) (.cons (.cons (.int .i64) (.cons (.int .i64) .nil)) (.cons (.int .i64) .nil))))) 48) (j := 1) (t := 44) (by kernel_rfl) hH rfl rfl γ).2;clear Ba ZB;refine (atz bL b7 Li JD W z0 jv).mono fun e gO ⟨he, NY⟩ => ?_;subst he;exact ⟨_, Z, _, _, _, [], _, [], alB, trodAll_mk1 (shut_bool Tryz.underlying4 _), (trodAll_cons_mk (Below.trod laidOut (by kernel_rfl) (of_decide_eq_true (by kernel_rfl)) sk NY apI) (trodAll_cons_mk (Below.trod laidOut (by kernel_rfl) (of_decide_eq_true (by kernel_rfl)) dk NY apJ) trodAll_mk0)), Z, NY.frame _, fun h => by cases h⟩

set_option maxRecDepth 100000 in
theorem lifted (os : Os) (started : os.Started) (H : Type) (enc : TypeId × Value → H) :
    ReturnsInHanded {} Tryz.checked os 7 .any (Rows.storyOwnSpec.pre6 enc Tryz.prog Tryz.f7 Rows.storyOwnRow.domain false) (Rows.storyOwnSpec.post enc Tryz.prog Tryz.f7 false true false false) := by
  refine returnsInHanded_of_change_sized (C := Tryz.checked) own started (by kernel_rfl) Tryz.func7
    (ChangeSpec.witness6 (enc := enc) (C := Tryz.checked) false ⟨#[], #[.agg #[.int .i64 0, .int .i64 0, .slice none 0 0, .slice none 0 0, .slice none 0 0, .slice none 0 0, .slice none 0 0, .int .i64 0, .int .i64 0, .slice none 0 0], .slice none 0 0], []⟩ 8 (by kernel_rfl) (by kernel_rfl) (by kernel_rfl) (by kernel_rfl)) ?_
  intro W base args ds gs before hval bs _ hH _;exact contract H enc W base args ds gs before hval bs hH

theorem proved : Rows.StoryOwnSaid :=
  OpenClaim.holds_of_wide 7 Tryz.f7 rfl rfl rfl rfl rfl rfl rfl ⟨rfl, rfl, rfl, rfl, rfl⟩ rfl rfl rfl rfl rfl (by kernel_rfl) Tryz.func7 (by kernel_rfl)
    (of_decide_eq_true (by kernel_rfl)) (by unfold Func.isWrapper; first | (rw [if_pos (by decide +kernel)]; kernel_rfl) | (rw [if_neg (by decide +kernel)]; exact ⟨rfl, rfl⟩))
    (fun os started H enc _ => lifted os started H enc)
#print axioms proved
end Go.Proofs.YtlikikpgmmkjbaaGreat.storyOwnEnd
