import Derived.Test.YtmeeljmapailnaaGreatTwo
import Derived.Test.YtmeeljmapailnaaGreatRows
import Derived.ShutString
/-
  The law TopWorth: for every input the program's function returns true, and what it was handed reads as it read before.
-/
namespace Go.Proofs.YtmeeljmapailnaaGreat.topWorthEnd
open Go.ChangeShapes Go.WideShapes Go.ChangeAt Go.RowKit
open Go.ChangeMaps (open_string shut_string)
abbrev aWc:=@Go.trodAll_cons_mk
set_option linter.unusedVariables false

theorem own : ownKnob Tryz.prog.godebug = none := by kernel_rfl
theorem laidOut : laidOutB Tryz.prog = true := by kernel_rfl

set_option maxRecDepth 100000 in
theorem contract (H : Type) (enc : TypeId × Value → H) (W : World) (base : Nat) (args : Array Value) (ds gs : List (DataW H)) (before : List MemPlace)
    (ahH : ∀ (j : Nat) t v, Tryz.f3.params[j]? = some t → args[j]? = some v → Value.okWide Tryz.prog W .any base t v)
    (bG : DataW.Whole enc Tryz.prog Tryz.f3.params.toList Rows.topWorthSpec.vars false W args.toList ds gs before)
    (XI : (DataW.weightsEach Tryz.prog (Tryz.f3.params.toList ++ Rows.topWorthSpec.plain.varTypes Tryz.prog) (ds ++ gs)).all (· ≤ reachBytes) = true) :
    Calls Tryz.prog 3 args W fun e iI => ∃ v, e = .returned v ∧ Rows.topWorthSpec.post enc Tryz.prog Tryz.f3 false true false false W args v iI := by
  have hval : ∀ (j : Nat) t v, Tryz.f3.params[j]? = some t → args[j]? = some v → Value.okWide Tryz.prog W .any base t v := ahH;have avy := bG;obtain ⟨p, q, FK, lA, rfl, awA, j4⟩ := bG;have hA : DataW.TrodAll enc Tryz.prog W 0 (fun _ => true) true Tryz.f3.params.toList args.toList ds p := FK;have jz : (DataW.weightsEach Tryz.prog (Tryz.f3.params.toList ++ Rows.topWorthSpec.plain.varTypes Tryz.prog) (ds ++ gs)).all (· ≤ reachBytes) = true := XI;rw [Tryz.params3] at hA hval jz;obtain ⟨v0, aQP, d0, aJq, Nl, ni, QN, rfl, rfl, aG, D8⟩ := trodAll_cons hA;obtain ⟨v1, aQQ, d1, aJr, eM, lX, rfl, rfl, rfl, κ, r1⟩ := trodAll_cons D8;obtain ⟨v2, aQR, d2, aJs, ft, nj, rfl, rfl, rfl, ab, r2⟩ := trodAll_cons r1;obtain ⟨rfl, rfl, rfl⟩ := trodAll_nil r2;obtain rfl : args = #[v0, v1, v2] := by cases args; simp_all
  obtain ⟨rfl, rfl⟩ := trodVars_none lA;have wm := aG;have azN : ∀ x ∈ Nl, x.block < W.heap.size := by obtain ⟨m, hm⟩ := wm; exact DataW.trod_lt m _ _ _ hm
  obtain ⟨bZ, rfl, _⟩ := okWide_struct Tryz.underlying28 (hval 0 28 v0 rfl rfl);have z0 := (akv (P := Tryz.prog) (w := W) (.cons (.cons (.int .i64) (.cons (.int .i64) (.cons (.slice (.int .i64) 8) .nil))) (.cons (.slice (.cons (.int .i64) (.cons (.int .i64) .nil)) 16) (.cons (.slice (.int .i64) 8) (.cons (.slice (.int .i64) 8) (.cons (.slice (.cons (.int .i64) (.cons (.int .i64) (.cons (.int .i64) (.cons (.cons (.int .i64) (.cons (.int .i64) .nil)) (.cons (.int .i64) (.cons (.int .i64) .nil)))))) 56) (.cons (.int .i64) (.cons (.int .i64) .nil))))))) (j := 0) (t := 28) (by kernel_rfl) jz rfl rfl aG).2;obtain ⟨ck, rfl, rfl, rfl, aT⟩ := open_int Tryz.underlying3 (hval 1 3 v1 rfl rfl) κ;have ez := ab;have azO : ∀ x ∈ ft, x.block < W.heap.size := by obtain ⟨m, hm⟩ := ez; exact DataW.trod_lt m _ _ _ hm
  obtain ⟨a2, Ry, PE, rfl⟩ := okWide_slice Tryz.underlying29 (hval 2 29 v2 rfl rfl);have z2 := (akv (P := Tryz.prog) (w := W) (.slice (.cons (.int .i64) (.cons (.cons (.int .i64) (.cons (.int .i64) (.cons (.int .i64) (.cons (.cons (.int .i64) (.cons (.int .i64) .nil)) (.cons (.int .i64) .nil))))) (.cons (.int .i64) (.cons (.int .i64) .nil)))) 72) (j := 2) (t := 29) (by kernel_rfl) jz rfl rfl ab).2;clear FK ahH;refine (aDI bZ ck a2 Ry PE W z0 aT z2).mono fun e iI ⟨he, UF⟩ => ?_;subst he;exact ⟨_, Z, _, _, _, [], _, [], avy, trodAll_mk1 (shut_bool Tryz.underlying4 _), (aWc (Below.trod laidOut (by kernel_rfl) (aS5 (by kernel_rfl)) wm UF azN) (aWc (shut_int Tryz.underlying3 aT) (aWc (Below.trod laidOut (by kernel_rfl) (aS5 (by kernel_rfl)) ez UF azO) trodAll_mk0))), Z, UF.frame _, fun h => by cases h⟩

set_option maxRecDepth 100000 in
theorem lifted (os : Os) (started : os.Started) (H : Type) (enc : TypeId × Value → H) :
    ReturnsInHanded {} Tryz.checked os 3 .any (Rows.topWorthSpec.pre6 enc Tryz.prog Tryz.f3 Rows.topWorthRow.domain false) (Rows.topWorthSpec.post enc Tryz.prog Tryz.f3 false true false false) := by
  refine returnsInHanded_of_change_sized (C := Tryz.checked) own started (by kernel_rfl) Tryz.func3
    (ChangeSpec.witness6 (enc := enc) (C := Tryz.checked) false ⟨#[], #[.agg #[.int .i64 0, .int .i64 0, .slice none 0 0, .slice none 0 0, .slice none 0 0, .slice none 0 0, .slice none 0 0, .int .i64 0, .int .i64 0], .int .i64 0, .slice none 0 0], []⟩ 8 (by kernel_rfl) (by kernel_rfl) (by kernel_rfl) (by kernel_rfl)) ?_
  intro W base args ds gs before hval bG _ jz _;exact contract H enc W base args ds gs before hval bG jz

theorem proved : Rows.TopWorthSaid :=
  OpenClaim.holds_of_wide 3 Tryz.f3 rfl rfl rfl rfl rfl rfl rfl ⟨rfl, rfl, rfl, rfl, rfl⟩ rfl rfl rfl rfl rfl (by kernel_rfl) Tryz.func3 (by kernel_rfl)
    (aS5 (by kernel_rfl)) (by unfold Func.isWrapper; first | (rw [aR8 (by decide +kernel)]; kernel_rfl) | (rw [aR5 (by decide +kernel)]; exact ⟨rfl, rfl⟩))
    (fun os started H enc _ => lifted os started H enc)
#print axioms proved
end Go.Proofs.YtmeeljmapailnaaGreat.topWorthEnd
