import Derived.Test.YtmeeljmapailnaaGreatTen
import Derived.Test.YtmeeljmapailnaaGreatRows
import Derived.ShutString
/-
  The law TopEnds: for every input the program's function returns true, and what it was handed reads as it read before.
-/
namespace Go.Proofs.YtmeeljmapailnaaGreat.topEndsEnd
open Go.ChangeShapes Go.WideShapes Go.ChangeAt Go.RowKit
open Go.ChangeMaps (open_string shut_string)
abbrev bbF:=@Go.trodAll_cons_mk
abbrev bbV:=@Go.Proofs.Tryz.underlying3
set_option linter.unusedVariables false

theorem own : ownKnob Tryz.prog.godebug = none := by kernel_rfl
theorem laidOut : laidOutB Tryz.prog = true := by kernel_rfl

set_option maxRecDepth 100000 in
theorem contract (H : Type) (enc : TypeId × Value → H) (W : World) (base : Nat) (args : Array Value) (ds gs : List (DataW H)) (before : List MemPlace)
    (alh : ∀ (j : Nat) t v, Tryz.f5.params[j]? = some t → args[j]? = some v → Value.okWide Tryz.prog W .any base t v)
    (bZ : DataW.Whole enc Tryz.prog Tryz.f5.params.toList Rows.topEndsSpec.vars false W args.toList ds gs before)
    (abm : (DataW.weightsEach Tryz.prog (Tryz.f5.params.toList ++ Rows.topEndsSpec.plain.varTypes Tryz.prog) (ds ++ gs)).all (· ≤ reachBytes) = true) :
    Calls Tryz.prog 5 args W fun e jv => ∃ v, e = .returned v ∧ Rows.topEndsSpec.post enc Tryz.prog Tryz.f5 false true false false W args v jv := by
  have hval : ∀ (j : Nat) t v, Tryz.f5.params[j]? = some t → args[j]? = some v → Value.okWide Tryz.prog W .any base t v := alh;have aAX := bZ;obtain ⟨p, q, HV, l3, rfl, aB6, kE⟩ := bZ;have hA : DataW.TrodAll enc Tryz.prog W 0 (fun _ => true) true Tryz.f5.params.toList args.toList ds p := HV;have kF : (DataW.weightsEach Tryz.prog (Tryz.f5.params.toList ++ Rows.topEndsSpec.plain.varTypes Tryz.prog) (ds ++ gs)).all (· ≤ reachBytes) = true := abm;rw [Tryz.params5] at hA hval kF;obtain ⟨v0, aW6, d0, aQE, IU, wv, TC, rfl, rfl, aG, F5⟩ := trodAll_cons hA;obtain ⟨v1, aW7, d1, aQF, nO, lM, rfl, rfl, rfl, κ, r1⟩ := trodAll_cons F5;obtain ⟨v2, aW8, d2, aQG, pB, nt, rfl, rfl, rfl, τ, r2⟩ := trodAll_cons r1;obtain ⟨v3, aW9, d3, aQH, nP, Bt, rfl, rfl, rfl, au, wx⟩ := trodAll_cons r2;obtain ⟨rfl, rfl, rfl⟩ := trodAll_nil wx;obtain rfl : args = #[v0, v1, v2, v3] := by cases args; simp_all
  obtain ⟨rfl, rfl⟩ := trodVars_none l3;have xJ := aG;have aFT : ∀ x ∈ IU, x.block < W.heap.size := by obtain ⟨m, hm⟩ := xJ; exact DataW.trod_lt m _ _ _ hm
  obtain ⟨ck, rfl, _⟩ := okWide_struct Tryz.underlying28 (hval 0 28 v0 rfl rfl);have z0 := (anP (P := Tryz.prog) (w := W) (.cons (.cons (.int .i64) (.cons (.int .i64) (.cons (.slice (.int .i64) 8) .nil))) (.cons (.slice (.cons (.int .i64) (.cons (.int .i64) .nil)) 16) (.cons (.slice (.int .i64) 8) (.cons (.slice (.int .i64) 8) (.cons (.slice (.cons (.int .i64) (.cons (.int .i64) (.cons (.int .i64) (.cons (.cons (.int .i64) (.cons (.int .i64) .nil)) (.cons (.int .i64) (.cons (.int .i64) .nil)))))) 56) (.cons (.int .i64) (.cons (.int .i64) .nil))))))) (j := 0) (t := 28) (by kernel_rfl) kF rfl rfl aG).2;obtain ⟨b2, rfl, rfl, rfl, w1⟩ := open_int bbV (hval 1 3 v1 rfl rfl) κ;have dN := τ;have aFU : ∀ x ∈ pB, x.block < W.heap.size := by obtain ⟨m, hm⟩ := dN; exact DataW.trod_lt m _ _ _ hm
  obtain ⟨a2, Ut, Sh, rfl⟩ := okWide_slice Tryz.underlying29 (hval 2 29 v2 rfl rfl);have z2 := (anP (P := Tryz.prog) (w := W) (.slice (.cons (.int .i64) (.cons (.cons (.int .i64) (.cons (.int .i64) (.cons (.int .i64) (.cons (.cons (.int .i64) (.cons (.int .i64) .nil)) (.cons (.int .i64) .nil))))) (.cons (.int .i64) (.cons (.int .i64) .nil)))) 72) (j := 2) (t := 29) (by kernel_rfl) kF rfl rfl τ).2;obtain ⟨a3, rfl, rfl, rfl, w3⟩ := open_int bbV (hval 3 3 v3 rfl rfl) au;clear HV alh;refine (aKi ck b2 a2 Ut Sh a3 W z0 w1 z2 w3).mono fun e jv ⟨he, X8⟩ => ?_;subst he;exact ⟨_, Z, _, _, _, [], _, [], aAX, trodAll_mk1 (shut_bool Tryz.underlying4 _), (bbF (Below.trod laidOut (by kernel_rfl) (aY6 (by kernel_rfl)) xJ X8 aFT) (bbF (shut_int bbV w1) (bbF (Below.trod laidOut (by kernel_rfl) (aY6 (by kernel_rfl)) dN X8 aFU) (bbF (shut_int bbV w3) trodAll_mk0)))), Z, X8.frame _, fun h => by cases h⟩

set_option maxRecDepth 100000 in
theorem lifted (os : Os) (started : os.Started) (H : Type) (enc : TypeId × Value → H) :
    ReturnsInHanded {} Tryz.checked os 5 .any (Rows.topEndsSpec.pre6 enc Tryz.prog Tryz.f5 Rows.topEndsRow.domain false) (Rows.topEndsSpec.post enc Tryz.prog Tryz.f5 false true false false) := by
  refine returnsInHanded_of_change_sized (C := Tryz.checked) own started (by kernel_rfl) Tryz.func5
    (ChangeSpec.witness6 (enc := enc) (C := Tryz.checked) false ⟨#[], #[.agg #[.int .i64 0, .int .i64 0, .slice none 0 0, .slice none 0 0, .slice none 0 0, .slice none 0 0, .slice none 0 0, .int .i64 0, .int .i64 0], .int .i64 0, .slice none 0 0, .int .i64 0], []⟩ 8 (by kernel_rfl) (by kernel_rfl) (by kernel_rfl) (by kernel_rfl)) ?_
  intro W base args ds gs before hval bZ _ kF _;exact contract H enc W base args ds gs before hval bZ kF

theorem proved : Rows.TopEndsSaid :=
  OpenClaim.holds_of_wide 5 Tryz.f5 rfl rfl rfl rfl rfl rfl rfl ⟨rfl, rfl, rfl, rfl, rfl⟩ rfl rfl rfl rfl rfl (by kernel_rfl) Tryz.func5 (by kernel_rfl)
    (aY6 (by kernel_rfl)) (by unfold Func.isWrapper; first | (rw [aYq (by decide +kernel)]; kernel_rfl) | (rw [aYi (by decide +kernel)]; exact ⟨rfl, rfl⟩))
    (fun os started H enc _ => lifted os started H enc)
#print axioms proved
end Go.Proofs.YtmeeljmapailnaaGreat.topEndsEnd
