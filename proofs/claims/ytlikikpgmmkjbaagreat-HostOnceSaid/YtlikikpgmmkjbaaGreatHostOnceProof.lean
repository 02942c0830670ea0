import Derived.Test.YtlikikpgmmkjbaaGreatHon
import Derived.Test.YtlikikpgmmkjbaaGreatRows
import Derived.ShutString
/-
  The law HostOnce: for every input the program's function returns true, and what it was handed reads as it read before.
-/
namespace Go.Proofs.YtlikikpgmmkjbaaGreat.hostOnceEnd
open Go.ChangeShapes Go.WideShapes Go.ChangeAt Go.RowKit
open Go.ChangeMaps (open_string shut_string)
abbrev aVR:=@Go.trodAll_cons_mk
set_option linter.unusedVariables false

theorem own : ownKnob Tryz.prog.godebug = none := by kernel_rfl
theorem laidOut : laidOutB Tryz.prog = true := by kernel_rfl

set_option maxRecDepth 100000 in
theorem contract (H : Type) (enc : TypeId × Value → H) (W : World) (base : Nat) (args : Array Value) (ds gs : List (DataW H)) (before : List MemPlace)
    (ag5 : ∀ (j : Nat) t v, Tryz.f12.params[j]? = some t → args[j]? = some v → Value.okWide Tryz.prog W .any base t v)
    (bV : DataW.Whole enc Tryz.prog Tryz.f12.params.toList Rows.hostOnceSpec.vars false W args.toList ds gs before)
    (Xn : (DataW.weightsEach Tryz.prog (Tryz.f12.params.toList ++ Rows.hostOnceSpec.plain.varTypes Tryz.prog) (ds ++ gs)).all (· ≤ reachBytes) = true) :
    Calls Tryz.prog 12 args W fun e iv => ∃ v, e = .returned v ∧ Rows.hostOnceSpec.post enc Tryz.prog Tryz.f12 false true false false W args v iv := by
  have hval : ∀ (j : Nat) t v, Tryz.f12.params[j]? = some t → args[j]? = some v → Value.okWide Tryz.prog W .any base t v := ag5;have au4 := bV;obtain ⟨p, q, EV, s8, rfl, av8, jD⟩ := bV;have hA : DataW.TrodAll enc Tryz.prog W 0 (fun _ => true) true Tryz.f12.params.toList args.toList ds p := EV;have jd : (DataW.weightsEach Tryz.prog (Tryz.f12.params.toList ++ Rows.hostOnceSpec.plain.varTypes Tryz.prog) (ds ++ gs)).all (· ≤ reachBytes) = true := Xn;rw [Tryz.params12] at hA hval jd;obtain ⟨v0, aQr, d0, aI8, MM, mX, Ql, rfl, rfl, aH, Dp⟩ := trodAll_cons hA;obtain ⟨v1, aQs, d1, aI9, eQ, lH, rfl, rfl, rfl, τ, r1⟩ := trodAll_cons Dp;obtain ⟨v2, aQt, d2, aJa, fo, mY, rfl, rfl, rfl, aa, r2⟩ := trodAll_cons r1;obtain ⟨rfl, rfl, rfl⟩ := trodAll_nil r2;obtain rfl : args = #[v0, v1, v2] := by cases args; simp_all
  obtain ⟨rfl, rfl⟩ := trodVars_none s8;have sf := aH;have azw : ∀ x ∈ MM, x.block < W.heap.size := by obtain ⟨m, hm⟩ := sf; exact DataW.trod_lt m _ _ _ hm
  obtain ⟨b1, rfl, _⟩ := okWide_struct Tryz.underlying28 (hval 0 28 v0 rfl rfl);have z0 := (ajJ (P := Tryz.prog) (w := W) (.cons (.cons (.int .i64) (.cons (.int .i64) (.cons (.slice (.int .i64) 8) .nil))) (.cons (.slice (.cons (.int .i64) (.cons (.int .i64) .nil)) 16) (.cons (.slice (.int .i64) 8) (.cons (.slice (.int .i64) 8) (.cons (.slice (.cons (.int .i64) (.cons (.int .i64) (.cons (.int .i64) (.cons (.cons (.int .i64) (.cons (.int .i64) .nil)) (.cons (.int .i64) (.cons (.int .i64) .nil)))))) 56) (.cons (.int .i64) (.cons (.int .i64) .nil))))))) (j := 0) (t := 28) (by kernel_rfl) jd rfl rfl aH).2;obtain ⟨cd, rfl, rfl, rfl, aP⟩ := open_int Tryz.underlying3 (hval 1 3 v1 rfl rfl) τ;have dY := aa;have azx : ∀ x ∈ fo, x.block < W.heap.size := by obtain ⟨m, hm⟩ := dY; exact DataW.trod_lt m _ _ _ hm
  obtain ⟨a2, Q9, Pe, rfl⟩ := okWide_slice Tryz.underlying95 (hval 2 95 v2 rfl rfl);have z2 := (ajJ (P := Tryz.prog) (w := W) (.slice (.cons (.int .i64) (.cons (.cons (.int .i64) (.cons (.int .i64) (.cons (.int .i64) (.cons (.cons (.int .i64) (.cons (.int .i64) .nil)) (.cons (.int .i64) .nil))))) (.cons (.int .i64) (.cons (.int .i64) .nil)))) 72) (j := 2) (t := 95) (by kernel_rfl) jd rfl rfl aa).2;clear EV ag5;refine (aw9 b1 cd a2 Q9 Pe W z0 aP z2).mono fun e iv ⟨he, Uf⟩ => ?_;subst he;exact ⟨_, Z, _, _, _, [], _, [], au4, trodAll_mk1 (shut_bool Tryz.underlying4 _), (aVR (Below.trod laidOut (by kernel_rfl) (aST (by kernel_rfl)) sf Uf azw) (aVR (shut_int Tryz.underlying3 aP) (aVR (Below.trod laidOut (by kernel_rfl) (aST (by kernel_rfl)) dY Uf azx) trodAll_mk0))), Z, Uf.frame _, fun h => by cases h⟩

set_option maxRecDepth 100000 in
theorem lifted (os : Os) (started : os.Started) (H : Type) (enc : TypeId × Value → H) :
    ReturnsInHanded {} Tryz.checked os 12 .any (Rows.hostOnceSpec.pre6 enc Tryz.prog Tryz.f12 Rows.hostOnceRow.domain false) (Rows.hostOnceSpec.post enc Tryz.prog Tryz.f12 false true false false) := by
  refine returnsInHanded_of_change_sized (C := Tryz.checked) own started (by kernel_rfl) Tryz.func12
    (ChangeSpec.witness6 (enc := enc) (C := Tryz.checked) false ⟨#[], #[.agg #[.int .i64 0, .int .i64 0, .slice none 0 0, .slice none 0 0, .slice none 0 0, .slice none 0 0, .slice none 0 0, .int .i64 0, .int .i64 0], .int .i64 0, .slice none 0 0], []⟩ 8 (by kernel_rfl) (by kernel_rfl) (by kernel_rfl) (by kernel_rfl)) ?_
  intro W base args ds gs before hval bV _ jd _;exact contract H enc W base args ds gs before hval bV jd

theorem proved : Rows.HostOnceSaid :=
  OpenClaim.holds_of_wide 12 Tryz.f12 rfl rfl rfl rfl rfl rfl rfl ⟨rfl, rfl, rfl, rfl, rfl⟩ rfl rfl rfl rfl rfl (by kernel_rfl) Tryz.func12 (by kernel_rfl)
    (aST (by kernel_rfl)) (by unfold Func.isWrapper; first | (rw [aRP (by decide +kernel)]; kernel_rfl) | (rw [aRL (by decide +kernel)]; exact ⟨rfl, rfl⟩))
    (fun os started H enc _ => lifted os started H enc)
#print axioms proved
end Go.Proofs.YtlikikpgmmkjbaaGreat.hostOnceEnd
