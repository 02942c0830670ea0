import Derived.Test.YtlikikpgmmkjbaaGreatHtn
import Derived.Test.YtlikikpgmmkjbaaGreatRows
import Derived.ShutString
/-
  The law HostTorn: for every input the program's function returns true, and what it was handed reads as it read before.
-/
namespace Go.Proofs.YtlikikpgmmkjbaaGreat.hostTornEnd
open Go.ChangeShapes Go.WideShapes Go.ChangeAt Go.RowKit
open Go.ChangeMaps (open_string shut_string)
abbrev aTA:=@Go.trodAll_cons_mk
abbrev aUu:=@Go.Proofs.Tryz.underlying3
set_option linter.unusedVariables false

theorem own : ownKnob Tryz.prog.godebug = none := by kernel_rfl
theorem laidOut : laidOutB Tryz.prog = true := by kernel_rfl

set_option maxRecDepth 100000 in
theorem contract (H : Type) (enc : TypeId × Value → H) (W : World) (base : Nat) (args : Array Value) (ds gs : List (DataW H)) (before : List MemPlace)
    (agj : ∀ (j : Nat) t v, Tryz.f8.params[j]? = some t → args[j]? = some v → Value.okWide Tryz.prog W .any base t v)
    (bP : DataW.Whole enc Tryz.prog Tryz.f8.params.toList Rows.hostTornSpec.vars false W args.toList ds gs before)
    (Wd : (DataW.weightsEach Tryz.prog (Tryz.f8.params.toList ++ Rows.hostTornSpec.plain.varTypes Tryz.prog) (ds ++ gs)).all (· ≤ reachBytes) = true) :
    Calls Tryz.prog 8 args W fun e h' => ∃ v, e = .returned v ∧ Rows.hostTornSpec.post enc Tryz.prog Tryz.f8 false true false false W args v h' := by
  have hval : ∀ (j : Nat) t v, Tryz.f8.params[j]? = some t → args[j]? = some v → Value.okWide Tryz.prog W .any base t v := agj;have atT := bP;obtain ⟨p, q, Ef, kQ, rfl, auV, ji⟩ := bP;have hA : DataW.TrodAll enc Tryz.prog W 0 (fun _ => true) true Tryz.f8.params.toList args.toList ds p := Ef;have f_ : (DataW.weightsEach Tryz.prog (Tryz.f8.params.toList ++ Rows.hostTornSpec.plain.varTypes Tryz.prog) (ds ++ gs)).all (· ≤ reachBytes) = true := Wd;rw [Tryz.params8] at hA hval f_;obtain ⟨v0, aPB, d0, aIi, LX, mB, Pq, rfl, rfl, aF, CF⟩ := trodAll_cons hA;obtain ⟨v1, aPC, d1, aIj, eK, la, rfl, rfl, rfl, γ, r1⟩ := trodAll_cons CF;obtain ⟨v2, aPD, d2, aIk, fr, mC, rfl, rfl, rfl, ab, r2⟩ := trodAll_cons r1;obtain ⟨v3, aPE, d3, aIl, l0, vC, rfl, rfl, rfl, aw, tZ⟩ := trodAll_cons r2;obtain ⟨v4, aPF, d4, aIm, vB, E4, rfl, rfl, rfl, aX, XH⟩ := trodAll_cons tZ;obtain ⟨rfl, rfl, rfl⟩ := trodAll_nil XH;obtain rfl : args = #[v0, v1, v2, v3, v4] := by cases args; simp_all
  obtain ⟨rfl, rfl⟩ := trodVars_none kQ;have yC := aF;have ayi : ∀ x ∈ LX, x.block < W.heap.size := by obtain ⟨m, hm⟩ := yC; exact DataW.trod_lt m _ _ _ hm
  obtain ⟨bW, rfl, _⟩ := okWide_struct Tryz.underlying28 (hval 0 28 v0 rfl rfl);have z0 := (aiS (P := Tryz.prog) (w := W) (.cons (.cons (.int .i64) (.cons (.int .i64) (.cons (.slice (.int .i64) 8) .nil))) (.cons (.slice (.cons (.int .i64) (.cons (.int .i64) .nil)) 16) (.cons (.slice (.int .i64) 8) (.cons (.slice (.int .i64) 8) (.cons (.slice (.cons (.int .i64) (.cons (.int .i64) (.cons (.int .i64) (.cons (.cons (.int .i64) (.cons (.int .i64) .nil)) (.cons (.int .i64) (.cons (.int .i64) .nil)))))) 56) (.cons (.int .i64) (.cons (.int .i64) .nil))))))) (j := 0) (t := 28) (by kernel_rfl) f_ rfl rfl aF).2;have dJ := γ;have ayj : ∀ x ∈ eK, x.block < W.heap.size := by obtain ⟨m, hm⟩ := dJ; exact DataW.trod_lt m _ _ _ hm
  obtain ⟨cj, Qf, Og, rfl⟩ := okWide_slice Tryz.underlying72 (hval 1 72 v1 rfl rfl);have kE := (aiS (P := Tryz.prog) (w := W) (.slice .str 16) (j := 1) (t := 72) (by kernel_rfl) f_ rfl rfl γ).2;obtain ⟨a2, rfl, rfl, rfl, cr⟩ := open_int aUu (hval 2 3 v2 rfl rfl) ab;obtain ⟨a3, rfl, rfl, rfl, w3⟩ := open_int aUu (hval 3 3 v3 rfl rfl) aw;obtain ⟨a4, rfl, rfl, rfl, n1⟩ := open_int Tryz.underlying73 (hval 4 73 v4 rfl rfl) aX;clear Ef agj;refine (avV bW cj Qf Og a2 a3 a4 W z0 kE cr w3 n1).mono fun e h' ⟨he, Tb⟩ => ?_;subst he;exact ⟨_, Z, _, _, _, [], _, [], atT, trodAll_mk1 (shut_bool Tryz.underlying4 _), (aTA (Below.trod laidOut (by kernel_rfl) (aR2 (by kernel_rfl)) yC Tb ayi) (aTA (Below.trod laidOut (by kernel_rfl) (aR2 (by kernel_rfl)) dJ Tb ayj) (aTA (shut_int aUu cr) (aTA (shut_int aUu w3) (aTA (shut_int Tryz.underlying73 n1) trodAll_mk0))))), Z, Tb.frame _, fun h => by cases h⟩

set_option maxRecDepth 100000 in
theorem lifted (os : Os) (started : os.Started) (H : Type) (enc : TypeId × Value → H) :
    ReturnsInHanded {} Tryz.checked os 8 .any (Rows.hostTornSpec.pre6 enc Tryz.prog Tryz.f8 Rows.hostTornRow.domain false) (Rows.hostTornSpec.post enc Tryz.prog Tryz.f8 false true false false) := by
  refine returnsInHanded_of_change_sized (C := Tryz.checked) own started (by kernel_rfl) Tryz.func8
    (ChangeSpec.witness6 (enc := enc) (C := Tryz.checked) false ⟨#[], #[.agg #[.int .i64 0, .int .i64 0, .slice none 0 0, .slice none 0 0, .slice none 0 0, .slice none 0 0, .slice none 0 0, .int .i64 0, .int .i64 0], .slice none 0 0, .int .i64 0, .int .i64 0, .int .u32 0], []⟩ 8 (by kernel_rfl) (by kernel_rfl) (by kernel_rfl) (by kernel_rfl)) ?_
  intro W base args ds gs before hval bP _ f_ _;exact contract H enc W base args ds gs before hval bP f_

theorem proved : Rows.HostTornSaid :=
  OpenClaim.holds_of_wide 8 Tryz.f8 rfl rfl rfl rfl rfl rfl rfl ⟨rfl, rfl, rfl, rfl, rfl⟩ rfl rfl rfl rfl rfl (by kernel_rfl) Tryz.func8 (by kernel_rfl)
    (aR2 (by kernel_rfl)) (by unfold Func.isWrapper; first | (rw [aQZ (by decide +kernel)]; kernel_rfl) | (rw [aQV (by decide +kernel)]; exact ⟨rfl, rfl⟩))
    (fun os started H enc _ => lifted os started H enc)
#print axioms proved
end Go.Proofs.YtlikikpgmmkjbaaGreat.hostTornEnd
