import Derived.Test.YtifffjhhammeiaaMka
import Derived.Test.YtifffjhhammeiaaRows
import Derived.ShutString
import Derived.Deep.CondSized
/-
  The law MarkAny: for every input of bulk at most 1048576 the program's function returns true, and what it was handed reads as it read before.
-/
namespace Go.Proofs.Ytifffjhhammeiaa.markAnyUptoEnd
open Go.ChangeShapes Go.WideShapes Go.ChangeAt Go.RowKit
open Go.ChangeMaps (open_string shut_string)
abbrev Ho:=@Go.Proofs.Try.underlying43
abbrev HC:=@Prod.mk.inj
abbrev HN:=@Go.trodAll_cons_mk
abbrev H6:=@Go.Deep.open_slice
set_option linter.unusedVariables false

theorem own : ownKnob Try.prog.godebug = none := by kernel_rfl
theorem laidOut : laidOutB Try.prog = true := by kernel_rfl
theorem tZ {H : Type} : ∀ d : DataW H, 1 ≤ Rows.uptoBulk d := by
  intro d;cases d with
  | lit x => cases x <;> simp [Rows.uptoBulk]
  | _ => simp [Rows.uptoBulk]
theorem h0 {H : Type} : ∀ l : List (DataW H), l.length ≤ Rows.uptoBulkAll l
  | [] => by simp [Rows.uptoBulkAll]
  | d :: r => by have := h0 r; have := tZ d; simp [Rows.uptoBulkAll]; omega

set_option maxRecDepth 100000 in
theorem contract (H : Type) (enc : TypeId × Value → H) (W : World) (base : Nat) (args : Array Value) (ds gs : List (DataW H)) (before : List MemPlace)
    (pM : ∀ (j : Nat) t v, Try.f6.params[j]? = some t → args[j]? = some v → Value.okWide Try.prog W .any base t v)
    (fU : DataW.Whole enc Try.prog Try.f6.params.toList Rows.markAnySpec.vars false W args.toList ds gs before) (aA : Rows.uptoSmall H (ds ++ gs) = true)
    (wL : (DataW.weightsEach Try.prog (Try.f6.params.toList ++ Rows.markAnySpec.plain.varTypes Try.prog) (ds ++ gs)).all (· ≤ reachBytes) = true) :
    Calls Try.prog 6 args W fun e bZ => ∃ v, e = .returned v ∧ Rows.markAnySpec.post enc Try.prog Try.f6 false true false false W args v bZ := by
  have hval : ∀ (j : Nat) t v, Try.f6.params[j]? = some t → args[j]? = some v → Value.okWide Try.prog W .any base t v := pM;have uY := fU;obtain ⟨p, q, jg, uX, rfl, BM, e3⟩ := fU;have hA : DataW.TrodAll enc Try.prog W 0 (fun _ => true) true Try.f6.params.toList args.toList ds p := jg;have cB : (DataW.weightsEach Try.prog (Try.f6.params.toList ++ Rows.markAnySpec.plain.varTypes Try.prog) (ds ++ gs)).all (· ≤ reachBytes) = true := wL;rw [Try.params6] at hA hval cB;obtain ⟨v0, E2, d0, Be, ym, Es, oK, rfl, rfl, aU, yx⟩ := trodAll_cons hA;obtain ⟨v1, E3, d1, Bf, jG, l8, rfl, rfl, rfl, af, r1⟩ := trodAll_cons yx;obtain ⟨v2, E4, d2, Bg, rb, rm, rfl, rfl, rfl, ai, r2⟩ := trodAll_cons r1;obtain ⟨rfl, rfl, rfl⟩ := trodAll_nil r2;obtain rfl : args = #[v0, v1, v2] := by cases args; simp_all
  obtain ⟨rfl, rfl⟩ := trodVars_none uX;have lN := aU;have xl : ∀ x ∈ ym, x.block < W.heap.size := by obtain ⟨m, hm⟩ := lN; exact DataW.trod_lt m _ _ _ hm
  obtain ⟨a0, fW, fQ, rfl⟩ := okWide_slice Ho (hval 0 43 v0 rfl rfl);have z0 := (q8 (P := Try.prog) (w := W) (.slice (.int .u64) 8) (j := 0) (t := 43) (by kernel_rfl) cB rfl rfl aU).2;have bL := af;have xm : ∀ x ∈ jG, x.block < W.heap.size := by obtain ⟨m, hm⟩ := bL; exact DataW.trod_lt m _ _ _ hm
  obtain ⟨ao, fX, fR, rfl⟩ := okWide_slice Ho (hval 1 43 v1 rfl rfl);have jU := (q8 (P := Try.prog) (w := W) (.slice (.int .u64) 8) (j := 1) (t := 43) (by kernel_rfl) cB rfl rfl af).2;obtain ⟨a2, rfl, rfl, rfl, eD⟩ := open_int Try.underlying44 (hval 2 44 v2 rfl rfl) ai;have A7 : fQ + 1 ≤ Rows.uptoBulk d0 := by
    obtain ⟨fuel, hf⟩ := lN;rcases H6 Ho hf with ⟨dx, hx⟩ | ⟨a, l, c, m, n, D, n7, dx, _, aE, _, hm, hx, _⟩
    · simp [Value.cells] at dx
      obtain ⟨rfl, rfl, rfl⟩ := dx;obtain ⟨rfl, _⟩ := HC hx;exact GB _
    · simp [Value.cells] at dx
      obtain ⟨rfl, rfl, rfl⟩ := dx;obtain ⟨rfl, _⟩ := HC hx;simp only [HS] at hm;have af := h0 ((List.range fW).map D);have ai := h0 ((List.range (m - fW)).map fun j => D (fW + j));simp only [G9, Hu] at af ai;simp only [Rows.uptoBulk];omega
  have aF : fR + 1 ≤ Rows.uptoBulk d1 := by
    obtain ⟨fuel, hf⟩ := bL;rcases H6 Ho hf with ⟨dx, hx⟩ | ⟨a, l, c, m, n, D, n7, dx, _, aE, _, hm, hx, _⟩
    · simp [Value.cells] at dx
      obtain ⟨rfl, rfl, rfl⟩ := dx;obtain ⟨rfl, _⟩ := HC hx;exact GB _
    · simp [Value.cells] at dx
      obtain ⟨rfl, rfl, rfl⟩ := dx;obtain ⟨rfl, _⟩ := HC hx;simp only [HS] at hm;have af := h0 ((List.range fX).map D);have ai := h0 ((List.range (m - fX)).map fun j => D (fX + j));simp only [G9, Hu] at af ai;simp only [Rows.uptoBulk];omega
  have ak : (fQ + 1) + (fR + 1) ≤ 1048576 := by
    have h : Rows.uptoBulkAll [d0, d1, DataW.lit (H := H) (.int .u64 a2)] ≤ 1048576 := GK aA;simp only [Rows.uptoBulkAll, Rows.uptoBulk] at h;omega
  clear jg pM;refine (xP a0 fW fQ ao fX fR a2 W z0 jU eD ak).mono fun e bZ ⟨he, kr⟩ => ?_;subst he;exact ⟨_, Z, _, _, _, [], _, [], uY, trodAll_mk1 (shut_bool Try.underlying4 _), (HN (Below.trod laidOut (by kernel_rfl) (GK (by kernel_rfl)) lN kr xl) (HN (Below.trod laidOut (by kernel_rfl) (GK (by kernel_rfl)) bL kr xm) (HN (shut_int Try.underlying44 eD) trodAll_mk0))), Z, kr.frame _, fun h => by cases h⟩

set_option maxRecDepth 100000 in
theorem lifted (os : Os) (started : os.Started) (H : Type) (enc : TypeId × Value → H) (F : Stop.Interp) :
    ReturnsInHanded {} Try.checked os 6 .any ((Rows.OpenSpec.upto Rows.markAnySpec).pre6 enc Try.prog Try.f6 Rows.markAnyUptoRow.domain false) (((Rows.OpenSpec.upto Rows.markAnySpec).at F).post enc Try.prog Try.f6 false true false false) := by
  refine returnsInHanded_of_cond_sized (C := Try.checked) (s := Rows.OpenSpec.upto Rows.markAnySpec) (k := Rows.uptoSmall) Z own started (by kernel_rfl) Try.func6
    (OpenSpec.witness (enc := enc) (C := Try.checked) (s := Rows.OpenSpec.upto Rows.markAnySpec) (k := Rows.uptoSmall) rfl false ⟨#[], #[.slice none 0 0, .slice none 0 0, .int .u64 0], []⟩ 8 (by kernel_rfl) (by kernel_rfl) (by kernel_rfl)
      (x := ([.nil, .nil, .lit (.int .u64 0)], [], [])) (by kernel_rfl) rfl (by kernel_rfl)) ?_
  intro W base args ds gs before hval fU _ aA cB _;exact contract H enc W base args ds gs before hval fU aA cB

theorem proved : Rows.MarkAnyUptoSaid :=
  OpenClaim.holds_of_cond 6 Try.f6 rfl rfl rfl rfl rfl rfl rfl ⟨rfl, rfl, rfl, rfl, rfl⟩ rfl rfl rfl rfl rfl (by kernel_rfl) Try.func6 (by kernel_rfl)
    (GK (by kernel_rfl)) (by unfold Func.isWrapper; first | (rw [G8 (by decide +kernel)]; kernel_rfl) | (rw [Hg (by decide +kernel)]; exact ⟨rfl, rfl⟩))
    (fun os started H enc _ F => lifted os started H enc F)
#print axioms proved
end Go.Proofs.Ytifffjhhammeiaa.markAnyUptoEnd
