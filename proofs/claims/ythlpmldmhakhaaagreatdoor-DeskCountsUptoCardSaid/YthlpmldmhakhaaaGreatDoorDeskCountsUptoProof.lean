import Derived.Test.YthlpmldmhakhaaaGreatDoorDkZ
import Derived.Test.YthlpmldmhakhaaaGreatDoorCards
import Derived.Test.YthlpmldmhakhaaaGreatDoorTie
import Derived.ShutString
import Derived.Deep.DeepWitnessRowRef
import Derived.Lib.LaidIn
import Derived.Stop.LaidErr
/-
  The law DeskCounts: for every input of bulk at most 1048576 the program's function returns true, and what it was handed reads as it read before. The row's variables are tied to the program's text.
-/
namespace Go.Proofs.YthlpmldmhakhaaaGreatDoor.deskCountsUptoEnd
open Go.ChangeShapes Go.WideShapes Go.ChangeAt Go.RowKit Go.Proofs.YthlpmldmhakhaaaGreatDoor
open Go.ChangeMaps (open_string shut_string)
abbrev aP6:=@Go.laidMet.tail
abbrev aQp:=@Go.Proofs.Tryz.underlying9
set_option linter.unusedVariables false

theorem own : ownKnob Tryz.prog.godebug = none := by kernel_rfl
theorem aqr : Tryz.prog.globalNamed "internal/strconv.uint64pow10" = some 3 := by kernel_rfl
theorem aaJ : Tryz.prog.globalNamed "strconv.ErrSyntax" = some 6 := by kernel_rfl
theorem aaI : Tryz.prog.globalNamed "strconv.ErrRange" = some 7 := by kernel_rfl
theorem star : "*" ++ "errors.errorString" = "*errors.errorString" := by decide
theorem af8 (u : TypeId) (h : Tryz.prog.typeName? 3 u = some "*errors.errorString") : u = 254 :=
  typeName_ptr_named (nm := "errors.errorString") (by rw [star]; kernel_rfl) (by kernel_rfl) (by decide) u (by rw [star]; exact h)
/-- What the row's list gives: what Go's library reads. -/
theorem vars {W : World} (Aa : laidMetH Tryz.prog Rows.deskCountsUptoRow.laid W) (B2 : W.ShapedOpen Tryz.prog) : k7 W := by
  have Aa : laidMet Tryz.prog Rows.deskCountsUptoRow.laid W := Aa;have τ := aP6 (aP6 Aa);have bb := aP6 (aP6 τ);have bV := aP6 bb;refine ⟨cell_of_shapedOpen_int (zero := #[.int .i64 0]) (t := 3) B2 (aNY (by kernel_rfl)) (by kernel_rfl) Z (by kernel_rfl) (by kernel_rfl) Tryz.underlying3,
    Lib.tabIs_of_head (t := 169) aqr (by kernel_rfl) Tryz.underlying169 Tryz.underlying129 (by kernel_rfl) (by kernel_rfl) τ, ?_, ?_⟩
  · obtain ⟨a, s, hv, _⟩ := laid_sentinel bV aaJ (by kernel_rfl) Tryz.underlying34 af8 Tryz.underlying254 Tryz.underlying256 rfl rfl aQp (by kernel_rfl) (by kernel_rfl)
    exact ⟨_, by have aC := World.var?_cell aaJ hv 0; simpa using aC, .inr ⟨_, _, rfl⟩⟩
  · obtain ⟨a, s, hv, _⟩ := laid_sentinel bb aaI (by kernel_rfl) Tryz.underlying34 af8 Tryz.underlying254 Tryz.underlying256 rfl rfl aQp (by kernel_rfl) (by kernel_rfl)
    exact ⟨_, by have aC := World.var?_cell aaI hv 0; simpa using aC, .inr ⟨_, _, rfl⟩⟩

set_option maxRecDepth 100000 in
theorem contract (H : Type) (enc : TypeId × Value → H) (W : World) (base : Nat) (args : Array Value) (ds gs : List (DataW H)) (before : List MemPlace)
    (acs : ∀ (j : Nat) t v, Tryz.f5.params[j]? = some t → args[j]? = some v → Value.okWide Tryz.prog W .any base t v)
    (b8 : DataW.Whole enc Tryz.prog Tryz.f5.params.toList Rows.deskCountsSpec.vars false W args.toList ds gs before) (aj : Rows.uptoSmall H (ds ++ gs) = true)
    (Aa : laidMetH Tryz.prog Rows.deskCountsUptoRow.laid W) (B2 : W.ShapedOpen Tryz.prog) :
    Calls Tryz.prog 5 args W fun e hN => ∃ v, e = .returned v ∧ Rows.deskCountsSpec.post enc Tryz.prog Tryz.f5 false true false false W args v hN := by
  have hval : ∀ (j : Nat) t v, Tryz.f5.params[j]? = some t → args[j]? = some v → Value.okWide Tryz.prog W .any base t v := acs;have aqW := b8;obtain ⟨p, q, Du, pn, rfl, arU, ib⟩ := b8;have hA : DataW.TrodAll enc Tryz.prog W 0 (fun _ => true) true Tryz.f5.params.toList args.toList ds p := Du;rw [Tryz.params5] at hA hval;obtain ⟨v0, aLw, d0, aFF, O2, sV, NU, rfl, rfl, aC, Ck⟩ := trodAll_cons hA;obtain ⟨rfl, rfl, rfl⟩ := trodAll_nil Ck;obtain rfl : args = #[v0] := by cases args; simp_all
  obtain ⟨rfl, rfl⟩ := trodVars_none pn;obtain ⟨a0, rfl, rfl, rfl, w0⟩ := open_string aQp (hval 0 9 v0 rfl rfl) aC;have af : a0.size ≤ 1048576 := by
    have h : Rows.uptoBulkAll [DataW.lit (H := H) (.string a0.data.toList)] ≤ 1048576 := aNY aj;simp only [Rows.uptoBulkAll, Rows.uptoBulk, aOj] at h;have e0 : a0.data.size = a0.size := rfl;omega
  clear Du acs;refine (anI a0 W af (vars Aa B2)).mono fun e hN ⟨he, Ri⟩ => ?_;subst he;exact ⟨_, Z, _, _, _, [], _, [], aqW, trodAll_mk1 (shut_bool Tryz.underlying4 _), (trodAll_cons_mk (shut_string aQp w0) trodAll_mk0), Z, Ri.frame _, fun h => by cases h⟩

/-- A world for the witness: the settled one, the variables as their initialisers lay them. -/
noncomputable def Ov (os : Os) : World :=
  let N := (World.settled Tryz.prog os).heap.size
  let w0 := World.holding Tryz.prog os ⟨#[.cells #[.string ⟨#[118, 97, 108, 117, 101, 32, 111, 117, 116, 32, 111, 102, 32, 114, 97, 110, 103, 101]⟩] 256, .cells #[.string ⟨#[105, 110, 118, 97, 108, 105, 100, 32, 115, 121, 110, 116, 97, 120]⟩] 256], #[], []⟩
  let put (h : Array Obj) (g : Nat) (cs : Array Value) : Array Obj := h.modify g fun
    | .cells _ t frozen => .cells cs t frozen
    | o => o
  let aC := put (put w0.heap 7 #[.iface 254 (.pointer (some ⟨N, 0, none⟩))]) 6 #[.iface 254 (.pointer (some ⟨N + 1, 0, none⟩))]
  let κ := put aC 4 (([0, 1, 28, 2, 29, 14, 24, 3, 30, 22, 20, 15, 25, 17, 4, 8, 31, 27, 13, 23, 21, 19, 16, 7, 26, 12, 18, 6, 11, 5, 10, 9] : List Int).map fun z => Value.int .u8 z).toArray
  let τ := put κ 5 (([0, 1, 56, 2, 57, 49, 28, 3, 61, 58, 42, 50, 38, 29, 17, 4, 62, 47, 59, 36, 45, 43, 51, 22, 53, 39, 33, 30, 24, 18, 12, 5, 63, 55, 48, 27, 60, 41, 37, 16, 46, 35, 44, 21, 52, 32, 23, 11, 54, 26, 40, 15, 34, 20, 31, 10, 25, 14, 19, 9, 13, 8, 7, 6] : List Int).map fun z => Value.int .u8 z).toArray
  let aq := put τ 3 (Lib.pow10Tab.map fun z => Value.int .u64 z).toArray
  let bb := put aq 2 (([128, 191, 160, 191, 128, 159, 144, 191, 128, 143, 0, 0, 0, 0, 0, 0, 0, 0, 0, 0, 0, 0, 0, 0, 0, 0, 0, 0, 0, 0, 0, 0] : List Int).map fun z => Value.int .u8 z).toArray
  let bV := put bb 1 (([240, 240, 240, 240, 240, 240, 240, 240, 240, 240, 240, 240, 240, 240, 240, 240, 240, 240, 240, 240, 240, 240, 240, 240, 240, 240, 240, 240, 240, 240, 240, 240, 240, 240, 240, 240, 240, 240, 240, 240, 240, 240, 240, 240, 240, 240, 240, 240, 240, 240, 240, 240, 240, 240, 240, 240, 240, 240, 240, 240, 240, 240, 240, 240, 240, 240, 240, 240, 240, 240, 240, 240, 240, 240, 240, 240, 240, 240, 240, 240, 240, 240, 240, 240, 240, 240, 240, 240, 240, 240, 240, 240, 240, 240, 240, 240, 240, 240, 240, 240, 240, 240, 240, 240, 240, 240, 240, 240, 240, 240, 240, 240, 240, 240, 240, 240, 240, 240, 240, 240, 240, 240, 240, 240, 240, 240, 240, 240, 241, 241, 241, 241, 241, 241, 241, 241, 241, 241, 241, 241, 241, 241, 241, 241, 241, 241, 241, 241, 241, 241, 241, 241, 241, 241, 241, 241, 241, 241, 241, 241, 241, 241, 241, 241, 241, 241, 241, 241, 241, 241, 241, 241, 241, 241, 241, 241, 241, 241, 241, 241, 241, 241, 241, 241, 241, 241, 241, 241, 241, 241, 241, 241, 241, 241, 2, 2, 2, 2, 2, 2, 2, 2, 2, 2, 2, 2, 2, 2, 2, 2, 2, 2, 2, 2, 2, 2, 2, 2, 2, 2, 2, 2, 2, 2, 19, 3, 3, 3, 3, 3, 3, 3, 3, 3, 3, 3, 3, 35, 3, 3, 52, 4, 4, 4, 68, 241, 241, 241, 241, 241, 241, 241, 241, 241, 241, 241] : List Int).map fun z => Value.int .u8 z).toArray
  { w0 with heap := bV }
noncomputable abbrev H3 : Nat := (World.settled Tryz.prog default).heap.size
set_option maxRecDepth 1000000 in
theorem aut (os : Os) : laidMet Tryz.prog Rows.deskCountsUptoRow.laid ((Ov os).forCall (fun _ _ => 0) ⟨#[], #[.string .empty], []⟩).memory :=
  (LaidIn.of_run [4, 5, 3, 2, 7, 6, 1, H3, H3 + 1] 8 (by kernel_rfl) (by kernel_rfl) (by kernel_rfl) (by kernel_rfl)).met
theorem aBr (os : Os) {H : Type} (enc : TypeId × Value → H) :
    (Rows.OpenSpec.upto Rows.deskCountsSpec).preRow enc Tryz.prog Tryz.f5 Rows.deskCountsUptoRow.domain false Rows.deskCountsUptoRow.laid ((Ov os).forCall (fun _ _ => 0) ⟨#[], #[.string .empty], []⟩).memory #[.string .empty] := by
  have hw : (DataW.whole enc Tryz.prog ((Ov os).forCall (fun _ _ => 0) ⟨#[], #[.string .empty], []⟩).memory Tryz.f5.params.toList Rows.deskCountsSpec.vars false (#[.string .empty] : Array Value).toList 8).map (fun x => (x.1, x.2.1)) = some ([.lit (.string [])], []) := by kernel_rfl
  obtain ⟨⟨fo, fU, iq⟩, hx, B3⟩ := aOR.1 hw;simp only [aQ2] at B3;obtain ⟨rfl, rfl⟩ := B3;exact OpenSpec.preRow_of_cond 8 hx (by kernel_rfl) (fun k aj => by cases aj; kernel_rfl) (by kernel_rfl) (aut os)
set_option maxRecDepth 100000 in
theorem lifted (os : Os) (started : os.Started) (H : Type) (enc : TypeId × Value → H) (F : Stop.Interp) :
    ReturnsInHanded {} Tryz.checked os 5 .any ((Rows.OpenSpec.upto Rows.deskCountsSpec).preRow enc Tryz.prog Tryz.f5 Rows.deskCountsUptoRow.domain false Rows.deskCountsUptoRow.laid) (((Rows.OpenSpec.upto Rows.deskCountsSpec).at F).post enc Tryz.prog Tryz.f5 false true false false) := by
  refine returnsInHanded_of_row (C := Tryz.checked) (s := Rows.OpenSpec.upto Rows.deskCountsSpec) own started (by kernel_rfl) Tryz.func5
    (witness_row_atRef (enc := enc) (C := Tryz.checked) false (Ov os) #[.string .empty] rfl (by kernel_rfl) (by kernel_rfl) (by kernel_rfl) (aBr os enc)) ?_
  intro W base args ds gs before hval b8 _ arD _ Aa B2 _;exact contract H enc W base args ds gs before hval b8 (arD _ Z) Aa B2
theorem said : Rows.DeskCountsUptoSaid :=
  OpenClaim.holds_of_cond 5 Tryz.f5 rfl rfl rfl rfl rfl rfl rfl ⟨rfl, rfl, rfl, rfl, rfl⟩ rfl rfl rfl rfl rfl (by kernel_rfl) Tryz.func5 (by kernel_rfl)
    (aNY (by kernel_rfl)) (by unfold Func.isWrapper; first | (rw [aNd (by decide +kernel)]; kernel_rfl) | (rw [aM4 (by decide +kernel)]; exact ⟨rfl, rfl⟩))
    (fun os started H enc _ F => by rw [OpenClaim.pre_eq_preRow]; exact lifted os started H enc F)
theorem plain (f : FuncId) (fn : Func) (hf : Tryz.pinned.checked.prog.funcNamed "musterfield/mustkeep.DeskCounts" = some f) (arS : Tryz.pinned.checked.prog.funcs[f]? = some fn) :
    true = Tryz.pinned.checked.prog.looks [] ∧ ∀ (j : Nat) t, fn.params[j]? = some t → Tryz.pinned.checked.prog.wantsStandIn t = false := by
  obtain rfl : f = 5 := aNf ((show Tryz.prog.funcNamed "musterfield/mustkeep.DeskCounts" = some 5 by kernel_rfl).symm.trans hf) |>.symm
  obtain rfl : fn = Tryz.f5 := (aNf (Tryz.func5.symm.trans arS)).symm;refine ⟨by kernel_rfl, fun j t aD => ?_⟩;rw [Tryz.params5] at aD;obtain rfl : t = 9 := by simpa using aRl aD
  exact (show Tryz.prog.wantsStandIn 9 = false by kernel_rfl)
theorem proved : Rows.DeskCountsUptoCardSaid :=
  Claim7.holds_tied_plain_at .later [] _ _ _ _ said (fun _ h => by cases h) (by kernel_rfl) (fun _ h => by cases h) deskCountsUpto_row_tie rfl ⟨rfl, rfl⟩ (by kernel_rfl) rfl plain (by kernel_rfl)
#print axioms proved
end Go.Proofs.YthlpmldmhakhaaaGreatDoor.deskCountsUptoEnd
