import Derived.Test.YthlpmldmhakhaaaGreatDoorDkG
import Derived.Test.YthlpmldmhakhaaaGreatDoorCards
import Derived.Test.YthlpmldmhakhaaaGreatDoorTie
import Derived.ShutString
import Derived.Deep.DeepWitnessRowRef
import Derived.Lib.LaidIn
import Derived.Stop.LaidErr
/-
  The law DeskFront: for every input of bulk at most 1048576 the program's function returns true, and what it was handed reads as it read before. The row's variables are tied to the program's text.
-/
namespace Go.Proofs.YthlpmldmhakhaaaGreatDoor.deskFrontUptoEnd
open Go.ChangeShapes Go.WideShapes Go.ChangeAt Go.RowKit Go.Proofs.YthlpmldmhakhaaaGreatDoor
open Go.ChangeMaps (open_string shut_string)
abbrev aOO:=@Go.Proofs.Tryz.underlying9
abbrev aPA:=@Go.laidMet.tail
set_option linter.unusedVariables false

theorem own : ownKnob Tryz.prog.godebug = none := by kernel_rfl
theorem apO : Tryz.prog.globalNamed "internal/strconv.uint64pow10" = some 3 := by kernel_rfl
theorem aae : Tryz.prog.globalNamed "strconv.ErrSyntax" = some 6 := by kernel_rfl
theorem aad : Tryz.prog.globalNamed "strconv.ErrRange" = some 7 := by kernel_rfl
theorem star : "*" ++ "errors.errorString" = "*errors.errorString" := by decide
theorem afz (u : TypeId) (h : Tryz.prog.typeName? 3 u = some "*errors.errorString") : u = 254 :=
  typeName_ptr_named (nm := "errors.errorString") (by rw [star]; kernel_rfl) (by kernel_rfl) (by decide) u (by rw [star]; exact h)
/-- What the row's list gives: what Go's library reads. -/
theorem vars {W : World} (zP : laidMetH Tryz.prog Rows.deskFrontUptoRow.laid W) (BG : W.ShapedOpen Tryz.prog) : lv W := by
  have zP : laidMet Tryz.prog Rows.deskFrontUptoRow.laid W := zP;have τ := aPA (aPA zP);have bb := aPA (aPA τ);have bT := aPA bb;refine ⟨cell_of_shapedOpen_int (zero := #[.int .i64 0]) (t := 3) BG (aNt (by kernel_rfl)) (by kernel_rfl) Z (by kernel_rfl) (by kernel_rfl) Tryz.underlying3,
    Lib.tabIs_of_head (t := 169) apO (by kernel_rfl) Tryz.underlying169 Tryz.underlying129 (by kernel_rfl) (by kernel_rfl) τ, ?_, ?_⟩
  · obtain ⟨a, s, hv, _⟩ := laid_sentinel bT aae (by kernel_rfl) Tryz.underlying34 afz Tryz.underlying254 Tryz.underlying256 rfl rfl aOO (by kernel_rfl) (by kernel_rfl)
    exact ⟨_, by have aB := World.var?_cell aae hv 0; simpa using aB, .inr ⟨_, _, rfl⟩⟩
  · obtain ⟨a, s, hv, _⟩ := laid_sentinel bb aad (by kernel_rfl) Tryz.underlying34 afz Tryz.underlying254 Tryz.underlying256 rfl rfl aOO (by kernel_rfl) (by kernel_rfl)
    exact ⟨_, by have aB := World.var?_cell aad hv 0; simpa using aB, .inr ⟨_, _, rfl⟩⟩

set_option maxRecDepth 100000 in
theorem contract (H : Type) (enc : TypeId × Value → H) (W : World) (base : Nat) (args : Array Value) (ds gs : List (DataW H)) (before : List MemPlace)
    (abV : ∀ (j : Nat) t v, Tryz.f4.params[j]? = some t → args[j]? = some v → Value.okWide Tryz.prog W .any base t v)
    (b8 : DataW.Whole enc Tryz.prog Tryz.f4.params.toList Rows.deskFrontSpec.vars false W args.toList ds gs before) (aj : Rows.uptoSmall H (ds ++ gs) = true)
    (zP : laidMetH Tryz.prog Rows.deskFrontUptoRow.laid W) (BG : W.ShapedOpen Tryz.prog) :
    Calls Tryz.prog 4 args W fun e hJ => ∃ v, e = .returned v ∧ Rows.deskFrontSpec.post enc Tryz.prog Tryz.f4 false true false false W args v hJ := by
  have hval : ∀ (j : Nat) t v, Tryz.f4.params[j]? = some t → args[j]? = some v → Value.okWide Tryz.prog W .any base t v := abV;have aqi := b8;obtain ⟨p, q, Db, pa, rfl, ari, hY⟩ := b8;have hA : DataW.TrodAll enc Tryz.prog W 0 (fun _ => true) true Tryz.f4.params.toList args.toList ds p := Db;rw [Tryz.params4] at hA hval;obtain ⟨v0, aK0, d0, aE4, OI, sH, Ny, rfl, rfl, aB, B0⟩ := trodAll_cons hA;obtain ⟨v1, aK1, d1, aE5, mW, kX, rfl, rfl, rfl, κ, r1⟩ := trodAll_cons B0;obtain ⟨rfl, rfl, rfl⟩ := trodAll_nil r1;obtain rfl : args = #[v0, v1] := by cases args; simp_all
  obtain ⟨rfl, rfl⟩ := trodVars_none pa;obtain ⟨a0, rfl, rfl, rfl, w0⟩ := open_string aOO (hval 0 9 v0 rfl rfl) aB;obtain ⟨cV, rfl, rfl, rfl, aM⟩ := open_string aOO (hval 1 9 v1 rfl rfl) κ;have af : a0.size + cV.size ≤ 1048576 := by
    have h : Rows.uptoBulkAll [DataW.lit (H := H) (.string a0.data.toList), DataW.lit (H := H) (.string cV.data.toList)] ≤ 1048576 := aNt aj;simp only [Rows.uptoBulkAll, Rows.uptoBulk, aNN] at h;have e0 : a0.data.size = a0.size := rfl;have aR : cV.data.size = cV.size := rfl;omega
  clear Db abV;refine (am1 a0 cV W af (vars zP BG)).mono fun e hJ ⟨he, QZ⟩ => ?_;subst he;exact ⟨_, Z, _, _, _, [], _, [], aqi, trodAll_mk1 (shut_bool Tryz.underlying4 _), (trodAll_cons_mk (shut_string aOO w0) (trodAll_cons_mk (shut_string aOO aM) trodAll_mk0)), Z, QZ.frame _, fun h => by cases h⟩

/-- A world for the witness: the settled one, the variables as their initialisers lay them. -/
noncomputable def N_ (os : Os) : World :=
  let N := (World.settled Tryz.prog os).heap.size
  let w0 := World.holding Tryz.prog os ⟨#[.cells #[.string ⟨#[118, 97, 108, 117, 101, 32, 111, 117, 116, 32, 111, 102, 32, 114, 97, 110, 103, 101]⟩] 256, .cells #[.string ⟨#[105, 110, 118, 97, 108, 105, 100, 32, 115, 121, 110, 116, 97, 120]⟩] 256], #[], []⟩
  let put (h : Array Obj) (g : Nat) (cs : Array Value) : Array Obj := h.modify g fun
    | .cells _ t frozen => .cells cs t frozen
    | o => o
  let aB := put (put w0.heap 7 #[.iface 254 (.pointer (some ⟨N, 0, none⟩))]) 6 #[.iface 254 (.pointer (some ⟨N + 1, 0, none⟩))]
  let κ := put aB 4 (([0, 1, 28, 2, 29, 14, 24, 3, 30, 22, 20, 15, 25, 17, 4, 8, 31, 27, 13, 23, 21, 19, 16, 7, 26, 12, 18, 6, 11, 5, 10, 9] : List Int).map fun z => Value.int .u8 z).toArray
  let τ := put κ 5 (([0, 1, 56, 2, 57, 49, 28, 3, 61, 58, 42, 50, 38, 29, 17, 4, 62, 47, 59, 36, 45, 43, 51, 22, 53, 39, 33, 30, 24, 18, 12, 5, 63, 55, 48, 27, 60, 41, 37, 16, 46, 35, 44, 21, 52, 32, 23, 11, 54, 26, 40, 15, 34, 20, 31, 10, 25, 14, 19, 9, 13, 8, 7, 6] : List Int).map fun z => Value.int .u8 z).toArray
  let aq := put τ 3 (Lib.pow10Tab.map fun z => Value.int .u64 z).toArray
  let bb := put aq 2 (([128, 191, 160, 191, 128, 159, 144, 191, 128, 143, 0, 0, 0, 0, 0, 0, 0, 0, 0, 0, 0, 0, 0, 0, 0, 0, 0, 0, 0, 0, 0, 0] : List Int).map fun z => Value.int .u8 z).toArray
  let bT := put bb 1 (([240, 240, 240, 240, 240, 240, 240, 240, 240, 240, 240, 240, 240, 240, 240, 240, 240, 240, 240, 240, 240, 240, 240, 240, 240, 240, 240, 240, 240, 240, 240, 240, 240, 240, 240, 240, 240, 240, 240, 240, 240, 240, 240, 240, 240, 240, 240, 240, 240, 240, 240, 240, 240, 240, 240, 240, 240, 240, 240, 240, 240, 240, 240, 240, 240, 240, 240, 240, 240, 240, 240, 240, 240, 240, 240, 240, 240, 240, 240, 240, 240, 240, 240, 240, 240, 240, 240, 240, 240, 240, 240, 240, 240, 240, 240, 240, 240, 240, 240, 240, 240, 240, 240, 240, 240, 240, 240, 240, 240, 240, 240, 240, 240, 240, 240, 240, 240, 240, 240, 240, 240, 240, 240, 240, 240, 240, 240, 240, 241, 241, 241, 241, 241, 241, 241, 241, 241, 241, 241, 241, 241, 241, 241, 241, 241, 241, 241, 241, 241, 241, 241, 241, 241, 241, 241, 241, 241, 241, 241, 241, 241, 241, 241, 241, 241, 241, 241, 241, 241, 241, 241, 241, 241, 241, 241, 241, 241, 241, 241, 241, 241, 241, 241, 241, 241, 241, 241, 241, 241, 241, 241, 241, 241, 241, 2, 2, 2, 2, 2, 2, 2, 2, 2, 2, 2, 2, 2, 2, 2, 2, 2, 2, 2, 2, 2, 2, 2, 2, 2, 2, 2, 2, 2, 2, 19, 3, 3, 3, 3, 3, 3, 3, 3, 3, 3, 3, 3, 35, 3, 3, 52, 4, 4, 4, 68, 241, 241, 241, 241, 241, 241, 241, 241, 241, 241, 241] : List Int).map fun z => Value.int .u8 z).toArray
  { w0 with heap := bT }
noncomputable abbrev HM : Nat := (World.settled Tryz.prog default).heap.size
set_option maxRecDepth 1000000 in
theorem atP (os : Os) : laidMet Tryz.prog Rows.deskFrontUptoRow.laid ((N_ os).forCall (fun _ _ => 0) ⟨#[], #[.string .empty, .string .empty], []⟩).memory :=
  (LaidIn.of_run [4, 5, 3, 2, 7, 6, 1, HM, HM + 1] 8 (by kernel_rfl) (by kernel_rfl) (by kernel_rfl) (by kernel_rfl)).met
theorem aAP (os : Os) {H : Type} (enc : TypeId × Value → H) :
    (Rows.OpenSpec.upto Rows.deskFrontSpec).preRow enc Tryz.prog Tryz.f4 Rows.deskFrontUptoRow.domain false Rows.deskFrontUptoRow.laid ((N_ os).forCall (fun _ _ => 0) ⟨#[], #[.string .empty, .string .empty], []⟩).memory #[.string .empty, .string .empty] := by
  have hw : (DataW.whole enc Tryz.prog ((N_ os).forCall (fun _ _ => 0) ⟨#[], #[.string .empty, .string .empty], []⟩).memory Tryz.f4.params.toList Rows.deskFrontSpec.vars false (#[.string .empty, .string .empty] : Array Value).toList 8).map (fun x => (x.1, x.2.1)) = some ([.lit (.string []), .lit (.string [])], []) := by kernel_rfl
  obtain ⟨⟨fj, fQ, ih⟩, hx, BH⟩ := aOl.1 hw;simp only [aQx] at BH;obtain ⟨rfl, rfl⟩ := BH;exact OpenSpec.preRow_of_cond 8 hx (by kernel_rfl) (fun k aj => by cases aj; kernel_rfl) (by kernel_rfl) (atP os)
set_option maxRecDepth 100000 in
theorem lifted (os : Os) (started : os.Started) (H : Type) (enc : TypeId × Value → H) (F : Stop.Interp) :
    ReturnsInHanded {} Tryz.checked os 4 .any ((Rows.OpenSpec.upto Rows.deskFrontSpec).preRow enc Tryz.prog Tryz.f4 Rows.deskFrontUptoRow.domain false Rows.deskFrontUptoRow.laid) (((Rows.OpenSpec.upto Rows.deskFrontSpec).at F).post enc Tryz.prog Tryz.f4 false true false false) := by
  refine returnsInHanded_of_row (C := Tryz.checked) (s := Rows.OpenSpec.upto Rows.deskFrontSpec) own started (by kernel_rfl) Tryz.func4
    (witness_row_atRef (enc := enc) (C := Tryz.checked) false (N_ os) #[.string .empty, .string .empty] rfl (by kernel_rfl) (by kernel_rfl) (by kernel_rfl) (aAP os enc)) ?_
  intro W base args ds gs before hval b8 _ aqZ _ zP BG _;exact contract H enc W base args ds gs before hval b8 (aqZ _ Z) zP BG
theorem said : Rows.DeskFrontUptoSaid :=
  OpenClaim.holds_of_cond 4 Tryz.f4 rfl rfl rfl rfl rfl rfl rfl ⟨rfl, rfl, rfl, rfl, rfl⟩ rfl rfl rfl rfl rfl (by kernel_rfl) Tryz.func4 (by kernel_rfl)
    (aNt (by kernel_rfl)) (by unfold Func.isWrapper; first | (rw [aMI (by decide +kernel)]; kernel_rfl) | (rw [aMA (by decide +kernel)]; exact ⟨rfl, rfl⟩))
    (fun os started H enc _ F => by rw [OpenClaim.pre_eq_preRow]; exact lifted os started H enc F)
theorem plain (f : FuncId) (fn : Func) (hf : Tryz.pinned.checked.prog.funcNamed "musterfield/mustkeep.DeskFront" = some f) (arf : Tryz.pinned.checked.prog.funcs[f]? = some fn) :
    true = Tryz.pinned.checked.prog.looks [] ∧ ∀ (j : Nat) t, fn.params[j]? = some t → Tryz.pinned.checked.prog.wantsStandIn t = false := by
  obtain rfl : f = 4 := aMJ ((show Tryz.prog.funcNamed "musterfield/mustkeep.DeskFront" = some 4 by kernel_rfl).symm.trans hf) |>.symm
  obtain rfl : fn = Tryz.f4 := (aMJ (Tryz.func4.symm.trans arf)).symm;refine ⟨by kernel_rfl, fun j t aC => ?_⟩;rw [Tryz.params4] at aC;obtain rfl : t = 9 := by simpa using aQQ aC
  exact (show Tryz.prog.wantsStandIn 9 = false by kernel_rfl)
theorem proved : Rows.DeskFrontUptoCardSaid :=
  Claim7.holds_tied_plain_at .later [] _ _ _ _ said (fun _ h => by cases h) (by kernel_rfl) (fun _ h => by cases h) deskFrontUpto_row_tie rfl ⟨rfl, rfl⟩ (by kernel_rfl) rfl plain (by kernel_rfl)
#print axioms proved
end Go.Proofs.YthlpmldmhakhaaaGreatDoor.deskFrontUptoEnd
