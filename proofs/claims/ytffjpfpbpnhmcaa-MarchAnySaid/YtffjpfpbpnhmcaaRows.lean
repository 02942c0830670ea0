/-
  No cell of these rows narrows 'for every input' (looked for: loops, veiled, ifaces, maps, wideKeys, modest, calm, conditions, laid).
  DERIVED. THE GIVEN ROWS OF THIS SEAT. 12 by the template 'for every input the law returns true; each argument reads behind the call as it read before'; 0 by the template 'total and deterministic' (their statements: YtffjpfpbpnhmcaaTotals.lean).
  GIVEN WITH THE SEED: the statements are not yours to turn. If you find one false, say at which input.
  Laid BY PROGRAM, IN A SANDBOX (cutbox-rows.mjs): the forced cells as the released guide's own fill.sh prints them over the translation 1960f5cccbfffe49… (all of the seat's roots in one cut). By AI agents, Wed Nov 11 2026. No macro, syntax, notation, axiom, sorry.
-/
import Derived.Test.YtffjpfpbpnhmcaaChecked
import GoSem.Claim
import GoSem.ClaimJoined
import GoSem.ClaimMapViews
import Derived.JoinedTies
import Derived.KernelRfl
namespace Go.Proofs.Ytffjpfpbpnhmcaa
/- THE CELL 'sum', in the pinned program and in every row, IS THE sha256 OF THE DUMP (.gsa) THAT YtffjpfpbpnhmcaaProg.lean LOADS. Nothing in Lean hashes anything: it is a label: what it is worth is what the hold of that sum in a sandbox is worth. -/
noncomputable def Try.pinned : Pinned := { name := "ytffjpfpbpnhmcaa", sum := "1960f5cccbfffe49b6cb512bfec9ba94ccaafd7e51c2ba1786ed6c3a0ef33e9c", checked := Try.checked }
namespace Rows
def none {H : Type} : Left H := { results := [], args := [] }

/-- 'mustkeep.FloodBest': WHATEVER THE INPUT: true; the input reads as it did. -/
def floodBestSpec : ChangeSpec := { name := "floodBest", fn := fun _ => fun
  | [d1, d2] => { results := [.lit (.bool true)], args := [d1, d2] }
  | _ => none }
def floodBestRow : OpenClaim := { program := "ytffjpfpbpnhmcaa", sum := "1960f5cccbfffe49b6cb512bfec9ba94ccaafd7e51c2ba1786ed6c3a0ef33e9c", func := "musterfield/mustkeep.FloodBest", spec := "floodBest", inPlace := ["internal/bytealg.IndexByteString", "internal/bytealg.CountString", "internal/bytealg.IndexString"], unfollowed := true, recurses := true, named := ["internal/bytealg.MaxLen"], plainKeys := false, apart := false }
def FloodBestSaid : Prop := floodBestRow.holds Try.pinned (OpenSpec.ofChange floodBestSpec)

/-- ITS FALSE NEIGHBOUR: 'it returns false'. Refute it at one input. -/
def floodBestWrong : ChangeSpec := { name := "floodBest", fn := fun _ => fun
  | [d1, d2] => { results := [.lit (.bool false)], args := [d1, d2] }
  | _ => none }
def FloodBestWrongFalsely : Prop := floodBestRow.holds Try.pinned (OpenSpec.ofChange floodBestWrong)

/-- 'mustkeep.FloodBack': WHATEVER THE INPUT: true; the input reads as it did. -/
def floodBackSpec : ChangeSpec := { name := "floodBack", fn := fun _ => fun
  | [d1, d2, d3] => { results := [.lit (.bool true)], args := [d1, d2, d3] }
  | _ => none }
def floodBackRow : OpenClaim := { program := "ytffjpfpbpnhmcaa", sum := "1960f5cccbfffe49b6cb512bfec9ba94ccaafd7e51c2ba1786ed6c3a0ef33e9c", func := "musterfield/mustkeep.FloodBack", spec := "floodBack", inPlace := ["internal/bytealg.IndexByteString", "internal/bytealg.CountString", "internal/bytealg.IndexString"], unfollowed := true, recurses := true, named := ["internal/bytealg.MaxLen"], plainKeys := false, apart := false }
def FloodBackSaid : Prop := floodBackRow.holds Try.pinned (OpenSpec.ofChange floodBackSpec)

/-- ITS FALSE NEIGHBOUR: 'it returns false'. Refute it at one input. -/
def floodBackWrong : ChangeSpec := { name := "floodBack", fn := fun _ => fun
  | [d1, d2, d3] => { results := [.lit (.bool false)], args := [d1, d2, d3] }
  | _ => none }
def FloodBackWrongFalsely : Prop := floodBackRow.holds Try.pinned (OpenSpec.ofChange floodBackWrong)

/-- 'mustkeep.FloodMore': WHATEVER THE INPUT: true; the input reads as it did. -/
def floodMoreSpec : ChangeSpec := { name := "floodMore", fn := fun _ => fun
  | [d1, d2, d3] => { results := [.lit (.bool true)], args := [d1, d2, d3] }
  | _ => none }
def floodMoreRow : OpenClaim := { program := "ytffjpfpbpnhmcaa", sum := "1960f5cccbfffe49b6cb512bfec9ba94ccaafd7e51c2ba1786ed6c3a0ef33e9c", func := "musterfield/mustkeep.FloodMore", spec := "floodMore", inPlace := ["internal/bytealg.IndexByteString", "internal/bytealg.CountString", "internal/bytealg.IndexString"], unfollowed := true, recurses := true, named := ["internal/bytealg.MaxLen"], plainKeys := false, apart := false }
def FloodMoreSaid : Prop := floodMoreRow.holds Try.pinned (OpenSpec.ofChange floodMoreSpec)

/-- ITS FALSE NEIGHBOUR: 'it returns false'. Refute it at one input. -/
def floodMoreWrong : ChangeSpec := { name := "floodMore", fn := fun _ => fun
  | [d1, d2, d3] => { results := [.lit (.bool false)], args := [d1, d2, d3] }
  | _ => none }
def FloodMoreWrongFalsely : Prop := floodMoreRow.holds Try.pinned (OpenSpec.ofChange floodMoreWrong)

/-- 'mustkeep.PathPart': WHATEVER THE INPUT: true; the input reads as it did. -/
def pathPartSpec : ChangeSpec := { name := "pathPart", fn := fun _ => fun
  | [d1, d2, d3, d4, d5] => { results := [.lit (.bool true)], args := [d1, d2, d3, d4, d5] }
  | _ => none }
def pathPartRow : OpenClaim := { program := "ytffjpfpbpnhmcaa", sum := "1960f5cccbfffe49b6cb512bfec9ba94ccaafd7e51c2ba1786ed6c3a0ef33e9c", func := "musterfield/mustkeep.PathPart", spec := "pathPart", inPlace := ["internal/bytealg.IndexByteString", "internal/bytealg.CountString", "internal/bytealg.IndexString"], unfollowed := true, recurses := true, named := ["internal/bytealg.MaxLen"], plainKeys := false, apart := false }
def PathPartSaid : Prop := pathPartRow.holds Try.pinned (OpenSpec.ofChange pathPartSpec)

/-- ITS FALSE NEIGHBOUR: 'it returns false'. Refute it at one input. -/
def pathPartWrong : ChangeSpec := { name := "pathPart", fn := fun _ => fun
  | [d1, d2, d3, d4, d5] => { results := [.lit (.bool false)], args := [d1, d2, d3, d4, d5] }
  | _ => none }
def PathPartWrongFalsely : Prop := pathPartRow.holds Try.pinned (OpenSpec.ofChange pathPartWrong)

/-- 'mustkeep.PathOnce': WHATEVER THE INPUT: true; the input reads as it did. -/
def pathOnceSpec : ChangeSpec := { name := "pathOnce", fn := fun _ => fun
  | [d1, d2, d3] => { results := [.lit (.bool true)], args := [d1, d2, d3] }
  | _ => none }
def pathOnceRow : OpenClaim := { program := "ytffjpfpbpnhmcaa", sum := "1960f5cccbfffe49b6cb512bfec9ba94ccaafd7e51c2ba1786ed6c3a0ef33e9c", func := "musterfield/mustkeep.PathOnce", spec := "pathOnce", inPlace := ["internal/bytealg.IndexByteString", "internal/bytealg.CountString", "internal/bytealg.IndexString"], unfollowed := true, recurses := true, named := ["internal/bytealg.MaxLen"], plainKeys := false, apart := false }
def PathOnceSaid : Prop := pathOnceRow.holds Try.pinned (OpenSpec.ofChange pathOnceSpec)

/-- ITS FALSE NEIGHBOUR: 'it returns false'. Refute it at one input. -/
def pathOnceWrong : ChangeSpec := { name := "pathOnce", fn := fun _ => fun
  | [d1, d2, d3] => { results := [.lit (.bool false)], args := [d1, d2, d3] }
  | _ => none }
def PathOnceWrongFalsely : Prop := pathOnceRow.holds Try.pinned (OpenSpec.ofChange pathOnceWrong)

/-- 'mustkeep.PathBest': WHATEVER THE INPUT: true; the input reads as it did. -/
def pathBestSpec : ChangeSpec := { name := "pathBest", fn := fun _ => fun
  | [d1, d2, d3] => { results := [.lit (.bool true)], args := [d1, d2, d3] }
  | _ => none }
def pathBestRow : OpenClaim := { program := "ytffjpfpbpnhmcaa", sum := "1960f5cccbfffe49b6cb512bfec9ba94ccaafd7e51c2ba1786ed6c3a0ef33e9c", func := "musterfield/mustkeep.PathBest", spec := "pathBest", inPlace := ["internal/bytealg.IndexByteString", "internal/bytealg.CountString", "internal/bytealg.IndexString"], unfollowed := true, recurses := true, named := ["internal/bytealg.MaxLen"], plainKeys := false, apart := false }
def PathBestSaid : Prop := pathBestRow.holds Try.pinned (OpenSpec.ofChange pathBestSpec)

/-- ITS FALSE NEIGHBOUR: 'it returns false'. Refute it at one input. -/
def pathBestWrong : ChangeSpec := { name := "pathBest", fn := fun _ => fun
  | [d1, d2, d3] => { results := [.lit (.bool false)], args := [d1, d2, d3] }
  | _ => none }
def PathBestWrongFalsely : Prop := pathBestRow.holds Try.pinned (OpenSpec.ofChange pathBestWrong)

/-- 'mustkeep.MarchAny': WHATEVER THE INPUT: true; the input reads as it did. -/
def marchAnySpec : ChangeSpec := { name := "marchAny", fn := fun _ => fun
  | [d1, d2] => { results := [.lit (.bool true)], args := [d1, d2] }
  | _ => none }
def marchAnyRow : OpenClaim := { program := "ytffjpfpbpnhmcaa", sum := "1960f5cccbfffe49b6cb512bfec9ba94ccaafd7e51c2ba1786ed6c3a0ef33e9c", func := "musterfield/mustkeep.MarchAny", spec := "marchAny", unfollowed := true, recurses := true, plainKeys := false, apart := false }
def MarchAnySaid : Prop := marchAnyRow.holds Try.pinned (OpenSpec.ofChange marchAnySpec)

/-- ITS FALSE NEIGHBOUR: 'it returns false'. Refute it at one input. -/
def marchAnyWrong : ChangeSpec := { name := "marchAny", fn := fun _ => fun
  | [d1, d2] => { results := [.lit (.bool false)], args := [d1, d2] }
  | _ => none }
def MarchAnyWrongFalsely : Prop := marchAnyRow.holds Try.pinned (OpenSpec.ofChange marchAnyWrong)

/-- 'mustkeep.MarchRight': WHATEVER THE INPUT: true; the input reads as it did. -/
def marchRightSpec : ChangeSpec := { name := "marchRight", fn := fun _ => fun
  | [d1, d2] => { results := [.lit (.bool true)], args := [d1, d2] }
  | _ => none }
def marchRightRow : OpenClaim := { program := "ytffjpfpbpnhmcaa", sum := "1960f5cccbfffe49b6cb512bfec9ba94ccaafd7e51c2ba1786ed6c3a0ef33e9c", func := "musterfield/mustkeep.MarchRight", spec := "marchRight", unfollowed := true, recurses := true, plainKeys := false, apart := false }
def MarchRightSaid : Prop := marchRightRow.holds Try.pinned (OpenSpec.ofChange marchRightSpec)

/-- ITS FALSE NEIGHBOUR: 'it returns false'. Refute it at one input. -/
def marchRightWrong : ChangeSpec := { name := "marchRight", fn := fun _ => fun
  | [d1, d2] => { results := [.lit (.bool false)], args := [d1, d2] }
  | _ => none }
def MarchRightWrongFalsely : Prop := marchRightRow.holds Try.pinned (OpenSpec.ofChange marchRightWrong)

/-- 'mustkeep.MarchComes': WHATEVER THE INPUT: true; the input reads as it did. -/
def marchComesSpec : ChangeSpec := { name := "marchComes", fn := fun _ => fun
  | [d1, d2, d3] => { results := [.lit (.bool true)], args := [d1, d2, d3] }
  | _ => none }
def marchComesRow : OpenClaim := { program := "ytffjpfpbpnhmcaa", sum := "1960f5cccbfffe49b6cb512bfec9ba94ccaafd7e51c2ba1786ed6c3a0ef33e9c", func := "musterfield/mustkeep.MarchComes", spec := "marchComes", unfollowed := true, recurses := true, plainKeys := false, apart := false }
def MarchComesSaid : Prop := marchComesRow.holds Try.pinned (OpenSpec.ofChange marchComesSpec)

/-- ITS FALSE NEIGHBOUR: 'it returns false'. Refute it at one input. -/
def marchComesWrong : ChangeSpec := { name := "marchComes", fn := fun _ => fun
  | [d1, d2, d3] => { results := [.lit (.bool false)], args := [d1, d2, d3] }
  | _ => none }
def MarchComesWrongFalsely : Prop := marchComesRow.holds Try.pinned (OpenSpec.ofChange marchComesWrong)

/-- 'mustkeep.MarchCuts': WHATEVER THE INPUT: true; the input reads as it did. -/
def marchCutsSpec : ChangeSpec := { name := "marchCuts", fn := fun _ => fun
  | [d1, d2, d3, d4, d5] => { results := [.lit (.bool true)], args := [d1, d2, d3, d4, d5] }
  | _ => none }
def marchCutsRow : OpenClaim := { program := "ytffjpfpbpnhmcaa", sum := "1960f5cccbfffe49b6cb512bfec9ba94ccaafd7e51c2ba1786ed6c3a0ef33e9c", func := "musterfield/mustkeep.MarchCuts", spec := "marchCuts", unfollowed := true, recurses := true, plainKeys := false, apart := false }
def MarchCutsSaid : Prop := marchCutsRow.holds Try.pinned (OpenSpec.ofChange marchCutsSpec)

/-- ITS FALSE NEIGHBOUR: 'it returns false'. Refute it at one input. -/
def marchCutsWrong : ChangeSpec := { name := "marchCuts", fn := fun _ => fun
  | [d1, d2, d3, d4, d5] => { results := [.lit (.bool false)], args := [d1, d2, d3, d4, d5] }
  | _ => none }
def MarchCutsWrongFalsely : Prop := marchCutsRow.holds Try.pinned (OpenSpec.ofChange marchCutsWrong)

/-- 'mustkeep.MarchOwn': WHATEVER THE INPUT: true; the input reads as it did. -/
def marchOwnSpec : ChangeSpec := { name := "marchOwn", fn := fun _ => fun
  | [d1, d2, d3, d4] => { results := [.lit (.bool true)], args := [d1, d2, d3, d4] }
  | _ => none }
def marchOwnRow : OpenClaim := { program := "ytffjpfpbpnhmcaa", sum := "1960f5cccbfffe49b6cb512bfec9ba94ccaafd7e51c2ba1786ed6c3a0ef33e9c", func := "musterfield/mustkeep.MarchOwn", spec := "marchOwn", unfollowed := true, recurses := true, plainKeys := false, apart := false }
def MarchOwnSaid : Prop := marchOwnRow.holds Try.pinned (OpenSpec.ofChange marchOwnSpec)

/-- ITS FALSE NEIGHBOUR: 'it returns false'. Refute it at one input. -/
def marchOwnWrong : ChangeSpec := { name := "marchOwn", fn := fun _ => fun
  | [d1, d2, d3, d4] => { results := [.lit (.bool false)], args := [d1, d2, d3, d4] }
  | _ => none }
def MarchOwnWrongFalsely : Prop := marchOwnRow.holds Try.pinned (OpenSpec.ofChange marchOwnWrong)

/-- 'mustkeep.TroopMark': WHATEVER THE INPUT: true; the input reads as it did. -/
def troopMarkSpec : ChangeSpec := { name := "troopMark", fn := fun _ => fun
  | [d1, d2] => { results := [.lit (.bool true)], args := [d1, d2] }
  | _ => none }
def troopMarkRow : OpenClaim := { program := "ytffjpfpbpnhmcaa", sum := "1960f5cccbfffe49b6cb512bfec9ba94ccaafd7e51c2ba1786ed6c3a0ef33e9c", func := "musterfield/mustkeep.TroopMark", spec := "troopMark", inPlace := ["internal/abi.NoEscape"], unfollowed := true, recurses := true, plainKeys := false, apart := false }
def TroopMarkSaid : Prop := troopMarkRow.holds Try.pinned (OpenSpec.ofChange troopMarkSpec)

/-- ITS FALSE NEIGHBOUR: 'it returns false'. Refute it at one input. -/
def troopMarkWrong : ChangeSpec := { name := "troopMark", fn := fun _ => fun
  | [d1, d2] => { results := [.lit (.bool false)], args := [d1, d2] }
  | _ => none }
def TroopMarkWrongFalsely : Prop := troopMarkRow.holds Try.pinned (OpenSpec.ofChange troopMarkWrong)

/- THE SECOND FORM. 'bulk': how many values and letters a reading holds, each counted each time it is reached (what is shared counts as often as it is met; a slice's spare places count too). A statement '..UptoSaid' is the law's where the arguments, and the package variables that the reading takes, are together of bulk at most 1048576: NARROWER than '..Said'. Prove '..Said' where nothing that the law and all that it calls make is longer than what came in: it says more and counts as full. Else prove '..UptoSaid'. A law counts once. -/
mutual
def uptoBulk {H : Type} : DataW H → Nat
  | .lit (.string bytes) => bytes.length + 1
  | .lit _ => 1
  | .nil => 1
  | .ptr d => uptoBulk d + 1
  | .slice elems spare => uptoBulkAll elems + uptoBulkAll spare + 1
  | .agg parts => uptoBulkAll parts + 1
  | .iface _ d => uptoBulk d + 1
  | .map entries => uptoBulkEntries entries + 1
  | .held _ => 1
def uptoBulkAll {H : Type} : List (DataW H) → Nat
  | [] => 0
  | d :: r => uptoBulk d + uptoBulkAll r
def uptoBulkEntries {H : Type} : List (Lit × DataW H) → Nat
  | [] => 0
  | x :: r => uptoBulkEntry x + uptoBulkEntries r
def uptoBulkEntry {H : Type} : Lit × DataW H → Nat
  | (.string bytes, d) => bytes.length + uptoBulk d + 1
  | (_, d) => uptoBulk d + 1
 end
def uptoSmall : (H : Type) → List (DataW H) → Bool := fun _ ds => decide (uptoBulkAll ds ≤ 1048576)
def OpenSpec.upto (s : _root_.Go.ChangeSpec) : _root_.Go.OpenSpec := { _root_.Go.OpenSpec.ofChange s with cond := some uptoSmall }

/-- 'mustkeep.FloodBest', WHERE WHAT IT READS IS OF BULK AT MOST 1048576: true; the input reads as it did. -/
def floodBestUptoRow : OpenClaim := { program := "ytffjpfpbpnhmcaa", sum := "1960f5cccbfffe49b6cb512bfec9ba94ccaafd7e51c2ba1786ed6c3a0ef33e9c", func := "musterfield/mustkeep.FloodBest", spec := "floodBest", inPlace := ["internal/bytealg.IndexByteString", "internal/bytealg.CountString", "internal/bytealg.IndexString"], unfollowed := true, recurses := true, named := ["internal/bytealg.MaxLen"], plainKeys := false, apart := false, narrowed := true }
def FloodBestUptoSaid : Prop := floodBestUptoRow.holds Try.pinned (OpenSpec.upto floodBestSpec)

/-- 'mustkeep.FloodBack', WHERE WHAT IT READS IS OF BULK AT MOST 1048576: true; the input reads as it did. -/
def floodBackUptoRow : OpenClaim := { program := "ytffjpfpbpnhmcaa", sum := "1960f5cccbfffe49b6cb512bfec9ba94ccaafd7e51c2ba1786ed6c3a0ef33e9c", func := "musterfield/mustkeep.FloodBack", spec := "floodBack", inPlace := ["internal/bytealg.IndexByteString", "internal/bytealg.CountString", "internal/bytealg.IndexString"], unfollowed := true, recurses := true, named := ["internal/bytealg.MaxLen"], plainKeys := false, apart := false, narrowed := true }
def FloodBackUptoSaid : Prop := floodBackUptoRow.holds Try.pinned (OpenSpec.upto floodBackSpec)

/-- 'mustkeep.FloodMore', WHERE WHAT IT READS IS OF BULK AT MOST 1048576: true; the input reads as it did. -/
def floodMoreUptoRow : OpenClaim := { program := "ytffjpfpbpnhmcaa", sum := "1960f5cccbfffe49b6cb512bfec9ba94ccaafd7e51c2ba1786ed6c3a0ef33e9c", func := "musterfield/mustkeep.FloodMore", spec := "floodMore", inPlace := ["internal/bytealg.IndexByteString", "internal/bytealg.CountString", "internal/bytealg.IndexString"], unfollowed := true, recurses := true, named := ["internal/bytealg.MaxLen"], plainKeys := false, apart := false, narrowed := true }
def FloodMoreUptoSaid : Prop := floodMoreUptoRow.holds Try.pinned (OpenSpec.upto floodMoreSpec)

/-- 'mustkeep.PathPart', WHERE WHAT IT READS IS OF BULK AT MOST 1048576: true; the input reads as it did. -/
def pathPartUptoRow : OpenClaim := { program := "ytffjpfpbpnhmcaa", sum := "1960f5cccbfffe49b6cb512bfec9ba94ccaafd7e51c2ba1786ed6c3a0ef33e9c", func := "musterfield/mustkeep.PathPart", spec := "pathPart", inPlace := ["internal/bytealg.IndexByteString", "internal/bytealg.CountString", "internal/bytealg.IndexString"], unfollowed := true, recurses := true, named := ["internal/bytealg.MaxLen"], plainKeys := false, apart := false, narrowed := true }
def PathPartUptoSaid : Prop := pathPartUptoRow.holds Try.pinned (OpenSpec.upto pathPartSpec)

/-- 'mustkeep.PathOnce', WHERE WHAT IT READS IS OF BULK AT MOST 1048576: true; the input reads as it did. -/
def pathOnceUptoRow : OpenClaim := { program := "ytffjpfpbpnhmcaa", sum := "1960f5cccbfffe49b6cb512bfec9ba94ccaafd7e51c2ba1786ed6c3a0ef33e9c", func := "musterfield/mustkeep.PathOnce", spec := "pathOnce", inPlace := ["internal/bytealg.IndexByteString", "internal/bytealg.CountString", "internal/bytealg.IndexString"], unfollowed := true, recurses := true, named := ["internal/bytealg.MaxLen"], plainKeys := false, apart := false, narrowed := true }
def PathOnceUptoSaid : Prop := pathOnceUptoRow.holds Try.pinned (OpenSpec.upto pathOnceSpec)

/-- 'mustkeep.PathBest', WHERE WHAT IT READS IS OF BULK AT MOST 1048576: true; the input reads as it did. -/
def pathBestUptoRow : OpenClaim := { program := "ytffjpfpbpnhmcaa", sum := "1960f5cccbfffe49b6cb512bfec9ba94ccaafd7e51c2ba1786ed6c3a0ef33e9c", func := "musterfield/mustkeep.PathBest", spec := "pathBest", inPlace := ["internal/bytealg.IndexByteString", "internal/bytealg.CountString", "internal/bytealg.IndexString"], unfollowed := true, recurses := true, named := ["internal/bytealg.MaxLen"], plainKeys := false, apart := false, narrowed := true }
def PathBestUptoSaid : Prop := pathBestUptoRow.holds Try.pinned (OpenSpec.upto pathBestSpec)

/-- 'mustkeep.MarchAny', WHERE WHAT IT READS IS OF BULK AT MOST 1048576: true; the input reads as it did. -/
def marchAnyUptoRow : OpenClaim := { program := "ytffjpfpbpnhmcaa", sum := "1960f5cccbfffe49b6cb512bfec9ba94ccaafd7e51c2ba1786ed6c3a0ef33e9c", func := "musterfield/mustkeep.MarchAny", spec := "marchAny", unfollowed := true, recurses := true, plainKeys := false, apart := false, narrowed := true }
def MarchAnyUptoSaid : Prop := marchAnyUptoRow.holds Try.pinned (OpenSpec.upto marchAnySpec)

/-- 'mustkeep.MarchRight', WHERE WHAT IT READS IS OF BULK AT MOST 1048576: true; the input reads as it did. -/
def marchRightUptoRow : OpenClaim := { program := "ytffjpfpbpnhmcaa", sum := "1960f5cccbfffe49b6cb512bfec9ba94ccaafd7e51c2ba1786ed6c3a0ef33e9c", func := "musterfield/mustkeep.MarchRight", spec := "marchRight", unfollowed := true, recurses := true, plainKeys := false, apart := false, narrowed := true }
def MarchRightUptoSaid : Prop := marchRightUptoRow.holds Try.pinned (OpenSpec.upto marchRightSpec)

/-- 'mustkeep.MarchComes', WHERE WHAT IT READS IS OF BULK AT MOST 1048576: true; the input reads as it did. -/
def marchComesUptoRow : OpenClaim := { program := "ytffjpfpbpnhmcaa", sum := "1960f5cccbfffe49b6cb512bfec9ba94ccaafd7e51c2ba1786ed6c3a0ef33e9c", func := "musterfield/mustkeep.MarchComes", spec := "marchComes", unfollowed := true, recurses := true, plainKeys := false, apart := false, narrowed := true }
def MarchComesUptoSaid : Prop := marchComesUptoRow.holds Try.pinned (OpenSpec.upto marchComesSpec)

/-- 'mustkeep.MarchCuts', WHERE WHAT IT READS IS OF BULK AT MOST 1048576: true; the input reads as it did. -/
def marchCutsUptoRow : OpenClaim := { program := "ytffjpfpbpnhmcaa", sum := "1960f5cccbfffe49b6cb512bfec9ba94ccaafd7e51c2ba1786ed6c3a0ef33e9c", func := "musterfield/mustkeep.MarchCuts", spec := "marchCuts", unfollowed := true, recurses := true, plainKeys := false, apart := false, narrowed := true }
def MarchCutsUptoSaid : Prop := marchCutsUptoRow.holds Try.pinned (OpenSpec.upto marchCutsSpec)

/-- 'mustkeep.MarchOwn', WHERE WHAT IT READS IS OF BULK AT MOST 1048576: true; the input reads as it did. -/
def marchOwnUptoRow : OpenClaim := { program := "ytffjpfpbpnhmcaa", sum := "1960f5cccbfffe49b6cb512bfec9ba94ccaafd7e51c2ba1786ed6c3a0ef33e9c", func := "musterfield/mustkeep.MarchOwn", spec := "marchOwn", unfollowed := true, recurses := true, plainKeys := false, apart := false, narrowed := true }
def MarchOwnUptoSaid : Prop := marchOwnUptoRow.holds Try.pinned (OpenSpec.upto marchOwnSpec)

/-- 'mustkeep.TroopMark', WHERE WHAT IT READS IS OF BULK AT MOST 1048576: true; the input reads as it did. -/
def troopMarkUptoRow : OpenClaim := { program := "ytffjpfpbpnhmcaa", sum := "1960f5cccbfffe49b6cb512bfec9ba94ccaafd7e51c2ba1786ed6c3a0ef33e9c", func := "musterfield/mustkeep.TroopMark", spec := "troopMark", inPlace := ["internal/abi.NoEscape"], unfollowed := true, recurses := true, plainKeys := false, apart := false, narrowed := true }
def TroopMarkUptoSaid : Prop := troopMarkUptoRow.holds Try.pinned (OpenSpec.upto troopMarkSpec)

end Rows
end Go.Proofs.Ytffjpfpbpnhmcaa
