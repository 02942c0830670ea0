/-
  No cell of these rows narrows 'for every input' (looked for: loops, veiled, ifaces, maps, wideKeys, modest, calm, conditions, laid).
  DERIVED. THE GIVEN ROWS OF THIS SEAT. 5 by the template 'for every input the law returns true; each argument reads behind the call as it read before'; 0 by the template 'total and deterministic' (their statements: YtmpkaphcpaigdaaTotals.lean).
  GIVEN WITH THE SEED: the statements are not yours to turn. If you find one false, say at which input.
  Laid BY PROGRAM, IN A SANDBOX (cutbox-rows.mjs): the forced cells as the released guide's own fill.sh prints them over the translation 7211413410beed11… (all of the seat's roots in one cut). By AI agents, Wed Nov 11 2026. No macro, syntax, notation, axiom, sorry.
-/
import Derived.Test.YtmpkaphcpaigdaaChecked
import GoSem.Claim
import GoSem.ClaimJoined
import GoSem.ClaimMapViews
import Derived.JoinedTies
import Derived.KernelRfl
namespace Go.Proofs.Ytmpkaphcpaigdaa
/- THE CELL 'sum', in the pinned program and in every row, IS THE sha256 OF THE DUMP (.gsa) THAT YtmpkaphcpaigdaaProg.lean LOADS. Nothing in Lean hashes anything: it is a label: what it is worth is what the hold of that sum in a sandbox is worth. -/
noncomputable def Try.pinned : Pinned := { name := "ytmpkaphcpaigdaa", sum := "7211413410beed11d086040f70297e94fa7d19266060b12d2208c7ab00b70b6e", checked := Try.checked }
namespace Rows
def none {H : Type} : Left H := { results := [], args := [] }

/-- 'mustkeep.TroopMark': WHATEVER THE INPUT: true; the input reads as it did. -/
def troopMarkSpec : ChangeSpec := { name := "troopMark", fn := fun _ => fun
  | [d1, d2] => { results := [.lit (.bool true)], args := [d1, d2] }
  | _ => none }
def troopMarkRow : OpenClaim := { program := "ytmpkaphcpaigdaa", sum := "7211413410beed11d086040f70297e94fa7d19266060b12d2208c7ab00b70b6e", func := "musterfield/mustkeep.TroopMark", spec := "troopMark", inPlace := ["internal/abi.NoEscape"], unfollowed := true, recurses := true, plainKeys := false, apart := false }
def TroopMarkSaid : Prop := troopMarkRow.holds Try.pinned (OpenSpec.ofChange troopMarkSpec)

/-- ITS FALSE NEIGHBOUR: 'it returns false'. Refute it at one input. -/
def troopMarkWrong : ChangeSpec := { name := "troopMark", fn := fun _ => fun
  | [d1, d2] => { results := [.lit (.bool false)], args := [d1, d2] }
  | _ => none }
def TroopMarkWrongFalsely : Prop := troopMarkRow.holds Try.pinned (OpenSpec.ofChange troopMarkWrong)

/-- 'mustkeep.FloodBest': WHATEVER THE INPUT: true; the input reads as it did. -/
def floodBestSpec : ChangeSpec := { name := "floodBest", fn := fun _ => fun
  | [d1, d2] => { results := [.lit (.bool true)], args := [d1, d2] }
  | _ => none }
def floodBestRow : OpenClaim := { program := "ytmpkaphcpaigdaa", sum := "7211413410beed11d086040f70297e94fa7d19266060b12d2208c7ab00b70b6e", func := "musterfield/mustkeep.FloodBest", spec := "floodBest", inPlace := ["internal/bytealg.IndexByteString", "internal/bytealg.CountString", "internal/bytealg.IndexString"], unfollowed := true, recurses := true, named := ["internal/bytealg.MaxLen"], plainKeys := false, apart := false }
def FloodBestSaid : Prop := floodBestRow.holds Try.pinned (OpenSpec.ofChange floodBestSpec)

/-- ITS FALSE NEIGHBOUR: 'it returns false'. Refute it at one input. -/
def floodBestWrong : ChangeSpec := { name := "floodBest", fn := fun _ => fun
  | [d1, d2] => { results := [.lit (.bool false)], args := [d1, d2] }
  | _ => none }
def FloodBestWrongFalsely : Prop := floodBestRow.holds Try.pinned (OpenSpec.ofChange floodBestWrong)

/-- 'mustkeep.FloodBack': WHATEVER THE INPUT: true; the input reads as it did. -/
def floodBackSpec : ChangeSpec := { name := "floodBack", fn := fun _ => fun
  | [d1, d2, d3] => { results := [.lit (.bool true)], args := [d1, d2, d3] }
  | _ => none }
def floodBackRow : OpenClaim := { program := "ytmpkaphcpaigdaa", sum := "7211413410beed11d086040f70297e94fa7d19266060b12d2208c7ab00b70b6e", func := "musterfield/mustkeep.FloodBack", spec := "floodBack", inPlace := ["internal/bytealg.IndexByteString", "internal/bytealg.CountString", "internal/bytealg.IndexString"], unfollowed := true, recurses := true, named := ["internal/bytealg.MaxLen"], plainKeys := false, apart := false }
def FloodBackSaid : Prop := floodBackRow.holds Try.pinned (OpenSpec.ofChange floodBackSpec)

/-- ITS FALSE NEIGHBOUR: 'it returns false'. Refute it at one input. -/
def floodBackWrong : ChangeSpec := { name := "floodBack", fn := fun _ => fun
  | [d1, d2, d3] => { results := [.lit (.bool false)], args := [d1, d2, d3] }
  | _ => none }
def FloodBackWrongFalsely : Prop := floodBackRow.holds Try.pinned (OpenSpec.ofChange floodBackWrong)

/-- 'mustkeep.FloodMore': WHATEVER THE INPUT: true; the input reads as it did. -/
def floodMoreSpec : ChangeSpec := { name := "floodMore", fn := fun _ => fun
  | [d1, d2, d3] => { results := [.lit (.bool true)], args := [d1, d2, d3] }
  | _ => none }
def floodMoreRow : OpenClaim := { program := "ytmpkaphcpaigdaa", sum := "7211413410beed11d086040f70297e94fa7d19266060b12d2208c7ab00b70b6e", func := "musterfield/mustkeep.FloodMore", spec := "floodMore", inPlace := ["internal/bytealg.IndexByteString", "internal/bytealg.CountString", "internal/bytealg.IndexString"], unfollowed := true, recurses := true, named := ["internal/bytealg.MaxLen"], plainKeys := false, apart := false }
def FloodMoreSaid : Prop := floodMoreRow.holds Try.pinned (OpenSpec.ofChange floodMoreSpec)

/-- ITS FALSE NEIGHBOUR: 'it returns false'. Refute it at one input. -/
def floodMoreWrong : ChangeSpec := { name := "floodMore", fn := fun _ => fun
  | [d1, d2, d3] => { results := [.lit (.bool false)], args := [d1, d2, d3] }
  | _ => none }
def FloodMoreWrongFalsely : Prop := floodMoreRow.holds Try.pinned (OpenSpec.ofChange floodMoreWrong)

/-- 'mustkeep.PathBest': WHATEVER THE INPUT: true; the input reads as it did. -/
def pathBestSpec : ChangeSpec := { name := "pathBest", fn := fun _ => fun
  | [d1, d2, d3] => { results := [.lit (.bool true)], args := [d1, d2, d3] }
  | _ => none }
def pathBestRow : OpenClaim := { program := "ytmpkaphcpaigdaa", sum := "7211413410beed11d086040f70297e94fa7d19266060b12d2208c7ab00b70b6e", func := "musterfield/mustkeep.PathBest", spec := "pathBest", inPlace := ["internal/bytealg.IndexByteString", "internal/bytealg.CountString", "internal/bytealg.IndexString"], unfollowed := true, recurses := true, named := ["internal/bytealg.MaxLen"], plainKeys := false, apart := false }
def PathBestSaid : Prop := pathBestRow.holds Try.pinned (OpenSpec.ofChange pathBestSpec)

/-- ITS FALSE NEIGHBOUR: 'it returns false'. Refute it at one input. -/
def pathBestWrong : ChangeSpec := { name := "pathBest", fn := fun _ => fun
  | [d1, d2, d3] => { results := [.lit (.bool false)], args := [d1, d2, d3] }
  | _ => none }
def PathBestWrongFalsely : Prop := pathBestRow.holds Try.pinned (OpenSpec.ofChange pathBestWrong)

/- THE SECOND FORM. 'bulk': how many values and letters a reading holds, each counted each time it is reached (what is shared counts as often as it is met; a slice's spare places count too). A statement '..UptoSaid' is the law's where the arguments, and the package variables that the reading takes, are together of bulk at most 1048576: NARROWER than '..Said'. Prove '..Said' where nothing that the law and all that it calls make is longer than what came in: it says more and counts as full. Else prove '..UptoSaid'. A law counts once. -/
mutual
def uptoBulk {H : Type} : DataW H → Nat
  | .lit (.string bytes) => bytes.length + 1
  | .lit _ => 1
  | .nil => 1
  | .ptr d => uptoBulk d + 1
  | .slice elems spare => uptoBulkAll elems + uptoBulkAll spare + 1
  | .agg parts => uptoBulkAll parts + 1
  | .iface _ d => uptoBulk d + 1
  | .map entries => uptoBulkEntries entries + 1
  | .held _ => 1
def uptoBulkAll {H : Type} : List (DataW H) → Nat
  | [] => 0
  | d :: r => uptoBulk d + uptoBulkAll r
def uptoBulkEntries {H : Type} : List (Lit × DataW H) → Nat
  | [] => 0
  | x :: r => uptoBulkEntry x + uptoBulkEntries r
def uptoBulkEntry {H : Type} : Lit × DataW H → Nat
  | (.string bytes, d) => bytes.length + uptoBulk d + 1
  | (_, d) => uptoBulk d + 1
 end
def uptoSmall : (H : Type) → List (DataW H) → Bool := fun _ ds => decide (uptoBulkAll ds ≤ 1048576)
def OpenSpec.upto (s : _root_.Go.ChangeSpec) : _root_.Go.OpenSpec := { _root_.Go.OpenSpec.ofChange s with cond := some uptoSmall }

/-- 'mustkeep.TroopMark', WHERE WHAT IT READS IS OF BULK AT MOST 1048576: true; the input reads as it did. -/
def troopMarkUptoRow : OpenClaim := { program := "ytmpkaphcpaigdaa", sum := "7211413410beed11d086040f70297e94fa7d19266060b12d2208c7ab00b70b6e", func := "musterfield/mustkeep.TroopMark", spec := "troopMark", inPlace := ["internal/abi.NoEscape"], unfollowed := true, recurses := true, plainKeys := false, apart := false, narrowed := true }
def TroopMarkUptoSaid : Prop := troopMarkUptoRow.holds Try.pinned (OpenSpec.upto troopMarkSpec)

/-- 'mustkeep.FloodBest', WHERE WHAT IT READS IS OF BULK AT MOST 1048576: true; the input reads as it did. -/
def floodBestUptoRow : OpenClaim := { program := "ytmpkaphcpaigdaa", sum := "7211413410beed11d086040f70297e94fa7d19266060b12d2208c7ab00b70b6e", func := "musterfield/mustkeep.FloodBest", spec := "floodBest", inPlace := ["internal/bytealg.IndexByteString", "internal/bytealg.CountString", "internal/bytealg.IndexString"], unfollowed := true, recurses := true, named := ["internal/bytealg.MaxLen"], plainKeys := false, apart := false, narrowed := true }
def FloodBestUptoSaid : Prop := floodBestUptoRow.holds Try.pinned (OpenSpec.upto floodBestSpec)

/-- 'mustkeep.FloodBack', WHERE WHAT IT READS IS OF BULK AT MOST 1048576: true; the input reads as it did. -/
def floodBackUptoRow : OpenClaim := { program := "ytmpkaphcpaigdaa", sum := "7211413410beed11d086040f70297e94fa7d19266060b12d2208c7ab00b70b6e", func := "musterfield/mustkeep.FloodBack", spec := "floodBack", inPlace := ["internal/bytealg.IndexByteString", "internal/bytealg.CountString", "internal/bytealg.IndexString"], unfollowed := true, recurses := true, named := ["internal/bytealg.MaxLen"], plainKeys := false, apart := false, narrowed := true }
def FloodBackUptoSaid : Prop := floodBackUptoRow.holds Try.pinned (OpenSpec.upto floodBackSpec)

/-- 'mustkeep.FloodMore', WHERE WHAT IT READS IS OF BULK AT MOST 1048576: true; the input reads as it did. -/
def floodMoreUptoRow : OpenClaim := { program := "ytmpkaphcpaigdaa", sum := "7211413410beed11d086040f70297e94fa7d19266060b12d2208c7ab00b70b6e", func := "musterfield/mustkeep.FloodMore", spec := "floodMore", inPlace := ["internal/bytealg.IndexByteString", "internal/bytealg.CountString", "internal/bytealg.IndexString"], unfollowed := true, recurses := true, named := ["internal/bytealg.MaxLen"], plainKeys := false, apart := false, narrowed := true }
def FloodMoreUptoSaid : Prop := floodMoreUptoRow.holds Try.pinned (OpenSpec.upto floodMoreSpec)

/-- 'mustkeep.PathBest', WHERE WHAT IT READS IS OF BULK AT MOST 1048576: true; the input reads as it did. -/
def pathBestUptoRow : OpenClaim := { program := "ytmpkaphcpaigdaa", sum := "7211413410beed11d086040f70297e94fa7d19266060b12d2208c7ab00b70b6e", func := "musterfield/mustkeep.PathBest", spec := "pathBest", inPlace := ["internal/bytealg.IndexByteString", "internal/bytealg.CountString", "internal/bytealg.IndexString"], unfollowed := true, recurses := true, named := ["internal/bytealg.MaxLen"], plainKeys := false, apart := false, narrowed := true }
def PathBestUptoSaid : Prop := pathBestUptoRow.holds Try.pinned (OpenSpec.upto pathBestSpec)

end Rows
end Go.Proofs.Ytmpkaphcpaigdaa
