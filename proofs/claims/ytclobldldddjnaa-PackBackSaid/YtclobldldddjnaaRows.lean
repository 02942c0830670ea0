/-
  No cell of these rows narrows 'for every input' (looked for: loops, veiled, ifaces, maps, wideKeys, modest, calm, conditions, laid).
  DERIVED. THE GIVEN ROWS OF THIS SEAT. 11 by the template 'for every input the law returns true; each argument reads behind the call as it read before'; 0 by the template 'total and deterministic' (their statements: YtclobldldddjnaaTotals.lean).
  GIVEN WITH THE SEED: the statements are not yours to turn. If you find one false, say at which input.
  Laid BY PROGRAM, IN A SANDBOX (cutbox-rows.mjs): the forced cells as the released guide's own fill.sh prints them over the translation 42b18385c0f63f0e… (all of the seat's roots in one cut). By AI agents, Wed Nov 11 2026. No macro, syntax, notation, axiom, sorry.
-/
import Derived.Test.YtclobldldddjnaaChecked
import GoSem.Claim
import GoSem.ClaimJoined
import GoSem.ClaimMapViews
import Derived.JoinedTies
import Derived.KernelRfl
namespace Go.Proofs.Ytclobldldddjnaa
/- THE CELL 'sum', in the pinned program and in every row, IS THE sha256 OF THE DUMP (.gsa) THAT YtclobldldddjnaaProg.lean LOADS. Nothing in Lean hashes anything: it is a label: what it is worth is what the hold of that sum in a sandbox is worth. -/
noncomputable def Try.pinned : Pinned := { name := "ytclobldldddjnaa", sum := "42b18385c0f63f0ee9beb5777cdee72f92b8e7f10d5bf018bee22f0c0f80a705", checked := Try.checked }
namespace Rows
def none {H : Type} : Left H := { results := [], args := [] }

/-- 'mustkeep.LineNear': WHATEVER THE INPUT: true; the input reads as it did. -/
def lineNearSpec : ChangeSpec := { name := "lineNear", fn := fun _ => fun
  | [d1, d2] => { results := [.lit (.bool true)], args := [d1, d2] }
  | _ => none }
def lineNearRow : OpenClaim := { program := "ytclobldldddjnaa", sum := "42b18385c0f63f0ee9beb5777cdee72f92b8e7f10d5bf018bee22f0c0f80a705", func := "musterfield/mustkeep.LineNear", spec := "lineNear", apart := false }
def LineNearSaid : Prop := lineNearRow.holds Try.pinned (OpenSpec.ofChange lineNearSpec)

/-- ITS FALSE NEIGHBOUR: 'it returns false'. Refute it at one input. -/
def lineNearWrong : ChangeSpec := { name := "lineNear", fn := fun _ => fun
  | [d1, d2] => { results := [.lit (.bool false)], args := [d1, d2] }
  | _ => none }
def LineNearWrongFalsely : Prop := lineNearRow.holds Try.pinned (OpenSpec.ofChange lineNearWrong)

/-- 'mustkeep.LineMoved': WHATEVER THE INPUT: true; the input reads as it did. -/
def lineMovedSpec : ChangeSpec := { name := "lineMoved", fn := fun _ => fun
  | [d1, d2, d3, d4] => { results := [.lit (.bool true)], args := [d1, d2, d3, d4] }
  | _ => none }
def lineMovedRow : OpenClaim := { program := "ytclobldldddjnaa", sum := "42b18385c0f63f0ee9beb5777cdee72f92b8e7f10d5bf018bee22f0c0f80a705", func := "musterfield/mustkeep.LineMoved", spec := "lineMoved", apart := false }
def LineMovedSaid : Prop := lineMovedRow.holds Try.pinned (OpenSpec.ofChange lineMovedSpec)

/-- ITS FALSE NEIGHBOUR: 'it returns false'. Refute it at one input. -/
def lineMovedWrong : ChangeSpec := { name := "lineMoved", fn := fun _ => fun
  | [d1, d2, d3, d4] => { results := [.lit (.bool false)], args := [d1, d2, d3, d4] }
  | _ => none }
def LineMovedWrongFalsely : Prop := lineMovedRow.holds Try.pinned (OpenSpec.ofChange lineMovedWrong)

/-- 'mustkeep.LineWay': WHATEVER THE INPUT: true; the input reads as it did. -/
def lineWaySpec : ChangeSpec := { name := "lineWay", fn := fun _ => fun
  | [d1, d2] => { results := [.lit (.bool true)], args := [d1, d2] }
  | _ => none }
def lineWayRow : OpenClaim := { program := "ytclobldldddjnaa", sum := "42b18385c0f63f0ee9beb5777cdee72f92b8e7f10d5bf018bee22f0c0f80a705", func := "musterfield/mustkeep.LineWay", spec := "lineWay", apart := false }
def LineWaySaid : Prop := lineWayRow.holds Try.pinned (OpenSpec.ofChange lineWaySpec)

/-- ITS FALSE NEIGHBOUR: 'it returns false'. Refute it at one input. -/
def lineWayWrong : ChangeSpec := { name := "lineWay", fn := fun _ => fun
  | [d1, d2] => { results := [.lit (.bool false)], args := [d1, d2] }
  | _ => none }
def LineWayWrongFalsely : Prop := lineWayRow.holds Try.pinned (OpenSpec.ofChange lineWayWrong)

/-- 'mustkeep.FixOrder': WHATEVER THE INPUT: true; the input reads as it did. -/
def fixOrderSpec : ChangeSpec := { name := "fixOrder", fn := fun _ => fun
  | [d1, d2, d3] => { results := [.lit (.bool true)], args := [d1, d2, d3] }
  | _ => none }
def fixOrderRow : OpenClaim := { program := "ytclobldldddjnaa", sum := "42b18385c0f63f0ee9beb5777cdee72f92b8e7f10d5bf018bee22f0c0f80a705", func := "musterfield/mustkeep.FixOrder", spec := "fixOrder", apart := false }
def FixOrderSaid : Prop := fixOrderRow.holds Try.pinned (OpenSpec.ofChange fixOrderSpec)

/-- ITS FALSE NEIGHBOUR: 'it returns false'. Refute it at one input. -/
def fixOrderWrong : ChangeSpec := { name := "fixOrder", fn := fun _ => fun
  | [d1, d2, d3] => { results := [.lit (.bool false)], args := [d1, d2, d3] }
  | _ => none }
def FixOrderWrongFalsely : Prop := fixOrderRow.holds Try.pinned (OpenSpec.ofChange fixOrderWrong)

/-- 'mustkeep.FixRoot': WHATEVER THE INPUT: true; the input reads as it did. -/
def fixRootSpec : ChangeSpec := { name := "fixRoot", fn := fun _ => fun
  | [d] => { results := [.lit (.bool true)], args := [d] }
  | _ => none }
def fixRootRow : OpenClaim := { program := "ytclobldldddjnaa", sum := "42b18385c0f63f0ee9beb5777cdee72f92b8e7f10d5bf018bee22f0c0f80a705", func := "musterfield/mustkeep.FixRoot", spec := "fixRoot", apart := false }
def FixRootSaid : Prop := fixRootRow.holds Try.pinned (OpenSpec.ofChange fixRootSpec)

/-- ITS FALSE NEIGHBOUR: 'it returns false'. Refute it at one input. -/
def fixRootWrong : ChangeSpec := { name := "fixRoot", fn := fun _ => fun
  | [d] => { results := [.lit (.bool false)], args := [d] }
  | _ => none }
def FixRootWrongFalsely : Prop := fixRootRow.holds Try.pinned (OpenSpec.ofChange fixRootWrong)

/-- 'mustkeep.FixBack': WHATEVER THE INPUT: true; the input reads as it did. -/
def fixBackSpec : ChangeSpec := { name := "fixBack", fn := fun _ => fun
  | [d1, d2] => { results := [.lit (.bool true)], args := [d1, d2] }
  | _ => none }
def fixBackRow : OpenClaim := { program := "ytclobldldddjnaa", sum := "42b18385c0f63f0ee9beb5777cdee72f92b8e7f10d5bf018bee22f0c0f80a705", func := "musterfield/mustkeep.FixBack", spec := "fixBack", apart := false }
def FixBackSaid : Prop := fixBackRow.holds Try.pinned (OpenSpec.ofChange fixBackSpec)

/-- ITS FALSE NEIGHBOUR: 'it returns false'. Refute it at one input. -/
def fixBackWrong : ChangeSpec := { name := "fixBack", fn := fun _ => fun
  | [d1, d2] => { results := [.lit (.bool false)], args := [d1, d2] }
  | _ => none }
def FixBackWrongFalsely : Prop := fixBackRow.holds Try.pinned (OpenSpec.ofChange fixBackWrong)

/-- 'mustkeep.VoteFew': WHATEVER THE INPUT: true; the input reads as it did. -/
def voteFewSpec : ChangeSpec := { name := "voteFew", fn := fun _ => fun
  | [d1, d2] => { results := [.lit (.bool true)], args := [d1, d2] }
  | _ => none }
def voteFewRow : OpenClaim := { program := "ytclobldldddjnaa", sum := "42b18385c0f63f0ee9beb5777cdee72f92b8e7f10d5bf018bee22f0c0f80a705", func := "musterfield/mustkeep.VoteFew", spec := "voteFew", unfollowed := true, recurses := true, apart := false }
def VoteFewSaid : Prop := voteFewRow.holds Try.pinned (OpenSpec.ofChange voteFewSpec)

/-- ITS FALSE NEIGHBOUR: 'it returns false'. Refute it at one input. -/
def voteFewWrong : ChangeSpec := { name := "voteFew", fn := fun _ => fun
  | [d1, d2] => { results := [.lit (.bool false)], args := [d1, d2] }
  | _ => none }
def VoteFewWrongFalsely : Prop := voteFewRow.holds Try.pinned (OpenSpec.ofChange voteFewWrong)

/-- 'mustkeep.VoteMeet': WHATEVER THE INPUT: true; the input reads as it did. -/
def voteMeetSpec : ChangeSpec := { name := "voteMeet", fn := fun _ => fun
  | [d1, d2, d3] => { results := [.lit (.bool true)], args := [d1, d2, d3] }
  | _ => none }
def voteMeetRow : OpenClaim := { program := "ytclobldldddjnaa", sum := "42b18385c0f63f0ee9beb5777cdee72f92b8e7f10d5bf018bee22f0c0f80a705", func := "musterfield/mustkeep.VoteMeet", spec := "voteMeet", unfollowed := true, recurses := true, apart := false }
def VoteMeetSaid : Prop := voteMeetRow.holds Try.pinned (OpenSpec.ofChange voteMeetSpec)

/-- ITS FALSE NEIGHBOUR: 'it returns false'. Refute it at one input. -/
def voteMeetWrong : ChangeSpec := { name := "voteMeet", fn := fun _ => fun
  | [d1, d2, d3] => { results := [.lit (.bool false)], args := [d1, d2, d3] }
  | _ => none }
def VoteMeetWrongFalsely : Prop := voteMeetRow.holds Try.pinned (OpenSpec.ofChange voteMeetWrong)

/-- 'mustkeep.VoteBack': WHATEVER THE INPUT: true; the input reads as it did. -/
def voteBackSpec : ChangeSpec := { name := "voteBack", fn := fun _ => fun
  | [d1, d2, d3] => { results := [.lit (.bool true)], args := [d1, d2, d3] }
  | _ => none }
def voteBackRow : OpenClaim := { program := "ytclobldldddjnaa", sum := "42b18385c0f63f0ee9beb5777cdee72f92b8e7f10d5bf018bee22f0c0f80a705", func := "musterfield/mustkeep.VoteBack", spec := "voteBack", unfollowed := true, recurses := true, apart := false }
def VoteBackSaid : Prop := voteBackRow.holds Try.pinned (OpenSpec.ofChange voteBackSpec)

/-- ITS FALSE NEIGHBOUR: 'it returns false'. Refute it at one input. -/
def voteBackWrong : ChangeSpec := { name := "voteBack", fn := fun _ => fun
  | [d1, d2, d3] => { results := [.lit (.bool false)], args := [d1, d2, d3] }
  | _ => none }
def VoteBackWrongFalsely : Prop := voteBackRow.holds Try.pinned (OpenSpec.ofChange voteBackWrong)

/-- 'mustkeep.VoteOwn': WHATEVER THE INPUT: true; the input reads as it did. -/
def voteOwnSpec : ChangeSpec := { name := "voteOwn", fn := fun _ => fun
  | [d1, d2, d3] => { results := [.lit (.bool true)], args := [d1, d2, d3] }
  | _ => none }
def voteOwnRow : OpenClaim := { program := "ytclobldldddjnaa", sum := "42b18385c0f63f0ee9beb5777cdee72f92b8e7f10d5bf018bee22f0c0f80a705", func := "musterfield/mustkeep.VoteOwn", spec := "voteOwn", unfollowed := true, recurses := true, apart := false }
def VoteOwnSaid : Prop := voteOwnRow.holds Try.pinned (OpenSpec.ofChange voteOwnSpec)

/-- ITS FALSE NEIGHBOUR: 'it returns false'. Refute it at one input. -/
def voteOwnWrong : ChangeSpec := { name := "voteOwn", fn := fun _ => fun
  | [d1, d2, d3] => { results := [.lit (.bool false)], args := [d1, d2, d3] }
  | _ => none }
def VoteOwnWrongFalsely : Prop := voteOwnRow.holds Try.pinned (OpenSpec.ofChange voteOwnWrong)

/-- 'mustkeep.PackBack': WHATEVER THE INPUT: true; the input reads as it did. -/
def packBackSpec : ChangeSpec := { name := "packBack", fn := fun _ => fun
  | [d1, d2, d3, d4, d5] => { results := [.lit (.bool true)], args := [d1, d2, d3, d4, d5] }
  | _ => none }
def packBackRow : OpenClaim := { program := "ytclobldldddjnaa", sum := "42b18385c0f63f0ee9beb5777cdee72f92b8e7f10d5bf018bee22f0c0f80a705", func := "musterfield/mustkeep.PackBack", spec := "packBack", inPlace := ["internal/abi.NoEscape"], apart := false }
def PackBackSaid : Prop := packBackRow.holds Try.pinned (OpenSpec.ofChange packBackSpec)

/-- ITS FALSE NEIGHBOUR: 'it returns false'. Refute it at one input. -/
def packBackWrong : ChangeSpec := { name := "packBack", fn := fun _ => fun
  | [d1, d2, d3, d4, d5] => { results := [.lit (.bool false)], args := [d1, d2, d3, d4, d5] }
  | _ => none }
def PackBackWrongFalsely : Prop := packBackRow.holds Try.pinned (OpenSpec.ofChange packBackWrong)

/- THE SECOND FORM. 'bulk': how many values and letters a reading holds, each counted each time it is reached (what is shared counts as often as it is met; a slice's spare places count too). A statement '..UptoSaid' is the law's where the arguments, and the package variables that the reading takes, are together of bulk at most 1048576: NARROWER than '..Said'. Prove '..Said' where nothing that the law and all that it calls make is longer than what came in: it says more and counts as full. Else prove '..UptoSaid'. A law counts once. -/
mutual
def uptoBulk {H : Type} : DataW H → Nat
  | .lit (.string bytes) => bytes.length + 1
  | .lit _ => 1
  | .nil => 1
  | .ptr d => uptoBulk d + 1
  | .slice elems spare => uptoBulkAll elems + uptoBulkAll spare + 1
  | .agg parts => uptoBulkAll parts + 1
  | .iface _ d => uptoBulk d + 1
  | .map entries => uptoBulkEntries entries + 1
  | .held _ => 1
def uptoBulkAll {H : Type} : List (DataW H) → Nat
  | [] => 0
  | d :: r => uptoBulk d + uptoBulkAll r
def uptoBulkEntries {H : Type} : List (Lit × DataW H) → Nat
  | [] => 0
  | x :: r => uptoBulkEntry x + uptoBulkEntries r
def uptoBulkEntry {H : Type} : Lit × DataW H → Nat
  | (.string bytes, d) => bytes.length + uptoBulk d + 1
  | (_, d) => uptoBulk d + 1
 end
def uptoSmall : (H : Type) → List (DataW H) → Bool := fun _ ds => decide (uptoBulkAll ds ≤ 1048576)
def OpenSpec.upto (s : _root_.Go.ChangeSpec) : _root_.Go.OpenSpec := { _root_.Go.OpenSpec.ofChange s with cond := some uptoSmall }

/-- 'mustkeep.LineNear', WHERE WHAT IT READS IS OF BULK AT MOST 1048576: true; the input reads as it did. -/
def lineNearUptoRow : OpenClaim := { program := "ytclobldldddjnaa", sum := "42b18385c0f63f0ee9beb5777cdee72f92b8e7f10d5bf018bee22f0c0f80a705", func := "musterfield/mustkeep.LineNear", spec := "lineNear", apart := false, narrowed := true }
def LineNearUptoSaid : Prop := lineNearUptoRow.holds Try.pinned (OpenSpec.upto lineNearSpec)

/-- 'mustkeep.LineMoved', WHERE WHAT IT READS IS OF BULK AT MOST 1048576: true; the input reads as it did. -/
def lineMovedUptoRow : OpenClaim := { program := "ytclobldldddjnaa", sum := "42b18385c0f63f0ee9beb5777cdee72f92b8e7f10d5bf018bee22f0c0f80a705", func := "musterfield/mustkeep.LineMoved", spec := "lineMoved", apart := false, narrowed := true }
def LineMovedUptoSaid : Prop := lineMovedUptoRow.holds Try.pinned (OpenSpec.upto lineMovedSpec)

/-- 'mustkeep.LineWay', WHERE WHAT IT READS IS OF BULK AT MOST 1048576: true; the input reads as it did. -/
def lineWayUptoRow : OpenClaim := { program := "ytclobldldddjnaa", sum := "42b18385c0f63f0ee9beb5777cdee72f92b8e7f10d5bf018bee22f0c0f80a705", func := "musterfield/mustkeep.LineWay", spec := "lineWay", apart := false, narrowed := true }
def LineWayUptoSaid : Prop := lineWayUptoRow.holds Try.pinned (OpenSpec.upto lineWaySpec)

/-- 'mustkeep.FixOrder', WHERE WHAT IT READS IS OF BULK AT MOST 1048576: true; the input reads as it did. -/
def fixOrderUptoRow : OpenClaim := { program := "ytclobldldddjnaa", sum := "42b18385c0f63f0ee9beb5777cdee72f92b8e7f10d5bf018bee22f0c0f80a705", func := "musterfield/mustkeep.FixOrder", spec := "fixOrder", apart := false, narrowed := true }
def FixOrderUptoSaid : Prop := fixOrderUptoRow.holds Try.pinned (OpenSpec.upto fixOrderSpec)

/-- 'mustkeep.FixRoot', WHERE WHAT IT READS IS OF BULK AT MOST 1048576: true; the input reads as it did. -/
def fixRootUptoRow : OpenClaim := { program := "ytclobldldddjnaa", sum := "42b18385c0f63f0ee9beb5777cdee72f92b8e7f10d5bf018bee22f0c0f80a705", func := "musterfield/mustkeep.FixRoot", spec := "fixRoot", apart := false, narrowed := true }
def FixRootUptoSaid : Prop := fixRootUptoRow.holds Try.pinned (OpenSpec.upto fixRootSpec)

/-- 'mustkeep.FixBack', WHERE WHAT IT READS IS OF BULK AT MOST 1048576: true; the input reads as it did. -/
def fixBackUptoRow : OpenClaim := { program := "ytclobldldddjnaa", sum := "42b18385c0f63f0ee9beb5777cdee72f92b8e7f10d5bf018bee22f0c0f80a705", func := "musterfield/mustkeep.FixBack", spec := "fixBack", apart := false, narrowed := true }
def FixBackUptoSaid : Prop := fixBackUptoRow.holds Try.pinned (OpenSpec.upto fixBackSpec)

/-- 'mustkeep.VoteFew', WHERE WHAT IT READS IS OF BULK AT MOST 1048576: true; the input reads as it did. -/
def voteFewUptoRow : OpenClaim := { program := "ytclobldldddjnaa", sum := "42b18385c0f63f0ee9beb5777cdee72f92b8e7f10d5bf018bee22f0c0f80a705", func := "musterfield/mustkeep.VoteFew", spec := "voteFew", unfollowed := true, recurses := true, apart := false, narrowed := true }
def VoteFewUptoSaid : Prop := voteFewUptoRow.holds Try.pinned (OpenSpec.upto voteFewSpec)

/-- 'mustkeep.VoteMeet', WHERE WHAT IT READS IS OF BULK AT MOST 1048576: true; the input reads as it did. -/
def voteMeetUptoRow : OpenClaim := { program := "ytclobldldddjnaa", sum := "42b18385c0f63f0ee9beb5777cdee72f92b8e7f10d5bf018bee22f0c0f80a705", func := "musterfield/mustkeep.VoteMeet", spec := "voteMeet", unfollowed := true, recurses := true, apart := false, narrowed := true }
def VoteMeetUptoSaid : Prop := voteMeetUptoRow.holds Try.pinned (OpenSpec.upto voteMeetSpec)

/-- 'mustkeep.VoteBack', WHERE WHAT IT READS IS OF BULK AT MOST 1048576: true; the input reads as it did. -/
def voteBackUptoRow : OpenClaim := { program := "ytclobldldddjnaa", sum := "42b18385c0f63f0ee9beb5777cdee72f92b8e7f10d5bf018bee22f0c0f80a705", func := "musterfield/mustkeep.VoteBack", spec := "voteBack", unfollowed := true, recurses := true, apart := false, narrowed := true }
def VoteBackUptoSaid : Prop := voteBackUptoRow.holds Try.pinned (OpenSpec.upto voteBackSpec)

/-- 'mustkeep.VoteOwn', WHERE WHAT IT READS IS OF BULK AT MOST 1048576: true; the input reads as it did. -/
def voteOwnUptoRow : OpenClaim := { program := "ytclobldldddjnaa", sum := "42b18385c0f63f0ee9beb5777cdee72f92b8e7f10d5bf018bee22f0c0f80a705", func := "musterfield/mustkeep.VoteOwn", spec := "voteOwn", unfollowed := true, recurses := true, apart := false, narrowed := true }
def VoteOwnUptoSaid : Prop := voteOwnUptoRow.holds Try.pinned (OpenSpec.upto voteOwnSpec)

/-- 'mustkeep.PackBack', WHERE WHAT IT READS IS OF BULK AT MOST 1048576: true; the input reads as it did. -/
def packBackUptoRow : OpenClaim := { program := "ytclobldldddjnaa", sum := "42b18385c0f63f0ee9beb5777cdee72f92b8e7f10d5bf018bee22f0c0f80a705", func := "musterfield/mustkeep.PackBack", spec := "packBack", inPlace := ["internal/abi.NoEscape"], apart := false, narrowed := true }
def PackBackUptoSaid : Prop := packBackUptoRow.holds Try.pinned (OpenSpec.upto packBackSpec)

end Rows
end Go.Proofs.Ytclobldldddjnaa
