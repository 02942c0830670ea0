/-
  No cell of these rows narrows 'for every input' (looked for: loops, veiled, ifaces, maps, wideKeys, modest, calm, conditions, laid).
  DERIVED. THE GIVEN ROWS OF THIS SEAT. 9 by the template 'for every input the law returns true; each argument reads behind the call as it read before'; 0 by the template 'total and deterministic' (their statements: YtccankldeogdlaaTotals.lean).
  GIVEN WITH THE SEED: the statements are not yours to turn. If you find one false, say at which input.
  Laid BY PROGRAM, IN A SANDBOX (cutbox-rows.mjs): the forced cells as the released guide's own fill.sh prints them over the translation 9ab6d4f0c828c4a8… (all of the seat's roots in one cut). By AI agents, Wed Nov 11 2026. No macro, syntax, notation, axiom, sorry.
-/
import Derived.Test.YtccankldeogdlaaChecked
import GoSem.Claim
import GoSem.ClaimJoined
import GoSem.ClaimMapViews
import Derived.JoinedTies
import Derived.KernelRfl
namespace Go.Proofs.Ytccankldeogdlaa
/- THE CELL 'sum', in the pinned program and in every row, IS THE sha256 OF THE DUMP (.gsa) THAT YtccankldeogdlaaProg.lean LOADS. Nothing in Lean hashes anything: it is a label: what it is worth is what the hold of that sum in a sandbox is worth. -/
noncomputable def Try.pinned : Pinned := { name := "ytccankldeogdlaa", sum := "9ab6d4f0c828c4a804aaeaf5bb1544d0774aff4e222625f5c51a5a18d994e3d9", checked := Try.checked }
namespace Rows
def none {H : Type} : Left H := { results := [], args := [] }

/-- 'mustkeep.MarkAny': WHATEVER THE INPUT: true; the input reads as it did. -/
def markAnySpec : ChangeSpec := { name := "markAny", fn := fun _ => fun
  | [d1, d2, d3] => { results := [.lit (.bool true)], args := [d1, d2, d3] }
  | _ => none }
def markAnyRow : OpenClaim := { program := "ytccankldeogdlaa", sum := "9ab6d4f0c828c4a804aaeaf5bb1544d0774aff4e222625f5c51a5a18d994e3d9", func := "musterfield/mustkeep.MarkAny", spec := "markAny", recurses := true, plainKeys := false, apart := false }
def MarkAnySaid : Prop := markAnyRow.holds Try.pinned (OpenSpec.ofChange markAnySpec)

/-- ITS FALSE NEIGHBOUR: 'it returns false'. Refute it at one input. -/
def markAnyWrong : ChangeSpec := { name := "markAny", fn := fun _ => fun
  | [d1, d2, d3] => { results := [.lit (.bool false)], args := [d1, d2, d3] }
  | _ => none }
def MarkAnyWrongFalsely : Prop := markAnyRow.holds Try.pinned (OpenSpec.ofChange markAnyWrong)

/-- 'mustkeep.MatchOnce': WHATEVER THE INPUT: true; the input reads as it did. -/
def matchOnceSpec : ChangeSpec := { name := "matchOnce", fn := fun _ => fun
  | [d] => { results := [.lit (.bool true)], args := [d] }
  | _ => none }
def matchOnceRow : OpenClaim := { program := "ytccankldeogdlaa", sum := "9ab6d4f0c828c4a804aaeaf5bb1544d0774aff4e222625f5c51a5a18d994e3d9", func := "musterfield/mustkeep.MatchOnce", spec := "matchOnce", unfollowed := true, recurses := true, plainKeys := false, apart := false }
def MatchOnceSaid : Prop := matchOnceRow.holds Try.pinned (OpenSpec.ofChange matchOnceSpec)

/-- ITS FALSE NEIGHBOUR: 'it returns false'. Refute it at one input. -/
def matchOnceWrong : ChangeSpec := { name := "matchOnce", fn := fun _ => fun
  | [d] => { results := [.lit (.bool false)], args := [d] }
  | _ => none }
def MatchOnceWrongFalsely : Prop := matchOnceRow.holds Try.pinned (OpenSpec.ofChange matchOnceWrong)

/-- 'mustkeep.MatchSum': WHATEVER THE INPUT: true; the input reads as it did. -/
def matchSumSpec : ChangeSpec := { name := "matchSum", fn := fun _ => fun
  | [d1, d2] => { results := [.lit (.bool true)], args := [d1, d2] }
  | _ => none }
def matchSumRow : OpenClaim := { program := "ytccankldeogdlaa", sum := "9ab6d4f0c828c4a804aaeaf5bb1544d0774aff4e222625f5c51a5a18d994e3d9", func := "musterfield/mustkeep.MatchSum", spec := "matchSum", unfollowed := true, recurses := true, plainKeys := false, apart := false }
def MatchSumSaid : Prop := matchSumRow.holds Try.pinned (OpenSpec.ofChange matchSumSpec)

/-- ITS FALSE NEIGHBOUR: 'it returns false'. Refute it at one input. -/
def matchSumWrong : ChangeSpec := { name := "matchSum", fn := fun _ => fun
  | [d1, d2] => { results := [.lit (.bool false)], args := [d1, d2] }
  | _ => none }
def MatchSumWrongFalsely : Prop := matchSumRow.holds Try.pinned (OpenSpec.ofChange matchSumWrong)

/-- 'mustkeep.MatchBest': WHATEVER THE INPUT: true; the input reads as it did. -/
def matchBestSpec : ChangeSpec := { name := "matchBest", fn := fun _ => fun
  | [d1, d2, d3, d4] => { results := [.lit (.bool true)], args := [d1, d2, d3, d4] }
  | _ => none }
def matchBestRow : OpenClaim := { program := "ytccankldeogdlaa", sum := "9ab6d4f0c828c4a804aaeaf5bb1544d0774aff4e222625f5c51a5a18d994e3d9", func := "musterfield/mustkeep.MatchBest", spec := "matchBest", unfollowed := true, recurses := true, plainKeys := false, apart := false }
def MatchBestSaid : Prop := matchBestRow.holds Try.pinned (OpenSpec.ofChange matchBestSpec)

/-- ITS FALSE NEIGHBOUR: 'it returns false'. Refute it at one input. -/
def matchBestWrong : ChangeSpec := { name := "matchBest", fn := fun _ => fun
  | [d1, d2, d3, d4] => { results := [.lit (.bool false)], args := [d1, d2, d3, d4] }
  | _ => none }
def MatchBestWrongFalsely : Prop := matchBestRow.holds Try.pinned (OpenSpec.ofChange matchBestWrong)

/-- 'mustkeep.MatchAny': WHATEVER THE INPUT: true; the input reads as it did. -/
def matchAnySpec : ChangeSpec := { name := "matchAny", fn := fun _ => fun
  | [d1, d2] => { results := [.lit (.bool true)], args := [d1, d2] }
  | _ => none }
def matchAnyRow : OpenClaim := { program := "ytccankldeogdlaa", sum := "9ab6d4f0c828c4a804aaeaf5bb1544d0774aff4e222625f5c51a5a18d994e3d9", func := "musterfield/mustkeep.MatchAny", spec := "matchAny", unfollowed := true, recurses := true, plainKeys := false, apart := false }
def MatchAnySaid : Prop := matchAnyRow.holds Try.pinned (OpenSpec.ofChange matchAnySpec)

/-- ITS FALSE NEIGHBOUR: 'it returns false'. Refute it at one input. -/
def matchAnyWrong : ChangeSpec := { name := "matchAny", fn := fun _ => fun
  | [d1, d2] => { results := [.lit (.bool false)], args := [d1, d2] }
  | _ => none }
def MatchAnyWrongFalsely : Prop := matchAnyRow.holds Try.pinned (OpenSpec.ofChange matchAnyWrong)

/-- 'mustkeep.TickRight': WHATEVER THE INPUT: true; the input reads as it did. -/
def tickRightSpec : ChangeSpec := { name := "tickRight", fn := fun _ => fun
  | [d1, d2] => { results := [.lit (.bool true)], args := [d1, d2] }
  | _ => none }
def tickRightRow : OpenClaim := { program := "ytccankldeogdlaa", sum := "9ab6d4f0c828c4a804aaeaf5bb1544d0774aff4e222625f5c51a5a18d994e3d9", func := "musterfield/mustkeep.TickRight", spec := "tickRight", unfollowed := true, recurses := true, plainKeys := false, apart := false }
def TickRightSaid : Prop := tickRightRow.holds Try.pinned (OpenSpec.ofChange tickRightSpec)

/-- ITS FALSE NEIGHBOUR: 'it returns false'. Refute it at one input. -/
def tickRightWrong : ChangeSpec := { name := "tickRight", fn := fun _ => fun
  | [d1, d2] => { results := [.lit (.bool false)], args := [d1, d2] }
  | _ => none }
def TickRightWrongFalsely : Prop := tickRightRow.holds Try.pinned (OpenSpec.ofChange tickRightWrong)

/-- 'mustkeep.TickBlind': WHATEVER THE INPUT: true; the input reads as it did. -/
def tickBlindSpec : ChangeSpec := { name := "tickBlind", fn := fun _ => fun
  | [d1, d2] => { results := [.lit (.bool true)], args := [d1, d2] }
  | _ => none }
def tickBlindRow : OpenClaim := { program := "ytccankldeogdlaa", sum := "9ab6d4f0c828c4a804aaeaf5bb1544d0774aff4e222625f5c51a5a18d994e3d9", func := "musterfield/mustkeep.TickBlind", spec := "tickBlind", unfollowed := true, recurses := true, plainKeys := false, apart := false }
def TickBlindSaid : Prop := tickBlindRow.holds Try.pinned (OpenSpec.ofChange tickBlindSpec)

/-- ITS FALSE NEIGHBOUR: 'it returns false'. Refute it at one input. -/
def tickBlindWrong : ChangeSpec := { name := "tickBlind", fn := fun _ => fun
  | [d1, d2] => { results := [.lit (.bool false)], args := [d1, d2] }
  | _ => none }
def TickBlindWrongFalsely : Prop := tickBlindRow.holds Try.pinned (OpenSpec.ofChange tickBlindWrong)

/-- 'mustkeep.TickWorth': WHATEVER THE INPUT: true; the input reads as it did. -/
def tickWorthSpec : ChangeSpec := { name := "tickWorth", fn := fun _ => fun
  | [d1, d2] => { results := [.lit (.bool true)], args := [d1, d2] }
  | _ => none }
def tickWorthRow : OpenClaim := { program := "ytccankldeogdlaa", sum := "9ab6d4f0c828c4a804aaeaf5bb1544d0774aff4e222625f5c51a5a18d994e3d9", func := "musterfield/mustkeep.TickWorth", spec := "tickWorth", unfollowed := true, recurses := true, plainKeys := false, apart := false }
def TickWorthSaid : Prop := tickWorthRow.holds Try.pinned (OpenSpec.ofChange tickWorthSpec)

/-- ITS FALSE NEIGHBOUR: 'it returns false'. Refute it at one input. -/
def tickWorthWrong : ChangeSpec := { name := "tickWorth", fn := fun _ => fun
  | [d1, d2] => { results := [.lit (.bool false)], args := [d1, d2] }
  | _ => none }
def TickWorthWrongFalsely : Prop := tickWorthRow.holds Try.pinned (OpenSpec.ofChange tickWorthWrong)

/-- 'mustkeep.MistBlows': WHATEVER THE INPUT: true; the input reads as it did. -/
def mistBlowsSpec : ChangeSpec := { name := "mistBlows", fn := fun _ => fun
  | [d1, d2, d3] => { results := [.lit (.bool true)], args := [d1, d2, d3] }
  | _ => none }
def mistBlowsRow : OpenClaim := { program := "ytccankldeogdlaa", sum := "9ab6d4f0c828c4a804aaeaf5bb1544d0774aff4e222625f5c51a5a18d994e3d9", func := "musterfield/mustkeep.MistBlows", spec := "mistBlows", unfollowed := true, recurses := true, plainKeys := false, apart := false }
def MistBlowsSaid : Prop := mistBlowsRow.holds Try.pinned (OpenSpec.ofChange mistBlowsSpec)

/-- ITS FALSE NEIGHBOUR: 'it returns false'. Refute it at one input. -/
def mistBlowsWrong : ChangeSpec := { name := "mistBlows", fn := fun _ => fun
  | [d1, d2, d3] => { results := [.lit (.bool false)], args := [d1, d2, d3] }
  | _ => none }
def MistBlowsWrongFalsely : Prop := mistBlowsRow.holds Try.pinned (OpenSpec.ofChange mistBlowsWrong)

/- THE SECOND FORM. 'bulk': how many values and letters a reading holds, each counted each time it is reached (what is shared counts as often as it is met; a slice's spare places count too). A statement '..UptoSaid' is the law's where the arguments, and the package variables that the reading takes, are together of bulk at most 1048576: NARROWER than '..Said'. Prove '..Said' where nothing that the law and all that it calls make is longer than what came in: it says more and counts as full. Else prove '..UptoSaid'. A law counts once. -/
mutual
def uptoBulk {H : Type} : DataW H → Nat
  | .lit (.string bytes) => bytes.length + 1
  | .lit _ => 1
  | .nil => 1
  | .ptr d => uptoBulk d + 1
  | .slice elems spare => uptoBulkAll elems + uptoBulkAll spare + 1
  | .agg parts => uptoBulkAll parts + 1
  | .iface _ d => uptoBulk d + 1
  | .map entries => uptoBulkEntries entries + 1
  | .held _ => 1
def uptoBulkAll {H : Type} : List (DataW H) → Nat
  | [] => 0
  | d :: r => uptoBulk d + uptoBulkAll r
def uptoBulkEntries {H : Type} : List (Lit × DataW H) → Nat
  | [] => 0
  | x :: r => uptoBulkEntry x + uptoBulkEntries r
def uptoBulkEntry {H : Type} : Lit × DataW H → Nat
  | (.string bytes, d) => bytes.length + uptoBulk d + 1
  | (_, d) => uptoBulk d + 1
 end
def uptoSmall : (H : Type) → List (DataW H) → Bool := fun _ ds => decide (uptoBulkAll ds ≤ 1048576)
def OpenSpec.upto (s : _root_.Go.ChangeSpec) : _root_.Go.OpenSpec := { _root_.Go.OpenSpec.ofChange s with cond := some uptoSmall }

/-- 'mustkeep.MarkAny', WHERE WHAT IT READS IS OF BULK AT MOST 1048576: true; the input reads as it did. -/
def markAnyUptoRow : OpenClaim := { program := "ytccankldeogdlaa", sum := "9ab6d4f0c828c4a804aaeaf5bb1544d0774aff4e222625f5c51a5a18d994e3d9", func := "musterfield/mustkeep.MarkAny", spec := "markAny", recurses := true, plainKeys := false, apart := false, narrowed := true }
def MarkAnyUptoSaid : Prop := markAnyUptoRow.holds Try.pinned (OpenSpec.upto markAnySpec)

/-- 'mustkeep.MatchOnce', WHERE WHAT IT READS IS OF BULK AT MOST 1048576: true; the input reads as it did. -/
def matchOnceUptoRow : OpenClaim := { program := "ytccankldeogdlaa", sum := "9ab6d4f0c828c4a804aaeaf5bb1544d0774aff4e222625f5c51a5a18d994e3d9", func := "musterfield/mustkeep.MatchOnce", spec := "matchOnce", unfollowed := true, recurses := true, plainKeys := false, apart := false, narrowed := true }
def MatchOnceUptoSaid : Prop := matchOnceUptoRow.holds Try.pinned (OpenSpec.upto matchOnceSpec)

/-- 'mustkeep.MatchSum', WHERE WHAT IT READS IS OF BULK AT MOST 1048576: true; the input reads as it did. -/
def matchSumUptoRow : OpenClaim := { program := "ytccankldeogdlaa", sum := "9ab6d4f0c828c4a804aaeaf5bb1544d0774aff4e222625f5c51a5a18d994e3d9", func := "musterfield/mustkeep.MatchSum", spec := "matchSum", unfollowed := true, recurses := true, plainKeys := false, apart := false, narrowed := true }
def MatchSumUptoSaid : Prop := matchSumUptoRow.holds Try.pinned (OpenSpec.upto matchSumSpec)

/-- 'mustkeep.MatchBest', WHERE WHAT IT READS IS OF BULK AT MOST 1048576: true; the input reads as it did. -/
def matchBestUptoRow : OpenClaim := { program := "ytccankldeogdlaa", sum := "9ab6d4f0c828c4a804aaeaf5bb1544d0774aff4e222625f5c51a5a18d994e3d9", func := "musterfield/mustkeep.MatchBest", spec := "matchBest", unfollowed := true, recurses := true, plainKeys := false, apart := false, narrowed := true }
def MatchBestUptoSaid : Prop := matchBestUptoRow.holds Try.pinned (OpenSpec.upto matchBestSpec)

/-- 'mustkeep.MatchAny', WHERE WHAT IT READS IS OF BULK AT MOST 1048576: true; the input reads as it did. -/
def matchAnyUptoRow : OpenClaim := { program := "ytccankldeogdlaa", sum := "9ab6d4f0c828c4a804aaeaf5bb1544d0774aff4e222625f5c51a5a18d994e3d9", func := "musterfield/mustkeep.MatchAny", spec := "matchAny", unfollowed := true, recurses := true, plainKeys := false, apart := false, narrowed := true }
def MatchAnyUptoSaid : Prop := matchAnyUptoRow.holds Try.pinned (OpenSpec.upto matchAnySpec)

/-- 'mustkeep.TickRight', WHERE WHAT IT READS IS OF BULK AT MOST 1048576: true; the input reads as it did. -/
def tickRightUptoRow : OpenClaim := { program := "ytccankldeogdlaa", sum := "9ab6d4f0c828c4a804aaeaf5bb1544d0774aff4e222625f5c51a5a18d994e3d9", func := "musterfield/mustkeep.TickRight", spec := "tickRight", unfollowed := true, recurses := true, plainKeys := false, apart := false, narrowed := true }
def TickRightUptoSaid : Prop := tickRightUptoRow.holds Try.pinned (OpenSpec.upto tickRightSpec)

/-- 'mustkeep.TickBlind', WHERE WHAT IT READS IS OF BULK AT MOST 1048576: true; the input reads as it did. -/
def tickBlindUptoRow : OpenClaim := { program := "ytccankldeogdlaa", sum := "9ab6d4f0c828c4a804aaeaf5bb1544d0774aff4e222625f5c51a5a18d994e3d9", func := "musterfield/mustkeep.TickBlind", spec := "tickBlind", unfollowed := true, recurses := true, plainKeys := false, apart := false, narrowed := true }
def TickBlindUptoSaid : Prop := tickBlindUptoRow.holds Try.pinned (OpenSpec.upto tickBlindSpec)

/-- 'mustkeep.TickWorth', WHERE WHAT IT READS IS OF BULK AT MOST 1048576: true; the input reads as it did. -/
def tickWorthUptoRow : OpenClaim := { program := "ytccankldeogdlaa", sum := "9ab6d4f0c828c4a804aaeaf5bb1544d0774aff4e222625f5c51a5a18d994e3d9", func := "musterfield/mustkeep.TickWorth", spec := "tickWorth", unfollowed := true, recurses := true, plainKeys := false, apart := false, narrowed := true }
def TickWorthUptoSaid : Prop := tickWorthUptoRow.holds Try.pinned (OpenSpec.upto tickWorthSpec)

/-- 'mustkeep.MistBlows', WHERE WHAT IT READS IS OF BULK AT MOST 1048576: true; the input reads as it did. -/
def mistBlowsUptoRow : OpenClaim := { program := "ytccankldeogdlaa", sum := "9ab6d4f0c828c4a804aaeaf5bb1544d0774aff4e222625f5c51a5a18d994e3d9", func := "musterfield/mustkeep.MistBlows", spec := "mistBlows", unfollowed := true, recurses := true, plainKeys := false, apart := false, narrowed := true }
def MistBlowsUptoSaid : Prop := mistBlowsUptoRow.holds Try.pinned (OpenSpec.upto mistBlowsSpec)

end Rows
end Go.Proofs.Ytccankldeogdlaa
