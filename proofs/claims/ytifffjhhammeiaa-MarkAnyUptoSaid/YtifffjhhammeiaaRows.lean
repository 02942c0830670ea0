/-
  No cell of these rows narrows 'for every input' (looked for: loops, veiled, ifaces, maps, wideKeys, modest, calm, conditions, laid).
  DERIVED. THE GIVEN ROWS OF THIS SEAT. 9 by the template 'for every input the law returns true; each argument reads behind the call as it read before'; 0 by the template 'total and deterministic' (their statements: YtifffjhhammeiaaTotals.lean).
  GIVEN WITH THE SEED: the statements are not yours to turn. If you find one false, say at which input.
  Laid BY PROGRAM, IN A SANDBOX (cutbox-rows.mjs): the forced cells as the released guide's own fill.sh prints them over the translation 24d8352660d45fe5… (all of the seat's roots in one cut). By AI agents, Wed Nov 11 2026. No macro, syntax, notation, axiom, sorry.
-/
import Derived.Test.YtifffjhhammeiaaChecked
import GoSem.Claim
import GoSem.ClaimJoined
import GoSem.ClaimMapViews
import Derived.JoinedTies
import Derived.KernelRfl
namespace Go.Proofs.Ytifffjhhammeiaa
/- THE CELL 'sum', in the pinned program and in every row, IS THE sha256 OF THE DUMP (.gsa) THAT YtifffjhhammeiaaProg.lean LOADS. Nothing in Lean hashes anything: it is a label: what it is worth is what the hold of that sum in a sandbox is worth. -/
noncomputable def Try.pinned : Pinned := { name := "ytifffjhhammeiaa", sum := "24d8352660d45fe5de6969fdde23c02302e966c1ee2b10e092b642ba2c34d6f8", checked := Try.checked }
namespace Rows
def none {H : Type} : Left H := { results := [], args := [] }

/-- 'mustkeep.MatchOnce': WHATEVER THE INPUT: true; the input reads as it did. -/
def matchOnceSpec : ChangeSpec := { name := "matchOnce", fn := fun _ => fun
  | [d] => { results := [.lit (.bool true)], args := [d] }
  | _ => none }
def matchOnceRow : OpenClaim := { program := "ytifffjhhammeiaa", sum := "24d8352660d45fe5de6969fdde23c02302e966c1ee2b10e092b642ba2c34d6f8", func := "musterfield/mustkeep.MatchOnce", spec := "matchOnce", unfollowed := true, recurses := true, plainKeys := false, apart := false }
def MatchOnceSaid : Prop := matchOnceRow.holds Try.pinned (OpenSpec.ofChange matchOnceSpec)

/-- ITS FALSE NEIGHBOUR: 'it returns false'. Refute it at one input. -/
def matchOnceWrong : ChangeSpec := { name := "matchOnce", fn := fun _ => fun
  | [d] => { results := [.lit (.bool false)], args := [d] }
  | _ => none }
def MatchOnceWrongFalsely : Prop := matchOnceRow.holds Try.pinned (OpenSpec.ofChange matchOnceWrong)

/-- 'mustkeep.MatchSum': WHATEVER THE INPUT: true; the input reads as it did. -/
def matchSumSpec : ChangeSpec := { name := "matchSum", fn := fun _ => fun
  | [d1, d2] => { results := [.lit (.bool true)], args := [d1, d2] }
  | _ => none }
def matchSumRow : OpenClaim := { program := "ytifffjhhammeiaa", sum := "24d8352660d45fe5de6969fdde23c02302e966c1ee2b10e092b642ba2c34d6f8", func := "musterfield/mustkeep.MatchSum", spec := "matchSum", unfollowed := true, recurses := true, plainKeys := false, apart := false }
def MatchSumSaid : Prop := matchSumRow.holds Try.pinned (OpenSpec.ofChange matchSumSpec)

/-- ITS FALSE NEIGHBOUR: 'it returns false'. Refute it at one input. -/
def matchSumWrong : ChangeSpec := { name := "matchSum", fn := fun _ => fun
  | [d1, d2] => { results := [.lit (.bool false)], args := [d1, d2] }
  | _ => none }
def MatchSumWrongFalsely : Prop := matchSumRow.holds Try.pinned (OpenSpec.ofChange matchSumWrong)

/-- 'mustkeep.MatchBest': WHATEVER THE INPUT: true; the input reads as it did. -/
def matchBestSpec : ChangeSpec := { name := "matchBest", fn := fun _ => fun
  | [d1, d2, d3, d4] => { results := [.lit (.bool true)], args := [d1, d2, d3, d4] }
  | _ => none }
def matchBestRow : OpenClaim := { program := "ytifffjhhammeiaa", sum := "24d8352660d45fe5de6969fdde23c02302e966c1ee2b10e092b642ba2c34d6f8", func := "musterfield/mustkeep.MatchBest", spec := "matchBest", unfollowed := true, recurses := true, plainKeys := false, apart := false }
def MatchBestSaid : Prop := matchBestRow.holds Try.pinned (OpenSpec.ofChange matchBestSpec)

/-- ITS FALSE NEIGHBOUR: 'it returns false'. Refute it at one input. -/
def matchBestWrong : ChangeSpec := { name := "matchBest", fn := fun _ => fun
  | [d1, d2, d3, d4] => { results := [.lit (.bool false)], args := [d1, d2, d3, d4] }
  | _ => none }
def MatchBestWrongFalsely : Prop := matchBestRow.holds Try.pinned (OpenSpec.ofChange matchBestWrong)

/-- 'mustkeep.MarkAny': WHATEVER THE INPUT: true; the input reads as it did. -/
def markAnySpec : ChangeSpec := { name := "markAny", fn := fun _ => fun
  | [d1, d2, d3] => { results := [.lit (.bool true)], args := [d1, d2, d3] }
  | _ => none }
def markAnyRow : OpenClaim := { program := "ytifffjhhammeiaa", sum := "24d8352660d45fe5de6969fdde23c02302e966c1ee2b10e092b642ba2c34d6f8", func := "musterfield/mustkeep.MarkAny", spec := "markAny", recurses := true, plainKeys := false, apart := false }
def MarkAnySaid : Prop := markAnyRow.holds Try.pinned (OpenSpec.ofChange markAnySpec)

/-- ITS FALSE NEIGHBOUR: 'it returns false'. Refute it at one input. -/
def markAnyWrong : ChangeSpec := { name := "markAny", fn := fun _ => fun
  | [d1, d2, d3] => { results := [.lit (.bool false)], args := [d1, d2, d3] }
  | _ => none }
def MarkAnyWrongFalsely : Prop := markAnyRow.holds Try.pinned (OpenSpec.ofChange markAnyWrong)

/-- 'mustkeep.SynodVow': WHATEVER THE INPUT: true; the input reads as it did. -/
def synodVowSpec : ChangeSpec := { name := "synodVow", fn := fun _ => fun
  | [d1, d2, d3, d4] => { results := [.lit (.bool true)], args := [d1, d2, d3, d4] }
  | _ => none }
def synodVowRow : OpenClaim := { program := "ytifffjhhammeiaa", sum := "24d8352660d45fe5de6969fdde23c02302e966c1ee2b10e092b642ba2c34d6f8", func := "musterfield/mustkeep.SynodVow", spec := "synodVow", inPlace := ["slices.overlaps[musterfield/api.Round]"], unfollowed := true, recurses := true, plainKeys := false, apart := false }
def SynodVowSaid : Prop := synodVowRow.holds Try.pinned (OpenSpec.ofChange synodVowSpec)

/-- ITS FALSE NEIGHBOUR: 'it returns false'. Refute it at one input. -/
def synodVowWrong : ChangeSpec := { name := "synodVow", fn := fun _ => fun
  | [d1, d2, d3, d4] => { results := [.lit (.bool false)], args := [d1, d2, d3, d4] }
  | _ => none }
def SynodVowWrongFalsely : Prop := synodVowRow.holds Try.pinned (OpenSpec.ofChange synodVowWrong)

/-- 'mustkeep.SynodAgree': WHATEVER THE INPUT: true; the input reads as it did. -/
def synodAgreeSpec : ChangeSpec := { name := "synodAgree", fn := fun _ => fun
  | [d1, d2] => { results := [.lit (.bool true)], args := [d1, d2] }
  | _ => none }
def synodAgreeRow : OpenClaim := { program := "ytifffjhhammeiaa", sum := "24d8352660d45fe5de6969fdde23c02302e966c1ee2b10e092b642ba2c34d6f8", func := "musterfield/mustkeep.SynodAgree", spec := "synodAgree", inPlace := ["slices.overlaps[musterfield/api.Round]"], unfollowed := true, recurses := true, plainKeys := false, apart := false }
def SynodAgreeSaid : Prop := synodAgreeRow.holds Try.pinned (OpenSpec.ofChange synodAgreeSpec)

/-- ITS FALSE NEIGHBOUR: 'it returns false'. Refute it at one input. -/
def synodAgreeWrong : ChangeSpec := { name := "synodAgree", fn := fun _ => fun
  | [d1, d2] => { results := [.lit (.bool false)], args := [d1, d2] }
  | _ => none }
def SynodAgreeWrongFalsely : Prop := synodAgreeRow.holds Try.pinned (OpenSpec.ofChange synodAgreeWrong)

/-- 'mustkeep.SynodSaid': WHATEVER THE INPUT: true; the input reads as it did. -/
def synodSaidSpec : ChangeSpec := { name := "synodSaid", fn := fun _ => fun
  | [d1, d2] => { results := [.lit (.bool true)], args := [d1, d2] }
  | _ => none }
def synodSaidRow : OpenClaim := { program := "ytifffjhhammeiaa", sum := "24d8352660d45fe5de6969fdde23c02302e966c1ee2b10e092b642ba2c34d6f8", func := "musterfield/mustkeep.SynodSaid", spec := "synodSaid", inPlace := ["slices.overlaps[musterfield/api.Round]"], unfollowed := true, recurses := true, plainKeys := false, apart := false }
def SynodSaidSaid : Prop := synodSaidRow.holds Try.pinned (OpenSpec.ofChange synodSaidSpec)

/-- ITS FALSE NEIGHBOUR: 'it returns false'. Refute it at one input. -/
def synodSaidWrong : ChangeSpec := { name := "synodSaid", fn := fun _ => fun
  | [d1, d2] => { results := [.lit (.bool false)], args := [d1, d2] }
  | _ => none }
def SynodSaidWrongFalsely : Prop := synodSaidRow.holds Try.pinned (OpenSpec.ofChange synodSaidWrong)

/-- 'mustkeep.SynodStays': WHATEVER THE INPUT: true; the input reads as it did. -/
def synodStaysSpec : ChangeSpec := { name := "synodStays", fn := fun _ => fun
  | [d1, d2, d3] => { results := [.lit (.bool true)], args := [d1, d2, d3] }
  | _ => none }
def synodStaysRow : OpenClaim := { program := "ytifffjhhammeiaa", sum := "24d8352660d45fe5de6969fdde23c02302e966c1ee2b10e092b642ba2c34d6f8", func := "musterfield/mustkeep.SynodStays", spec := "synodStays", inPlace := ["slices.overlaps[musterfield/api.Round]"], unfollowed := true, recurses := true, plainKeys := false, apart := false }
def SynodStaysSaid : Prop := synodStaysRow.holds Try.pinned (OpenSpec.ofChange synodStaysSpec)

/-- ITS FALSE NEIGHBOUR: 'it returns false'. Refute it at one input. -/
def synodStaysWrong : ChangeSpec := { name := "synodStays", fn := fun _ => fun
  | [d1, d2, d3] => { results := [.lit (.bool false)], args := [d1, d2, d3] }
  | _ => none }
def SynodStaysWrongFalsely : Prop := synodStaysRow.holds Try.pinned (OpenSpec.ofChange synodStaysWrong)

/-- 'mustkeep.SynodEnds': WHATEVER THE INPUT: true; the input reads as it did. -/
def synodEndsSpec : ChangeSpec := { name := "synodEnds", fn := fun _ => fun
  | [d1, d2, d3, d4] => { results := [.lit (.bool true)], args := [d1, d2, d3, d4] }
  | _ => none }
def synodEndsRow : OpenClaim := { program := "ytifffjhhammeiaa", sum := "24d8352660d45fe5de6969fdde23c02302e966c1ee2b10e092b642ba2c34d6f8", func := "musterfield/mustkeep.SynodEnds", spec := "synodEnds", inPlace := ["slices.overlaps[musterfield/api.Round]"], unfollowed := true, recurses := true, plainKeys := false, apart := false }
def SynodEndsSaid : Prop := synodEndsRow.holds Try.pinned (OpenSpec.ofChange synodEndsSpec)

/-- ITS FALSE NEIGHBOUR: 'it returns false'. Refute it at one input. -/
def synodEndsWrong : ChangeSpec := { name := "synodEnds", fn := fun _ => fun
  | [d1, d2, d3, d4] => { results := [.lit (.bool false)], args := [d1, d2, d3, d4] }
  | _ => none }
def SynodEndsWrongFalsely : Prop := synodEndsRow.holds Try.pinned (OpenSpec.ofChange synodEndsWrong)

/- THE SECOND FORM. 'bulk': how many values and letters a reading holds, each counted each time it is reached (what is shared counts as often as it is met; a slice's spare places count too). A statement '..UptoSaid' is the law's where the arguments, and the package variables that the reading takes, are together of bulk at most 1048576: NARROWER than '..Said'. Prove '..Said' where nothing that the law and all that it calls make is longer than what came in: it says more and counts as full. Else prove '..UptoSaid'. A law counts once. -/
mutual
def uptoBulk {H : Type} : DataW H → Nat
  | .lit (.string bytes) => bytes.length + 1
  | .lit _ => 1
  | .nil => 1
  | .ptr d => uptoBulk d + 1
  | .slice elems spare => uptoBulkAll elems + uptoBulkAll spare + 1
  | .agg parts => uptoBulkAll parts + 1
  | .iface _ d => uptoBulk d + 1
  | .map entries => uptoBulkEntries entries + 1
  | .held _ => 1
def uptoBulkAll {H : Type} : List (DataW H) → Nat
  | [] => 0
  | d :: r => uptoBulk d + uptoBulkAll r
def uptoBulkEntries {H : Type} : List (Lit × DataW H) → Nat
  | [] => 0
  | x :: r => uptoBulkEntry x + uptoBulkEntries r
def uptoBulkEntry {H : Type} : Lit × DataW H → Nat
  | (.string bytes, d) => bytes.length + uptoBulk d + 1
  | (_, d) => uptoBulk d + 1
 end
def uptoSmall : (H : Type) → List (DataW H) → Bool := fun _ ds => decide (uptoBulkAll ds ≤ 1048576)
def OpenSpec.upto (s : _root_.Go.ChangeSpec) : _root_.Go.OpenSpec := { _root_.Go.OpenSpec.ofChange s with cond := some uptoSmall }

/-- 'mustkeep.MatchOnce', WHERE WHAT IT READS IS OF BULK AT MOST 1048576: true; the input reads as it did. -/
def matchOnceUptoRow : OpenClaim := { program := "ytifffjhhammeiaa", sum := "24d8352660d45fe5de6969fdde23c02302e966c1ee2b10e092b642ba2c34d6f8", func := "musterfield/mustkeep.MatchOnce", spec := "matchOnce", unfollowed := true, recurses := true, plainKeys := false, apart := false, narrowed := true }
def MatchOnceUptoSaid : Prop := matchOnceUptoRow.holds Try.pinned (OpenSpec.upto matchOnceSpec)

/-- 'mustkeep.MatchSum', WHERE WHAT IT READS IS OF BULK AT MOST 1048576: true; the input reads as it did. -/
def matchSumUptoRow : OpenClaim := { program := "ytifffjhhammeiaa", sum := "24d8352660d45fe5de6969fdde23c02302e966c1ee2b10e092b642ba2c34d6f8", func := "musterfield/mustkeep.MatchSum", spec := "matchSum", unfollowed := true, recurses := true, plainKeys := false, apart := false, narrowed := true }
def MatchSumUptoSaid : Prop := matchSumUptoRow.holds Try.pinned (OpenSpec.upto matchSumSpec)

/-- 'mustkeep.MatchBest', WHERE WHAT IT READS IS OF BULK AT MOST 1048576: true; the input reads as it did. -/
def matchBestUptoRow : OpenClaim := { program := "ytifffjhhammeiaa", sum := "24d8352660d45fe5de6969fdde23c02302e966c1ee2b10e092b642ba2c34d6f8", func := "musterfield/mustkeep.MatchBest", spec := "matchBest", unfollowed := true, recurses := true, plainKeys := false, apart := false, narrowed := true }
def MatchBestUptoSaid : Prop := matchBestUptoRow.holds Try.pinned (OpenSpec.upto matchBestSpec)

/-- 'mustkeep.MarkAny', WHERE WHAT IT READS IS OF BULK AT MOST 1048576: true; the input reads as it did. -/
def markAnyUptoRow : OpenClaim := { program := "ytifffjhhammeiaa", sum := "24d8352660d45fe5de6969fdde23c02302e966c1ee2b10e092b642ba2c34d6f8", func := "musterfield/mustkeep.MarkAny", spec := "markAny", recurses := true, plainKeys := false, apart := false, narrowed := true }
def MarkAnyUptoSaid : Prop := markAnyUptoRow.holds Try.pinned (OpenSpec.upto markAnySpec)

/-- 'mustkeep.SynodVow', WHERE WHAT IT READS IS OF BULK AT MOST 1048576: true; the input reads as it did. -/
def synodVowUptoRow : OpenClaim := { program := "ytifffjhhammeiaa", sum := "24d8352660d45fe5de6969fdde23c02302e966c1ee2b10e092b642ba2c34d6f8", func := "musterfield/mustkeep.SynodVow", spec := "synodVow", inPlace := ["slices.overlaps[musterfield/api.Round]"], unfollowed := true, recurses := true, plainKeys := false, apart := false, narrowed := true }
def SynodVowUptoSaid : Prop := synodVowUptoRow.holds Try.pinned (OpenSpec.upto synodVowSpec)

/-- 'mustkeep.SynodAgree', WHERE WHAT IT READS IS OF BULK AT MOST 1048576: true; the input reads as it did. -/
def synodAgreeUptoRow : OpenClaim := { program := "ytifffjhhammeiaa", sum := "24d8352660d45fe5de6969fdde23c02302e966c1ee2b10e092b642ba2c34d6f8", func := "musterfield/mustkeep.SynodAgree", spec := "synodAgree", inPlace := ["slices.overlaps[musterfield/api.Round]"], unfollowed := true, recurses := true, plainKeys := false, apart := false, narrowed := true }
def SynodAgreeUptoSaid : Prop := synodAgreeUptoRow.holds Try.pinned (OpenSpec.upto synodAgreeSpec)

/-- 'mustkeep.SynodSaid', WHERE WHAT IT READS IS OF BULK AT MOST 1048576: true; the input reads as it did. -/
def synodSaidUptoRow : OpenClaim := { program := "ytifffjhhammeiaa", sum := "24d8352660d45fe5de6969fdde23c02302e966c1ee2b10e092b642ba2c34d6f8", func := "musterfield/mustkeep.SynodSaid", spec := "synodSaid", inPlace := ["slices.overlaps[musterfield/api.Round]"], unfollowed := true, recurses := true, plainKeys := false, apart := false, narrowed := true }
def SynodSaidUptoSaid : Prop := synodSaidUptoRow.holds Try.pinned (OpenSpec.upto synodSaidSpec)

/-- 'mustkeep.SynodStays', WHERE WHAT IT READS IS OF BULK AT MOST 1048576: true; the input reads as it did. -/
def synodStaysUptoRow : OpenClaim := { program := "ytifffjhhammeiaa", sum := "24d8352660d45fe5de6969fdde23c02302e966c1ee2b10e092b642ba2c34d6f8", func := "musterfield/mustkeep.SynodStays", spec := "synodStays", inPlace := ["slices.overlaps[musterfield/api.Round]"], unfollowed := true, recurses := true, plainKeys := false, apart := false, narrowed := true }
def SynodStaysUptoSaid : Prop := synodStaysUptoRow.holds Try.pinned (OpenSpec.upto synodStaysSpec)

/-- 'mustkeep.SynodEnds', WHERE WHAT IT READS IS OF BULK AT MOST 1048576: true; the input reads as it did. -/
def synodEndsUptoRow : OpenClaim := { program := "ytifffjhhammeiaa", sum := "24d8352660d45fe5de6969fdde23c02302e966c1ee2b10e092b642ba2c34d6f8", func := "musterfield/mustkeep.SynodEnds", spec := "synodEnds", inPlace := ["slices.overlaps[musterfield/api.Round]"], unfollowed := true, recurses := true, plainKeys := false, apart := false, narrowed := true }
def SynodEndsUptoSaid : Prop := synodEndsUptoRow.holds Try.pinned (OpenSpec.upto synodEndsSpec)

end Rows
end Go.Proofs.Ytifffjhhammeiaa
