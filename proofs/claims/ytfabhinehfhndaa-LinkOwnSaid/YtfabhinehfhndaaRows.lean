/-
  No cell of these rows narrows 'for every input' (looked for: loops, veiled, ifaces, maps, wideKeys, modest, calm, conditions, laid).
  DERIVED. THE GIVEN ROWS OF THIS SEAT. 12 by the template 'for every input the law returns true; each argument reads behind the call as it read before'; 0 by the template 'total and deterministic' (their statements: YtfabhinehfhndaaTotals.lean).
  GIVEN WITH THE SEED: the statements are not yours to turn. If you find one false, say at which input.
  Laid BY PROGRAM, IN A SANDBOX (cutbox-rows.mjs): the forced cells as the released guide's own fill.sh prints them over the translation c7daf605d7326784… (all of the seat's roots in one cut). By AI agents, Wed Nov 11 2026. No macro, syntax, notation, axiom, sorry.
-/
import Derived.Test.YtfabhinehfhndaaChecked
import GoSem.Claim
import GoSem.ClaimJoined
import GoSem.ClaimMapViews
import Derived.JoinedTies
import Derived.KernelRfl
namespace Go.Proofs.Ytfabhinehfhndaa
/- THE CELL 'sum', in the pinned program and in every row, IS THE sha256 OF THE DUMP (.gsa) THAT YtfabhinehfhndaaProg.lean LOADS. Nothing in Lean hashes anything: it is a label: what it is worth is what the hold of that sum in a sandbox is worth. -/
noncomputable def Try.pinned : Pinned := { name := "ytfabhinehfhndaa", sum := "c7daf605d732678494a2bb27ccf303ed17537422d9bcf1514578f0c131f92a8b", checked := Try.checked }
namespace Rows
def none {H : Type} : Left H := { results := [], args := [] }

/-- 'mustkeep.SynodVow': WHATEVER THE INPUT: true; the input reads as it did. -/
def synodVowSpec : ChangeSpec := { name := "synodVow", fn := fun _ => fun
  | [d1, d2, d3, d4] => { results := [.lit (.bool true)], args := [d1, d2, d3, d4] }
  | _ => none }
def synodVowRow : OpenClaim := { program := "ytfabhinehfhndaa", sum := "c7daf605d732678494a2bb27ccf303ed17537422d9bcf1514578f0c131f92a8b", func := "musterfield/mustkeep.SynodVow", spec := "synodVow", inPlace := ["slices.overlaps[musterfield/api.Round]"], unfollowed := true, recurses := true, plainKeys := false, apart := false }
def SynodVowSaid : Prop := synodVowRow.holds Try.pinned (OpenSpec.ofChange synodVowSpec)

/-- ITS FALSE NEIGHBOUR: 'it returns false'. Refute it at one input. -/
def synodVowWrong : ChangeSpec := { name := "synodVow", fn := fun _ => fun
  | [d1, d2, d3, d4] => { results := [.lit (.bool false)], args := [d1, d2, d3, d4] }
  | _ => none }
def SynodVowWrongFalsely : Prop := synodVowRow.holds Try.pinned (OpenSpec.ofChange synodVowWrong)

/-- 'mustkeep.SynodAgree': WHATEVER THE INPUT: true; the input reads as it did. -/
def synodAgreeSpec : ChangeSpec := { name := "synodAgree", fn := fun _ => fun
  | [d1, d2] => { results := [.lit (.bool true)], args := [d1, d2] }
  | _ => none }
def synodAgreeRow : OpenClaim := { program := "ytfabhinehfhndaa", sum := "c7daf605d732678494a2bb27ccf303ed17537422d9bcf1514578f0c131f92a8b", func := "musterfield/mustkeep.SynodAgree", spec := "synodAgree", inPlace := ["slices.overlaps[musterfield/api.Round]"], unfollowed := true, recurses := true, plainKeys := false, apart := false }
def SynodAgreeSaid : Prop := synodAgreeRow.holds Try.pinned (OpenSpec.ofChange synodAgreeSpec)

/-- ITS FALSE NEIGHBOUR: 'it returns false'. Refute it at one input. -/
def synodAgreeWrong : ChangeSpec := { name := "synodAgree", fn := fun _ => fun
  | [d1, d2] => { results := [.lit (.bool false)], args := [d1, d2] }
  | _ => none }
def SynodAgreeWrongFalsely : Prop := synodAgreeRow.holds Try.pinned (OpenSpec.ofChange synodAgreeWrong)

/-- 'mustkeep.SynodSaid': WHATEVER THE INPUT: true; the input reads as it did. -/
def synodSaidSpec : ChangeSpec := { name := "synodSaid", fn := fun _ => fun
  | [d1, d2] => { results := [.lit (.bool true)], args := [d1, d2] }
  | _ => none }
def synodSaidRow : OpenClaim := { program := "ytfabhinehfhndaa", sum := "c7daf605d732678494a2bb27ccf303ed17537422d9bcf1514578f0c131f92a8b", func := "musterfield/mustkeep.SynodSaid", spec := "synodSaid", inPlace := ["slices.overlaps[musterfield/api.Round]"], unfollowed := true, recurses := true, plainKeys := false, apart := false }
def SynodSaidSaid : Prop := synodSaidRow.holds Try.pinned (OpenSpec.ofChange synodSaidSpec)

/-- ITS FALSE NEIGHBOUR: 'it returns false'. Refute it at one input. -/
def synodSaidWrong : ChangeSpec := { name := "synodSaid", fn := fun _ => fun
  | [d1, d2] => { results := [.lit (.bool false)], args := [d1, d2] }
  | _ => none }
def SynodSaidWrongFalsely : Prop := synodSaidRow.holds Try.pinned (OpenSpec.ofChange synodSaidWrong)

/-- 'mustkeep.SynodStays': WHATEVER THE INPUT: true; the input reads as it did. -/
def synodStaysSpec : ChangeSpec := { name := "synodStays", fn := fun _ => fun
  | [d1, d2, d3] => { results := [.lit (.bool true)], args := [d1, d2, d3] }
  | _ => none }
def synodStaysRow : OpenClaim := { program := "ytfabhinehfhndaa", sum := "c7daf605d732678494a2bb27ccf303ed17537422d9bcf1514578f0c131f92a8b", func := "musterfield/mustkeep.SynodStays", spec := "synodStays", inPlace := ["slices.overlaps[musterfield/api.Round]"], unfollowed := true, recurses := true, plainKeys := false, apart := false }
def SynodStaysSaid : Prop := synodStaysRow.holds Try.pinned (OpenSpec.ofChange synodStaysSpec)

/-- ITS FALSE NEIGHBOUR: 'it returns false'. Refute it at one input. -/
def synodStaysWrong : ChangeSpec := { name := "synodStays", fn := fun _ => fun
  | [d1, d2, d3] => { results := [.lit (.bool false)], args := [d1, d2, d3] }
  | _ => none }
def SynodStaysWrongFalsely : Prop := synodStaysRow.holds Try.pinned (OpenSpec.ofChange synodStaysWrong)

/-- 'mustkeep.SynodEnds': WHATEVER THE INPUT: true; the input reads as it did. -/
def synodEndsSpec : ChangeSpec := { name := "synodEnds", fn := fun _ => fun
  | [d1, d2, d3, d4] => { results := [.lit (.bool true)], args := [d1, d2, d3, d4] }
  | _ => none }
def synodEndsRow : OpenClaim := { program := "ytfabhinehfhndaa", sum := "c7daf605d732678494a2bb27ccf303ed17537422d9bcf1514578f0c131f92a8b", func := "musterfield/mustkeep.SynodEnds", spec := "synodEnds", inPlace := ["slices.overlaps[musterfield/api.Round]"], unfollowed := true, recurses := true, plainKeys := false, apart := false }
def SynodEndsSaid : Prop := synodEndsRow.holds Try.pinned (OpenSpec.ofChange synodEndsSpec)

/-- ITS FALSE NEIGHBOUR: 'it returns false'. Refute it at one input. -/
def synodEndsWrong : ChangeSpec := { name := "synodEnds", fn := fun _ => fun
  | [d1, d2, d3, d4] => { results := [.lit (.bool false)], args := [d1, d2, d3, d4] }
  | _ => none }
def SynodEndsWrongFalsely : Prop := synodEndsRow.holds Try.pinned (OpenSpec.ofChange synodEndsWrong)

/-- 'mustkeep.LinkFront': WHATEVER THE INPUT: true; the input reads as it did. -/
def linkFrontSpec : ChangeSpec := { name := "linkFront", fn := fun _ => fun
  | [d1, d2] => { results := [.lit (.bool true)], args := [d1, d2] }
  | _ => none }
def linkFrontRow : OpenClaim := { program := "ytfabhinehfhndaa", sum := "c7daf605d732678494a2bb27ccf303ed17537422d9bcf1514578f0c131f92a8b", func := "musterfield/mustkeep.LinkFront", spec := "linkFront", inPlace := ["slices.overlaps[int]"], unfollowed := true, recurses := true, plainKeys := false, apart := false }
def LinkFrontSaid : Prop := linkFrontRow.holds Try.pinned (OpenSpec.ofChange linkFrontSpec)

/-- ITS FALSE NEIGHBOUR: 'it returns false'. Refute it at one input. -/
def linkFrontWrong : ChangeSpec := { name := "linkFront", fn := fun _ => fun
  | [d1, d2] => { results := [.lit (.bool false)], args := [d1, d2] }
  | _ => none }
def LinkFrontWrongFalsely : Prop := linkFrontRow.holds Try.pinned (OpenSpec.ofChange linkFrontWrong)

/-- 'mustkeep.LinkEnds': WHATEVER THE INPUT: true; the input reads as it did. -/
def linkEndsSpec : ChangeSpec := { name := "linkEnds", fn := fun _ => fun
  | [d] => { results := [.lit (.bool true)], args := [d] }
  | _ => none }
def linkEndsRow : OpenClaim := { program := "ytfabhinehfhndaa", sum := "c7daf605d732678494a2bb27ccf303ed17537422d9bcf1514578f0c131f92a8b", func := "musterfield/mustkeep.LinkEnds", spec := "linkEnds", inPlace := ["slices.overlaps[int]"], unfollowed := true, recurses := true, plainKeys := false, apart := false }
def LinkEndsSaid : Prop := linkEndsRow.holds Try.pinned (OpenSpec.ofChange linkEndsSpec)

/-- ITS FALSE NEIGHBOUR: 'it returns false'. Refute it at one input. -/
def linkEndsWrong : ChangeSpec := { name := "linkEnds", fn := fun _ => fun
  | [d] => { results := [.lit (.bool false)], args := [d] }
  | _ => none }
def LinkEndsWrongFalsely : Prop := linkEndsRow.holds Try.pinned (OpenSpec.ofChange linkEndsWrong)

/-- 'mustkeep.LinkGrows': WHATEVER THE INPUT: true; the input reads as it did. -/
def linkGrowsSpec : ChangeSpec := { name := "linkGrows", fn := fun _ => fun
  | [d1, d2] => { results := [.lit (.bool true)], args := [d1, d2] }
  | _ => none }
def linkGrowsRow : OpenClaim := { program := "ytfabhinehfhndaa", sum := "c7daf605d732678494a2bb27ccf303ed17537422d9bcf1514578f0c131f92a8b", func := "musterfield/mustkeep.LinkGrows", spec := "linkGrows", inPlace := ["slices.overlaps[int]"], unfollowed := true, recurses := true, plainKeys := false, apart := false }
def LinkGrowsSaid : Prop := linkGrowsRow.holds Try.pinned (OpenSpec.ofChange linkGrowsSpec)

/-- ITS FALSE NEIGHBOUR: 'it returns false'. Refute it at one input. -/
def linkGrowsWrong : ChangeSpec := { name := "linkGrows", fn := fun _ => fun
  | [d1, d2] => { results := [.lit (.bool false)], args := [d1, d2] }
  | _ => none }
def LinkGrowsWrongFalsely : Prop := linkGrowsRow.holds Try.pinned (OpenSpec.ofChange linkGrowsWrong)

/-- 'mustkeep.LinkTwice': WHATEVER THE INPUT: true; the input reads as it did. -/
def linkTwiceSpec : ChangeSpec := { name := "linkTwice", fn := fun _ => fun
  | [d1, d2] => { results := [.lit (.bool true)], args := [d1, d2] }
  | _ => none }
def linkTwiceRow : OpenClaim := { program := "ytfabhinehfhndaa", sum := "c7daf605d732678494a2bb27ccf303ed17537422d9bcf1514578f0c131f92a8b", func := "musterfield/mustkeep.LinkTwice", spec := "linkTwice", inPlace := ["slices.overlaps[int]"], unfollowed := true, recurses := true, plainKeys := false, apart := false }
def LinkTwiceSaid : Prop := linkTwiceRow.holds Try.pinned (OpenSpec.ofChange linkTwiceSpec)

/-- ITS FALSE NEIGHBOUR: 'it returns false'. Refute it at one input. -/
def linkTwiceWrong : ChangeSpec := { name := "linkTwice", fn := fun _ => fun
  | [d1, d2] => { results := [.lit (.bool false)], args := [d1, d2] }
  | _ => none }
def LinkTwiceWrongFalsely : Prop := linkTwiceRow.holds Try.pinned (OpenSpec.ofChange linkTwiceWrong)

/-- 'mustkeep.LinkOwn': WHATEVER THE INPUT: true; the input reads as it did. -/
def linkOwnSpec : ChangeSpec := { name := "linkOwn", fn := fun _ => fun
  | [d1, d2] => { results := [.lit (.bool true)], args := [d1, d2] }
  | _ => none }
def linkOwnRow : OpenClaim := { program := "ytfabhinehfhndaa", sum := "c7daf605d732678494a2bb27ccf303ed17537422d9bcf1514578f0c131f92a8b", func := "musterfield/mustkeep.LinkOwn", spec := "linkOwn", inPlace := ["slices.overlaps[int]"], unfollowed := true, recurses := true, plainKeys := false, apart := false }
def LinkOwnSaid : Prop := linkOwnRow.holds Try.pinned (OpenSpec.ofChange linkOwnSpec)

/-- ITS FALSE NEIGHBOUR: 'it returns false'. Refute it at one input. -/
def linkOwnWrong : ChangeSpec := { name := "linkOwn", fn := fun _ => fun
  | [d1, d2] => { results := [.lit (.bool false)], args := [d1, d2] }
  | _ => none }
def LinkOwnWrongFalsely : Prop := linkOwnRow.holds Try.pinned (OpenSpec.ofChange linkOwnWrong)

/-- 'mustkeep.OrderParts': WHATEVER THE INPUT: true; the input reads as it did. -/
def orderPartsSpec : ChangeSpec := { name := "orderParts", fn := fun _ => fun
  | [d1, d2, d3] => { results := [.lit (.bool true)], args := [d1, d2, d3] }
  | _ => none }
def orderPartsRow : OpenClaim := { program := "ytfabhinehfhndaa", sum := "c7daf605d732678494a2bb27ccf303ed17537422d9bcf1514578f0c131f92a8b", func := "musterfield/mustkeep.OrderParts", spec := "orderParts", inPlace := ["internal/abi.NoEscape"], unfollowed := true, recurses := true, plainKeys := false, apart := false }
def OrderPartsSaid : Prop := orderPartsRow.holds Try.pinned (OpenSpec.ofChange orderPartsSpec)

/-- ITS FALSE NEIGHBOUR: 'it returns false'. Refute it at one input. -/
def orderPartsWrong : ChangeSpec := { name := "orderParts", fn := fun _ => fun
  | [d1, d2, d3] => { results := [.lit (.bool false)], args := [d1, d2, d3] }
  | _ => none }
def OrderPartsWrongFalsely : Prop := orderPartsRow.holds Try.pinned (OpenSpec.ofChange orderPartsWrong)

/-- 'mustkeep.OrderOwn': WHATEVER THE INPUT: true; the input reads as it did. -/
def orderOwnSpec : ChangeSpec := { name := "orderOwn", fn := fun _ => fun
  | [d1, d2, d3] => { results := [.lit (.bool true)], args := [d1, d2, d3] }
  | _ => none }
def orderOwnRow : OpenClaim := { program := "ytfabhinehfhndaa", sum := "c7daf605d732678494a2bb27ccf303ed17537422d9bcf1514578f0c131f92a8b", func := "musterfield/mustkeep.OrderOwn", spec := "orderOwn", inPlace := ["internal/abi.NoEscape"], unfollowed := true, recurses := true, plainKeys := false, apart := false }
def OrderOwnSaid : Prop := orderOwnRow.holds Try.pinned (OpenSpec.ofChange orderOwnSpec)

/-- ITS FALSE NEIGHBOUR: 'it returns false'. Refute it at one input. -/
def orderOwnWrong : ChangeSpec := { name := "orderOwn", fn := fun _ => fun
  | [d1, d2, d3] => { results := [.lit (.bool false)], args := [d1, d2, d3] }
  | _ => none }
def OrderOwnWrongFalsely : Prop := orderOwnRow.holds Try.pinned (OpenSpec.ofChange orderOwnWrong)

/- THE SECOND FORM. 'bulk': how many values and letters a reading holds, each counted each time it is reached (what is shared counts as often as it is met; a slice's spare places count too). A statement '..UptoSaid' is the law's where the arguments, and the package variables that the reading takes, are together of bulk at most 1048576: NARROWER than '..Said'. Prove '..Said' where nothing that the law and all that it calls make is longer than what came in: it says more and counts as full. Else prove '..UptoSaid'. A law counts once. -/
mutual
def uptoBulk {H : Type} : DataW H → Nat
  | .lit (.string bytes) => bytes.length + 1
  | .lit _ => 1
  | .nil => 1
  | .ptr d => uptoBulk d + 1
  | .slice elems spare => uptoBulkAll elems + uptoBulkAll spare + 1
  | .agg parts => uptoBulkAll parts + 1
  | .iface _ d => uptoBulk d + 1
  | .map entries => uptoBulkEntries entries + 1
  | .held _ => 1
def uptoBulkAll {H : Type} : List (DataW H) → Nat
  | [] => 0
  | d :: r => uptoBulk d + uptoBulkAll r
def uptoBulkEntries {H : Type} : List (Lit × DataW H) → Nat
  | [] => 0
  | x :: r => uptoBulkEntry x + uptoBulkEntries r
def uptoBulkEntry {H : Type} : Lit × DataW H → Nat
  | (.string bytes, d) => bytes.length + uptoBulk d + 1
  | (_, d) => uptoBulk d + 1
 end
def uptoSmall : (H : Type) → List (DataW H) → Bool := fun _ ds => decide (uptoBulkAll ds ≤ 1048576)
def OpenSpec.upto (s : _root_.Go.ChangeSpec) : _root_.Go.OpenSpec := { _root_.Go.OpenSpec.ofChange s with cond := some uptoSmall }

/-- 'mustkeep.SynodVow', WHERE WHAT IT READS IS OF BULK AT MOST 1048576: true; the input reads as it did. -/
def synodVowUptoRow : OpenClaim := { program := "ytfabhinehfhndaa", sum := "c7daf605d732678494a2bb27ccf303ed17537422d9bcf1514578f0c131f92a8b", func := "musterfield/mustkeep.SynodVow", spec := "synodVow", inPlace := ["slices.overlaps[musterfield/api.Round]"], unfollowed := true, recurses := true, plainKeys := false, apart := false, narrowed := true }
def SynodVowUptoSaid : Prop := synodVowUptoRow.holds Try.pinned (OpenSpec.upto synodVowSpec)

/-- 'mustkeep.SynodAgree', WHERE WHAT IT READS IS OF BULK AT MOST 1048576: true; the input reads as it did. -/
def synodAgreeUptoRow : OpenClaim := { program := "ytfabhinehfhndaa", sum := "c7daf605d732678494a2bb27ccf303ed17537422d9bcf1514578f0c131f92a8b", func := "musterfield/mustkeep.SynodAgree", spec := "synodAgree", inPlace := ["slices.overlaps[musterfield/api.Round]"], unfollowed := true, recurses := true, plainKeys := false, apart := false, narrowed := true }
def SynodAgreeUptoSaid : Prop := synodAgreeUptoRow.holds Try.pinned (OpenSpec.upto synodAgreeSpec)

/-- 'mustkeep.SynodSaid', WHERE WHAT IT READS IS OF BULK AT MOST 1048576: true; the input reads as it did. -/
def synodSaidUptoRow : OpenClaim := { program := "ytfabhinehfhndaa", sum := "c7daf605d732678494a2bb27ccf303ed17537422d9bcf1514578f0c131f92a8b", func := "musterfield/mustkeep.SynodSaid", spec := "synodSaid", inPlace := ["slices.overlaps[musterfield/api.Round]"], unfollowed := true, recurses := true, plainKeys := false, apart := false, narrowed := true }
def SynodSaidUptoSaid : Prop := synodSaidUptoRow.holds Try.pinned (OpenSpec.upto synodSaidSpec)

/-- 'mustkeep.SynodStays', WHERE WHAT IT READS IS OF BULK AT MOST 1048576: true; the input reads as it did. -/
def synodStaysUptoRow : OpenClaim := { program := "ytfabhinehfhndaa", sum := "c7daf605d732678494a2bb27ccf303ed17537422d9bcf1514578f0c131f92a8b", func := "musterfield/mustkeep.SynodStays", spec := "synodStays", inPlace := ["slices.overlaps[musterfield/api.Round]"], unfollowed := true, recurses := true, plainKeys := false, apart := false, narrowed := true }
def SynodStaysUptoSaid : Prop := synodStaysUptoRow.holds Try.pinned (OpenSpec.upto synodStaysSpec)

/-- 'mustkeep.SynodEnds', WHERE WHAT IT READS IS OF BULK AT MOST 1048576: true; the input reads as it did. -/
def synodEndsUptoRow : OpenClaim := { program := "ytfabhinehfhndaa", sum := "c7daf605d732678494a2bb27ccf303ed17537422d9bcf1514578f0c131f92a8b", func := "musterfield/mustkeep.SynodEnds", spec := "synodEnds", inPlace := ["slices.overlaps[musterfield/api.Round]"], unfollowed := true, recurses := true, plainKeys := false, apart := false, narrowed := true }
def SynodEndsUptoSaid : Prop := synodEndsUptoRow.holds Try.pinned (OpenSpec.upto synodEndsSpec)

/-- 'mustkeep.LinkFront', WHERE WHAT IT READS IS OF BULK AT MOST 1048576: true; the input reads as it did. -/
def linkFrontUptoRow : OpenClaim := { program := "ytfabhinehfhndaa", sum := "c7daf605d732678494a2bb27ccf303ed17537422d9bcf1514578f0c131f92a8b", func := "musterfield/mustkeep.LinkFront", spec := "linkFront", inPlace := ["slices.overlaps[int]"], unfollowed := true, recurses := true, plainKeys := false, apart := false, narrowed := true }
def LinkFrontUptoSaid : Prop := linkFrontUptoRow.holds Try.pinned (OpenSpec.upto linkFrontSpec)

/-- 'mustkeep.LinkEnds', WHERE WHAT IT READS IS OF BULK AT MOST 1048576: true; the input reads as it did. -/
def linkEndsUptoRow : OpenClaim := { program := "ytfabhinehfhndaa", sum := "c7daf605d732678494a2bb27ccf303ed17537422d9bcf1514578f0c131f92a8b", func := "musterfield/mustkeep.LinkEnds", spec := "linkEnds", inPlace := ["slices.overlaps[int]"], unfollowed := true, recurses := true, plainKeys := false, apart := false, narrowed := true }
def LinkEndsUptoSaid : Prop := linkEndsUptoRow.holds Try.pinned (OpenSpec.upto linkEndsSpec)

/-- 'mustkeep.LinkGrows', WHERE WHAT IT READS IS OF BULK AT MOST 1048576: true; the input reads as it did. -/
def linkGrowsUptoRow : OpenClaim := { program := "ytfabhinehfhndaa", sum := "c7daf605d732678494a2bb27ccf303ed17537422d9bcf1514578f0c131f92a8b", func := "musterfield/mustkeep.LinkGrows", spec := "linkGrows", inPlace := ["slices.overlaps[int]"], unfollowed := true, recurses := true, plainKeys := false, apart := false, narrowed := true }
def LinkGrowsUptoSaid : Prop := linkGrowsUptoRow.holds Try.pinned (OpenSpec.upto linkGrowsSpec)

/-- 'mustkeep.LinkTwice', WHERE WHAT IT READS IS OF BULK AT MOST 1048576: true; the input reads as it did. -/
def linkTwiceUptoRow : OpenClaim := { program := "ytfabhinehfhndaa", sum := "c7daf605d732678494a2bb27ccf303ed17537422d9bcf1514578f0c131f92a8b", func := "musterfield/mustkeep.LinkTwice", spec := "linkTwice", inPlace := ["slices.overlaps[int]"], unfollowed := true, recurses := true, plainKeys := false, apart := false, narrowed := true }
def LinkTwiceUptoSaid : Prop := linkTwiceUptoRow.holds Try.pinned (OpenSpec.upto linkTwiceSpec)

/-- 'mustkeep.LinkOwn', WHERE WHAT IT READS IS OF BULK AT MOST 1048576: true; the input reads as it did. -/
def linkOwnUptoRow : OpenClaim := { program := "ytfabhinehfhndaa", sum := "c7daf605d732678494a2bb27ccf303ed17537422d9bcf1514578f0c131f92a8b", func := "musterfield/mustkeep.LinkOwn", spec := "linkOwn", inPlace := ["slices.overlaps[int]"], unfollowed := true, recurses := true, plainKeys := false, apart := false, narrowed := true }
def LinkOwnUptoSaid : Prop := linkOwnUptoRow.holds Try.pinned (OpenSpec.upto linkOwnSpec)

/-- 'mustkeep.OrderParts', WHERE WHAT IT READS IS OF BULK AT MOST 1048576: true; the input reads as it did. -/
def orderPartsUptoRow : OpenClaim := { program := "ytfabhinehfhndaa", sum := "c7daf605d732678494a2bb27ccf303ed17537422d9bcf1514578f0c131f92a8b", func := "musterfield/mustkeep.OrderParts", spec := "orderParts", inPlace := ["internal/abi.NoEscape"], unfollowed := true, recurses := true, plainKeys := false, apart := false, narrowed := true }
def OrderPartsUptoSaid : Prop := orderPartsUptoRow.holds Try.pinned (OpenSpec.upto orderPartsSpec)

/-- 'mustkeep.OrderOwn', WHERE WHAT IT READS IS OF BULK AT MOST 1048576: true; the input reads as it did. -/
def orderOwnUptoRow : OpenClaim := { program := "ytfabhinehfhndaa", sum := "c7daf605d732678494a2bb27ccf303ed17537422d9bcf1514578f0c131f92a8b", func := "musterfield/mustkeep.OrderOwn", spec := "orderOwn", inPlace := ["internal/abi.NoEscape"], unfollowed := true, recurses := true, plainKeys := false, apart := false, narrowed := true }
def OrderOwnUptoSaid : Prop := orderOwnUptoRow.holds Try.pinned (OpenSpec.upto orderOwnSpec)

end Rows
end Go.Proofs.Ytfabhinehfhndaa
