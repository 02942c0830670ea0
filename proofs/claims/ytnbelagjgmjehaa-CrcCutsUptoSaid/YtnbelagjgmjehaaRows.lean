/-
  No cell of these rows narrows 'for every input' (looked for: loops, veiled, ifaces, maps, wideKeys, modest, calm, conditions, laid).
  DERIVED. THE GIVEN ROWS OF THIS SEAT. 12 by the template 'for every input the law returns true; each argument reads behind the call as it read before'; 0 by the template 'total and deterministic' (their statements: YtnbelagjgmjehaaTotals.lean).
  GIVEN WITH THE SEED: the statements are not yours to turn. If you find one false, say at which input.
  Laid BY PROGRAM, IN A SANDBOX (cutbox-rows.mjs): the forced cells as the released guide's own fill.sh prints them over the translation 6b93efabae0d6bb6… (all of the seat's roots in one cut). By AI agents, Wed Nov 11 2026. No macro, syntax, notation, axiom, sorry.
-/
import Derived.Test.YtnbelagjgmjehaaChecked
import GoSem.Claim
import GoSem.ClaimJoined
import GoSem.ClaimMapViews
import Derived.JoinedTies
import Derived.KernelRfl
namespace Go.Proofs.Ytnbelagjgmjehaa
/- THE CELL 'sum', in the pinned program and in every row, IS THE sha256 OF THE DUMP (.gsa) THAT YtnbelagjgmjehaaProg.lean LOADS. Nothing in Lean hashes anything: it is a label: what it is worth is what the hold of that sum in a sandbox is worth. -/
noncomputable def Try.pinned : Pinned := { name := "ytnbelagjgmjehaa", sum := "6b93efabae0d6bb6cd4dba4676aae532cbd543e572c70daf82ead48857c57bf4", checked := Try.checked }
namespace Rows
def none {H : Type} : Left H := { results := [], args := [] }

/-- 'mustkeep.CrcLine': WHATEVER THE INPUT: true; the input reads as it did. -/
def crcLineSpec : ChangeSpec := { name := "crcLine", fn := fun _ => fun
  | [d1, d2, d3] => { results := [.lit (.bool true)], args := [d1, d2, d3] }
  | _ => none }
def crcLineRow : OpenClaim := { program := "ytnbelagjgmjehaa", sum := "6b93efabae0d6bb6cd4dba4676aae532cbd543e572c70daf82ead48857c57bf4", func := "musterfield/mustkeep.CrcLine", spec := "crcLine", apart := false }
def CrcLineSaid : Prop := crcLineRow.holds Try.pinned (OpenSpec.ofChange crcLineSpec)

/-- ITS FALSE NEIGHBOUR: 'it returns false'. Refute it at one input. -/
def crcLineWrong : ChangeSpec := { name := "crcLine", fn := fun _ => fun
  | [d1, d2, d3] => { results := [.lit (.bool false)], args := [d1, d2, d3] }
  | _ => none }
def CrcLineWrongFalsely : Prop := crcLineRow.holds Try.pinned (OpenSpec.ofChange crcLineWrong)

/-- 'mustkeep.LuckSkips': WHATEVER THE INPUT: true; the input reads as it did. -/
def luckSkipsSpec : ChangeSpec := { name := "luckSkips", fn := fun _ => fun
  | [d1, d2, d3] => { results := [.lit (.bool true)], args := [d1, d2, d3] }
  | _ => none }
def luckSkipsRow : OpenClaim := { program := "ytnbelagjgmjehaa", sum := "6b93efabae0d6bb6cd4dba4676aae532cbd543e572c70daf82ead48857c57bf4", func := "musterfield/mustkeep.LuckSkips", spec := "luckSkips", apart := false }
def LuckSkipsSaid : Prop := luckSkipsRow.holds Try.pinned (OpenSpec.ofChange luckSkipsSpec)

/-- ITS FALSE NEIGHBOUR: 'it returns false'. Refute it at one input. -/
def luckSkipsWrong : ChangeSpec := { name := "luckSkips", fn := fun _ => fun
  | [d1, d2, d3] => { results := [.lit (.bool false)], args := [d1, d2, d3] }
  | _ => none }
def LuckSkipsWrongFalsely : Prop := luckSkipsRow.holds Try.pinned (OpenSpec.ofChange luckSkipsWrong)

/-- 'mustkeep.LuckRound': WHATEVER THE INPUT: true; the input reads as it did. -/
def luckRoundSpec : ChangeSpec := { name := "luckRound", fn := fun _ => fun
  | [d1, d2] => { results := [.lit (.bool true)], args := [d1, d2] }
  | _ => none }
def luckRoundRow : OpenClaim := { program := "ytnbelagjgmjehaa", sum := "6b93efabae0d6bb6cd4dba4676aae532cbd543e572c70daf82ead48857c57bf4", func := "musterfield/mustkeep.LuckRound", spec := "luckRound", apart := false }
def LuckRoundSaid : Prop := luckRoundRow.holds Try.pinned (OpenSpec.ofChange luckRoundSpec)

/-- ITS FALSE NEIGHBOUR: 'it returns false'. Refute it at one input. -/
def luckRoundWrong : ChangeSpec := { name := "luckRound", fn := fun _ => fun
  | [d1, d2] => { results := [.lit (.bool false)], args := [d1, d2] }
  | _ => none }
def LuckRoundWrongFalsely : Prop := luckRoundRow.holds Try.pinned (OpenSpec.ofChange luckRoundWrong)

/-- 'mustkeep.LuckWhole': WHATEVER THE INPUT: true; the input reads as it did. -/
def luckWholeSpec : ChangeSpec := { name := "luckWhole", fn := fun _ => fun
  | [d] => { results := [.lit (.bool true)], args := [d] }
  | _ => none }
def luckWholeRow : OpenClaim := { program := "ytnbelagjgmjehaa", sum := "6b93efabae0d6bb6cd4dba4676aae532cbd543e572c70daf82ead48857c57bf4", func := "musterfield/mustkeep.LuckWhole", spec := "luckWhole", apart := false }
def LuckWholeSaid : Prop := luckWholeRow.holds Try.pinned (OpenSpec.ofChange luckWholeSpec)

/-- ITS FALSE NEIGHBOUR: 'it returns false'. Refute it at one input. -/
def luckWholeWrong : ChangeSpec := { name := "luckWhole", fn := fun _ => fun
  | [d] => { results := [.lit (.bool false)], args := [d] }
  | _ => none }
def LuckWholeWrongFalsely : Prop := luckWholeRow.holds Try.pinned (OpenSpec.ofChange luckWholeWrong)

/-- 'mustkeep.MarkApart': WHATEVER THE INPUT: true; the input reads as it did. -/
def markApartSpec : ChangeSpec := { name := "markApart", fn := fun _ => fun
  | [d1, d2] => { results := [.lit (.bool true)], args := [d1, d2] }
  | _ => none }
def markApartRow : OpenClaim := { program := "ytnbelagjgmjehaa", sum := "6b93efabae0d6bb6cd4dba4676aae532cbd543e572c70daf82ead48857c57bf4", func := "musterfield/mustkeep.MarkApart", spec := "markApart", unfollowed := true, recurses := true, apart := false }
def MarkApartSaid : Prop := markApartRow.holds Try.pinned (OpenSpec.ofChange markApartSpec)

/-- ITS FALSE NEIGHBOUR: 'it returns false'. Refute it at one input. -/
def markApartWrong : ChangeSpec := { name := "markApart", fn := fun _ => fun
  | [d1, d2] => { results := [.lit (.bool false)], args := [d1, d2] }
  | _ => none }
def MarkApartWrongFalsely : Prop := markApartRow.holds Try.pinned (OpenSpec.ofChange markApartWrong)

/-- 'mustkeep.LuckPicks': WHATEVER THE INPUT: true; the input reads as it did. -/
def luckPicksSpec : ChangeSpec := { name := "luckPicks", fn := fun _ => fun
  | [d1, d2, d3] => { results := [.lit (.bool true)], args := [d1, d2, d3] }
  | _ => none }
def luckPicksRow : OpenClaim := { program := "ytnbelagjgmjehaa", sum := "6b93efabae0d6bb6cd4dba4676aae532cbd543e572c70daf82ead48857c57bf4", func := "musterfield/mustkeep.LuckPicks", spec := "luckPicks", apart := false }
def LuckPicksSaid : Prop := luckPicksRow.holds Try.pinned (OpenSpec.ofChange luckPicksSpec)

/-- ITS FALSE NEIGHBOUR: 'it returns false'. Refute it at one input. -/
def luckPicksWrong : ChangeSpec := { name := "luckPicks", fn := fun _ => fun
  | [d1, d2, d3] => { results := [.lit (.bool false)], args := [d1, d2, d3] }
  | _ => none }
def LuckPicksWrongFalsely : Prop := luckPicksRow.holds Try.pinned (OpenSpec.ofChange luckPicksWrong)

/-- 'mustkeep.PackShort': WHATEVER THE INPUT: true; the input reads as it did. -/
def packShortSpec : ChangeSpec := { name := "packShort", fn := fun _ => fun
  | [d1, d2, d3] => { results := [.lit (.bool true)], args := [d1, d2, d3] }
  | _ => none }
def packShortRow : OpenClaim := { program := "ytnbelagjgmjehaa", sum := "6b93efabae0d6bb6cd4dba4676aae532cbd543e572c70daf82ead48857c57bf4", func := "musterfield/mustkeep.PackShort", spec := "packShort", apart := false }
def PackShortSaid : Prop := packShortRow.holds Try.pinned (OpenSpec.ofChange packShortSpec)

/-- ITS FALSE NEIGHBOUR: 'it returns false'. Refute it at one input. -/
def packShortWrong : ChangeSpec := { name := "packShort", fn := fun _ => fun
  | [d1, d2, d3] => { results := [.lit (.bool false)], args := [d1, d2, d3] }
  | _ => none }
def PackShortWrongFalsely : Prop := packShortRow.holds Try.pinned (OpenSpec.ofChange packShortWrong)

/-- 'mustkeep.PackCuts': WHATEVER THE INPUT: true; the input reads as it did. -/
def packCutsSpec : ChangeSpec := { name := "packCuts", fn := fun _ => fun
  | [d1, d2] => { results := [.lit (.bool true)], args := [d1, d2] }
  | _ => none }
def packCutsRow : OpenClaim := { program := "ytnbelagjgmjehaa", sum := "6b93efabae0d6bb6cd4dba4676aae532cbd543e572c70daf82ead48857c57bf4", func := "musterfield/mustkeep.PackCuts", spec := "packCuts", apart := false }
def PackCutsSaid : Prop := packCutsRow.holds Try.pinned (OpenSpec.ofChange packCutsSpec)

/-- ITS FALSE NEIGHBOUR: 'it returns false'. Refute it at one input. -/
def packCutsWrong : ChangeSpec := { name := "packCuts", fn := fun _ => fun
  | [d1, d2] => { results := [.lit (.bool false)], args := [d1, d2] }
  | _ => none }
def PackCutsWrongFalsely : Prop := packCutsRow.holds Try.pinned (OpenSpec.ofChange packCutsWrong)

/-- 'mustkeep.MarkMoves': WHATEVER THE INPUT: true; the input reads as it did. -/
def markMovesSpec : ChangeSpec := { name := "markMoves", fn := fun _ => fun
  | [d1, d2, d3] => { results := [.lit (.bool true)], args := [d1, d2, d3] }
  | _ => none }
def markMovesRow : OpenClaim := { program := "ytnbelagjgmjehaa", sum := "6b93efabae0d6bb6cd4dba4676aae532cbd543e572c70daf82ead48857c57bf4", func := "musterfield/mustkeep.MarkMoves", spec := "markMoves", apart := false }
def MarkMovesSaid : Prop := markMovesRow.holds Try.pinned (OpenSpec.ofChange markMovesSpec)

/-- ITS FALSE NEIGHBOUR: 'it returns false'. Refute it at one input. -/
def markMovesWrong : ChangeSpec := { name := "markMoves", fn := fun _ => fun
  | [d1, d2, d3] => { results := [.lit (.bool false)], args := [d1, d2, d3] }
  | _ => none }
def MarkMovesWrongFalsely : Prop := markMovesRow.holds Try.pinned (OpenSpec.ofChange markMovesWrong)

/-- 'mustkeep.CrcBurst': WHATEVER THE INPUT: true; the input reads as it did. -/
def crcBurstSpec : ChangeSpec := { name := "crcBurst", fn := fun _ => fun
  | [d1, d2, d3] => { results := [.lit (.bool true)], args := [d1, d2, d3] }
  | _ => none }
def crcBurstRow : OpenClaim := { program := "ytnbelagjgmjehaa", sum := "6b93efabae0d6bb6cd4dba4676aae532cbd543e572c70daf82ead48857c57bf4", func := "musterfield/mustkeep.CrcBurst", spec := "crcBurst", apart := false }
def CrcBurstSaid : Prop := crcBurstRow.holds Try.pinned (OpenSpec.ofChange crcBurstSpec)

/-- ITS FALSE NEIGHBOUR: 'it returns false'. Refute it at one input. -/
def crcBurstWrong : ChangeSpec := { name := "crcBurst", fn := fun _ => fun
  | [d1, d2, d3] => { results := [.lit (.bool false)], args := [d1, d2, d3] }
  | _ => none }
def CrcBurstWrongFalsely : Prop := crcBurstRow.holds Try.pinned (OpenSpec.ofChange crcBurstWrong)

/-- 'mustkeep.CrcBack': WHATEVER THE INPUT: true; the input reads as it did. -/
def crcBackSpec : ChangeSpec := { name := "crcBack", fn := fun _ => fun
  | [d] => { results := [.lit (.bool true)], args := [d] }
  | _ => none }
def crcBackRow : OpenClaim := { program := "ytnbelagjgmjehaa", sum := "6b93efabae0d6bb6cd4dba4676aae532cbd543e572c70daf82ead48857c57bf4", func := "musterfield/mustkeep.CrcBack", spec := "crcBack", apart := false }
def CrcBackSaid : Prop := crcBackRow.holds Try.pinned (OpenSpec.ofChange crcBackSpec)

/-- ITS FALSE NEIGHBOUR: 'it returns false'. Refute it at one input. -/
def crcBackWrong : ChangeSpec := { name := "crcBack", fn := fun _ => fun
  | [d] => { results := [.lit (.bool false)], args := [d] }
  | _ => none }
def CrcBackWrongFalsely : Prop := crcBackRow.holds Try.pinned (OpenSpec.ofChange crcBackWrong)

/-- 'mustkeep.CrcCuts': WHATEVER THE INPUT: true; the input reads as it did. -/
def crcCutsSpec : ChangeSpec := { name := "crcCuts", fn := fun _ => fun
  | [d1, d2, d3] => { results := [.lit (.bool true)], args := [d1, d2, d3] }
  | _ => none }
def crcCutsRow : OpenClaim := { program := "ytnbelagjgmjehaa", sum := "6b93efabae0d6bb6cd4dba4676aae532cbd543e572c70daf82ead48857c57bf4", func := "musterfield/mustkeep.CrcCuts", spec := "crcCuts", apart := false }
def CrcCutsSaid : Prop := crcCutsRow.holds Try.pinned (OpenSpec.ofChange crcCutsSpec)

/-- ITS FALSE NEIGHBOUR: 'it returns false'. Refute it at one input. -/
def crcCutsWrong : ChangeSpec := { name := "crcCuts", fn := fun _ => fun
  | [d1, d2, d3] => { results := [.lit (.bool false)], args := [d1, d2, d3] }
  | _ => none }
def CrcCutsWrongFalsely : Prop := crcCutsRow.holds Try.pinned (OpenSpec.ofChange crcCutsWrong)

/- THE SECOND FORM. 'bulk': how many values and letters a reading holds, each counted each time it is reached (what is shared counts as often as it is met; a slice's spare places count too). A statement '..UptoSaid' is the law's where the arguments, and the package variables that the reading takes, are together of bulk at most 1048576: NARROWER than '..Said'. Prove '..Said' where nothing that the law and all that it calls make is longer than what came in: it says more and counts as full. Else prove '..UptoSaid'. A law counts once. -/
mutual
def uptoBulk {H : Type} : DataW H → Nat
  | .lit (.string bytes) => bytes.length + 1
  | .lit _ => 1
  | .nil => 1
  | .ptr d => uptoBulk d + 1
  | .slice elems spare => uptoBulkAll elems + uptoBulkAll spare + 1
  | .agg parts => uptoBulkAll parts + 1
  | .iface _ d => uptoBulk d + 1
  | .map entries => uptoBulkEntries entries + 1
  | .held _ => 1
def uptoBulkAll {H : Type} : List (DataW H) → Nat
  | [] => 0
  | d :: r => uptoBulk d + uptoBulkAll r
def uptoBulkEntries {H : Type} : List (Lit × DataW H) → Nat
  | [] => 0
  | x :: r => uptoBulkEntry x + uptoBulkEntries r
def uptoBulkEntry {H : Type} : Lit × DataW H → Nat
  | (.string bytes, d) => bytes.length + uptoBulk d + 1
  | (_, d) => uptoBulk d + 1
 end
def uptoSmall : (H : Type) → List (DataW H) → Bool := fun _ ds => decide (uptoBulkAll ds ≤ 1048576)
def OpenSpec.upto (s : _root_.Go.ChangeSpec) : _root_.Go.OpenSpec := { _root_.Go.OpenSpec.ofChange s with cond := some uptoSmall }

/-- 'mustkeep.CrcLine', WHERE WHAT IT READS IS OF BULK AT MOST 1048576: true; the input reads as it did. -/
def crcLineUptoRow : OpenClaim := { program := "ytnbelagjgmjehaa", sum := "6b93efabae0d6bb6cd4dba4676aae532cbd543e572c70daf82ead48857c57bf4", func := "musterfield/mustkeep.CrcLine", spec := "crcLine", apart := false, narrowed := true }
def CrcLineUptoSaid : Prop := crcLineUptoRow.holds Try.pinned (OpenSpec.upto crcLineSpec)

/-- 'mustkeep.LuckSkips', WHERE WHAT IT READS IS OF BULK AT MOST 1048576: true; the input reads as it did. -/
def luckSkipsUptoRow : OpenClaim := { program := "ytnbelagjgmjehaa", sum := "6b93efabae0d6bb6cd4dba4676aae532cbd543e572c70daf82ead48857c57bf4", func := "musterfield/mustkeep.LuckSkips", spec := "luckSkips", apart := false, narrowed := true }
def LuckSkipsUptoSaid : Prop := luckSkipsUptoRow.holds Try.pinned (OpenSpec.upto luckSkipsSpec)

/-- 'mustkeep.LuckRound', WHERE WHAT IT READS IS OF BULK AT MOST 1048576: true; the input reads as it did. -/
def luckRoundUptoRow : OpenClaim := { program := "ytnbelagjgmjehaa", sum := "6b93efabae0d6bb6cd4dba4676aae532cbd543e572c70daf82ead48857c57bf4", func := "musterfield/mustkeep.LuckRound", spec := "luckRound", apart := false, narrowed := true }
def LuckRoundUptoSaid : Prop := luckRoundUptoRow.holds Try.pinned (OpenSpec.upto luckRoundSpec)

/-- 'mustkeep.LuckWhole', WHERE WHAT IT READS IS OF BULK AT MOST 1048576: true; the input reads as it did. -/
def luckWholeUptoRow : OpenClaim := { program := "ytnbelagjgmjehaa", sum := "6b93efabae0d6bb6cd4dba4676aae532cbd543e572c70daf82ead48857c57bf4", func := "musterfield/mustkeep.LuckWhole", spec := "luckWhole", apart := false, narrowed := true }
def LuckWholeUptoSaid : Prop := luckWholeUptoRow.holds Try.pinned (OpenSpec.upto luckWholeSpec)

/-- 'mustkeep.MarkApart', WHERE WHAT IT READS IS OF BULK AT MOST 1048576: true; the input reads as it did. -/
def markApartUptoRow : OpenClaim := { program := "ytnbelagjgmjehaa", sum := "6b93efabae0d6bb6cd4dba4676aae532cbd543e572c70daf82ead48857c57bf4", func := "musterfield/mustkeep.MarkApart", spec := "markApart", unfollowed := true, recurses := true, apart := false, narrowed := true }
def MarkApartUptoSaid : Prop := markApartUptoRow.holds Try.pinned (OpenSpec.upto markApartSpec)

/-- 'mustkeep.LuckPicks', WHERE WHAT IT READS IS OF BULK AT MOST 1048576: true; the input reads as it did. -/
def luckPicksUptoRow : OpenClaim := { program := "ytnbelagjgmjehaa", sum := "6b93efabae0d6bb6cd4dba4676aae532cbd543e572c70daf82ead48857c57bf4", func := "musterfield/mustkeep.LuckPicks", spec := "luckPicks", apart := false, narrowed := true }
def LuckPicksUptoSaid : Prop := luckPicksUptoRow.holds Try.pinned (OpenSpec.upto luckPicksSpec)

/-- 'mustkeep.PackShort', WHERE WHAT IT READS IS OF BULK AT MOST 1048576: true; the input reads as it did. -/
def packShortUptoRow : OpenClaim := { program := "ytnbelagjgmjehaa", sum := "6b93efabae0d6bb6cd4dba4676aae532cbd543e572c70daf82ead48857c57bf4", func := "musterfield/mustkeep.PackShort", spec := "packShort", apart := false, narrowed := true }
def PackShortUptoSaid : Prop := packShortUptoRow.holds Try.pinned (OpenSpec.upto packShortSpec)

/-- 'mustkeep.PackCuts', WHERE WHAT IT READS IS OF BULK AT MOST 1048576: true; the input reads as it did. -/
def packCutsUptoRow : OpenClaim := { program := "ytnbelagjgmjehaa", sum := "6b93efabae0d6bb6cd4dba4676aae532cbd543e572c70daf82ead48857c57bf4", func := "musterfield/mustkeep.PackCuts", spec := "packCuts", apart := false, narrowed := true }
def PackCutsUptoSaid : Prop := packCutsUptoRow.holds Try.pinned (OpenSpec.upto packCutsSpec)

/-- 'mustkeep.MarkMoves', WHERE WHAT IT READS IS OF BULK AT MOST 1048576: true; the input reads as it did. -/
def markMovesUptoRow : OpenClaim := { program := "ytnbelagjgmjehaa", sum := "6b93efabae0d6bb6cd4dba4676aae532cbd543e572c70daf82ead48857c57bf4", func := "musterfield/mustkeep.MarkMoves", spec := "markMoves", apart := false, narrowed := true }
def MarkMovesUptoSaid : Prop := markMovesUptoRow.holds Try.pinned (OpenSpec.upto markMovesSpec)

/-- 'mustkeep.CrcBurst', WHERE WHAT IT READS IS OF BULK AT MOST 1048576: true; the input reads as it did. -/
def crcBurstUptoRow : OpenClaim := { program := "ytnbelagjgmjehaa", sum := "6b93efabae0d6bb6cd4dba4676aae532cbd543e572c70daf82ead48857c57bf4", func := "musterfield/mustkeep.CrcBurst", spec := "crcBurst", apart := false, narrowed := true }
def CrcBurstUptoSaid : Prop := crcBurstUptoRow.holds Try.pinned (OpenSpec.upto crcBurstSpec)

/-- 'mustkeep.CrcBack', WHERE WHAT IT READS IS OF BULK AT MOST 1048576: true; the input reads as it did. -/
def crcBackUptoRow : OpenClaim := { program := "ytnbelagjgmjehaa", sum := "6b93efabae0d6bb6cd4dba4676aae532cbd543e572c70daf82ead48857c57bf4", func := "musterfield/mustkeep.CrcBack", spec := "crcBack", apart := false, narrowed := true }
def CrcBackUptoSaid : Prop := crcBackUptoRow.holds Try.pinned (OpenSpec.upto crcBackSpec)

/-- 'mustkeep.CrcCuts', WHERE WHAT IT READS IS OF BULK AT MOST 1048576: true; the input reads as it did. -/
def crcCutsUptoRow : OpenClaim := { program := "ytnbelagjgmjehaa", sum := "6b93efabae0d6bb6cd4dba4676aae532cbd543e572c70daf82ead48857c57bf4", func := "musterfield/mustkeep.CrcCuts", spec := "crcCuts", apart := false, narrowed := true }
def CrcCutsUptoSaid : Prop := crcCutsUptoRow.holds Try.pinned (OpenSpec.upto crcCutsSpec)

end Rows
end Go.Proofs.Ytnbelagjgmjehaa
