/-
  No cell of these rows narrows 'for every input' (looked for: loops, veiled, ifaces, maps, wideKeys, modest, calm, conditions, laid).
  DERIVED. THE GIVEN ROWS OF THIS SEAT. 3 by the template 'for every input the law returns true; each argument reads behind the call as it read before'; 0 by the template 'total and deterministic' (their statements: YtmeeljmapailnaaGreatTotals.lean).
  GIVEN WITH THE SEED: the statements are not yours to turn. If you find one false, say at which input.
  Laid BY PROGRAM, IN A SANDBOX (cutbox-rows.mjs): the forced cells as the released guide's own fill.sh prints them over the translation 65d5766ad13f599d… (all of the seat's roots in one cut). By AI agents, Wed Nov 11 2026. No macro, syntax, notation, axiom, sorry.
-/
import Derived.Test.YtmeeljmapailnaaGreatChecked
import GoSem.Claim
import GoSem.ClaimJoined
import GoSem.ClaimMapViews
import Derived.JoinedTies
import Derived.KernelRfl
namespace Go.Proofs.YtmeeljmapailnaaGreat
/- THE CELL 'sum', in the pinned program and in every row, IS THE sha256 OF THE DUMP (.gsa) THAT YtmeeljmapailnaaGreatProg.lean LOADS. Nothing in Lean hashes anything: it is a label: what it is worth is what the hold of that sum in a sandbox is worth. -/
noncomputable def Tryz.pinned : Pinned := { name := "ytmeeljmapailnaagreat", sum := "65d5766ad13f599dbaba54314fe283233c5cd8a7c7b2e1e7f94790dd4cef1446", checked := Tryz.checked }
namespace Rows
def none {H : Type} : Left H := { results := [], args := [] }

/-- 'musttop.TopWorth': WHATEVER THE INPUT: true; the input reads as it did. -/
def topWorthSpec : ChangeSpec := { name := "topWorth", fn := fun _ => fun
  | [d1, d2, d3] => { results := [.lit (.bool true)], args := [d1, d2, d3] }
  | _ => none }
def topWorthRow : OpenClaim := { program := "ytmeeljmapailnaagreat", sum := "65d5766ad13f599dbaba54314fe283233c5cd8a7c7b2e1e7f94790dd4cef1446", func := "musterfield/musttop.TopWorth", spec := "topWorth", inPlace := ["internal/abi.NoEscape"], unfollowed := true, recurses := true, plainKeys := false, apart := false }
def TopWorthSaid : Prop := topWorthRow.holds Tryz.pinned (OpenSpec.ofChange topWorthSpec)

/-- ITS FALSE NEIGHBOUR: 'it returns false'. Refute it at one input. -/
def topWorthWrong : ChangeSpec := { name := "topWorth", fn := fun _ => fun
  | [d1, d2, d3] => { results := [.lit (.bool false)], args := [d1, d2, d3] }
  | _ => none }
def TopWorthWrongFalsely : Prop := topWorthRow.holds Tryz.pinned (OpenSpec.ofChange topWorthWrong)

/-- 'musttop.TopAlike': WHATEVER THE INPUT: true; the input reads as it did. -/
def topAlikeSpec : ChangeSpec := { name := "topAlike", fn := fun _ => fun
  | [d1, d2, d3] => { results := [.lit (.bool true)], args := [d1, d2, d3] }
  | _ => none }
def topAlikeRow : OpenClaim := { program := "ytmeeljmapailnaagreat", sum := "65d5766ad13f599dbaba54314fe283233c5cd8a7c7b2e1e7f94790dd4cef1446", func := "musterfield/musttop.TopAlike", spec := "topAlike", inPlace := ["internal/abi.NoEscape"], unfollowed := true, recurses := true, plainKeys := false, apart := false }
def TopAlikeSaid : Prop := topAlikeRow.holds Tryz.pinned (OpenSpec.ofChange topAlikeSpec)

/-- ITS FALSE NEIGHBOUR: 'it returns false'. Refute it at one input. -/
def topAlikeWrong : ChangeSpec := { name := "topAlike", fn := fun _ => fun
  | [d1, d2, d3] => { results := [.lit (.bool false)], args := [d1, d2, d3] }
  | _ => none }
def TopAlikeWrongFalsely : Prop := topAlikeRow.holds Tryz.pinned (OpenSpec.ofChange topAlikeWrong)

/-- 'musttop.TopEnds': WHATEVER THE INPUT: true; the input reads as it did. -/
def topEndsSpec : ChangeSpec := { name := "topEnds", fn := fun _ => fun
  | [d1, d2, d3, d4] => { results := [.lit (.bool true)], args := [d1, d2, d3, d4] }
  | _ => none }
def topEndsRow : OpenClaim := { program := "ytmeeljmapailnaagreat", sum := "65d5766ad13f599dbaba54314fe283233c5cd8a7c7b2e1e7f94790dd4cef1446", func := "musterfield/musttop.TopEnds", spec := "topEnds", inPlace := ["internal/abi.NoEscape", "slices.overlaps[int]"], unfollowed := true, recurses := true, plainKeys := false, apart := false }
def TopEndsSaid : Prop := topEndsRow.holds Tryz.pinned (OpenSpec.ofChange topEndsSpec)

/-- ITS FALSE NEIGHBOUR: 'it returns false'. Refute it at one input. -/
def topEndsWrong : ChangeSpec := { name := "topEnds", fn := fun _ => fun
  | [d1, d2, d3, d4] => { results := [.lit (.bool false)], args := [d1, d2, d3, d4] }
  | _ => none }
def TopEndsWrongFalsely : Prop := topEndsRow.holds Tryz.pinned (OpenSpec.ofChange topEndsWrong)

/- THE SECOND FORM. 'bulk': how many values and letters a reading holds, each counted each time it is reached (what is shared counts as often as it is met; a slice's spare places count too). A statement '..UptoSaid' is the law's where the arguments, and the package variables that the reading takes, are together of bulk at most 1048576: NARROWER than '..Said'. Prove '..Said' where nothing that the law and all that it calls make is longer than what came in: it says more and counts as full. Else prove '..UptoSaid'. A law counts once. -/
mutual
def uptoBulk {H : Type} : DataW H → Nat
  | .lit (.string bytes) => bytes.length + 1
  | .lit _ => 1
  | .nil => 1
  | .ptr d => uptoBulk d + 1
  | .slice elems spare => uptoBulkAll elems + uptoBulkAll spare + 1
  | .agg parts => uptoBulkAll parts + 1
  | .iface _ d => uptoBulk d + 1
  | .map entries => uptoBulkEntries entries + 1
  | .held _ => 1
def uptoBulkAll {H : Type} : List (DataW H) → Nat
  | [] => 0
  | d :: r => uptoBulk d + uptoBulkAll r
def uptoBulkEntries {H : Type} : List (Lit × DataW H) → Nat
  | [] => 0
  | x :: r => uptoBulkEntry x + uptoBulkEntries r
def uptoBulkEntry {H : Type} : Lit × DataW H → Nat
  | (.string bytes, d) => bytes.length + uptoBulk d + 1
  | (_, d) => uptoBulk d + 1
 end
def uptoSmall : (H : Type) → List (DataW H) → Bool := fun _ ds => decide (uptoBulkAll ds ≤ 1048576)
def OpenSpec.upto (s : _root_.Go.ChangeSpec) : _root_.Go.OpenSpec := { _root_.Go.OpenSpec.ofChange s with cond := some uptoSmall }

/-- 'musttop.TopWorth', WHERE WHAT IT READS IS OF BULK AT MOST 1048576: true; the input reads as it did. -/
def topWorthUptoRow : OpenClaim := { program := "ytmeeljmapailnaagreat", sum := "65d5766ad13f599dbaba54314fe283233c5cd8a7c7b2e1e7f94790dd4cef1446", func := "musterfield/musttop.TopWorth", spec := "topWorth", inPlace := ["internal/abi.NoEscape"], unfollowed := true, recurses := true, plainKeys := false, apart := false, narrowed := true }
def TopWorthUptoSaid : Prop := topWorthUptoRow.holds Tryz.pinned (OpenSpec.upto topWorthSpec)

/-- 'musttop.TopAlike', WHERE WHAT IT READS IS OF BULK AT MOST 1048576: true; the input reads as it did. -/
def topAlikeUptoRow : OpenClaim := { program := "ytmeeljmapailnaagreat", sum := "65d5766ad13f599dbaba54314fe283233c5cd8a7c7b2e1e7f94790dd4cef1446", func := "musterfield/musttop.TopAlike", spec := "topAlike", inPlace := ["internal/abi.NoEscape"], unfollowed := true, recurses := true, plainKeys := false, apart := false, narrowed := true }
def TopAlikeUptoSaid : Prop := topAlikeUptoRow.holds Tryz.pinned (OpenSpec.upto topAlikeSpec)

/-- 'musttop.TopEnds', WHERE WHAT IT READS IS OF BULK AT MOST 1048576: true; the input reads as it did. -/
def topEndsUptoRow : OpenClaim := { program := "ytmeeljmapailnaagreat", sum := "65d5766ad13f599dbaba54314fe283233c5cd8a7c7b2e1e7f94790dd4cef1446", func := "musterfield/musttop.TopEnds", spec := "topEnds", inPlace := ["internal/abi.NoEscape", "slices.overlaps[int]"], unfollowed := true, recurses := true, plainKeys := false, apart := false, narrowed := true }
def TopEndsUptoSaid : Prop := topEndsUptoRow.holds Tryz.pinned (OpenSpec.upto topEndsSpec)

end Rows
end Go.Proofs.YtmeeljmapailnaaGreat
