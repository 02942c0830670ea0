/-
  No cell of these rows narrows 'for every input' (looked for: loops, veiled, ifaces, maps, wideKeys, modest, calm, conditions, laid).
  DERIVED. THE GIVEN ROWS OF THIS SEAT. 10 by the template 'for every input the law returns true; each argument reads behind the call as it read before'; 0 by the template 'total and deterministic' (their statements: YtlikikpgmmkjbaaGreatTotals.lean).
  GIVEN WITH THE SEED: the statements are not yours to turn. If you find one false, say at which input.
  Laid BY PROGRAM, IN A SANDBOX (cutbox-rows.mjs): the forced cells as the released guide's own fill.sh prints them over the translation 2a6ba562dfcdcfd8… (all of the seat's roots in one cut). By AI agents, Wed Nov 11 2026. No macro, syntax, notation, axiom, sorry.
-/
import Derived.Test.YtlikikpgmmkjbaaGreatChecked
import GoSem.Claim
import GoSem.ClaimJoined
import GoSem.ClaimMapViews
import Derived.JoinedTies
import Derived.KernelRfl
namespace Go.Proofs.YtlikikpgmmkjbaaGreat
/- THE CELL 'sum', in the pinned program and in every row, IS THE sha256 OF THE DUMP (.gsa) THAT YtlikikpgmmkjbaaGreatProg.lean LOADS. Nothing in Lean hashes anything: it is a label: what it is worth is what the hold of that sum in a sandbox is worth. -/
noncomputable def Tryz.pinned : Pinned := { name := "ytlikikpgmmkjbaagreat", sum := "2a6ba562dfcdcfd8a6132103a8768d10efb8327289a5413fdf942deaf8dc360e", checked := Tryz.checked }
namespace Rows
def none {H : Type} : Left H := { results := [], args := [] }

/-- 'mustkeep.StoryOn': WHATEVER THE INPUT: true; the input reads as it did. -/
def storyOnSpec : ChangeSpec := { name := "storyOn", fn := fun _ => fun
  | [d1, d2, d3] => { results := [.lit (.bool true)], args := [d1, d2, d3] }
  | _ => none }
def storyOnRow : OpenClaim := { program := "ytlikikpgmmkjbaagreat", sum := "2a6ba562dfcdcfd8a6132103a8768d10efb8327289a5413fdf942deaf8dc360e", func := "musterfield/mustkeep.StoryOn", spec := "storyOn", inPlace := ["internal/abi.NoEscape"], unfollowed := true, recurses := true, plainKeys := false, apart := false }
def StoryOnSaid : Prop := storyOnRow.holds Tryz.pinned (OpenSpec.ofChange storyOnSpec)

/-- ITS FALSE NEIGHBOUR: 'it returns false'. Refute it at one input. -/
def storyOnWrong : ChangeSpec := { name := "storyOn", fn := fun _ => fun
  | [d1, d2, d3] => { results := [.lit (.bool false)], args := [d1, d2, d3] }
  | _ => none }
def StoryOnWrongFalsely : Prop := storyOnRow.holds Tryz.pinned (OpenSpec.ofChange storyOnWrong)

/-- 'mustkeep.StoryProves': WHATEVER THE INPUT: true; the input reads as it did. -/
def storyProvesSpec : ChangeSpec := { name := "storyProves", fn := fun _ => fun
  | [d1, d2, d3] => { results := [.lit (.bool true)], args := [d1, d2, d3] }
  | _ => none }
def storyProvesRow : OpenClaim := { program := "ytlikikpgmmkjbaagreat", sum := "2a6ba562dfcdcfd8a6132103a8768d10efb8327289a5413fdf942deaf8dc360e", func := "musterfield/mustkeep.StoryProves", spec := "storyProves", inPlace := ["internal/abi.NoEscape"], unfollowed := true, recurses := true, plainKeys := false, apart := false }
def StoryProvesSaid : Prop := storyProvesRow.holds Tryz.pinned (OpenSpec.ofChange storyProvesSpec)

/-- ITS FALSE NEIGHBOUR: 'it returns false'. Refute it at one input. -/
def storyProvesWrong : ChangeSpec := { name := "storyProves", fn := fun _ => fun
  | [d1, d2, d3] => { results := [.lit (.bool false)], args := [d1, d2, d3] }
  | _ => none }
def StoryProvesWrongFalsely : Prop := storyProvesRow.holds Tryz.pinned (OpenSpec.ofChange storyProvesWrong)

/-- 'mustkeep.StoryMarks': WHATEVER THE INPUT: true; the input reads as it did. -/
def storyMarksSpec : ChangeSpec := { name := "storyMarks", fn := fun _ => fun
  | [d1, d2, d3, d4] => { results := [.lit (.bool true)], args := [d1, d2, d3, d4] }
  | _ => none }
def storyMarksRow : OpenClaim := { program := "ytlikikpgmmkjbaagreat", sum := "2a6ba562dfcdcfd8a6132103a8768d10efb8327289a5413fdf942deaf8dc360e", func := "musterfield/mustkeep.StoryMarks", spec := "storyMarks", inPlace := ["internal/abi.NoEscape"], unfollowed := true, recurses := true, plainKeys := false, apart := false }
def StoryMarksSaid : Prop := storyMarksRow.holds Tryz.pinned (OpenSpec.ofChange storyMarksSpec)

/-- ITS FALSE NEIGHBOUR: 'it returns false'. Refute it at one input. -/
def storyMarksWrong : ChangeSpec := { name := "storyMarks", fn := fun _ => fun
  | [d1, d2, d3, d4] => { results := [.lit (.bool false)], args := [d1, d2, d3, d4] }
  | _ => none }
def StoryMarksWrongFalsely : Prop := storyMarksRow.holds Tryz.pinned (OpenSpec.ofChange storyMarksWrong)

/-- 'mustkeep.StoryMore': WHATEVER THE INPUT: true; the input reads as it did. -/
def storyMoreSpec : ChangeSpec := { name := "storyMore", fn := fun _ => fun
  | [d1, d2] => { results := [.lit (.bool true)], args := [d1, d2] }
  | _ => none }
def storyMoreRow : OpenClaim := { program := "ytlikikpgmmkjbaagreat", sum := "2a6ba562dfcdcfd8a6132103a8768d10efb8327289a5413fdf942deaf8dc360e", func := "musterfield/mustkeep.StoryMore", spec := "storyMore", inPlace := ["internal/abi.NoEscape"], unfollowed := true, recurses := true, plainKeys := false, apart := false }
def StoryMoreSaid : Prop := storyMoreRow.holds Tryz.pinned (OpenSpec.ofChange storyMoreSpec)

/-- ITS FALSE NEIGHBOUR: 'it returns false'. Refute it at one input. -/
def storyMoreWrong : ChangeSpec := { name := "storyMore", fn := fun _ => fun
  | [d1, d2] => { results := [.lit (.bool false)], args := [d1, d2] }
  | _ => none }
def StoryMoreWrongFalsely : Prop := storyMoreRow.holds Tryz.pinned (OpenSpec.ofChange storyMoreWrong)

/-- 'mustkeep.StoryOwn': WHATEVER THE INPUT: true; the input reads as it did. -/
def storyOwnSpec : ChangeSpec := { name := "storyOwn", fn := fun _ => fun
  | [d1, d2] => { results := [.lit (.bool true)], args := [d1, d2] }
  | _ => none }
def storyOwnRow : OpenClaim := { program := "ytlikikpgmmkjbaagreat", sum := "2a6ba562dfcdcfd8a6132103a8768d10efb8327289a5413fdf942deaf8dc360e", func := "musterfield/mustkeep.StoryOwn", spec := "storyOwn", inPlace := ["internal/abi.NoEscape"], unfollowed := true, recurses := true, plainKeys := false, apart := false }
def StoryOwnSaid : Prop := storyOwnRow.holds Tryz.pinned (OpenSpec.ofChange storyOwnSpec)

/-- ITS FALSE NEIGHBOUR: 'it returns false'. Refute it at one input. -/
def storyOwnWrong : ChangeSpec := { name := "storyOwn", fn := fun _ => fun
  | [d1, d2] => { results := [.lit (.bool false)], args := [d1, d2] }
  | _ => none }
def StoryOwnWrongFalsely : Prop := storyOwnRow.holds Tryz.pinned (OpenSpec.ofChange storyOwnWrong)

/-- 'mustkeep.HostTorn': WHATEVER THE INPUT: true; the input reads as it did. -/
def hostTornSpec : ChangeSpec := { name := "hostTorn", fn := fun _ => fun
  | [d1, d2, d3, d4, d5] => { results := [.lit (.bool true)], args := [d1, d2, d3, d4, d5] }
  | _ => none }
def hostTornRow : OpenClaim := { program := "ytlikikpgmmkjbaagreat", sum := "2a6ba562dfcdcfd8a6132103a8768d10efb8327289a5413fdf942deaf8dc360e", func := "musterfield/mustkeep.HostTorn", spec := "hostTorn", inPlace := ["internal/abi.NoEscape"], unfollowed := true, recurses := true, plainKeys := false, apart := false }
def HostTornSaid : Prop := hostTornRow.holds Tryz.pinned (OpenSpec.ofChange hostTornSpec)

/-- ITS FALSE NEIGHBOUR: 'it returns false'. Refute it at one input. -/
def hostTornWrong : ChangeSpec := { name := "hostTorn", fn := fun _ => fun
  | [d1, d2, d3, d4, d5] => { results := [.lit (.bool false)], args := [d1, d2, d3, d4, d5] }
  | _ => none }
def HostTornWrongFalsely : Prop := hostTornRow.holds Tryz.pinned (OpenSpec.ofChange hostTornWrong)

/-- 'mustkeep.HostOwn': WHATEVER THE INPUT: true; the input reads as it did. -/
def hostOwnSpec : ChangeSpec := { name := "hostOwn", fn := fun _ => fun
  | [d1, d2] => { results := [.lit (.bool true)], args := [d1, d2] }
  | _ => none }
def hostOwnRow : OpenClaim := { program := "ytlikikpgmmkjbaagreat", sum := "2a6ba562dfcdcfd8a6132103a8768d10efb8327289a5413fdf942deaf8dc360e", func := "musterfield/mustkeep.HostOwn", spec := "hostOwn", inPlace := ["internal/abi.NoEscape"], unfollowed := true, recurses := true, plainKeys := false, apart := false }
def HostOwnSaid : Prop := hostOwnRow.holds Tryz.pinned (OpenSpec.ofChange hostOwnSpec)

/-- ITS FALSE NEIGHBOUR: 'it returns false'. Refute it at one input. -/
def hostOwnWrong : ChangeSpec := { name := "hostOwn", fn := fun _ => fun
  | [d1, d2] => { results := [.lit (.bool false)], args := [d1, d2] }
  | _ => none }
def HostOwnWrongFalsely : Prop := hostOwnRow.holds Tryz.pinned (OpenSpec.ofChange hostOwnWrong)

/-- 'mustkeep.HostSame': WHATEVER THE INPUT: true; the input reads as it did. -/
def hostSameSpec : ChangeSpec := { name := "hostSame", fn := fun _ => fun
  | [d1, d2, d3, d4] => { results := [.lit (.bool true)], args := [d1, d2, d3, d4] }
  | _ => none }
def hostSameRow : OpenClaim := { program := "ytlikikpgmmkjbaagreat", sum := "2a6ba562dfcdcfd8a6132103a8768d10efb8327289a5413fdf942deaf8dc360e", func := "musterfield/mustkeep.HostSame", spec := "hostSame", inPlace := ["internal/abi.NoEscape"], unfollowed := true, recurses := true, plainKeys := false, apart := false }
def HostSameSaid : Prop := hostSameRow.holds Tryz.pinned (OpenSpec.ofChange hostSameSpec)

/-- ITS FALSE NEIGHBOUR: 'it returns false'. Refute it at one input. -/
def hostSameWrong : ChangeSpec := { name := "hostSame", fn := fun _ => fun
  | [d1, d2, d3, d4] => { results := [.lit (.bool false)], args := [d1, d2, d3, d4] }
  | _ => none }
def HostSameWrongFalsely : Prop := hostSameRow.holds Tryz.pinned (OpenSpec.ofChange hostSameWrong)

/-- 'mustkeep.HostRight': WHATEVER THE INPUT: true; the input reads as it did. -/
def hostRightSpec : ChangeSpec := { name := "hostRight", fn := fun _ => fun
  | [d1, d2] => { results := [.lit (.bool true)], args := [d1, d2] }
  | _ => none }
def hostRightRow : OpenClaim := { program := "ytlikikpgmmkjbaagreat", sum := "2a6ba562dfcdcfd8a6132103a8768d10efb8327289a5413fdf942deaf8dc360e", func := "musterfield/mustkeep.HostRight", spec := "hostRight", inPlace := ["internal/abi.NoEscape"], unfollowed := true, recurses := true, plainKeys := false, apart := false }
def HostRightSaid : Prop := hostRightRow.holds Tryz.pinned (OpenSpec.ofChange hostRightSpec)

/-- ITS FALSE NEIGHBOUR: 'it returns false'. Refute it at one input. -/
def hostRightWrong : ChangeSpec := { name := "hostRight", fn := fun _ => fun
  | [d1, d2] => { results := [.lit (.bool false)], args := [d1, d2] }
  | _ => none }
def HostRightWrongFalsely : Prop := hostRightRow.holds Tryz.pinned (OpenSpec.ofChange hostRightWrong)

/-- 'mustkeep.HostOnce': WHATEVER THE INPUT: true; the input reads as it did. -/
def hostOnceSpec : ChangeSpec := { name := "hostOnce", fn := fun _ => fun
  | [d1, d2, d3] => { results := [.lit (.bool true)], args := [d1, d2, d3] }
  | _ => none }
def hostOnceRow : OpenClaim := { program := "ytlikikpgmmkjbaagreat", sum := "2a6ba562dfcdcfd8a6132103a8768d10efb8327289a5413fdf942deaf8dc360e", func := "musterfield/mustkeep.HostOnce", spec := "hostOnce", inPlace := ["internal/abi.NoEscape"], unfollowed := true, recurses := true, plainKeys := false, apart := false }
def HostOnceSaid : Prop := hostOnceRow.holds Tryz.pinned (OpenSpec.ofChange hostOnceSpec)

/-- ITS FALSE NEIGHBOUR: 'it returns false'. Refute it at one input. -/
def hostOnceWrong : ChangeSpec := { name := "hostOnce", fn := fun _ => fun
  | [d1, d2, d3] => { results := [.lit (.bool false)], args := [d1, d2, d3] }
  | _ => none }
def HostOnceWrongFalsely : Prop := hostOnceRow.holds Tryz.pinned (OpenSpec.ofChange hostOnceWrong)

/- THE SECOND FORM. 'bulk': how many values and letters a reading holds, each counted each time it is reached (what is shared counts as often as it is met; a slice's spare places count too). A statement '..UptoSaid' is the law's where the arguments, and the package variables that the reading takes, are together of bulk at most 1048576: NARROWER than '..Said'. Prove '..Said' where nothing that the law and all that it calls make is longer than what came in: it says more and counts as full. Else prove '..UptoSaid'. A law counts once. -/
mutual
def uptoBulk {H : Type} : DataW H → Nat
  | .lit (.string bytes) => bytes.length + 1
  | .lit _ => 1
  | .nil => 1
  | .ptr d => uptoBulk d + 1
  | .slice elems spare => uptoBulkAll elems + uptoBulkAll spare + 1
  | .agg parts => uptoBulkAll parts + 1
  | .iface _ d => uptoBulk d + 1
  | .map entries => uptoBulkEntries entries + 1
  | .held _ => 1
def uptoBulkAll {H : Type} : List (DataW H) → Nat
  | [] => 0
  | d :: r => uptoBulk d + uptoBulkAll r
def uptoBulkEntries {H : Type} : List (Lit × DataW H) → Nat
  | [] => 0
  | x :: r => uptoBulkEntry x + uptoBulkEntries r
def uptoBulkEntry {H : Type} : Lit × DataW H → Nat
  | (.string bytes, d) => bytes.length + uptoBulk d + 1
  | (_, d) => uptoBulk d + 1
 end
def uptoSmall : (H : Type) → List (DataW H) → Bool := fun _ ds => decide (uptoBulkAll ds ≤ 1048576)
def OpenSpec.upto (s : _root_.Go.ChangeSpec) : _root_.Go.OpenSpec := { _root_.Go.OpenSpec.ofChange s with cond := some uptoSmall }

/-- 'mustkeep.StoryOn', WHERE WHAT IT READS IS OF BULK AT MOST 1048576: true; the input reads as it did. -/
def storyOnUptoRow : OpenClaim := { program := "ytlikikpgmmkjbaagreat", sum := "2a6ba562dfcdcfd8a6132103a8768d10efb8327289a5413fdf942deaf8dc360e", func := "musterfield/mustkeep.StoryOn", spec := "storyOn", inPlace := ["internal/abi.NoEscape"], unfollowed := true, recurses := true, plainKeys := false, apart := false, narrowed := true }
def StoryOnUptoSaid : Prop := storyOnUptoRow.holds Tryz.pinned (OpenSpec.upto storyOnSpec)

/-- 'mustkeep.StoryProves', WHERE WHAT IT READS IS OF BULK AT MOST 1048576: true; the input reads as it did. -/
def storyProvesUptoRow : OpenClaim := { program := "ytlikikpgmmkjbaagreat", sum := "2a6ba562dfcdcfd8a6132103a8768d10efb8327289a5413fdf942deaf8dc360e", func := "musterfield/mustkeep.StoryProves", spec := "storyProves", inPlace := ["internal/abi.NoEscape"], unfollowed := true, recurses := true, plainKeys := false, apart := false, narrowed := true }
def StoryProvesUptoSaid : Prop := storyProvesUptoRow.holds Tryz.pinned (OpenSpec.upto storyProvesSpec)

/-- 'mustkeep.StoryMarks', WHERE WHAT IT READS IS OF BULK AT MOST 1048576: true; the input reads as it did. -/
def storyMarksUptoRow : OpenClaim := { program := "ytlikikpgmmkjbaagreat", sum := "2a6ba562dfcdcfd8a6132103a8768d10efb8327289a5413fdf942deaf8dc360e", func := "musterfield/mustkeep.StoryMarks", spec := "storyMarks", inPlace := ["internal/abi.NoEscape"], unfollowed := true, recurses := true, plainKeys := false, apart := false, narrowed := true }
def StoryMarksUptoSaid : Prop := storyMarksUptoRow.holds Tryz.pinned (OpenSpec.upto storyMarksSpec)

/-- 'mustkeep.StoryMore', WHERE WHAT IT READS IS OF BULK AT MOST 1048576: true; the input reads as it did. -/
def storyMoreUptoRow : OpenClaim := { program := "ytlikikpgmmkjbaagreat", sum := "2a6ba562dfcdcfd8a6132103a8768d10efb8327289a5413fdf942deaf8dc360e", func := "musterfield/mustkeep.StoryMore", spec := "storyMore", inPlace := ["internal/abi.NoEscape"], unfollowed := true, recurses := true, plainKeys := false, apart := false, narrowed := true }
def StoryMoreUptoSaid : Prop := storyMoreUptoRow.holds Tryz.pinned (OpenSpec.upto storyMoreSpec)

/-- 'mustkeep.StoryOwn', WHERE WHAT IT READS IS OF BULK AT MOST 1048576: true; the input reads as it did. -/
def storyOwnUptoRow : OpenClaim := { program := "ytlikikpgmmkjbaagreat", sum := "2a6ba562dfcdcfd8a6132103a8768d10efb8327289a5413fdf942deaf8dc360e", func := "musterfield/mustkeep.StoryOwn", spec := "storyOwn", inPlace := ["internal/abi.NoEscape"], unfollowed := true, recurses := true, plainKeys := false, apart := false, narrowed := true }
def StoryOwnUptoSaid : Prop := storyOwnUptoRow.holds Tryz.pinned (OpenSpec.upto storyOwnSpec)

/-- 'mustkeep.HostTorn', WHERE WHAT IT READS IS OF BULK AT MOST 1048576: true; the input reads as it did. -/
def hostTornUptoRow : OpenClaim := { program := "ytlikikpgmmkjbaagreat", sum := "2a6ba562dfcdcfd8a6132103a8768d10efb8327289a5413fdf942deaf8dc360e", func := "musterfield/mustkeep.HostTorn", spec := "hostTorn", inPlace := ["internal/abi.NoEscape"], unfollowed := true, recurses := true, plainKeys := false, apart := false, narrowed := true }
def HostTornUptoSaid : Prop := hostTornUptoRow.holds Tryz.pinned (OpenSpec.upto hostTornSpec)

/-- 'mustkeep.HostOwn', WHERE WHAT IT READS IS OF BULK AT MOST 1048576: true; the input reads as it did. -/
def hostOwnUptoRow : OpenClaim := { program := "ytlikikpgmmkjbaagreat", sum := "2a6ba562dfcdcfd8a6132103a8768d10efb8327289a5413fdf942deaf8dc360e", func := "musterfield/mustkeep.HostOwn", spec := "hostOwn", inPlace := ["internal/abi.NoEscape"], unfollowed := true, recurses := true, plainKeys := false, apart := false, narrowed := true }
def HostOwnUptoSaid : Prop := hostOwnUptoRow.holds Tryz.pinned (OpenSpec.upto hostOwnSpec)

/-- 'mustkeep.HostSame', WHERE WHAT IT READS IS OF BULK AT MOST 1048576: true; the input reads as it did. -/
def hostSameUptoRow : OpenClaim := { program := "ytlikikpgmmkjbaagreat", sum := "2a6ba562dfcdcfd8a6132103a8768d10efb8327289a5413fdf942deaf8dc360e", func := "musterfield/mustkeep.HostSame", spec := "hostSame", inPlace := ["internal/abi.NoEscape"], unfollowed := true, recurses := true, plainKeys := false, apart := false, narrowed := true }
def HostSameUptoSaid : Prop := hostSameUptoRow.holds Tryz.pinned (OpenSpec.upto hostSameSpec)

/-- 'mustkeep.HostRight', WHERE WHAT IT READS IS OF BULK AT MOST 1048576: true; the input reads as it did. -/
def hostRightUptoRow : OpenClaim := { program := "ytlikikpgmmkjbaagreat", sum := "2a6ba562dfcdcfd8a6132103a8768d10efb8327289a5413fdf942deaf8dc360e", func := "musterfield/mustkeep.HostRight", spec := "hostRight", inPlace := ["internal/abi.NoEscape"], unfollowed := true, recurses := true, plainKeys := false, apart := false, narrowed := true }
def HostRightUptoSaid : Prop := hostRightUptoRow.holds Tryz.pinned (OpenSpec.upto hostRightSpec)

/-- 'mustkeep.HostOnce', WHERE WHAT IT READS IS OF BULK AT MOST 1048576: true; the input reads as it did. -/
def hostOnceUptoRow : OpenClaim := { program := "ytlikikpgmmkjbaagreat", sum := "2a6ba562dfcdcfd8a6132103a8768d10efb8327289a5413fdf942deaf8dc360e", func := "musterfield/mustkeep.HostOnce", spec := "hostOnce", inPlace := ["internal/abi.NoEscape"], unfollowed := true, recurses := true, plainKeys := false, apart := false, narrowed := true }
def HostOnceUptoSaid : Prop := hostOnceUptoRow.holds Tryz.pinned (OpenSpec.upto hostOnceSpec)

end Rows
end Go.Proofs.YtlikikpgmmkjbaaGreat
