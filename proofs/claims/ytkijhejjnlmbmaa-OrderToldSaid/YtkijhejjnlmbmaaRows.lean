/-
  No cell of these rows narrows 'for every input' (looked for: loops, veiled, ifaces, maps, wideKeys, modest, calm, conditions, laid).
  DERIVED. THE GIVEN ROWS OF THIS SEAT. 12 by the template 'for every input the law returns true; each argument reads behind the call as it read before'; 0 by the template 'total and deterministic' (their statements: YtkijhejjnlmbmaaTotals.lean).
  GIVEN WITH THE SEED: the statements are not yours to turn. If you find one false, say at which input.
  Laid BY PROGRAM, IN A SANDBOX (cutbox-rows.mjs): the forced cells as the released guide's own fill.sh prints them over the translation e13be66d76866259… (all of the seat's roots in one cut). By AI agents, Wed Nov 11 2026. No macro, syntax, notation, axiom, sorry.
-/
import Derived.Test.YtkijhejjnlmbmaaChecked
import GoSem.Claim
import GoSem.ClaimJoined
import GoSem.ClaimMapViews
import Derived.JoinedTies
import Derived.KernelRfl
namespace Go.Proofs.Ytkijhejjnlmbmaa
/- THE CELL 'sum', in the pinned program and in every row, IS THE sha256 OF THE DUMP (.gsa) THAT YtkijhejjnlmbmaaProg.lean LOADS. Nothing in Lean hashes anything: it is a label: what it is worth is what the hold of that sum in a sandbox is worth. -/
noncomputable def Try.pinned : Pinned := { name := "ytkijhejjnlmbmaa", sum := "e13be66d76866259de959816ac6e49680956f5ca796995b26feb3dc6f06c9094", checked := Try.checked }
namespace Rows
def none {H : Type} : Left H := { results := [], args := [] }

/-- 'mustkeep.FieldBack': WHATEVER THE INPUT: true; the input reads as it did. -/
def fieldBackSpec : ChangeSpec := { name := "fieldBack", fn := fun _ => fun
  | [d1, d2] => { results := [.lit (.bool true)], args := [d1, d2] }
  | _ => none }
def fieldBackRow : OpenClaim := { program := "ytkijhejjnlmbmaa", sum := "e13be66d76866259de959816ac6e49680956f5ca796995b26feb3dc6f06c9094", func := "musterfield/mustkeep.FieldBack", spec := "fieldBack", inPlace := ["internal/bytealg.IndexByteString", "internal/bytealg.CountString", "internal/bytealg.IndexString"], unfollowed := true, recurses := true, named := ["internal/bytealg.MaxLen"], plainKeys := false, apart := false }
def FieldBackSaid : Prop := fieldBackRow.holds Try.pinned (OpenSpec.ofChange fieldBackSpec)

/-- ITS FALSE NEIGHBOUR: 'it returns false'. Refute it at one input. -/
def fieldBackWrong : ChangeSpec := { name := "fieldBack", fn := fun _ => fun
  | [d1, d2] => { results := [.lit (.bool false)], args := [d1, d2] }
  | _ => none }
def FieldBackWrongFalsely : Prop := fieldBackRow.holds Try.pinned (OpenSpec.ofChange fieldBackWrong)

/-- 'mustkeep.FieldOwn': WHATEVER THE INPUT: true; the input reads as it did. -/
def fieldOwnSpec : ChangeSpec := { name := "fieldOwn", fn := fun _ => fun
  | [d] => { results := [.lit (.bool true)], args := [d] }
  | _ => none }
def fieldOwnRow : OpenClaim := { program := "ytkijhejjnlmbmaa", sum := "e13be66d76866259de959816ac6e49680956f5ca796995b26feb3dc6f06c9094", func := "musterfield/mustkeep.FieldOwn", spec := "fieldOwn", inPlace := ["internal/bytealg.IndexByteString", "internal/bytealg.CountString", "internal/bytealg.IndexString"], unfollowed := true, recurses := true, named := ["internal/bytealg.MaxLen"], plainKeys := false, apart := false }
def FieldOwnSaid : Prop := fieldOwnRow.holds Try.pinned (OpenSpec.ofChange fieldOwnSpec)

/-- ITS FALSE NEIGHBOUR: 'it returns false'. Refute it at one input. -/
def fieldOwnWrong : ChangeSpec := { name := "fieldOwn", fn := fun _ => fun
  | [d] => { results := [.lit (.bool false)], args := [d] }
  | _ => none }
def FieldOwnWrongFalsely : Prop := fieldOwnRow.holds Try.pinned (OpenSpec.ofChange fieldOwnWrong)

/-- 'mustkeep.FieldTurns': WHATEVER THE INPUT: true; the input reads as it did. -/
def fieldTurnsSpec : ChangeSpec := { name := "fieldTurns", fn := fun _ => fun
  | [d] => { results := [.lit (.bool true)], args := [d] }
  | _ => none }
def fieldTurnsRow : OpenClaim := { program := "ytkijhejjnlmbmaa", sum := "e13be66d76866259de959816ac6e49680956f5ca796995b26feb3dc6f06c9094", func := "musterfield/mustkeep.FieldTurns", spec := "fieldTurns", inPlace := ["internal/bytealg.IndexByteString", "internal/bytealg.CountString", "internal/bytealg.IndexString"], unfollowed := true, recurses := true, named := ["internal/bytealg.MaxLen"], plainKeys := false, apart := false }
def FieldTurnsSaid : Prop := fieldTurnsRow.holds Try.pinned (OpenSpec.ofChange fieldTurnsSpec)

/-- ITS FALSE NEIGHBOUR: 'it returns false'. Refute it at one input. -/
def fieldTurnsWrong : ChangeSpec := { name := "fieldTurns", fn := fun _ => fun
  | [d] => { results := [.lit (.bool false)], args := [d] }
  | _ => none }
def FieldTurnsWrongFalsely : Prop := fieldTurnsRow.holds Try.pinned (OpenSpec.ofChange fieldTurnsWrong)

/-- 'mustkeep.MistRight': WHATEVER THE INPUT: true; the input reads as it did. -/
def mistRightSpec : ChangeSpec := { name := "mistRight", fn := fun _ => fun
  | [d1, d2] => { results := [.lit (.bool true)], args := [d1, d2] }
  | _ => none }
def mistRightRow : OpenClaim := { program := "ytkijhejjnlmbmaa", sum := "e13be66d76866259de959816ac6e49680956f5ca796995b26feb3dc6f06c9094", func := "musterfield/mustkeep.MistRight", spec := "mistRight", unfollowed := true, recurses := true, plainKeys := false, apart := false }
def MistRightSaid : Prop := mistRightRow.holds Try.pinned (OpenSpec.ofChange mistRightSpec)

/-- ITS FALSE NEIGHBOUR: 'it returns false'. Refute it at one input. -/
def mistRightWrong : ChangeSpec := { name := "mistRight", fn := fun _ => fun
  | [d1, d2] => { results := [.lit (.bool false)], args := [d1, d2] }
  | _ => none }
def MistRightWrongFalsely : Prop := mistRightRow.holds Try.pinned (OpenSpec.ofChange mistRightWrong)

/-- 'mustkeep.MistOnce': WHATEVER THE INPUT: true; the input reads as it did. -/
def mistOnceSpec : ChangeSpec := { name := "mistOnce", fn := fun _ => fun
  | [d1, d2] => { results := [.lit (.bool true)], args := [d1, d2] }
  | _ => none }
def mistOnceRow : OpenClaim := { program := "ytkijhejjnlmbmaa", sum := "e13be66d76866259de959816ac6e49680956f5ca796995b26feb3dc6f06c9094", func := "musterfield/mustkeep.MistOnce", spec := "mistOnce", unfollowed := true, recurses := true, plainKeys := false, apart := false }
def MistOnceSaid : Prop := mistOnceRow.holds Try.pinned (OpenSpec.ofChange mistOnceSpec)

/-- ITS FALSE NEIGHBOUR: 'it returns false'. Refute it at one input. -/
def mistOnceWrong : ChangeSpec := { name := "mistOnce", fn := fun _ => fun
  | [d1, d2] => { results := [.lit (.bool false)], args := [d1, d2] }
  | _ => none }
def MistOnceWrongFalsely : Prop := mistOnceRow.holds Try.pinned (OpenSpec.ofChange mistOnceWrong)

/-- 'mustkeep.MistOwn': WHATEVER THE INPUT: true; the input reads as it did. -/
def mistOwnSpec : ChangeSpec := { name := "mistOwn", fn := fun _ => fun
  | [d1, d2] => { results := [.lit (.bool true)], args := [d1, d2] }
  | _ => none }
def mistOwnRow : OpenClaim := { program := "ytkijhejjnlmbmaa", sum := "e13be66d76866259de959816ac6e49680956f5ca796995b26feb3dc6f06c9094", func := "musterfield/mustkeep.MistOwn", spec := "mistOwn", unfollowed := true, recurses := true, plainKeys := false, apart := false }
def MistOwnSaid : Prop := mistOwnRow.holds Try.pinned (OpenSpec.ofChange mistOwnSpec)

/-- ITS FALSE NEIGHBOUR: 'it returns false'. Refute it at one input. -/
def mistOwnWrong : ChangeSpec := { name := "mistOwn", fn := fun _ => fun
  | [d1, d2] => { results := [.lit (.bool false)], args := [d1, d2] }
  | _ => none }
def MistOwnWrongFalsely : Prop := mistOwnRow.holds Try.pinned (OpenSpec.ofChange mistOwnWrong)

/-- 'mustkeep.MistHides': WHATEVER THE INPUT: true; the input reads as it did. -/
def mistHidesSpec : ChangeSpec := { name := "mistHides", fn := fun _ => fun
  | [d1, d2, d3, d4] => { results := [.lit (.bool true)], args := [d1, d2, d3, d4] }
  | _ => none }
def mistHidesRow : OpenClaim := { program := "ytkijhejjnlmbmaa", sum := "e13be66d76866259de959816ac6e49680956f5ca796995b26feb3dc6f06c9094", func := "musterfield/mustkeep.MistHides", spec := "mistHides", unfollowed := true, recurses := true, plainKeys := false, apart := false }
def MistHidesSaid : Prop := mistHidesRow.holds Try.pinned (OpenSpec.ofChange mistHidesSpec)

/-- ITS FALSE NEIGHBOUR: 'it returns false'. Refute it at one input. -/
def mistHidesWrong : ChangeSpec := { name := "mistHides", fn := fun _ => fun
  | [d1, d2, d3, d4] => { results := [.lit (.bool false)], args := [d1, d2, d3, d4] }
  | _ => none }
def MistHidesWrongFalsely : Prop := mistHidesRow.holds Try.pinned (OpenSpec.ofChange mistHidesWrong)

/-- 'mustkeep.TroopMark': WHATEVER THE INPUT: true; the input reads as it did. -/
def troopMarkSpec : ChangeSpec := { name := "troopMark", fn := fun _ => fun
  | [d1, d2] => { results := [.lit (.bool true)], args := [d1, d2] }
  | _ => none }
def troopMarkRow : OpenClaim := { program := "ytkijhejjnlmbmaa", sum := "e13be66d76866259de959816ac6e49680956f5ca796995b26feb3dc6f06c9094", func := "musterfield/mustkeep.TroopMark", spec := "troopMark", inPlace := ["internal/abi.NoEscape"], unfollowed := true, recurses := true, plainKeys := false, apart := false }
def TroopMarkSaid : Prop := troopMarkRow.holds Try.pinned (OpenSpec.ofChange troopMarkSpec)

/-- ITS FALSE NEIGHBOUR: 'it returns false'. Refute it at one input. -/
def troopMarkWrong : ChangeSpec := { name := "troopMark", fn := fun _ => fun
  | [d1, d2] => { results := [.lit (.bool false)], args := [d1, d2] }
  | _ => none }
def TroopMarkWrongFalsely : Prop := troopMarkRow.holds Try.pinned (OpenSpec.ofChange troopMarkWrong)

/-- 'mustkeep.MarkAny': WHATEVER THE INPUT: true; the input reads as it did. -/
def markAnySpec : ChangeSpec := { name := "markAny", fn := fun _ => fun
  | [d1, d2, d3] => { results := [.lit (.bool true)], args := [d1, d2, d3] }
  | _ => none }
def markAnyRow : OpenClaim := { program := "ytkijhejjnlmbmaa", sum := "e13be66d76866259de959816ac6e49680956f5ca796995b26feb3dc6f06c9094", func := "musterfield/mustkeep.MarkAny", spec := "markAny", recurses := true, plainKeys := false, apart := false }
def MarkAnySaid : Prop := markAnyRow.holds Try.pinned (OpenSpec.ofChange markAnySpec)

/-- ITS FALSE NEIGHBOUR: 'it returns false'. Refute it at one input. -/
def markAnyWrong : ChangeSpec := { name := "markAny", fn := fun _ => fun
  | [d1, d2, d3] => { results := [.lit (.bool false)], args := [d1, d2, d3] }
  | _ => none }
def MarkAnyWrongFalsely : Prop := markAnyRow.holds Try.pinned (OpenSpec.ofChange markAnyWrong)

/-- 'mustkeep.LuckDeals': WHATEVER THE INPUT: true; the input reads as it did. -/
def luckDealsSpec : ChangeSpec := { name := "luckDeals", fn := fun _ => fun
  | [d1, d2] => { results := [.lit (.bool true)], args := [d1, d2] }
  | _ => none }
def luckDealsRow : OpenClaim := { program := "ytkijhejjnlmbmaa", sum := "e13be66d76866259de959816ac6e49680956f5ca796995b26feb3dc6f06c9094", func := "musterfield/mustkeep.LuckDeals", spec := "luckDeals", recurses := true, plainKeys := false, apart := false }
def LuckDealsSaid : Prop := luckDealsRow.holds Try.pinned (OpenSpec.ofChange luckDealsSpec)

/-- ITS FALSE NEIGHBOUR: 'it returns false'. Refute it at one input. -/
def luckDealsWrong : ChangeSpec := { name := "luckDeals", fn := fun _ => fun
  | [d1, d2] => { results := [.lit (.bool false)], args := [d1, d2] }
  | _ => none }
def LuckDealsWrongFalsely : Prop := luckDealsRow.holds Try.pinned (OpenSpec.ofChange luckDealsWrong)

/-- 'mustkeep.OrderBack': WHATEVER THE INPUT: true; the input reads as it did. -/
def orderBackSpec : ChangeSpec := { name := "orderBack", fn := fun _ => fun
  | [d1, d2] => { results := [.lit (.bool true)], args := [d1, d2] }
  | _ => none }
def orderBackRow : OpenClaim := { program := "ytkijhejjnlmbmaa", sum := "e13be66d76866259de959816ac6e49680956f5ca796995b26feb3dc6f06c9094", func := "musterfield/mustkeep.OrderBack", spec := "orderBack", inPlace := ["internal/abi.NoEscape"], unfollowed := true, recurses := true, plainKeys := false, apart := false }
def OrderBackSaid : Prop := orderBackRow.holds Try.pinned (OpenSpec.ofChange orderBackSpec)

/-- ITS FALSE NEIGHBOUR: 'it returns false'. Refute it at one input. -/
def orderBackWrong : ChangeSpec := { name := "orderBack", fn := fun _ => fun
  | [d1, d2] => { results := [.lit (.bool false)], args := [d1, d2] }
  | _ => none }
def OrderBackWrongFalsely : Prop := orderBackRow.holds Try.pinned (OpenSpec.ofChange orderBackWrong)

/-- 'mustkeep.OrderTold': WHATEVER THE INPUT: true; the input reads as it did. -/
def orderToldSpec : ChangeSpec := { name := "orderTold", fn := fun _ => fun
  | [d1, d2, d3] => { results := [.lit (.bool true)], args := [d1, d2, d3] }
  | _ => none }
def orderToldRow : OpenClaim := { program := "ytkijhejjnlmbmaa", sum := "e13be66d76866259de959816ac6e49680956f5ca796995b26feb3dc6f06c9094", func := "musterfield/mustkeep.OrderTold", spec := "orderTold", inPlace := ["internal/abi.NoEscape"], unfollowed := true, recurses := true, plainKeys := false, apart := false }
def OrderToldSaid : Prop := orderToldRow.holds Try.pinned (OpenSpec.ofChange orderToldSpec)

/-- ITS FALSE NEIGHBOUR: 'it returns false'. Refute it at one input. -/
def orderToldWrong : ChangeSpec := { name := "orderTold", fn := fun _ => fun
  | [d1, d2, d3] => { results := [.lit (.bool false)], args := [d1, d2, d3] }
  | _ => none }
def OrderToldWrongFalsely : Prop := orderToldRow.holds Try.pinned (OpenSpec.ofChange orderToldWrong)

/- THE SECOND FORM. 'bulk': how many values and letters a reading holds, each counted each time it is reached (what is shared counts as often as it is met; a slice's spare places count too). A statement '..UptoSaid' is the law's where the arguments, and the package variables that the reading takes, are together of bulk at most 1048576: NARROWER than '..Said'. Prove '..Said' where nothing that the law and all that it calls make is longer than what came in: it says more and counts as full. Else prove '..UptoSaid'. A law counts once. -/
mutual
def uptoBulk {H : Type} : DataW H → Nat
  | .lit (.string bytes) => bytes.length + 1
  | .lit _ => 1
  | .nil => 1
  | .ptr d => uptoBulk d + 1
  | .slice elems spare => uptoBulkAll elems + uptoBulkAll spare + 1
  | .agg parts => uptoBulkAll parts + 1
  | .iface _ d => uptoBulk d + 1
  | .map entries => uptoBulkEntries entries + 1
  | .held _ => 1
def uptoBulkAll {H : Type} : List (DataW H) → Nat
  | [] => 0
  | d :: r => uptoBulk d + uptoBulkAll r
def uptoBulkEntries {H : Type} : List (Lit × DataW H) → Nat
  | [] => 0
  | x :: r => uptoBulkEntry x + uptoBulkEntries r
def uptoBulkEntry {H : Type} : Lit × DataW H → Nat
  | (.string bytes, d) => bytes.length + uptoBulk d + 1
  | (_, d) => uptoBulk d + 1
 end
def uptoSmall : (H : Type) → List (DataW H) → Bool := fun _ ds => decide (uptoBulkAll ds ≤ 1048576)
def OpenSpec.upto (s : _root_.Go.ChangeSpec) : _root_.Go.OpenSpec := { _root_.Go.OpenSpec.ofChange s with cond := some uptoSmall }

/-- 'mustkeep.FieldBack', WHERE WHAT IT READS IS OF BULK AT MOST 1048576: true; the input reads as it did. -/
def fieldBackUptoRow : OpenClaim := { program := "ytkijhejjnlmbmaa", sum := "e13be66d76866259de959816ac6e49680956f5ca796995b26feb3dc6f06c9094", func := "musterfield/mustkeep.FieldBack", spec := "fieldBack", inPlace := ["internal/bytealg.IndexByteString", "internal/bytealg.CountString", "internal/bytealg.IndexString"], unfollowed := true, recurses := true, named := ["internal/bytealg.MaxLen"], plainKeys := false, apart := false, narrowed := true }
def FieldBackUptoSaid : Prop := fieldBackUptoRow.holds Try.pinned (OpenSpec.upto fieldBackSpec)

/-- 'mustkeep.FieldOwn', WHERE WHAT IT READS IS OF BULK AT MOST 1048576: true; the input reads as it did. -/
def fieldOwnUptoRow : OpenClaim := { program := "ytkijhejjnlmbmaa", sum := "e13be66d76866259de959816ac6e49680956f5ca796995b26feb3dc6f06c9094", func := "musterfield/mustkeep.FieldOwn", spec := "fieldOwn", inPlace := ["internal/bytealg.IndexByteString", "internal/bytealg.CountString", "internal/bytealg.IndexString"], unfollowed := true, recurses := true, named := ["internal/bytealg.MaxLen"], plainKeys := false, apart := false, narrowed := true }
def FieldOwnUptoSaid : Prop := fieldOwnUptoRow.holds Try.pinned (OpenSpec.upto fieldOwnSpec)

/-- 'mustkeep.FieldTurns', WHERE WHAT IT READS IS OF BULK AT MOST 1048576: true; the input reads as it did. -/
def fieldTurnsUptoRow : OpenClaim := { program := "ytkijhejjnlmbmaa", sum := "e13be66d76866259de959816ac6e49680956f5ca796995b26feb3dc6f06c9094", func := "musterfield/mustkeep.FieldTurns", spec := "fieldTurns", inPlace := ["internal/bytealg.IndexByteString", "internal/bytealg.CountString", "internal/bytealg.IndexString"], unfollowed := true, recurses := true, named := ["internal/bytealg.MaxLen"], plainKeys := false, apart := false, narrowed := true }
def FieldTurnsUptoSaid : Prop := fieldTurnsUptoRow.holds Try.pinned (OpenSpec.upto fieldTurnsSpec)

/-- 'mustkeep.MistRight', WHERE WHAT IT READS IS OF BULK AT MOST 1048576: true; the input reads as it did. -/
def mistRightUptoRow : OpenClaim := { program := "ytkijhejjnlmbmaa", sum := "e13be66d76866259de959816ac6e49680956f5ca796995b26feb3dc6f06c9094", func := "musterfield/mustkeep.MistRight", spec := "mistRight", unfollowed := true, recurses := true, plainKeys := false, apart := false, narrowed := true }
def MistRightUptoSaid : Prop := mistRightUptoRow.holds Try.pinned (OpenSpec.upto mistRightSpec)

/-- 'mustkeep.MistOnce', WHERE WHAT IT READS IS OF BULK AT MOST 1048576: true; the input reads as it did. -/
def mistOnceUptoRow : OpenClaim := { program := "ytkijhejjnlmbmaa", sum := "e13be66d76866259de959816ac6e49680956f5ca796995b26feb3dc6f06c9094", func := "musterfield/mustkeep.MistOnce", spec := "mistOnce", unfollowed := true, recurses := true, plainKeys := false, apart := false, narrowed := true }
def MistOnceUptoSaid : Prop := mistOnceUptoRow.holds Try.pinned (OpenSpec.upto mistOnceSpec)

/-- 'mustkeep.MistOwn', WHERE WHAT IT READS IS OF BULK AT MOST 1048576: true; the input reads as it did. -/
def mistOwnUptoRow : OpenClaim := { program := "ytkijhejjnlmbmaa", sum := "e13be66d76866259de959816ac6e49680956f5ca796995b26feb3dc6f06c9094", func := "musterfield/mustkeep.MistOwn", spec := "mistOwn", unfollowed := true, recurses := true, plainKeys := false, apart := false, narrowed := true }
def MistOwnUptoSaid : Prop := mistOwnUptoRow.holds Try.pinned (OpenSpec.upto mistOwnSpec)

/-- 'mustkeep.MistHides', WHERE WHAT IT READS IS OF BULK AT MOST 1048576: true; the input reads as it did. -/
def mistHidesUptoRow : OpenClaim := { program := "ytkijhejjnlmbmaa", sum := "e13be66d76866259de959816ac6e49680956f5ca796995b26feb3dc6f06c9094", func := "musterfield/mustkeep.MistHides", spec := "mistHides", unfollowed := true, recurses := true, plainKeys := false, apart := false, narrowed := true }
def MistHidesUptoSaid : Prop := mistHidesUptoRow.holds Try.pinned (OpenSpec.upto mistHidesSpec)

/-- 'mustkeep.TroopMark', WHERE WHAT IT READS IS OF BULK AT MOST 1048576: true; the input reads as it did. -/
def troopMarkUptoRow : OpenClaim := { program := "ytkijhejjnlmbmaa", sum := "e13be66d76866259de959816ac6e49680956f5ca796995b26feb3dc6f06c9094", func := "musterfield/mustkeep.TroopMark", spec := "troopMark", inPlace := ["internal/abi.NoEscape"], unfollowed := true, recurses := true, plainKeys := false, apart := false, narrowed := true }
def TroopMarkUptoSaid : Prop := troopMarkUptoRow.holds Try.pinned (OpenSpec.upto troopMarkSpec)

/-- 'mustkeep.MarkAny', WHERE WHAT IT READS IS OF BULK AT MOST 1048576: true; the input reads as it did. -/
def markAnyUptoRow : OpenClaim := { program := "ytkijhejjnlmbmaa", sum := "e13be66d76866259de959816ac6e49680956f5ca796995b26feb3dc6f06c9094", func := "musterfield/mustkeep.MarkAny", spec := "markAny", recurses := true, plainKeys := false, apart := false, narrowed := true }
def MarkAnyUptoSaid : Prop := markAnyUptoRow.holds Try.pinned (OpenSpec.upto markAnySpec)

/-- 'mustkeep.LuckDeals', WHERE WHAT IT READS IS OF BULK AT MOST 1048576: true; the input reads as it did. -/
def luckDealsUptoRow : OpenClaim := { program := "ytkijhejjnlmbmaa", sum := "e13be66d76866259de959816ac6e49680956f5ca796995b26feb3dc6f06c9094", func := "musterfield/mustkeep.LuckDeals", spec := "luckDeals", recurses := true, plainKeys := false, apart := false, narrowed := true }
def LuckDealsUptoSaid : Prop := luckDealsUptoRow.holds Try.pinned (OpenSpec.upto luckDealsSpec)

/-- 'mustkeep.OrderBack', WHERE WHAT IT READS IS OF BULK AT MOST 1048576: true; the input reads as it did. -/
def orderBackUptoRow : OpenClaim := { program := "ytkijhejjnlmbmaa", sum := "e13be66d76866259de959816ac6e49680956f5ca796995b26feb3dc6f06c9094", func := "musterfield/mustkeep.OrderBack", spec := "orderBack", inPlace := ["internal/abi.NoEscape"], unfollowed := true, recurses := true, plainKeys := false, apart := false, narrowed := true }
def OrderBackUptoSaid : Prop := orderBackUptoRow.holds Try.pinned (OpenSpec.upto orderBackSpec)

/-- 'mustkeep.OrderTold', WHERE WHAT IT READS IS OF BULK AT MOST 1048576: true; the input reads as it did. -/
def orderToldUptoRow : OpenClaim := { program := "ytkijhejjnlmbmaa", sum := "e13be66d76866259de959816ac6e49680956f5ca796995b26feb3dc6f06c9094", func := "musterfield/mustkeep.OrderTold", spec := "orderTold", inPlace := ["internal/abi.NoEscape"], unfollowed := true, recurses := true, plainKeys := false, apart := false, narrowed := true }
def OrderToldUptoSaid : Prop := orderToldUptoRow.holds Try.pinned (OpenSpec.upto orderToldSpec)

end Rows
end Go.Proofs.Ytkijhejjnlmbmaa
