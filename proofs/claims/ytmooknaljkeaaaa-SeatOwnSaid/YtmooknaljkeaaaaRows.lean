/-
  No cell of these rows narrows 'for every input' (looked for: loops, veiled, ifaces, maps, wideKeys, modest, calm, conditions, laid).
  DERIVED. THE GIVEN ROWS OF THIS SEAT. 12 by the template 'for every input the law returns true; each argument reads behind the call as it read before'; 0 by the template 'total and deterministic' (their statements: YtmooknaljkeaaaaTotals.lean).
  GIVEN WITH THE SEED: the statements are not yours to turn. If you find one false, say at which input.
  Laid BY PROGRAM, IN A SANDBOX (cutbox-rows.mjs): the forced cells as the released guide's own fill.sh prints them over the translation f28835a56b385749… (all of the seat's roots in one cut). By AI agents, Wed Nov 11 2026. No macro, syntax, notation, axiom, sorry.
-/
import Derived.Test.YtmooknaljkeaaaaChecked
import GoSem.Claim
import GoSem.ClaimJoined
import GoSem.ClaimMapViews
import Derived.JoinedTies
import Derived.KernelRfl
namespace Go.Proofs.Ytmooknaljkeaaaa
/- THE CELL 'sum', in the pinned program and in every row, IS THE sha256 OF THE DUMP (.gsa) THAT YtmooknaljkeaaaaProg.lean LOADS. Nothing in Lean hashes anything: it is a label: what it is worth is what the hold of that sum in a sandbox is worth. -/
noncomputable def Try.pinned : Pinned := { name := "ytmooknaljkeaaaa", sum := "f28835a56b385749314511b46fd960a3160dc2176c81f5187c7dcdf3ea97c8e4", checked := Try.checked }
namespace Rows
def none {H : Type} : Left H := { results := [], args := [] }

/-- 'mustkeep.TreeGrows': WHATEVER THE INPUT: true; the input reads as it did. -/
def treeGrowsSpec : ChangeSpec := { name := "treeGrows", fn := fun _ => fun
  | [d1, d2, d3] => { results := [.lit (.bool true)], args := [d1, d2, d3] }
  | _ => none }
def treeGrowsRow : OpenClaim := { program := "ytmooknaljkeaaaa", sum := "f28835a56b385749314511b46fd960a3160dc2176c81f5187c7dcdf3ea97c8e4", func := "musterfield/mustkeep.TreeGrows", spec := "treeGrows", recurses := true, apart := false }
def TreeGrowsSaid : Prop := treeGrowsRow.holds Try.pinned (OpenSpec.ofChange treeGrowsSpec)

/-- ITS FALSE NEIGHBOUR: 'it returns false'. Refute it at one input. -/
def treeGrowsWrong : ChangeSpec := { name := "treeGrows", fn := fun _ => fun
  | [d1, d2, d3] => { results := [.lit (.bool false)], args := [d1, d2, d3] }
  | _ => none }
def TreeGrowsWrongFalsely : Prop := treeGrowsRow.holds Try.pinned (OpenSpec.ofChange treeGrowsWrong)

/-- 'mustkeep.TreeSame': WHATEVER THE INPUT: true; the input reads as it did. -/
def treeSameSpec : ChangeSpec := { name := "treeSame", fn := fun _ => fun
  | [d1, d2, d3, d4] => { results := [.lit (.bool true)], args := [d1, d2, d3, d4] }
  | _ => none }
def treeSameRow : OpenClaim := { program := "ytmooknaljkeaaaa", sum := "f28835a56b385749314511b46fd960a3160dc2176c81f5187c7dcdf3ea97c8e4", func := "musterfield/mustkeep.TreeSame", spec := "treeSame", recurses := true, apart := false }
def TreeSameSaid : Prop := treeSameRow.holds Try.pinned (OpenSpec.ofChange treeSameSpec)

/-- ITS FALSE NEIGHBOUR: 'it returns false'. Refute it at one input. -/
def treeSameWrong : ChangeSpec := { name := "treeSame", fn := fun _ => fun
  | [d1, d2, d3, d4] => { results := [.lit (.bool false)], args := [d1, d2, d3, d4] }
  | _ => none }
def TreeSameWrongFalsely : Prop := treeSameRow.holds Try.pinned (OpenSpec.ofChange treeSameWrong)

/-- 'mustkeep.TreeHolds': WHATEVER THE INPUT: true; the input reads as it did. -/
def treeHoldsSpec : ChangeSpec := { name := "treeHolds", fn := fun _ => fun
  | [d1, d2] => { results := [.lit (.bool true)], args := [d1, d2] }
  | _ => none }
def treeHoldsRow : OpenClaim := { program := "ytmooknaljkeaaaa", sum := "f28835a56b385749314511b46fd960a3160dc2176c81f5187c7dcdf3ea97c8e4", func := "musterfield/mustkeep.TreeHolds", spec := "treeHolds", recurses := true, apart := false }
def TreeHoldsSaid : Prop := treeHoldsRow.holds Try.pinned (OpenSpec.ofChange treeHoldsSpec)

/-- ITS FALSE NEIGHBOUR: 'it returns false'. Refute it at one input. -/
def treeHoldsWrong : ChangeSpec := { name := "treeHolds", fn := fun _ => fun
  | [d1, d2] => { results := [.lit (.bool false)], args := [d1, d2] }
  | _ => none }
def TreeHoldsWrongFalsely : Prop := treeHoldsRow.holds Try.pinned (OpenSpec.ofChange treeHoldsWrong)

/-- 'mustkeep.SeatFair': WHATEVER THE INPUT: true; the input reads as it did. -/
def seatFairSpec : ChangeSpec := { name := "seatFair", fn := fun _ => fun
  | [d1, d2] => { results := [.lit (.bool true)], args := [d1, d2] }
  | _ => none }
def seatFairRow : OpenClaim := { program := "ytmooknaljkeaaaa", sum := "f28835a56b385749314511b46fd960a3160dc2176c81f5187c7dcdf3ea97c8e4", func := "musterfield/mustkeep.SeatFair", spec := "seatFair", unfollowed := true, recurses := true, apart := false }
def SeatFairSaid : Prop := seatFairRow.holds Try.pinned (OpenSpec.ofChange seatFairSpec)

/-- ITS FALSE NEIGHBOUR: 'it returns false'. Refute it at one input. -/
def seatFairWrong : ChangeSpec := { name := "seatFair", fn := fun _ => fun
  | [d1, d2] => { results := [.lit (.bool false)], args := [d1, d2] }
  | _ => none }
def SeatFairWrongFalsely : Prop := seatFairRow.holds Try.pinned (OpenSpec.ofChange seatFairWrong)

/-- 'mustkeep.SeatLate': WHATEVER THE INPUT: true; the input reads as it did. -/
def seatLateSpec : ChangeSpec := { name := "seatLate", fn := fun _ => fun
  | [d1, d2, d3] => { results := [.lit (.bool true)], args := [d1, d2, d3] }
  | _ => none }
def seatLateRow : OpenClaim := { program := "ytmooknaljkeaaaa", sum := "f28835a56b385749314511b46fd960a3160dc2176c81f5187c7dcdf3ea97c8e4", func := "musterfield/mustkeep.SeatLate", spec := "seatLate", unfollowed := true, recurses := true, apart := false }
def SeatLateSaid : Prop := seatLateRow.holds Try.pinned (OpenSpec.ofChange seatLateSpec)

/-- ITS FALSE NEIGHBOUR: 'it returns false'. Refute it at one input. -/
def seatLateWrong : ChangeSpec := { name := "seatLate", fn := fun _ => fun
  | [d1, d2, d3] => { results := [.lit (.bool false)], args := [d1, d2, d3] }
  | _ => none }
def SeatLateWrongFalsely : Prop := seatLateRow.holds Try.pinned (OpenSpec.ofChange seatLateWrong)

/-- 'mustkeep.SeatKeeps': WHATEVER THE INPUT: true; the input reads as it did. -/
def seatKeepsSpec : ChangeSpec := { name := "seatKeeps", fn := fun _ => fun
  | [d1, d2] => { results := [.lit (.bool true)], args := [d1, d2] }
  | _ => none }
def seatKeepsRow : OpenClaim := { program := "ytmooknaljkeaaaa", sum := "f28835a56b385749314511b46fd960a3160dc2176c81f5187c7dcdf3ea97c8e4", func := "musterfield/mustkeep.SeatKeeps", spec := "seatKeeps", unfollowed := true, recurses := true, apart := false }
def SeatKeepsSaid : Prop := seatKeepsRow.holds Try.pinned (OpenSpec.ofChange seatKeepsSpec)

/-- ITS FALSE NEIGHBOUR: 'it returns false'. Refute it at one input. -/
def seatKeepsWrong : ChangeSpec := { name := "seatKeeps", fn := fun _ => fun
  | [d1, d2] => { results := [.lit (.bool false)], args := [d1, d2] }
  | _ => none }
def SeatKeepsWrongFalsely : Prop := seatKeepsRow.holds Try.pinned (OpenSpec.ofChange seatKeepsWrong)

/-- 'mustkeep.SeatRuns': WHATEVER THE INPUT: true; the input reads as it did. -/
def seatRunsSpec : ChangeSpec := { name := "seatRuns", fn := fun _ => fun
  | [d1, d2, d3] => { results := [.lit (.bool true)], args := [d1, d2, d3] }
  | _ => none }
def seatRunsRow : OpenClaim := { program := "ytmooknaljkeaaaa", sum := "f28835a56b385749314511b46fd960a3160dc2176c81f5187c7dcdf3ea97c8e4", func := "musterfield/mustkeep.SeatRuns", spec := "seatRuns", unfollowed := true, recurses := true, apart := false }
def SeatRunsSaid : Prop := seatRunsRow.holds Try.pinned (OpenSpec.ofChange seatRunsSpec)

/-- ITS FALSE NEIGHBOUR: 'it returns false'. Refute it at one input. -/
def seatRunsWrong : ChangeSpec := { name := "seatRuns", fn := fun _ => fun
  | [d1, d2, d3] => { results := [.lit (.bool false)], args := [d1, d2, d3] }
  | _ => none }
def SeatRunsWrongFalsely : Prop := seatRunsRow.holds Try.pinned (OpenSpec.ofChange seatRunsWrong)

/-- 'mustkeep.SeatOwn': WHATEVER THE INPUT: true; the input reads as it did. -/
def seatOwnSpec : ChangeSpec := { name := "seatOwn", fn := fun _ => fun
  | [d1, d2, d3] => { results := [.lit (.bool true)], args := [d1, d2, d3] }
  | _ => none }
def seatOwnRow : OpenClaim := { program := "ytmooknaljkeaaaa", sum := "f28835a56b385749314511b46fd960a3160dc2176c81f5187c7dcdf3ea97c8e4", func := "musterfield/mustkeep.SeatOwn", spec := "seatOwn", unfollowed := true, recurses := true, apart := false }
def SeatOwnSaid : Prop := seatOwnRow.holds Try.pinned (OpenSpec.ofChange seatOwnSpec)

/-- ITS FALSE NEIGHBOUR: 'it returns false'. Refute it at one input. -/
def seatOwnWrong : ChangeSpec := { name := "seatOwn", fn := fun _ => fun
  | [d1, d2, d3] => { results := [.lit (.bool false)], args := [d1, d2, d3] }
  | _ => none }
def SeatOwnWrongFalsely : Prop := seatOwnRow.holds Try.pinned (OpenSpec.ofChange seatOwnWrong)

/-- 'mustkeep.OrderBack': WHATEVER THE INPUT: true; the input reads as it did. -/
def orderBackSpec : ChangeSpec := { name := "orderBack", fn := fun _ => fun
  | [d1, d2] => { results := [.lit (.bool true)], args := [d1, d2] }
  | _ => none }
def orderBackRow : OpenClaim := { program := "ytmooknaljkeaaaa", sum := "f28835a56b385749314511b46fd960a3160dc2176c81f5187c7dcdf3ea97c8e4", func := "musterfield/mustkeep.OrderBack", spec := "orderBack", inPlace := ["internal/abi.NoEscape"], unfollowed := true, recurses := true, apart := false }
def OrderBackSaid : Prop := orderBackRow.holds Try.pinned (OpenSpec.ofChange orderBackSpec)

/-- ITS FALSE NEIGHBOUR: 'it returns false'. Refute it at one input. -/
def orderBackWrong : ChangeSpec := { name := "orderBack", fn := fun _ => fun
  | [d1, d2] => { results := [.lit (.bool false)], args := [d1, d2] }
  | _ => none }
def OrderBackWrongFalsely : Prop := orderBackRow.holds Try.pinned (OpenSpec.ofChange orderBackWrong)

/-- 'mustkeep.OrderTold': WHATEVER THE INPUT: true; the input reads as it did. -/
def orderToldSpec : ChangeSpec := { name := "orderTold", fn := fun _ => fun
  | [d1, d2, d3] => { results := [.lit (.bool true)], args := [d1, d2, d3] }
  | _ => none }
def orderToldRow : OpenClaim := { program := "ytmooknaljkeaaaa", sum := "f28835a56b385749314511b46fd960a3160dc2176c81f5187c7dcdf3ea97c8e4", func := "musterfield/mustkeep.OrderTold", spec := "orderTold", inPlace := ["internal/abi.NoEscape"], unfollowed := true, recurses := true, apart := false }
def OrderToldSaid : Prop := orderToldRow.holds Try.pinned (OpenSpec.ofChange orderToldSpec)

/-- ITS FALSE NEIGHBOUR: 'it returns false'. Refute it at one input. -/
def orderToldWrong : ChangeSpec := { name := "orderTold", fn := fun _ => fun
  | [d1, d2, d3] => { results := [.lit (.bool false)], args := [d1, d2, d3] }
  | _ => none }
def OrderToldWrongFalsely : Prop := orderToldRow.holds Try.pinned (OpenSpec.ofChange orderToldWrong)

/-- 'mustkeep.FieldBack': WHATEVER THE INPUT: true; the input reads as it did. -/
def fieldBackSpec : ChangeSpec := { name := "fieldBack", fn := fun _ => fun
  | [d1, d2] => { results := [.lit (.bool true)], args := [d1, d2] }
  | _ => none }
def fieldBackRow : OpenClaim := { program := "ytmooknaljkeaaaa", sum := "f28835a56b385749314511b46fd960a3160dc2176c81f5187c7dcdf3ea97c8e4", func := "musterfield/mustkeep.FieldBack", spec := "fieldBack", inPlace := ["internal/bytealg.IndexByteString", "internal/bytealg.CountString", "internal/bytealg.IndexString"], unfollowed := true, recurses := true, named := ["internal/bytealg.MaxLen"], apart := false }
def FieldBackSaid : Prop := fieldBackRow.holds Try.pinned (OpenSpec.ofChange fieldBackSpec)

/-- ITS FALSE NEIGHBOUR: 'it returns false'. Refute it at one input. -/
def fieldBackWrong : ChangeSpec := { name := "fieldBack", fn := fun _ => fun
  | [d1, d2] => { results := [.lit (.bool false)], args := [d1, d2] }
  | _ => none }
def FieldBackWrongFalsely : Prop := fieldBackRow.holds Try.pinned (OpenSpec.ofChange fieldBackWrong)

/-- 'mustkeep.FieldOwn': WHATEVER THE INPUT: true; the input reads as it did. -/
def fieldOwnSpec : ChangeSpec := { name := "fieldOwn", fn := fun _ => fun
  | [d] => { results := [.lit (.bool true)], args := [d] }
  | _ => none }
def fieldOwnRow : OpenClaim := { program := "ytmooknaljkeaaaa", sum := "f28835a56b385749314511b46fd960a3160dc2176c81f5187c7dcdf3ea97c8e4", func := "musterfield/mustkeep.FieldOwn", spec := "fieldOwn", inPlace := ["internal/bytealg.IndexByteString", "internal/bytealg.CountString", "internal/bytealg.IndexString"], unfollowed := true, recurses := true, named := ["internal/bytealg.MaxLen"], apart := false }
def FieldOwnSaid : Prop := fieldOwnRow.holds Try.pinned (OpenSpec.ofChange fieldOwnSpec)

/-- ITS FALSE NEIGHBOUR: 'it returns false'. Refute it at one input. -/
def fieldOwnWrong : ChangeSpec := { name := "fieldOwn", fn := fun _ => fun
  | [d] => { results := [.lit (.bool false)], args := [d] }
  | _ => none }
def FieldOwnWrongFalsely : Prop := fieldOwnRow.holds Try.pinned (OpenSpec.ofChange fieldOwnWrong)

/- THE SECOND FORM. 'bulk': how many values and letters a reading holds, each counted each time it is reached (what is shared counts as often as it is met; a slice's spare places count too). A statement '..UptoSaid' is the law's where the arguments, and the package variables that the reading takes, are together of bulk at most 1048576: NARROWER than '..Said'. Prove '..Said' where nothing that the law and all that it calls make is longer than what came in: it says more and counts as full. Else prove '..UptoSaid'. A law counts once. -/
mutual
def uptoBulk {H : Type} : DataW H → Nat
  | .lit (.string bytes) => bytes.length + 1
  | .lit _ => 1
  | .nil => 1
  | .ptr d => uptoBulk d + 1
  | .slice elems spare => uptoBulkAll elems + uptoBulkAll spare + 1
  | .agg parts => uptoBulkAll parts + 1
  | .iface _ d => uptoBulk d + 1
  | .map entries => uptoBulkEntries entries + 1
  | .held _ => 1
def uptoBulkAll {H : Type} : List (DataW H) → Nat
  | [] => 0
  | d :: r => uptoBulk d + uptoBulkAll r
def uptoBulkEntries {H : Type} : List (Lit × DataW H) → Nat
  | [] => 0
  | x :: r => uptoBulkEntry x + uptoBulkEntries r
def uptoBulkEntry {H : Type} : Lit × DataW H → Nat
  | (.string bytes, d) => bytes.length + uptoBulk d + 1
  | (_, d) => uptoBulk d + 1
 end
def uptoSmall : (H : Type) → List (DataW H) → Bool := fun _ ds => decide (uptoBulkAll ds ≤ 1048576)
def OpenSpec.upto (s : _root_.Go.ChangeSpec) : _root_.Go.OpenSpec := { _root_.Go.OpenSpec.ofChange s with cond := some uptoSmall }

/-- 'mustkeep.TreeGrows', WHERE WHAT IT READS IS OF BULK AT MOST 1048576: true; the input reads as it did. -/
def treeGrowsUptoRow : OpenClaim := { program := "ytmooknaljkeaaaa", sum := "f28835a56b385749314511b46fd960a3160dc2176c81f5187c7dcdf3ea97c8e4", func := "musterfield/mustkeep.TreeGrows", spec := "treeGrows", recurses := true, apart := false, narrowed := true }
def TreeGrowsUptoSaid : Prop := treeGrowsUptoRow.holds Try.pinned (OpenSpec.upto treeGrowsSpec)

/-- 'mustkeep.TreeSame', WHERE WHAT IT READS IS OF BULK AT MOST 1048576: true; the input reads as it did. -/
def treeSameUptoRow : OpenClaim := { program := "ytmooknaljkeaaaa", sum := "f28835a56b385749314511b46fd960a3160dc2176c81f5187c7dcdf3ea97c8e4", func := "musterfield/mustkeep.TreeSame", spec := "treeSame", recurses := true, apart := false, narrowed := true }
def TreeSameUptoSaid : Prop := treeSameUptoRow.holds Try.pinned (OpenSpec.upto treeSameSpec)

/-- 'mustkeep.TreeHolds', WHERE WHAT IT READS IS OF BULK AT MOST 1048576: true; the input reads as it did. -/
def treeHoldsUptoRow : OpenClaim := { program := "ytmooknaljkeaaaa", sum := "f28835a56b385749314511b46fd960a3160dc2176c81f5187c7dcdf3ea97c8e4", func := "musterfield/mustkeep.TreeHolds", spec := "treeHolds", recurses := true, apart := false, narrowed := true }
def TreeHoldsUptoSaid : Prop := treeHoldsUptoRow.holds Try.pinned (OpenSpec.upto treeHoldsSpec)

/-- 'mustkeep.SeatFair', WHERE WHAT IT READS IS OF BULK AT MOST 1048576: true; the input reads as it did. -/
def seatFairUptoRow : OpenClaim := { program := "ytmooknaljkeaaaa", sum := "f28835a56b385749314511b46fd960a3160dc2176c81f5187c7dcdf3ea97c8e4", func := "musterfield/mustkeep.SeatFair", spec := "seatFair", unfollowed := true, recurses := true, apart := false, narrowed := true }
def SeatFairUptoSaid : Prop := seatFairUptoRow.holds Try.pinned (OpenSpec.upto seatFairSpec)

/-- 'mustkeep.SeatLate', WHERE WHAT IT READS IS OF BULK AT MOST 1048576: true; the input reads as it did. -/
def seatLateUptoRow : OpenClaim := { program := "ytmooknaljkeaaaa", sum := "f28835a56b385749314511b46fd960a3160dc2176c81f5187c7dcdf3ea97c8e4", func := "musterfield/mustkeep.SeatLate", spec := "seatLate", unfollowed := true, recurses := true, apart := false, narrowed := true }
def SeatLateUptoSaid : Prop := seatLateUptoRow.holds Try.pinned (OpenSpec.upto seatLateSpec)

/-- 'mustkeep.SeatKeeps', WHERE WHAT IT READS IS OF BULK AT MOST 1048576: true; the input reads as it did. -/
def seatKeepsUptoRow : OpenClaim := { program := "ytmooknaljkeaaaa", sum := "f28835a56b385749314511b46fd960a3160dc2176c81f5187c7dcdf3ea97c8e4", func := "musterfield/mustkeep.SeatKeeps", spec := "seatKeeps", unfollowed := true, recurses := true, apart := false, narrowed := true }
def SeatKeepsUptoSaid : Prop := seatKeepsUptoRow.holds Try.pinned (OpenSpec.upto seatKeepsSpec)

/-- 'mustkeep.SeatRuns', WHERE WHAT IT READS IS OF BULK AT MOST 1048576: true; the input reads as it did. -/
def seatRunsUptoRow : OpenClaim := { program := "ytmooknaljkeaaaa", sum := "f28835a56b385749314511b46fd960a3160dc2176c81f5187c7dcdf3ea97c8e4", func := "musterfield/mustkeep.SeatRuns", spec := "seatRuns", unfollowed := true, recurses := true, apart := false, narrowed := true }
def SeatRunsUptoSaid : Prop := seatRunsUptoRow.holds Try.pinned (OpenSpec.upto seatRunsSpec)

/-- 'mustkeep.SeatOwn', WHERE WHAT IT READS IS OF BULK AT MOST 1048576: true; the input reads as it did. -/
def seatOwnUptoRow : OpenClaim := { program := "ytmooknaljkeaaaa", sum := "f28835a56b385749314511b46fd960a3160dc2176c81f5187c7dcdf3ea97c8e4", func := "musterfield/mustkeep.SeatOwn", spec := "seatOwn", unfollowed := true, recurses := true, apart := false, narrowed := true }
def SeatOwnUptoSaid : Prop := seatOwnUptoRow.holds Try.pinned (OpenSpec.upto seatOwnSpec)

/-- 'mustkeep.OrderBack', WHERE WHAT IT READS IS OF BULK AT MOST 1048576: true; the input reads as it did. -/
def orderBackUptoRow : OpenClaim := { program := "ytmooknaljkeaaaa", sum := "f28835a56b385749314511b46fd960a3160dc2176c81f5187c7dcdf3ea97c8e4", func := "musterfield/mustkeep.OrderBack", spec := "orderBack", inPlace := ["internal/abi.NoEscape"], unfollowed := true, recurses := true, apart := false, narrowed := true }
def OrderBackUptoSaid : Prop := orderBackUptoRow.holds Try.pinned (OpenSpec.upto orderBackSpec)

/-- 'mustkeep.OrderTold', WHERE WHAT IT READS IS OF BULK AT MOST 1048576: true; the input reads as it did. -/
def orderToldUptoRow : OpenClaim := { program := "ytmooknaljkeaaaa", sum := "f28835a56b385749314511b46fd960a3160dc2176c81f5187c7dcdf3ea97c8e4", func := "musterfield/mustkeep.OrderTold", spec := "orderTold", inPlace := ["internal/abi.NoEscape"], unfollowed := true, recurses := true, apart := false, narrowed := true }
def OrderToldUptoSaid : Prop := orderToldUptoRow.holds Try.pinned (OpenSpec.upto orderToldSpec)

/-- 'mustkeep.FieldBack', WHERE WHAT IT READS IS OF BULK AT MOST 1048576: true; the input reads as it did. -/
def fieldBackUptoRow : OpenClaim := { program := "ytmooknaljkeaaaa", sum := "f28835a56b385749314511b46fd960a3160dc2176c81f5187c7dcdf3ea97c8e4", func := "musterfield/mustkeep.FieldBack", spec := "fieldBack", inPlace := ["internal/bytealg.IndexByteString", "internal/bytealg.CountString", "internal/bytealg.IndexString"], unfollowed := true, recurses := true, named := ["internal/bytealg.MaxLen"], apart := false, narrowed := true }
def FieldBackUptoSaid : Prop := fieldBackUptoRow.holds Try.pinned (OpenSpec.upto fieldBackSpec)

/-- 'mustkeep.FieldOwn', WHERE WHAT IT READS IS OF BULK AT MOST 1048576: true; the input reads as it did. -/
def fieldOwnUptoRow : OpenClaim := { program := "ytmooknaljkeaaaa", sum := "f28835a56b385749314511b46fd960a3160dc2176c81f5187c7dcdf3ea97c8e4", func := "musterfield/mustkeep.FieldOwn", spec := "fieldOwn", inPlace := ["internal/bytealg.IndexByteString", "internal/bytealg.CountString", "internal/bytealg.IndexString"], unfollowed := true, recurses := true, named := ["internal/bytealg.MaxLen"], apart := false, narrowed := true }
def FieldOwnUptoSaid : Prop := fieldOwnUptoRow.holds Try.pinned (OpenSpec.upto fieldOwnSpec)

end Rows
end Go.Proofs.Ytmooknaljkeaaaa
