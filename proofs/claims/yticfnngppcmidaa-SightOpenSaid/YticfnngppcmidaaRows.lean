/-
  No cell of these rows narrows 'for every input' (looked for: loops, veiled, ifaces, maps, wideKeys, modest, calm, conditions, laid).
  DERIVED. THE GIVEN ROWS OF THIS SEAT. 12 by the template 'for every input the law returns true; each argument reads behind the call as it read before'; 0 by the template 'total and deterministic' (their statements: YticfnngppcmidaaTotals.lean).
  GIVEN WITH THE SEED: the statements are not yours to turn. If you find one false, say at which input.
  Laid BY PROGRAM, IN A SANDBOX (cutbox-rows.mjs): the forced cells as the released guide's own fill.sh prints them over the translation de3645ceadfb49e2… (all of the seat's roots in one cut). By AI agents, Wed Nov 11 2026. No macro, syntax, notation, axiom, sorry.
-/
import Derived.Test.YticfnngppcmidaaChecked
import GoSem.Claim
import GoSem.ClaimJoined
import GoSem.ClaimMapViews
import Derived.JoinedTies
import Derived.KernelRfl
namespace Go.Proofs.Yticfnngppcmidaa
/- THE CELL 'sum', in the pinned program and in every row, IS THE sha256 OF THE DUMP (.gsa) THAT YticfnngppcmidaaProg.lean LOADS. Nothing in Lean hashes anything: it is a label: what it is worth is what the hold of that sum in a sandbox is worth. -/
noncomputable def Try.pinned : Pinned := { name := "yticfnngppcmidaa", sum := "de3645ceadfb49e21064d47579d47ca5ca03a1ac690953476719fd437120ab4f", checked := Try.checked }
namespace Rows
def none {H : Type} : Left H := { results := [], args := [] }

/-- 'mustkeep.GoodsRight': WHATEVER THE INPUT: true; the input reads as it did. -/
def goodsRightSpec : ChangeSpec := { name := "goodsRight", fn := fun _ => fun
  | [d1, d2] => { results := [.lit (.bool true)], args := [d1, d2] }
  | _ => none }
def goodsRightRow : OpenClaim := { program := "yticfnngppcmidaa", sum := "de3645ceadfb49e21064d47579d47ca5ca03a1ac690953476719fd437120ab4f", func := "musterfield/mustkeep.GoodsRight", spec := "goodsRight", unfollowed := true, recurses := true, plainKeys := false, apart := false }
def GoodsRightSaid : Prop := goodsRightRow.holds Try.pinned (OpenSpec.ofChange goodsRightSpec)

/-- ITS FALSE NEIGHBOUR: 'it returns false'. Refute it at one input. -/
def goodsRightWrong : ChangeSpec := { name := "goodsRight", fn := fun _ => fun
  | [d1, d2] => { results := [.lit (.bool false)], args := [d1, d2] }
  | _ => none }
def GoodsRightWrongFalsely : Prop := goodsRightRow.holds Try.pinned (OpenSpec.ofChange goodsRightWrong)

/-- 'mustkeep.GoodsCuts': WHATEVER THE INPUT: true; the input reads as it did. -/
def goodsCutsSpec : ChangeSpec := { name := "goodsCuts", fn := fun _ => fun
  | [d1, d2, d3] => { results := [.lit (.bool true)], args := [d1, d2, d3] }
  | _ => none }
def goodsCutsRow : OpenClaim := { program := "yticfnngppcmidaa", sum := "de3645ceadfb49e21064d47579d47ca5ca03a1ac690953476719fd437120ab4f", func := "musterfield/mustkeep.GoodsCuts", spec := "goodsCuts", unfollowed := true, recurses := true, plainKeys := false, apart := false }
def GoodsCutsSaid : Prop := goodsCutsRow.holds Try.pinned (OpenSpec.ofChange goodsCutsSpec)

/-- ITS FALSE NEIGHBOUR: 'it returns false'. Refute it at one input. -/
def goodsCutsWrong : ChangeSpec := { name := "goodsCuts", fn := fun _ => fun
  | [d1, d2, d3] => { results := [.lit (.bool false)], args := [d1, d2, d3] }
  | _ => none }
def GoodsCutsWrongFalsely : Prop := goodsCutsRow.holds Try.pinned (OpenSpec.ofChange goodsCutsWrong)

/-- 'mustkeep.GoodsRound': WHATEVER THE INPUT: true; the input reads as it did. -/
def goodsRoundSpec : ChangeSpec := { name := "goodsRound", fn := fun _ => fun
  | [d] => { results := [.lit (.bool true)], args := [d] }
  | _ => none }
def goodsRoundRow : OpenClaim := { program := "yticfnngppcmidaa", sum := "de3645ceadfb49e21064d47579d47ca5ca03a1ac690953476719fd437120ab4f", func := "musterfield/mustkeep.GoodsRound", spec := "goodsRound", unfollowed := true, recurses := true, plainKeys := false, apart := false }
def GoodsRoundSaid : Prop := goodsRoundRow.holds Try.pinned (OpenSpec.ofChange goodsRoundSpec)

/-- ITS FALSE NEIGHBOUR: 'it returns false'. Refute it at one input. -/
def goodsRoundWrong : ChangeSpec := { name := "goodsRound", fn := fun _ => fun
  | [d] => { results := [.lit (.bool false)], args := [d] }
  | _ => none }
def GoodsRoundWrongFalsely : Prop := goodsRoundRow.holds Try.pinned (OpenSpec.ofChange goodsRoundWrong)

/-- 'mustkeep.GoodsOwn': WHATEVER THE INPUT: true; the input reads as it did. -/
def goodsOwnSpec : ChangeSpec := { name := "goodsOwn", fn := fun _ => fun
  | [d1, d2] => { results := [.lit (.bool true)], args := [d1, d2] }
  | _ => none }
def goodsOwnRow : OpenClaim := { program := "yticfnngppcmidaa", sum := "de3645ceadfb49e21064d47579d47ca5ca03a1ac690953476719fd437120ab4f", func := "musterfield/mustkeep.GoodsOwn", spec := "goodsOwn", unfollowed := true, recurses := true, plainKeys := false, apart := false }
def GoodsOwnSaid : Prop := goodsOwnRow.holds Try.pinned (OpenSpec.ofChange goodsOwnSpec)

/-- ITS FALSE NEIGHBOUR: 'it returns false'. Refute it at one input. -/
def goodsOwnWrong : ChangeSpec := { name := "goodsOwn", fn := fun _ => fun
  | [d1, d2] => { results := [.lit (.bool false)], args := [d1, d2] }
  | _ => none }
def GoodsOwnWrongFalsely : Prop := goodsOwnRow.holds Try.pinned (OpenSpec.ofChange goodsOwnWrong)

/-- 'mustkeep.GoodsKeep': WHATEVER THE INPUT: true; the input reads as it did. -/
def goodsKeepSpec : ChangeSpec := { name := "goodsKeep", fn := fun _ => fun
  | [d1, d2] => { results := [.lit (.bool true)], args := [d1, d2] }
  | _ => none }
def goodsKeepRow : OpenClaim := { program := "yticfnngppcmidaa", sum := "de3645ceadfb49e21064d47579d47ca5ca03a1ac690953476719fd437120ab4f", func := "musterfield/mustkeep.GoodsKeep", spec := "goodsKeep", unfollowed := true, recurses := true, plainKeys := false, apart := false }
def GoodsKeepSaid : Prop := goodsKeepRow.holds Try.pinned (OpenSpec.ofChange goodsKeepSpec)

/-- ITS FALSE NEIGHBOUR: 'it returns false'. Refute it at one input. -/
def goodsKeepWrong : ChangeSpec := { name := "goodsKeep", fn := fun _ => fun
  | [d1, d2] => { results := [.lit (.bool false)], args := [d1, d2] }
  | _ => none }
def GoodsKeepWrongFalsely : Prop := goodsKeepRow.holds Try.pinned (OpenSpec.ofChange goodsKeepWrong)

/-- 'mustkeep.HitFriends': WHATEVER THE INPUT: true; the input reads as it did. -/
def hitFriendsSpec : ChangeSpec := { name := "hitFriends", fn := fun _ => fun
  | [d1, d2] => { results := [.lit (.bool true)], args := [d1, d2] }
  | _ => none }
def hitFriendsRow : OpenClaim := { program := "yticfnngppcmidaa", sum := "de3645ceadfb49e21064d47579d47ca5ca03a1ac690953476719fd437120ab4f", func := "musterfield/mustkeep.HitFriends", spec := "hitFriends", unfollowed := true, recurses := true, plainKeys := false, apart := false }
def HitFriendsSaid : Prop := hitFriendsRow.holds Try.pinned (OpenSpec.ofChange hitFriendsSpec)

/-- ITS FALSE NEIGHBOUR: 'it returns false'. Refute it at one input. -/
def hitFriendsWrong : ChangeSpec := { name := "hitFriends", fn := fun _ => fun
  | [d1, d2] => { results := [.lit (.bool false)], args := [d1, d2] }
  | _ => none }
def HitFriendsWrongFalsely : Prop := hitFriendsRow.holds Try.pinned (OpenSpec.ofChange hitFriendsWrong)

/-- 'mustkeep.HitOwn': WHATEVER THE INPUT: true; the input reads as it did. -/
def hitOwnSpec : ChangeSpec := { name := "hitOwn", fn := fun _ => fun
  | [d1, d2] => { results := [.lit (.bool true)], args := [d1, d2] }
  | _ => none }
def hitOwnRow : OpenClaim := { program := "yticfnngppcmidaa", sum := "de3645ceadfb49e21064d47579d47ca5ca03a1ac690953476719fd437120ab4f", func := "musterfield/mustkeep.HitOwn", spec := "hitOwn", unfollowed := true, recurses := true, plainKeys := false, apart := false }
def HitOwnSaid : Prop := hitOwnRow.holds Try.pinned (OpenSpec.ofChange hitOwnSpec)

/-- ITS FALSE NEIGHBOUR: 'it returns false'. Refute it at one input. -/
def hitOwnWrong : ChangeSpec := { name := "hitOwn", fn := fun _ => fun
  | [d1, d2] => { results := [.lit (.bool false)], args := [d1, d2] }
  | _ => none }
def HitOwnWrongFalsely : Prop := hitOwnRow.holds Try.pinned (OpenSpec.ofChange hitOwnWrong)

/-- 'mustkeep.HitAny': WHATEVER THE INPUT: true; the input reads as it did. -/
def hitAnySpec : ChangeSpec := { name := "hitAny", fn := fun _ => fun
  | [d1, d2] => { results := [.lit (.bool true)], args := [d1, d2] }
  | _ => none }
def hitAnyRow : OpenClaim := { program := "yticfnngppcmidaa", sum := "de3645ceadfb49e21064d47579d47ca5ca03a1ac690953476719fd437120ab4f", func := "musterfield/mustkeep.HitAny", spec := "hitAny", unfollowed := true, recurses := true, plainKeys := false, apart := false }
def HitAnySaid : Prop := hitAnyRow.holds Try.pinned (OpenSpec.ofChange hitAnySpec)

/-- ITS FALSE NEIGHBOUR: 'it returns false'. Refute it at one input. -/
def hitAnyWrong : ChangeSpec := { name := "hitAny", fn := fun _ => fun
  | [d1, d2] => { results := [.lit (.bool false)], args := [d1, d2] }
  | _ => none }
def HitAnyWrongFalsely : Prop := hitAnyRow.holds Try.pinned (OpenSpec.ofChange hitAnyWrong)

/-- 'mustkeep.HitRight': WHATEVER THE INPUT: true; the input reads as it did. -/
def hitRightSpec : ChangeSpec := { name := "hitRight", fn := fun _ => fun
  | [d1, d2] => { results := [.lit (.bool true)], args := [d1, d2] }
  | _ => none }
def hitRightRow : OpenClaim := { program := "yticfnngppcmidaa", sum := "de3645ceadfb49e21064d47579d47ca5ca03a1ac690953476719fd437120ab4f", func := "musterfield/mustkeep.HitRight", spec := "hitRight", unfollowed := true, recurses := true, plainKeys := false, apart := false }
def HitRightSaid : Prop := hitRightRow.holds Try.pinned (OpenSpec.ofChange hitRightSpec)

/-- ITS FALSE NEIGHBOUR: 'it returns false'. Refute it at one input. -/
def hitRightWrong : ChangeSpec := { name := "hitRight", fn := fun _ => fun
  | [d1, d2] => { results := [.lit (.bool false)], args := [d1, d2] }
  | _ => none }
def HitRightWrongFalsely : Prop := hitRightRow.holds Try.pinned (OpenSpec.ofChange hitRightWrong)

/-- 'mustkeep.SightBoth': WHATEVER THE INPUT: true; the input reads as it did. -/
def sightBothSpec : ChangeSpec := { name := "sightBoth", fn := fun _ => fun
  | [d1, d2, d3] => { results := [.lit (.bool true)], args := [d1, d2, d3] }
  | _ => none }
def sightBothRow : OpenClaim := { program := "yticfnngppcmidaa", sum := "de3645ceadfb49e21064d47579d47ca5ca03a1ac690953476719fd437120ab4f", func := "musterfield/mustkeep.SightBoth", spec := "sightBoth", inPlace := ["internal/bytealg.IndexByteString", "internal/bytealg.CountString", "internal/bytealg.IndexString"], unfollowed := true, recurses := true, named := ["internal/bytealg.MaxLen"], plainKeys := false, apart := false }
def SightBothSaid : Prop := sightBothRow.holds Try.pinned (OpenSpec.ofChange sightBothSpec)

/-- ITS FALSE NEIGHBOUR: 'it returns false'. Refute it at one input. -/
def sightBothWrong : ChangeSpec := { name := "sightBoth", fn := fun _ => fun
  | [d1, d2, d3] => { results := [.lit (.bool false)], args := [d1, d2, d3] }
  | _ => none }
def SightBothWrongFalsely : Prop := sightBothRow.holds Try.pinned (OpenSpec.ofChange sightBothWrong)

/-- 'mustkeep.SightOpen': WHATEVER THE INPUT: true; the input reads as it did. -/
def sightOpenSpec : ChangeSpec := { name := "sightOpen", fn := fun _ => fun
  | [d1, d2, d3] => { results := [.lit (.bool true)], args := [d1, d2, d3] }
  | _ => none }
def sightOpenRow : OpenClaim := { program := "yticfnngppcmidaa", sum := "de3645ceadfb49e21064d47579d47ca5ca03a1ac690953476719fd437120ab4f", func := "musterfield/mustkeep.SightOpen", spec := "sightOpen", inPlace := ["internal/bytealg.IndexByteString", "internal/bytealg.CountString", "internal/bytealg.IndexString"], unfollowed := true, recurses := true, named := ["internal/bytealg.MaxLen"], plainKeys := false, apart := false }
def SightOpenSaid : Prop := sightOpenRow.holds Try.pinned (OpenSpec.ofChange sightOpenSpec)

/-- ITS FALSE NEIGHBOUR: 'it returns false'. Refute it at one input. -/
def sightOpenWrong : ChangeSpec := { name := "sightOpen", fn := fun _ => fun
  | [d1, d2, d3] => { results := [.lit (.bool false)], args := [d1, d2, d3] }
  | _ => none }
def SightOpenWrongFalsely : Prop := sightOpenRow.holds Try.pinned (OpenSpec.ofChange sightOpenWrong)

/-- 'mustkeep.SightMore': WHATEVER THE INPUT: true; the input reads as it did. -/
def sightMoreSpec : ChangeSpec := { name := "sightMore", fn := fun _ => fun
  | [d1, d2, d3, d4, d5] => { results := [.lit (.bool true)], args := [d1, d2, d3, d4, d5] }
  | _ => none }
def sightMoreRow : OpenClaim := { program := "yticfnngppcmidaa", sum := "de3645ceadfb49e21064d47579d47ca5ca03a1ac690953476719fd437120ab4f", func := "musterfield/mustkeep.SightMore", spec := "sightMore", inPlace := ["internal/bytealg.IndexByteString", "internal/bytealg.CountString", "internal/bytealg.IndexString"], unfollowed := true, recurses := true, named := ["internal/bytealg.MaxLen"], plainKeys := false, apart := false }
def SightMoreSaid : Prop := sightMoreRow.holds Try.pinned (OpenSpec.ofChange sightMoreSpec)

/-- ITS FALSE NEIGHBOUR: 'it returns false'. Refute it at one input. -/
def sightMoreWrong : ChangeSpec := { name := "sightMore", fn := fun _ => fun
  | [d1, d2, d3, d4, d5] => { results := [.lit (.bool false)], args := [d1, d2, d3, d4, d5] }
  | _ => none }
def SightMoreWrongFalsely : Prop := sightMoreRow.holds Try.pinned (OpenSpec.ofChange sightMoreWrong)

/- THE SECOND FORM. 'bulk': how many values and letters a reading holds, each counted each time it is reached (what is shared counts as often as it is met; a slice's spare places count too). A statement '..UptoSaid' is the law's where the arguments, and the package variables that the reading takes, are together of bulk at most 1048576: NARROWER than '..Said'. Prove '..Said' where nothing that the law and all that it calls make is longer than what came in: it says more and counts as full. Else prove '..UptoSaid'. A law counts once. -/
mutual
def uptoBulk {H : Type} : DataW H → Nat
  | .lit (.string bytes) => bytes.length + 1
  | .lit _ => 1
  | .nil => 1
  | .ptr d => uptoBulk d + 1
  | .slice elems spare => uptoBulkAll elems + uptoBulkAll spare + 1
  | .agg parts => uptoBulkAll parts + 1
  | .iface _ d => uptoBulk d + 1
  | .map entries => uptoBulkEntries entries + 1
  | .held _ => 1
def uptoBulkAll {H : Type} : List (DataW H) → Nat
  | [] => 0
  | d :: r => uptoBulk d + uptoBulkAll r
def uptoBulkEntries {H : Type} : List (Lit × DataW H) → Nat
  | [] => 0
  | x :: r => uptoBulkEntry x + uptoBulkEntries r
def uptoBulkEntry {H : Type} : Lit × DataW H → Nat
  | (.string bytes, d) => bytes.length + uptoBulk d + 1
  | (_, d) => uptoBulk d + 1
 end
def uptoSmall : (H : Type) → List (DataW H) → Bool := fun _ ds => decide (uptoBulkAll ds ≤ 1048576)
def OpenSpec.upto (s : _root_.Go.ChangeSpec) : _root_.Go.OpenSpec := { _root_.Go.OpenSpec.ofChange s with cond := some uptoSmall }

/-- 'mustkeep.GoodsRight', WHERE WHAT IT READS IS OF BULK AT MOST 1048576: true; the input reads as it did. -/
def goodsRightUptoRow : OpenClaim := { program := "yticfnngppcmidaa", sum := "de3645ceadfb49e21064d47579d47ca5ca03a1ac690953476719fd437120ab4f", func := "musterfield/mustkeep.GoodsRight", spec := "goodsRight", unfollowed := true, recurses := true, plainKeys := false, apart := false, narrowed := true }
def GoodsRightUptoSaid : Prop := goodsRightUptoRow.holds Try.pinned (OpenSpec.upto goodsRightSpec)

/-- 'mustkeep.GoodsCuts', WHERE WHAT IT READS IS OF BULK AT MOST 1048576: true; the input reads as it did. -/
def goodsCutsUptoRow : OpenClaim := { program := "yticfnngppcmidaa", sum := "de3645ceadfb49e21064d47579d47ca5ca03a1ac690953476719fd437120ab4f", func := "musterfield/mustkeep.GoodsCuts", spec := "goodsCuts", unfollowed := true, recurses := true, plainKeys := false, apart := false, narrowed := true }
def GoodsCutsUptoSaid : Prop := goodsCutsUptoRow.holds Try.pinned (OpenSpec.upto goodsCutsSpec)

/-- 'mustkeep.GoodsRound', WHERE WHAT IT READS IS OF BULK AT MOST 1048576: true; the input reads as it did. -/
def goodsRoundUptoRow : OpenClaim := { program := "yticfnngppcmidaa", sum := "de3645ceadfb49e21064d47579d47ca5ca03a1ac690953476719fd437120ab4f", func := "musterfield/mustkeep.GoodsRound", spec := "goodsRound", unfollowed := true, recurses := true, plainKeys := false, apart := false, narrowed := true }
def GoodsRoundUptoSaid : Prop := goodsRoundUptoRow.holds Try.pinned (OpenSpec.upto goodsRoundSpec)

/-- 'mustkeep.GoodsOwn', WHERE WHAT IT READS IS OF BULK AT MOST 1048576: true; the input reads as it did. -/
def goodsOwnUptoRow : OpenClaim := { program := "yticfnngppcmidaa", sum := "de3645ceadfb49e21064d47579d47ca5ca03a1ac690953476719fd437120ab4f", func := "musterfield/mustkeep.GoodsOwn", spec := "goodsOwn", unfollowed := true, recurses := true, plainKeys := false, apart := false, narrowed := true }
def GoodsOwnUptoSaid : Prop := goodsOwnUptoRow.holds Try.pinned (OpenSpec.upto goodsOwnSpec)

/-- 'mustkeep.GoodsKeep', WHERE WHAT IT READS IS OF BULK AT MOST 1048576: true; the input reads as it did. -/
def goodsKeepUptoRow : OpenClaim := { program := "yticfnngppcmidaa", sum := "de3645ceadfb49e21064d47579d47ca5ca03a1ac690953476719fd437120ab4f", func := "musterfield/mustkeep.GoodsKeep", spec := "goodsKeep", unfollowed := true, recurses := true, plainKeys := false, apart := false, narrowed := true }
def GoodsKeepUptoSaid : Prop := goodsKeepUptoRow.holds Try.pinned (OpenSpec.upto goodsKeepSpec)

/-- 'mustkeep.HitFriends', WHERE WHAT IT READS IS OF BULK AT MOST 1048576: true; the input reads as it did. -/
def hitFriendsUptoRow : OpenClaim := { program := "yticfnngppcmidaa", sum := "de3645ceadfb49e21064d47579d47ca5ca03a1ac690953476719fd437120ab4f", func := "musterfield/mustkeep.HitFriends", spec := "hitFriends", unfollowed := true, recurses := true, plainKeys := false, apart := false, narrowed := true }
def HitFriendsUptoSaid : Prop := hitFriendsUptoRow.holds Try.pinned (OpenSpec.upto hitFriendsSpec)

/-- 'mustkeep.HitOwn', WHERE WHAT IT READS IS OF BULK AT MOST 1048576: true; the input reads as it did. -/
def hitOwnUptoRow : OpenClaim := { program := "yticfnngppcmidaa", sum := "de3645ceadfb49e21064d47579d47ca5ca03a1ac690953476719fd437120ab4f", func := "musterfield/mustkeep.HitOwn", spec := "hitOwn", unfollowed := true, recurses := true, plainKeys := false, apart := false, narrowed := true }
def HitOwnUptoSaid : Prop := hitOwnUptoRow.holds Try.pinned (OpenSpec.upto hitOwnSpec)

/-- 'mustkeep.HitAny', WHERE WHAT IT READS IS OF BULK AT MOST 1048576: true; the input reads as it did. -/
def hitAnyUptoRow : OpenClaim := { program := "yticfnngppcmidaa", sum := "de3645ceadfb49e21064d47579d47ca5ca03a1ac690953476719fd437120ab4f", func := "musterfield/mustkeep.HitAny", spec := "hitAny", unfollowed := true, recurses := true, plainKeys := false, apart := false, narrowed := true }
def HitAnyUptoSaid : Prop := hitAnyUptoRow.holds Try.pinned (OpenSpec.upto hitAnySpec)

/-- 'mustkeep.HitRight', WHERE WHAT IT READS IS OF BULK AT MOST 1048576: true; the input reads as it did. -/
def hitRightUptoRow : OpenClaim := { program := "yticfnngppcmidaa", sum := "de3645ceadfb49e21064d47579d47ca5ca03a1ac690953476719fd437120ab4f", func := "musterfield/mustkeep.HitRight", spec := "hitRight", unfollowed := true, recurses := true, plainKeys := false, apart := false, narrowed := true }
def HitRightUptoSaid : Prop := hitRightUptoRow.holds Try.pinned (OpenSpec.upto hitRightSpec)

/-- 'mustkeep.SightBoth', WHERE WHAT IT READS IS OF BULK AT MOST 1048576: true; the input reads as it did. -/
def sightBothUptoRow : OpenClaim := { program := "yticfnngppcmidaa", sum := "de3645ceadfb49e21064d47579d47ca5ca03a1ac690953476719fd437120ab4f", func := "musterfield/mustkeep.SightBoth", spec := "sightBoth", inPlace := ["internal/bytealg.IndexByteString", "internal/bytealg.CountString", "internal/bytealg.IndexString"], unfollowed := true, recurses := true, named := ["internal/bytealg.MaxLen"], plainKeys := false, apart := false, narrowed := true }
def SightBothUptoSaid : Prop := sightBothUptoRow.holds Try.pinned (OpenSpec.upto sightBothSpec)

/-- 'mustkeep.SightOpen', WHERE WHAT IT READS IS OF BULK AT MOST 1048576: true; the input reads as it did. -/
def sightOpenUptoRow : OpenClaim := { program := "yticfnngppcmidaa", sum := "de3645ceadfb49e21064d47579d47ca5ca03a1ac690953476719fd437120ab4f", func := "musterfield/mustkeep.SightOpen", spec := "sightOpen", inPlace := ["internal/bytealg.IndexByteString", "internal/bytealg.CountString", "internal/bytealg.IndexString"], unfollowed := true, recurses := true, named := ["internal/bytealg.MaxLen"], plainKeys := false, apart := false, narrowed := true }
def SightOpenUptoSaid : Prop := sightOpenUptoRow.holds Try.pinned (OpenSpec.upto sightOpenSpec)

/-- 'mustkeep.SightMore', WHERE WHAT IT READS IS OF BULK AT MOST 1048576: true; the input reads as it did. -/
def sightMoreUptoRow : OpenClaim := { program := "yticfnngppcmidaa", sum := "de3645ceadfb49e21064d47579d47ca5ca03a1ac690953476719fd437120ab4f", func := "musterfield/mustkeep.SightMore", spec := "sightMore", inPlace := ["internal/bytealg.IndexByteString", "internal/bytealg.CountString", "internal/bytealg.IndexString"], unfollowed := true, recurses := true, named := ["internal/bytealg.MaxLen"], plainKeys := false, apart := false, narrowed := true }
def SightMoreUptoSaid : Prop := sightMoreUptoRow.holds Try.pinned (OpenSpec.upto sightMoreSpec)

end Rows
end Go.Proofs.Yticfnngppcmidaa
