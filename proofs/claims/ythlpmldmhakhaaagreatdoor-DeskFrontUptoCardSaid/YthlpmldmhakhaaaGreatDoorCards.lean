/-
  DERIVED. GIVEN WITH THE SEED: THE CARDS: each row of YthlpmldmhakhaaaGreatDoorRows.lean that lists a variable, with what it lists TIED to the program's text (the seventh form; the later family's looks); each row that meets fmt, with fmt's text TOLD by the authors' own Lean function (tested against real Go, not proved from fmt's source: count such statements apart). THE CARD IS WHAT COUNTS. Prove the row's statement (the work); the ties are given (YthlpmldmhakhaaaGreatDoorTie.lean); close each card by the builder's one call (the guide's Derived/Test/ToyasCard.lean, 'card_holds'). Laid BY PROGRAM, IN A SANDBOX (cutbox-door.mjs). By AI agents, Wed Nov 11 2026. No macro, syntax, notation, axiom, sorry.
-/
import Derived.Test.YthlpmldmhakhaaaGreatDoorRows
import GoSem.ClaimSeven
namespace Go.Proofs.YthlpmldmhakhaaaGreatDoor
namespace Rows

/-- THE TIED CARD OF 'mustkeep.DeskAsks'. -/
def deskAsksCard : Claim7 := { stood := { row := deskAsksRow, standIns := [], harness := (true, "546209115db2a9d4cccb211eddffaf62f373e17eb4387882e8d51a496451426a"), looks := true }, kinds := [], alts := [], laidByText := true, laidKinds := [.data, .data, .data, .data, .sentinel, .sentinel, .pinned], laidTests := true, laidLooks := .later }
def DeskAsksCardSaid : Prop := Claim7.holds Tryz.pinned (.plain (OpenSpec.ofChange deskAsksSpec)) deskAsksCard

/-- THE TIED CARD OF 'mustkeep.DeskFront'. -/
def deskFrontCard : Claim7 := { stood := { row := deskFrontRow, standIns := [], harness := (true, "546209115db2a9d4cccb211eddffaf62f373e17eb4387882e8d51a496451426a"), looks := true }, kinds := [], alts := [], laidByText := true, laidKinds := [.data, .data, .data, .data, .sentinel, .sentinel, .pinned], laidTests := true, laidLooks := .later }
def DeskFrontCardSaid : Prop := Claim7.holds Tryz.pinned (.plain (OpenSpec.ofChange deskFrontSpec)) deskFrontCard

/-- THE TIED CARD OF 'mustkeep.DeskCounts'. -/
def deskCountsCard : Claim7 := { stood := { row := deskCountsRow, standIns := [], harness := (true, "546209115db2a9d4cccb211eddffaf62f373e17eb4387882e8d51a496451426a"), looks := true }, kinds := [], alts := [], laidByText := true, laidKinds := [.data, .data, .data, .data, .sentinel, .sentinel, .pinned], laidTests := true, laidLooks := .later }
def DeskCountsCardSaid : Prop := Claim7.holds Tryz.pinned (.plain (OpenSpec.ofChange deskCountsSpec)) deskCountsCard

/-- THE SECOND FORM's CARD OF 'mustkeep.DeskAsks'. -/
def deskAsksUptoCard : Claim7 := { stood := { row := deskAsksUptoRow, standIns := [], harness := (true, "546209115db2a9d4cccb211eddffaf62f373e17eb4387882e8d51a496451426a"), looks := true }, kinds := [], alts := [], laidByText := true, laidKinds := [.data, .data, .data, .data, .sentinel, .sentinel, .pinned], laidTests := true, laidLooks := .later }
def DeskAsksUptoCardSaid : Prop := Claim7.holds Tryz.pinned (.plain (OpenSpec.upto deskAsksSpec)) deskAsksUptoCard

/-- THE SECOND FORM's CARD OF 'mustkeep.DeskFront'. -/
def deskFrontUptoCard : Claim7 := { stood := { row := deskFrontUptoRow, standIns := [], harness := (true, "546209115db2a9d4cccb211eddffaf62f373e17eb4387882e8d51a496451426a"), looks := true }, kinds := [], alts := [], laidByText := true, laidKinds := [.data, .data, .data, .data, .sentinel, .sentinel, .pinned], laidTests := true, laidLooks := .later }
def DeskFrontUptoCardSaid : Prop := Claim7.holds Tryz.pinned (.plain (OpenSpec.upto deskFrontSpec)) deskFrontUptoCard

/-- THE SECOND FORM's CARD OF 'mustkeep.DeskCounts'. -/
def deskCountsUptoCard : Claim7 := { stood := { row := deskCountsUptoRow, standIns := [], harness := (true, "546209115db2a9d4cccb211eddffaf62f373e17eb4387882e8d51a496451426a"), looks := true }, kinds := [], alts := [], laidByText := true, laidKinds := [.data, .data, .data, .data, .sentinel, .sentinel, .pinned], laidTests := true, laidLooks := .later }
def DeskCountsUptoCardSaid : Prop := Claim7.holds Tryz.pinned (.plain (OpenSpec.upto deskCountsSpec)) deskCountsUptoCard
end Rows
end Go.Proofs.YthlpmldmhakhaaaGreatDoor
