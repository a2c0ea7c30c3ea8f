/-
  DERIVED. GIVEN WITH THE SEED: THE CARDS: each row of YtfgikoilgmddhaaDoorRows.lean that lists a variable, with what it lists TIED to the program's text (the seventh form; the later family's looks); each row that meets fmt, with fmt's text TOLD by the authors' own Lean function (tested against real Go, not proved from fmt's source: count such statements apart). THE CARD IS WHAT COUNTS. Prove the row's statement (the work); the ties are given (YtfgikoilgmddhaaDoorTie.lean); close each card by the builder's one call (the guide's Derived/Test/ToyasCard.lean, 'card_holds'). Laid BY PROGRAM, IN A SANDBOX (cutbox-door.mjs). By AI agents, Wed Nov 11 2026. No macro, syntax, notation, axiom, sorry.
-/
import Derived.Test.YtfgikoilgmddhaaDoorRows
import GoSem.ClaimSeven
namespace Go.Proofs.YtfgikoilgmddhaaDoor
namespace Rows

/-- THE TIED CARD OF 'sponsionlaw10.TreeAgain'. -/
def treeAgainCard : Claim7 := { stood := { row := treeAgainRow, standIns := [], harness := (true, "f3a87ac77957fc47a30dda113eac390d7de93072ae818413722cdcb589ec3993"), looks := false }, kinds := [], alts := [], laidByText := true, laidKinds := [.data, .data], laidTests := true, laidLooks := .later }
def TreeAgainCardSaid : Prop := Claim7.holds Tryd.pinned (.plain (OpenSpec.ofChange treeAgainSpec)) treeAgainCard

/-- THE TIED CARD OF 'sponsionlaw11.ProofMakes'. -/
def proofMakesCard : Claim7 := { stood := { row := proofMakesRow, standIns := [], harness := (true, "f3a87ac77957fc47a30dda113eac390d7de93072ae818413722cdcb589ec3993"), looks := false }, kinds := [], alts := [], laidByText := true, laidKinds := [.data, .data, .data], laidTests := true, laidLooks := .later }
def ProofMakesCardSaid : Prop := Claim7.holds Tryd.pinned (.plain (OpenSpec.ofChange proofMakesSpec)) proofMakesCard

/-- THE TIED CARD OF 'sponsionlaw10.TreeNodes'. -/
def treeNodesCard : Claim7 := { stood := { row := treeNodesRow, standIns := [], harness := (true, "f3a87ac77957fc47a30dda113eac390d7de93072ae818413722cdcb589ec3993"), looks := false }, kinds := [], alts := [], laidByText := true, laidKinds := [.data, .data, .data], laidTests := true, laidLooks := .later }
def TreeNodesCardSaid : Prop := Claim7.holds Tryd.pinned (.plain (OpenSpec.ofChange treeNodesSpec)) treeNodesCard

/-- THE TIED CARD OF 'sponsionlaw11.ProofOne'. -/
def proofOneCard : Claim7 := { stood := { row := proofOneRow, standIns := [], harness := (true, "f3a87ac77957fc47a30dda113eac390d7de93072ae818413722cdcb589ec3993"), looks := false }, kinds := [], alts := [], laidByText := true, laidKinds := [.data, .data], laidTests := true, laidLooks := .later }
def ProofOneCardSaid : Prop := Claim7.holds Tryd.pinned (.plain (OpenSpec.ofChange proofOneSpec)) proofOneCard

/-- THE TIED CARD OF 'sponsionlaw10.TreePlays'. -/
def treePlaysCard : Claim7 := { stood := { row := treePlaysRow, standIns := [], harness := (true, "f3a87ac77957fc47a30dda113eac390d7de93072ae818413722cdcb589ec3993"), looks := false }, kinds := [], alts := [], laidByText := true, laidKinds := [.data, .data, .data], laidTests := true, laidLooks := .later }
def TreePlaysCardSaid : Prop := Claim7.holds Tryd.pinned (.plain (OpenSpec.ofChange treePlaysSpec)) treePlaysCard

/-- THE TIED CARD OF 'sponsionlaw10.TreeFull'. -/
def treeFullCard : Claim7 := { stood := { row := treeFullRow, standIns := [], harness := (true, "f3a87ac77957fc47a30dda113eac390d7de93072ae818413722cdcb589ec3993"), looks := false }, kinds := [], alts := [], laidByText := true, laidKinds := [.data, .data], laidTests := true, laidLooks := .later }
def TreeFullCardSaid : Prop := Claim7.holds Tryd.pinned (.plain (OpenSpec.ofChange treeFullSpec)) treeFullCard

/-- THE TIED CARD OF 'sponsionlaw11.ProofClimbs'. -/
def proofClimbsCard : Claim7 := { stood := { row := proofClimbsRow, standIns := [], harness := (true, "f3a87ac77957fc47a30dda113eac390d7de93072ae818413722cdcb589ec3993"), looks := false }, kinds := [], alts := [], laidByText := true, laidKinds := [.data, .data, .data], laidTests := true, laidLooks := .later }
def ProofClimbsCardSaid : Prop := Claim7.holds Tryd.pinned (.plain (OpenSpec.ofChange proofClimbsSpec)) proofClimbsCard

/-- THE TIED CARD OF 'sponsionlaw11.ProofStands'. -/
def proofStandsCard : Claim7 := { stood := { row := proofStandsRow, standIns := [], harness := (true, "f3a87ac77957fc47a30dda113eac390d7de93072ae818413722cdcb589ec3993"), looks := false }, kinds := [], alts := [], laidByText := true, laidKinds := [.data, .data], laidTests := true, laidLooks := .later }
def ProofStandsCardSaid : Prop := Claim7.holds Tryd.pinned (.plain (OpenSpec.ofChange proofStandsSpec)) proofStandsCard

/-- THE SECOND FORM's CARD OF 'sponsionlaw10.TreeAgain'. -/
def treeAgainUptoCard : Claim7 := { stood := { row := treeAgainUptoRow, standIns := [], harness := (true, "f3a87ac77957fc47a30dda113eac390d7de93072ae818413722cdcb589ec3993"), looks := false }, kinds := [], alts := [], laidByText := true, laidKinds := [.data, .data], laidTests := true, laidLooks := .later }
def TreeAgainUptoCardSaid : Prop := Claim7.holds Tryd.pinned (.plain (OpenSpec.upto treeAgainSpec)) treeAgainUptoCard

/-- THE SECOND FORM's CARD OF 'sponsionlaw11.ProofMakes'. -/
def proofMakesUptoCard : Claim7 := { stood := { row := proofMakesUptoRow, standIns := [], harness := (true, "f3a87ac77957fc47a30dda113eac390d7de93072ae818413722cdcb589ec3993"), looks := false }, kinds := [], alts := [], laidByText := true, laidKinds := [.data, .data, .data], laidTests := true, laidLooks := .later }
def ProofMakesUptoCardSaid : Prop := Claim7.holds Tryd.pinned (.plain (OpenSpec.upto proofMakesSpec)) proofMakesUptoCard

/-- THE SECOND FORM's CARD OF 'sponsionlaw10.TreeNodes'. -/
def treeNodesUptoCard : Claim7 := { stood := { row := treeNodesUptoRow, standIns := [], harness := (true, "f3a87ac77957fc47a30dda113eac390d7de93072ae818413722cdcb589ec3993"), looks := false }, kinds := [], alts := [], laidByText := true, laidKinds := [.data, .data, .data], laidTests := true, laidLooks := .later }
def TreeNodesUptoCardSaid : Prop := Claim7.holds Tryd.pinned (.plain (OpenSpec.upto treeNodesSpec)) treeNodesUptoCard

/-- THE SECOND FORM's CARD OF 'sponsionlaw11.ProofOne'. -/
def proofOneUptoCard : Claim7 := { stood := { row := proofOneUptoRow, standIns := [], harness := (true, "f3a87ac77957fc47a30dda113eac390d7de93072ae818413722cdcb589ec3993"), looks := false }, kinds := [], alts := [], laidByText := true, laidKinds := [.data, .data], laidTests := true, laidLooks := .later }
def ProofOneUptoCardSaid : Prop := Claim7.holds Tryd.pinned (.plain (OpenSpec.upto proofOneSpec)) proofOneUptoCard

/-- THE SECOND FORM's CARD OF 'sponsionlaw10.TreePlays'. -/
def treePlaysUptoCard : Claim7 := { stood := { row := treePlaysUptoRow, standIns := [], harness := (true, "f3a87ac77957fc47a30dda113eac390d7de93072ae818413722cdcb589ec3993"), looks := false }, kinds := [], alts := [], laidByText := true, laidKinds := [.data, .data, .data], laidTests := true, laidLooks := .later }
def TreePlaysUptoCardSaid : Prop := Claim7.holds Tryd.pinned (.plain (OpenSpec.upto treePlaysSpec)) treePlaysUptoCard

/-- THE SECOND FORM's CARD OF 'sponsionlaw10.TreeFull'. -/
def treeFullUptoCard : Claim7 := { stood := { row := treeFullUptoRow, standIns := [], harness := (true, "f3a87ac77957fc47a30dda113eac390d7de93072ae818413722cdcb589ec3993"), looks := false }, kinds := [], alts := [], laidByText := true, laidKinds := [.data, .data], laidTests := true, laidLooks := .later }
def TreeFullUptoCardSaid : Prop := Claim7.holds Tryd.pinned (.plain (OpenSpec.upto treeFullSpec)) treeFullUptoCard

/-- THE SECOND FORM's CARD OF 'sponsionlaw11.ProofClimbs'. -/
def proofClimbsUptoCard : Claim7 := { stood := { row := proofClimbsUptoRow, standIns := [], harness := (true, "f3a87ac77957fc47a30dda113eac390d7de93072ae818413722cdcb589ec3993"), looks := false }, kinds := [], alts := [], laidByText := true, laidKinds := [.data, .data, .data], laidTests := true, laidLooks := .later }
def ProofClimbsUptoCardSaid : Prop := Claim7.holds Tryd.pinned (.plain (OpenSpec.upto proofClimbsSpec)) proofClimbsUptoCard

/-- THE SECOND FORM's CARD OF 'sponsionlaw11.ProofStands'. -/
def proofStandsUptoCard : Claim7 := { stood := { row := proofStandsUptoRow, standIns := [], harness := (true, "f3a87ac77957fc47a30dda113eac390d7de93072ae818413722cdcb589ec3993"), looks := false }, kinds := [], alts := [], laidByText := true, laidKinds := [.data, .data], laidTests := true, laidLooks := .later }
def ProofStandsUptoCardSaid : Prop := Claim7.holds Tryd.pinned (.plain (OpenSpec.upto proofStandsSpec)) proofStandsUptoCard
end Rows
end Go.Proofs.YtfgikoilgmddhaaDoor
