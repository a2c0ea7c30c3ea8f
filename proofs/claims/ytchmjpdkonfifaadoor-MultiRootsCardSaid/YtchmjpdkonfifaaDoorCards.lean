/-
  DERIVED. GIVEN WITH THE SEED: THE CARDS: each row of YtchmjpdkonfifaaDoorRows.lean that lists a variable, with what it lists TIED to the program's text (the seventh form; the later family's looks); each row that meets fmt, with fmt's text TOLD by the authors' own Lean function (tested against real Go, not proved from fmt's source: count such statements apart). THE CARD IS WHAT COUNTS. Prove the row's statement (the work); the ties are given (YtchmjpdkonfifaaDoorTie.lean); close each card by the builder's one call (the guide's Derived/Test/ToyasCard.lean, 'card_holds'). Laid BY PROGRAM, IN A SANDBOX (cutbox-door.mjs). By AI agents, Wed Nov 11 2026. No macro, syntax, notation, axiom, sorry.
-/
import Derived.Test.YtchmjpdkonfifaaDoorRows
import GoSem.ClaimSeven
namespace Go.Proofs.YtchmjpdkonfifaaDoor
namespace Rows

/-- THE TIED CARD OF 'sponsionlaw19.OutboxProofs'. -/
def outboxProofsCard : Claim7 := { stood := { row := outboxProofsRow, standIns := [], harness := (true, "9e0b5bf87786043636c169dc8262f46b80a1f55696c86e213305d79c915a10c4"), looks := false }, kinds := [], alts := [], laidByText := true, laidKinds := [.data, .data, .data], laidTests := true, laidLooks := .later }
def OutboxProofsCardSaid : Prop := Claim7.holds Tryd.pinned (.plain (OpenSpec.ofChange outboxProofsSpec)) outboxProofsCard

/-- THE TIED CARD OF 'sponsionlaw19.OutboxPlays'. -/
def outboxPlaysCard : Claim7 := { stood := { row := outboxPlaysRow, standIns := [], harness := (true, "9e0b5bf87786043636c169dc8262f46b80a1f55696c86e213305d79c915a10c4"), looks := false }, kinds := [], alts := [], laidByText := true, laidKinds := [.data, .data], laidTests := true, laidLooks := .later }
def OutboxPlaysCardSaid : Prop := Claim7.holds Tryd.pinned (.plain (OpenSpec.ofChange outboxPlaysSpec)) outboxPlaysCard

/-- THE TIED CARD OF 'sponsionlaw19.OutboxStays'. -/
def outboxStaysCard : Claim7 := { stood := { row := outboxStaysRow, standIns := [], harness := (true, "9e0b5bf87786043636c169dc8262f46b80a1f55696c86e213305d79c915a10c4"), looks := false }, kinds := [], alts := [], laidByText := true, laidKinds := [.data, .data], laidTests := true, laidLooks := .later }
def OutboxStaysCardSaid : Prop := Claim7.holds Tryd.pinned (.plain (OpenSpec.ofChange outboxStaysSpec)) outboxStaysCard

/-- THE TIED CARD OF 'sponsionlaw33.MultiMakes'. -/
def multiMakesCard : Claim7 := { stood := { row := multiMakesRow, standIns := [], harness := (true, "9e0b5bf87786043636c169dc8262f46b80a1f55696c86e213305d79c915a10c4"), looks := false }, kinds := [], alts := [], laidByText := true, laidKinds := [.data, .data, .data], laidTests := true, laidLooks := .later }
def MultiMakesCardSaid : Prop := Claim7.holds Tryd.pinned (.plain (OpenSpec.ofChange multiMakesSpec)) multiMakesCard

/-- THE TIED CARD OF 'sponsionlaw33.MultiNeeds'. -/
def multiNeedsCard : Claim7 := { stood := { row := multiNeedsRow, standIns := [], harness := (true, "9e0b5bf87786043636c169dc8262f46b80a1f55696c86e213305d79c915a10c4"), looks := false }, kinds := [], alts := [], laidByText := true, laidKinds := [.data, .data], laidTests := true, laidLooks := .later }
def MultiNeedsCardSaid : Prop := Claim7.holds Tryd.pinned (.plain (OpenSpec.ofChange multiNeedsSpec)) multiNeedsCard

/-- THE TIED CARD OF 'sponsionlaw33.MultiRoots'. -/
def multiRootsCard : Claim7 := { stood := { row := multiRootsRow, standIns := [], harness := (true, "9e0b5bf87786043636c169dc8262f46b80a1f55696c86e213305d79c915a10c4"), looks := false }, kinds := [], alts := [], laidByText := true, laidKinds := [.data, .data, .data], laidTests := true, laidLooks := .later }
def MultiRootsCardSaid : Prop := Claim7.holds Tryd.pinned (.plain (OpenSpec.ofChange multiRootsSpec)) multiRootsCard

/-- THE TIED CARD OF 'sponsionlaw33.MultiStands'. -/
def multiStandsCard : Claim7 := { stood := { row := multiStandsRow, standIns := [], harness := (true, "9e0b5bf87786043636c169dc8262f46b80a1f55696c86e213305d79c915a10c4"), looks := false }, kinds := [], alts := [], laidByText := true, laidKinds := [.data, .data], laidTests := true, laidLooks := .later }
def MultiStandsCardSaid : Prop := Claim7.holds Tryd.pinned (.plain (OpenSpec.ofChange multiStandsSpec)) multiStandsCard

/-- THE SECOND FORM's CARD OF 'sponsionlaw19.OutboxProofs'. -/
def outboxProofsUptoCard : Claim7 := { stood := { row := outboxProofsUptoRow, standIns := [], harness := (true, "9e0b5bf87786043636c169dc8262f46b80a1f55696c86e213305d79c915a10c4"), looks := false }, kinds := [], alts := [], laidByText := true, laidKinds := [.data, .data, .data], laidTests := true, laidLooks := .later }
def OutboxProofsUptoCardSaid : Prop := Claim7.holds Tryd.pinned (.plain (OpenSpec.upto outboxProofsSpec)) outboxProofsUptoCard

/-- THE SECOND FORM's CARD OF 'sponsionlaw19.OutboxPlays'. -/
def outboxPlaysUptoCard : Claim7 := { stood := { row := outboxPlaysUptoRow, standIns := [], harness := (true, "9e0b5bf87786043636c169dc8262f46b80a1f55696c86e213305d79c915a10c4"), looks := false }, kinds := [], alts := [], laidByText := true, laidKinds := [.data, .data], laidTests := true, laidLooks := .later }
def OutboxPlaysUptoCardSaid : Prop := Claim7.holds Tryd.pinned (.plain (OpenSpec.upto outboxPlaysSpec)) outboxPlaysUptoCard

/-- THE SECOND FORM's CARD OF 'sponsionlaw19.OutboxStays'. -/
def outboxStaysUptoCard : Claim7 := { stood := { row := outboxStaysUptoRow, standIns := [], harness := (true, "9e0b5bf87786043636c169dc8262f46b80a1f55696c86e213305d79c915a10c4"), looks := false }, kinds := [], alts := [], laidByText := true, laidKinds := [.data, .data], laidTests := true, laidLooks := .later }
def OutboxStaysUptoCardSaid : Prop := Claim7.holds Tryd.pinned (.plain (OpenSpec.upto outboxStaysSpec)) outboxStaysUptoCard

/-- THE SECOND FORM's CARD OF 'sponsionlaw33.MultiMakes'. -/
def multiMakesUptoCard : Claim7 := { stood := { row := multiMakesUptoRow, standIns := [], harness := (true, "9e0b5bf87786043636c169dc8262f46b80a1f55696c86e213305d79c915a10c4"), looks := false }, kinds := [], alts := [], laidByText := true, laidKinds := [.data, .data, .data], laidTests := true, laidLooks := .later }
def MultiMakesUptoCardSaid : Prop := Claim7.holds Tryd.pinned (.plain (OpenSpec.upto multiMakesSpec)) multiMakesUptoCard

/-- THE SECOND FORM's CARD OF 'sponsionlaw33.MultiNeeds'. -/
def multiNeedsUptoCard : Claim7 := { stood := { row := multiNeedsUptoRow, standIns := [], harness := (true, "9e0b5bf87786043636c169dc8262f46b80a1f55696c86e213305d79c915a10c4"), looks := false }, kinds := [], alts := [], laidByText := true, laidKinds := [.data, .data], laidTests := true, laidLooks := .later }
def MultiNeedsUptoCardSaid : Prop := Claim7.holds Tryd.pinned (.plain (OpenSpec.upto multiNeedsSpec)) multiNeedsUptoCard

/-- THE SECOND FORM's CARD OF 'sponsionlaw33.MultiRoots'. -/
def multiRootsUptoCard : Claim7 := { stood := { row := multiRootsUptoRow, standIns := [], harness := (true, "9e0b5bf87786043636c169dc8262f46b80a1f55696c86e213305d79c915a10c4"), looks := false }, kinds := [], alts := [], laidByText := true, laidKinds := [.data, .data, .data], laidTests := true, laidLooks := .later }
def MultiRootsUptoCardSaid : Prop := Claim7.holds Tryd.pinned (.plain (OpenSpec.upto multiRootsSpec)) multiRootsUptoCard

/-- THE SECOND FORM's CARD OF 'sponsionlaw33.MultiStands'. -/
def multiStandsUptoCard : Claim7 := { stood := { row := multiStandsUptoRow, standIns := [], harness := (true, "9e0b5bf87786043636c169dc8262f46b80a1f55696c86e213305d79c915a10c4"), looks := false }, kinds := [], alts := [], laidByText := true, laidKinds := [.data, .data], laidTests := true, laidLooks := .later }
def MultiStandsUptoCardSaid : Prop := Claim7.holds Tryd.pinned (.plain (OpenSpec.upto multiStandsSpec)) multiStandsUptoCard
end Rows
end Go.Proofs.YtchmjpdkonfifaaDoor
