/-
  DERIVED. GIVEN WITH THE SEED: THE CARDS: each row of YtfncnpnjhcaphaaDoorRows.lean that lists a variable, with what it lists TIED to the program's text (the seventh form; the later family's looks); each row that meets fmt, with fmt's text TOLD by the authors' own Lean function (tested against real Go, not proved from fmt's source: count such statements apart). THE CARD IS WHAT COUNTS. Prove the row's statement (the work); the ties are given (YtfncnpnjhcaphaaDoorTie.lean); close each card by the builder's one call (the guide's Derived/Test/ToyasCard.lean, 'card_holds'). Laid BY PROGRAM, IN A SANDBOX (cutbox-door.mjs). By AI agents, Wed Nov 11 2026. No macro, syntax, notation, axiom, sorry.
-/
import Derived.Test.YtfncnpnjhcaphaaDoorRows
import GoSem.ClaimSeven
namespace Go.Proofs.YtfncnpnjhcaphaaDoor
namespace Rows

/-- THE TIED CARD OF 'sponsionlaw05.DigestSums'. -/
def digestSumsCard : Claim7 := { stood := { row := digestSumsRow, standIns := [], harness := (true, "c19dac9a58151e10f82b58d32bf4b470d0bdc38dc978558e1d92d8dd649a165a"), looks := false }, kinds := [], alts := [], laidByText := true, laidKinds := [.data, .data, .data], laidTests := true, laidLooks := .later }
def DigestSumsCardSaid : Prop := Claim7.holds Tryd.pinned (.plain (OpenSpec.ofChange digestSumsSpec)) digestSumsCard

/-- THE TIED CARD OF 'sponsionlaw05.DigestParts'. -/
def digestPartsCard : Claim7 := { stood := { row := digestPartsRow, standIns := [], harness := (true, "c19dac9a58151e10f82b58d32bf4b470d0bdc38dc978558e1d92d8dd649a165a"), looks := false }, kinds := [], alts := [], laidByText := true, laidKinds := [.data, .data], laidTests := true, laidLooks := .later }
def DigestPartsCardSaid : Prop := Claim7.holds Tryd.pinned (.plain (OpenSpec.ofChange digestPartsSpec)) digestPartsCard

/-- THE TIED CARD OF 'sponsionlaw05.DigestLess'. -/
def digestLessCard : Claim7 := { stood := { row := digestLessRow, standIns := [], harness := (true, "c19dac9a58151e10f82b58d32bf4b470d0bdc38dc978558e1d92d8dd649a165a"), looks := false }, kinds := [], alts := [], laidByText := true, laidKinds := [.data, .data], laidTests := true, laidLooks := .later }
def DigestLessCardSaid : Prop := Claim7.holds Tryd.pinned (.plain (OpenSpec.ofChange digestLessSpec)) digestLessCard

/-- THE TIED CARD OF 'sponsionlaw05.DigestHex'. -/
def digestHexCard : Claim7 := { stood := { row := digestHexRow, standIns := [], harness := (true, "c19dac9a58151e10f82b58d32bf4b470d0bdc38dc978558e1d92d8dd649a165a"), looks := false }, kinds := [], alts := [], laidByText := true, laidKinds := [.data, .data], laidTests := true, laidLooks := .later }
def DigestHexCardSaid : Prop := Claim7.holds Tryd.pinned (.plain (OpenSpec.ofChange digestHexSpec)) digestHexCard

/-- THE TIED CARD OF 'sponsionlaw06.DomainTexts'. -/
def domainTextsCard : Claim7 := { stood := { row := domainTextsRow, standIns := [], harness := (true, "c19dac9a58151e10f82b58d32bf4b470d0bdc38dc978558e1d92d8dd649a165a"), looks := false }, kinds := [], alts := [], laidByText := true, laidKinds := [.data, .data, .data], laidTests := true, laidLooks := .later }
def DomainTextsCardSaid : Prop := Claim7.holds Tryd.pinned (.plain (OpenSpec.ofChange domainTextsSpec)) domainTextsCard

/-- THE TIED CARD OF 'sponsionlaw06.DomainTrees'. -/
def domainTreesCard : Claim7 := { stood := { row := domainTreesRow, standIns := [], harness := (true, "c19dac9a58151e10f82b58d32bf4b470d0bdc38dc978558e1d92d8dd649a165a"), looks := false }, kinds := [], alts := [], laidByText := true, laidKinds := [.data, .data, .data], laidTests := true, laidLooks := .later }
def DomainTreesCardSaid : Prop := Claim7.holds Tryd.pinned (.plain (OpenSpec.ofChange domainTreesSpec)) domainTreesCard

/-- THE TIED CARD OF 'sponsionlaw06.DomainEmpty'. -/
def domainEmptyCard : Claim7 := { stood := { row := domainEmptyRow, standIns := [], harness := (true, "c19dac9a58151e10f82b58d32bf4b470d0bdc38dc978558e1d92d8dd649a165a"), looks := false }, kinds := [], alts := [], laidByText := true, laidKinds := [.data, .data, .data], laidTests := true, laidLooks := .later }
def DomainEmptyCardSaid : Prop := Claim7.holds Tryd.pinned (.plain (OpenSpec.ofChange domainEmptySpec)) domainEmptyCard

/-- THE TIED CARD OF 'sponsionlaw07.IntentApart'. -/
def intentApartCard : Claim7 := { stood := { row := intentApartRow, standIns := [], harness := (true, "c19dac9a58151e10f82b58d32bf4b470d0bdc38dc978558e1d92d8dd649a165a"), looks := false }, kinds := [], alts := [], laidByText := true, laidKinds := [.data, .data], laidTests := true, laidLooks := .later }
def IntentApartCardSaid : Prop := Claim7.holds Tryd.pinned (.plain (OpenSpec.ofChange intentApartSpec)) intentApartCard

/-- THE TIED CARD OF 'sponsionlaw07.IntentPuts'. -/
def intentPutsCard : Claim7 := { stood := { row := intentPutsRow, standIns := [], harness := (true, "c19dac9a58151e10f82b58d32bf4b470d0bdc38dc978558e1d92d8dd649a165a"), looks := false }, kinds := [], alts := [], laidByText := true, laidKinds := [.data, .data, .data], laidTests := true, laidLooks := .later }
def IntentPutsCardSaid : Prop := Claim7.holds Tryd.pinned (.plain (OpenSpec.ofChange intentPutsSpec)) intentPutsCard

/-- THE SECOND FORM's CARD OF 'sponsionlaw05.DigestSums'. -/
def digestSumsUptoCard : Claim7 := { stood := { row := digestSumsUptoRow, standIns := [], harness := (true, "c19dac9a58151e10f82b58d32bf4b470d0bdc38dc978558e1d92d8dd649a165a"), looks := false }, kinds := [], alts := [], laidByText := true, laidKinds := [.data, .data, .data], laidTests := true, laidLooks := .later }
def DigestSumsUptoCardSaid : Prop := Claim7.holds Tryd.pinned (.plain (OpenSpec.upto digestSumsSpec)) digestSumsUptoCard

/-- THE SECOND FORM's CARD OF 'sponsionlaw05.DigestParts'. -/
def digestPartsUptoCard : Claim7 := { stood := { row := digestPartsUptoRow, standIns := [], harness := (true, "c19dac9a58151e10f82b58d32bf4b470d0bdc38dc978558e1d92d8dd649a165a"), looks := false }, kinds := [], alts := [], laidByText := true, laidKinds := [.data, .data], laidTests := true, laidLooks := .later }
def DigestPartsUptoCardSaid : Prop := Claim7.holds Tryd.pinned (.plain (OpenSpec.upto digestPartsSpec)) digestPartsUptoCard

/-- THE SECOND FORM's CARD OF 'sponsionlaw05.DigestLess'. -/
def digestLessUptoCard : Claim7 := { stood := { row := digestLessUptoRow, standIns := [], harness := (true, "c19dac9a58151e10f82b58d32bf4b470d0bdc38dc978558e1d92d8dd649a165a"), looks := false }, kinds := [], alts := [], laidByText := true, laidKinds := [.data, .data], laidTests := true, laidLooks := .later }
def DigestLessUptoCardSaid : Prop := Claim7.holds Tryd.pinned (.plain (OpenSpec.upto digestLessSpec)) digestLessUptoCard

/-- THE SECOND FORM's CARD OF 'sponsionlaw05.DigestHex'. -/
def digestHexUptoCard : Claim7 := { stood := { row := digestHexUptoRow, standIns := [], harness := (true, "c19dac9a58151e10f82b58d32bf4b470d0bdc38dc978558e1d92d8dd649a165a"), looks := false }, kinds := [], alts := [], laidByText := true, laidKinds := [.data, .data], laidTests := true, laidLooks := .later }
def DigestHexUptoCardSaid : Prop := Claim7.holds Tryd.pinned (.plain (OpenSpec.upto digestHexSpec)) digestHexUptoCard

/-- THE SECOND FORM's CARD OF 'sponsionlaw06.DomainTexts'. -/
def domainTextsUptoCard : Claim7 := { stood := { row := domainTextsUptoRow, standIns := [], harness := (true, "c19dac9a58151e10f82b58d32bf4b470d0bdc38dc978558e1d92d8dd649a165a"), looks := false }, kinds := [], alts := [], laidByText := true, laidKinds := [.data, .data, .data], laidTests := true, laidLooks := .later }
def DomainTextsUptoCardSaid : Prop := Claim7.holds Tryd.pinned (.plain (OpenSpec.upto domainTextsSpec)) domainTextsUptoCard

/-- THE SECOND FORM's CARD OF 'sponsionlaw06.DomainTrees'. -/
def domainTreesUptoCard : Claim7 := { stood := { row := domainTreesUptoRow, standIns := [], harness := (true, "c19dac9a58151e10f82b58d32bf4b470d0bdc38dc978558e1d92d8dd649a165a"), looks := false }, kinds := [], alts := [], laidByText := true, laidKinds := [.data, .data, .data], laidTests := true, laidLooks := .later }
def DomainTreesUptoCardSaid : Prop := Claim7.holds Tryd.pinned (.plain (OpenSpec.upto domainTreesSpec)) domainTreesUptoCard

/-- THE SECOND FORM's CARD OF 'sponsionlaw06.DomainEmpty'. -/
def domainEmptyUptoCard : Claim7 := { stood := { row := domainEmptyUptoRow, standIns := [], harness := (true, "c19dac9a58151e10f82b58d32bf4b470d0bdc38dc978558e1d92d8dd649a165a"), looks := false }, kinds := [], alts := [], laidByText := true, laidKinds := [.data, .data, .data], laidTests := true, laidLooks := .later }
def DomainEmptyUptoCardSaid : Prop := Claim7.holds Tryd.pinned (.plain (OpenSpec.upto domainEmptySpec)) domainEmptyUptoCard

/-- THE SECOND FORM's CARD OF 'sponsionlaw07.IntentApart'. -/
def intentApartUptoCard : Claim7 := { stood := { row := intentApartUptoRow, standIns := [], harness := (true, "c19dac9a58151e10f82b58d32bf4b470d0bdc38dc978558e1d92d8dd649a165a"), looks := false }, kinds := [], alts := [], laidByText := true, laidKinds := [.data, .data], laidTests := true, laidLooks := .later }
def IntentApartUptoCardSaid : Prop := Claim7.holds Tryd.pinned (.plain (OpenSpec.upto intentApartSpec)) intentApartUptoCard

/-- THE SECOND FORM's CARD OF 'sponsionlaw07.IntentPuts'. -/
def intentPutsUptoCard : Claim7 := { stood := { row := intentPutsUptoRow, standIns := [], harness := (true, "c19dac9a58151e10f82b58d32bf4b470d0bdc38dc978558e1d92d8dd649a165a"), looks := false }, kinds := [], alts := [], laidByText := true, laidKinds := [.data, .data, .data], laidTests := true, laidLooks := .later }
def IntentPutsUptoCardSaid : Prop := Claim7.holds Tryd.pinned (.plain (OpenSpec.upto intentPutsSpec)) intentPutsUptoCard
end Rows
end Go.Proofs.YtfncnpnjhcaphaaDoor
