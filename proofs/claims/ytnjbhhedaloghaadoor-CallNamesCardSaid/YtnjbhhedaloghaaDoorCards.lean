/-
  DERIVED. GIVEN WITH THE SEED: THE CARDS: each row of YtnjbhhedaloghaaDoorRows.lean that lists a variable, with what it lists TIED to the program's text (the seventh form; the later family's looks); each row that meets fmt, with fmt's text TOLD by the authors' own Lean function (tested against real Go, not proved from fmt's source: count such statements apart). THE CARD IS WHAT COUNTS. Prove the row's statement (the work); the ties are given (YtnjbhhedaloghaaDoorTie.lean); close each card by the builder's one call (the guide's Derived/Test/ToyasCard.lean, 'card_holds'). Laid BY PROGRAM, IN A SANDBOX (cutbox-door.mjs). By AI agents, Wed Nov 11 2026. No macro, syntax, notation, axiom, sorry.
-/
import Derived.Test.YtnjbhhedaloghaaDoorRows
import GoSem.ClaimSeven
namespace Go.Proofs.YtnjbhhedaloghaaDoor
namespace Rows

/-- THE TIED CARD OF 'sponsionlaw08.CallNames'. -/
def callNamesCard : Claim7 := { stood := { row := callNamesRow, standIns := [], harness := (true, "081f7871a5795c9e51dd833db5bb2cf0314ccd4c496a05af57b8e6a2ea902521"), looks := false }, kinds := [], alts := [], laidByText := true, laidKinds := [.widerDeep, .data], laidTests := true, laidLooks := .later }
def CallNamesCardSaid : Prop := Claim7.holds Tryd.pinned (.plain (OpenSpec.ofChange callNamesSpec)) callNamesCard

/-- THE SECOND FORM's CARD OF 'sponsionlaw08.CallNames'. -/
def callNamesUptoCard : Claim7 := { stood := { row := callNamesUptoRow, standIns := [], harness := (true, "081f7871a5795c9e51dd833db5bb2cf0314ccd4c496a05af57b8e6a2ea902521"), looks := false }, kinds := [], alts := [], laidByText := true, laidKinds := [.widerDeep, .data], laidTests := true, laidLooks := .later }
def CallNamesUptoCardSaid : Prop := Claim7.holds Tryd.pinned (.plain (OpenSpec.upto callNamesSpec)) callNamesUptoCard
end Rows
end Go.Proofs.YtnjbhhedaloghaaDoor
