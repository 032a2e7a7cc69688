/-
  DERIVED. GIVEN WITH THE SEED: THE CARDS: each row of YtlhikhaailhoaaaGreatDoorRows.lean that lists a variable, with what it lists TIED to the program's text (the seventh form; the later family's looks); each row that meets fmt, with fmt's text TOLD by the authors' own Lean function (tested against real Go, not proved from fmt's source: count such statements apart). THE CARD IS WHAT COUNTS. Prove the row's statement (the work); the ties are given (YtlhikhaailhoaaaGreatDoorTie.lean); close each card by the builder's one call (the guide's Derived/Test/ToyasCard.lean, 'card_holds'). Laid BY PROGRAM, IN A SANDBOX (cutbox-door.mjs). By AI agents, Wed Nov 11 2026. No macro, syntax, notation, axiom, sorry.
-/
import Derived.Test.YtlhikhaailhoaaaGreatDoorRows
import GoSem.ClaimSeven
namespace Go.Proofs.YtlhikhaailhoaaaGreatDoor
namespace Rows

/-- THE TIED CARD OF 'pilasterlaw06.PrinterTexts'. -/
def printerTextsCard : Claim7 := { stood := { row := printerTextsRow, standIns := [], harness := (true, "a7352b315d3ebca6435f69a31ebddaafc30943c6c2d28f64bb5084bdf9a6a93c"), looks := false }, kinds := [], alts := [], laidByText := true, laidKinds := [.data, .data, .data, .listed, .data], laidTests := true, laidLooks := .later }
def PrinterTextsCardSaid : Prop := Claim7.holds Tryz.pinned (.plain (OpenSpec.ofChange printerTextsSpec)) printerTextsCard

/-- THE TIED CARD OF 'pilasterlaw06.PrinterUnits'. -/
def printerUnitsCard : Claim7 := { stood := { row := printerUnitsRow, standIns := [], harness := (true, "a7352b315d3ebca6435f69a31ebddaafc30943c6c2d28f64bb5084bdf9a6a93c"), looks := false }, kinds := [], alts := [], laidByText := true, laidKinds := [.data, .data, .data, .listed, .data], laidTests := true, laidLooks := .later }
def PrinterUnitsCardSaid : Prop := Claim7.holds Tryz.pinned (.plain (OpenSpec.ofChange printerUnitsSpec)) printerUnitsCard

/-- THE SECOND FORM's CARD OF 'pilasterlaw06.PrinterTexts'. -/
def printerTextsUptoCard : Claim7 := { stood := { row := printerTextsUptoRow, standIns := [], harness := (true, "a7352b315d3ebca6435f69a31ebddaafc30943c6c2d28f64bb5084bdf9a6a93c"), looks := false }, kinds := [], alts := [], laidByText := true, laidKinds := [.data, .data, .data, .listed, .data], laidTests := true, laidLooks := .later }
def PrinterTextsUptoCardSaid : Prop := Claim7.holds Tryz.pinned (.plain (OpenSpec.upto printerTextsSpec)) printerTextsUptoCard

/-- THE SECOND FORM's CARD OF 'pilasterlaw06.PrinterUnits'. -/
def printerUnitsUptoCard : Claim7 := { stood := { row := printerUnitsUptoRow, standIns := [], harness := (true, "a7352b315d3ebca6435f69a31ebddaafc30943c6c2d28f64bb5084bdf9a6a93c"), looks := false }, kinds := [], alts := [], laidByText := true, laidKinds := [.data, .data, .data, .listed, .data], laidTests := true, laidLooks := .later }
def PrinterUnitsUptoCardSaid : Prop := Claim7.holds Tryz.pinned (.plain (OpenSpec.upto printerUnitsSpec)) printerUnitsUptoCard
end Rows
end Go.Proofs.YtlhikhaailhoaaaGreatDoor
