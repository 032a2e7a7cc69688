/-
  DERIVED. GIVEN WITH THE SEED: THE CARDS: each row of YtencdekdgajgfaaGreatDoorRows.lean that lists a variable, with what it lists TIED to the program's text (the seventh form; the later family's looks); each row that meets fmt, with fmt's text TOLD by the authors' own Lean function (tested against real Go, not proved from fmt's source: count such statements apart). THE CARD IS WHAT COUNTS. Prove the row's statement (the work); the ties are given (YtencdekdgajgfaaGreatDoorTie.lean); close each card by the builder's one call (the guide's Derived/Test/ToyasCard.lean, 'card_holds'). Laid BY PROGRAM, IN A SANDBOX (cutbox-door.mjs). By AI agents, Wed Nov 11 2026. No macro, syntax, notation, axiom, sorry.
-/
import Derived.Test.YtencdekdgajgfaaGreatDoorRows
import GoSem.ClaimSeven
namespace Go.Proofs.YtencdekdgajgfaaGreatDoor
namespace Rows

/-- THE TIED CARD OF 'pilasterlaw20.PatternTypes'. -/
def patternTypesCard : Claim7 := { stood := { row := patternTypesRow, standIns := [], harness := (true, "361b0a8ed1a2c245488225255cdb83136aff443747e6d265f594981ef008961d"), looks := true }, kinds := [], alts := [], laidByText := true, laidKinds := [.data, .data, .data, .sentinel, .sentinel, .listed, .data], laidTests := true, laidLooks := .later }
def PatternTypesCardSaid : Prop := Claim7.holds Tryz.pinned (.plain (OpenSpec.ofChange patternTypesSpec)) patternTypesCard

/-- THE TIED CARD OF 'pilasterlaw20.PatternWider'. -/
def patternWiderCard : Claim7 := { stood := { row := patternWiderRow, standIns := [], harness := (true, "361b0a8ed1a2c245488225255cdb83136aff443747e6d265f594981ef008961d"), looks := true }, kinds := [], alts := [], laidByText := true, laidKinds := [.data, .data, .data, .sentinel, .sentinel, .listed, .data], laidTests := true, laidLooks := .later }
def PatternWiderCardSaid : Prop := Claim7.holds Tryz.pinned (.plain (OpenSpec.ofChange patternWiderSpec)) patternWiderCard

/-- THE SECOND FORM's CARD OF 'pilasterlaw20.PatternTypes'. -/
def patternTypesUptoCard : Claim7 := { stood := { row := patternTypesUptoRow, standIns := [], harness := (true, "361b0a8ed1a2c245488225255cdb83136aff443747e6d265f594981ef008961d"), looks := true }, kinds := [], alts := [], laidByText := true, laidKinds := [.data, .data, .data, .sentinel, .sentinel, .listed, .data], laidTests := true, laidLooks := .later }
def PatternTypesUptoCardSaid : Prop := Claim7.holds Tryz.pinned (.plain (OpenSpec.upto patternTypesSpec)) patternTypesUptoCard

/-- THE SECOND FORM's CARD OF 'pilasterlaw20.PatternWider'. -/
def patternWiderUptoCard : Claim7 := { stood := { row := patternWiderUptoRow, standIns := [], harness := (true, "361b0a8ed1a2c245488225255cdb83136aff443747e6d265f594981ef008961d"), looks := true }, kinds := [], alts := [], laidByText := true, laidKinds := [.data, .data, .data, .sentinel, .sentinel, .listed, .data], laidTests := true, laidLooks := .later }
def PatternWiderUptoCardSaid : Prop := Claim7.holds Tryz.pinned (.plain (OpenSpec.upto patternWiderSpec)) patternWiderUptoCard
end Rows
end Go.Proofs.YtencdekdgajgfaaGreatDoor
