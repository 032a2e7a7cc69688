/-
  DERIVED. GIVEN WITH THE SEED: THE CARDS: each row of YtlekkicnlddhlaaGreatDoorRows.lean that lists a variable, with what it lists TIED to the program's text (the seventh form; the later family's looks); each row that meets fmt, with fmt's text TOLD by the authors' own Lean function (tested against real Go, not proved from fmt's source: count such statements apart). THE CARD IS WHAT COUNTS. Prove the row's statement (the work); the ties are given (YtlekkicnlddhlaaGreatDoorTie.lean); close each card by the builder's one call (the guide's Derived/Test/ToyasCard.lean, 'card_holds'). Laid BY PROGRAM, IN A SANDBOX (cutbox-door.mjs). By AI agents, Wed Nov 11 2026. No macro, syntax, notation, axiom, sorry.
-/
import Derived.Test.YtlekkicnlddhlaaGreatDoorRows
import GoSem.ClaimSeven
namespace Go.Proofs.YtlekkicnlddhlaaGreatDoor
namespace Rows

/-- THE TIED CARD OF 'pilasterlaw20.PatternCovers'. -/
def patternCoversCard : Claim7 := { stood := { row := patternCoversRow, standIns := [], harness := (true, "affc361a22e59a6840488ffe699382c695285309b234db8674153372a661832f"), looks := true }, kinds := [], alts := [], laidByText := true, laidKinds := [.data, .data, .data, .sentinel, .sentinel, .listed, .data], laidTests := true, laidLooks := .later }
def PatternCoversCardSaid : Prop := Claim7.holds Tryz.pinned (.plain (OpenSpec.ofChange patternCoversSpec)) patternCoversCard

/-- THE TIED CARD OF 'pilasterlaw20.PatternWider'. -/
def patternWiderCard : Claim7 := { stood := { row := patternWiderRow, standIns := [], harness := (true, "affc361a22e59a6840488ffe699382c695285309b234db8674153372a661832f"), looks := true }, kinds := [], alts := [], laidByText := true, laidKinds := [.data, .data, .data, .sentinel, .sentinel, .listed, .data], laidTests := true, laidLooks := .later }
def PatternWiderCardSaid : Prop := Claim7.holds Tryz.pinned (.plain (OpenSpec.ofChange patternWiderSpec)) patternWiderCard

/-- THE SECOND FORM's CARD OF 'pilasterlaw20.PatternCovers'. -/
def patternCoversUptoCard : Claim7 := { stood := { row := patternCoversUptoRow, standIns := [], harness := (true, "affc361a22e59a6840488ffe699382c695285309b234db8674153372a661832f"), looks := true }, kinds := [], alts := [], laidByText := true, laidKinds := [.data, .data, .data, .sentinel, .sentinel, .listed, .data], laidTests := true, laidLooks := .later }
def PatternCoversUptoCardSaid : Prop := Claim7.holds Tryz.pinned (.plain (OpenSpec.upto patternCoversSpec)) patternCoversUptoCard

/-- THE SECOND FORM's CARD OF 'pilasterlaw20.PatternWider'. -/
def patternWiderUptoCard : Claim7 := { stood := { row := patternWiderUptoRow, standIns := [], harness := (true, "affc361a22e59a6840488ffe699382c695285309b234db8674153372a661832f"), looks := true }, kinds := [], alts := [], laidByText := true, laidKinds := [.data, .data, .data, .sentinel, .sentinel, .listed, .data], laidTests := true, laidLooks := .later }
def PatternWiderUptoCardSaid : Prop := Claim7.holds Tryz.pinned (.plain (OpenSpec.upto patternWiderSpec)) patternWiderUptoCard
end Rows
end Go.Proofs.YtlekkicnlddhlaaGreatDoor
