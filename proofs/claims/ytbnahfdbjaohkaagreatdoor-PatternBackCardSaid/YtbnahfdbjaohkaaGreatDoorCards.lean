/-
  DERIVED. GIVEN WITH THE SEED: THE CARDS: each row of YtbnahfdbjaohkaaGreatDoorRows.lean that lists a variable, with what it lists TIED to the program's text (the seventh form; the later family's looks); each row that meets fmt, with fmt's text TOLD by the authors' own Lean function (tested against real Go, not proved from fmt's source: count such statements apart). THE CARD IS WHAT COUNTS. Prove the row's statement (the work); the ties are given (YtbnahfdbjaohkaaGreatDoorTie.lean); close each card by the builder's one call (the guide's Derived/Test/ToyasCard.lean, 'card_holds'). Laid BY PROGRAM, IN A SANDBOX (cutbox-door.mjs). By AI agents, Wed Nov 11 2026. No macro, syntax, notation, axiom, sorry.
-/
import Derived.Test.YtbnahfdbjaohkaaGreatDoorRows
import GoSem.ClaimSeven
namespace Go.Proofs.YtbnahfdbjaohkaaGreatDoor
namespace Rows

/-- THE TIED CARD OF 'pilasterlaw20.PatternBack'. -/
def patternBackCard : Claim7 := { stood := { row := patternBackRow, standIns := [], harness := (true, "de7421725644ab2fc1f94015f805800284353ab785277e57b824cd0b6ae4dc8b"), looks := true }, kinds := [], alts := [], laidByText := true, laidKinds := [.data, .data, .data, .sentinel, .sentinel, .listed, .data], laidTests := true, laidLooks := .later }
def PatternBackCardSaid : Prop := Claim7.holds Tryz.pinned (.plain (OpenSpec.ofChange patternBackSpec)) patternBackCard

/-- THE SECOND FORM's CARD OF 'pilasterlaw20.PatternBack'. -/
def patternBackUptoCard : Claim7 := { stood := { row := patternBackUptoRow, standIns := [], harness := (true, "de7421725644ab2fc1f94015f805800284353ab785277e57b824cd0b6ae4dc8b"), looks := true }, kinds := [], alts := [], laidByText := true, laidKinds := [.data, .data, .data, .sentinel, .sentinel, .listed, .data], laidTests := true, laidLooks := .later }
def PatternBackUptoCardSaid : Prop := Claim7.holds Tryz.pinned (.plain (OpenSpec.upto patternBackSpec)) patternBackUptoCard
end Rows
end Go.Proofs.YtbnahfdbjaohkaaGreatDoor
