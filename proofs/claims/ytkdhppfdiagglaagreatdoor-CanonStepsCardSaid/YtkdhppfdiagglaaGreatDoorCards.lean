/-
  DERIVED. GIVEN WITH THE SEED: THE CARDS: each row of YtkdhppfdiagglaaGreatDoorRows.lean that lists a variable, with what it lists TIED to the program's text (the seventh form; the later family's looks); each row that meets fmt, with fmt's text TOLD by the authors' own Lean function (tested against real Go, not proved from fmt's source: count such statements apart). THE CARD IS WHAT COUNTS. Prove the row's statement (the work); the ties are given (YtkdhppfdiagglaaGreatDoorTie.lean); close each card by the builder's one call (the guide's Derived/Test/ToyasCard.lean, 'card_holds'). Laid BY PROGRAM, IN A SANDBOX (cutbox-door.mjs). By AI agents, Wed Nov 11 2026. No macro, syntax, notation, axiom, sorry.
-/
import Derived.Test.YtkdhppfdiagglaaGreatDoorRows
import GoSem.ClaimSeven
namespace Go.Proofs.YtkdhppfdiagglaaGreatDoor
namespace Rows

/-- THE TIED CARD OF 'pilasterlaw26.CanonSteps'. -/
def canonStepsCard : Claim7 := { stood := { row := canonStepsRow, standIns := [], harness := (true, "b983b4427d8b5f7c5388d4c6912e5e4cadf6911e3e01daa7143a7ba558bc3fd2"), looks := true }, kinds := [], alts := [], laidByText := true, laidKinds := [.data, .data, .data, .sentinel, .sentinel, .listed, .data], laidTests := true, laidLooks := .later }
def CanonStepsCardSaid : Prop := Claim7.holds Tryz.pinned (.plain (OpenSpec.ofChange canonStepsSpec)) canonStepsCard

/-- THE SECOND FORM's CARD OF 'pilasterlaw26.CanonSteps'. -/
def canonStepsUptoCard : Claim7 := { stood := { row := canonStepsUptoRow, standIns := [], harness := (true, "b983b4427d8b5f7c5388d4c6912e5e4cadf6911e3e01daa7143a7ba558bc3fd2"), looks := true }, kinds := [], alts := [], laidByText := true, laidKinds := [.data, .data, .data, .sentinel, .sentinel, .listed, .data], laidTests := true, laidLooks := .later }
def CanonStepsUptoCardSaid : Prop := Claim7.holds Tryz.pinned (.plain (OpenSpec.upto canonStepsSpec)) canonStepsUptoCard
end Rows
end Go.Proofs.YtkdhppfdiagglaaGreatDoor
