/-
  DERIVED. GIVEN WITH THE SEED: THE CARDS: each row of YtlhikhaailhoaaaDoorRows.lean that lists a variable, with what it lists TIED to the program's text (the seventh form; the later family's looks); each row that meets fmt, with fmt's text TOLD by the authors' own Lean function (tested against real Go, not proved from fmt's source: count such statements apart). THE CARD IS WHAT COUNTS. Prove the row's statement (the work); the ties are given (YtlhikhaailhoaaaDoorTie.lean); close each card by the builder's one call (the guide's Derived/Test/ToyasCard.lean, 'card_holds'). Laid BY PROGRAM, IN A SANDBOX (cutbox-door.mjs). By AI agents, Wed Nov 11 2026. No macro, syntax, notation, axiom, sorry.
-/
import Derived.Test.YtlhikhaailhoaaaDoorRows
import GoSem.ClaimSeven
namespace Go.Proofs.YtlhikhaailhoaaaDoor
namespace Rows

/-- THE TIED CARD OF 'pilasterlaw55.ExplainParses'. -/
def explainParsesCard : Claim7 := { stood := { row := explainParsesRow, standIns := [], harness := (true, "b485c705184a60cdb07d968f0bf1592958ed27264a33c3a613b1e8207281a220"), looks := false }, kinds := [], alts := [], laidByText := true, laidKinds := [.data, .pinned], laidTests := true, laidLooks := .later }
def ExplainParsesCardSaid : Prop := Claim7.holds Tryd.pinned (.plain (OpenSpec.ofChange explainParsesSpec)) explainParsesCard

/-- THE TIED CARD OF 'pilasterlaw55.ExplainBack'. -/
def explainBackCard : Claim7 := { stood := { row := explainBackRow, standIns := [], harness := (true, "b485c705184a60cdb07d968f0bf1592958ed27264a33c3a613b1e8207281a220"), looks := false }, kinds := [], alts := [], laidByText := true, laidKinds := [.data, .pinned], laidTests := true, laidLooks := .later }
def ExplainBackCardSaid : Prop := Claim7.holds Tryd.pinned (.plain (OpenSpec.ofChange explainBackSpec)) explainBackCard

/-- THE TIED CARD OF 'pilasterlaw55.ExplainSteps'. -/
def explainStepsCard : Claim7 := { stood := { row := explainStepsRow, standIns := [], harness := (true, "b485c705184a60cdb07d968f0bf1592958ed27264a33c3a613b1e8207281a220"), looks := false }, kinds := [], alts := [], laidByText := true, laidKinds := [.data, .pinned], laidTests := true, laidLooks := .later }
def ExplainStepsCardSaid : Prop := Claim7.holds Tryd.pinned (.plain (OpenSpec.ofChange explainStepsSpec)) explainStepsCard

/-- THE SECOND FORM's CARD OF 'pilasterlaw55.ExplainParses'. -/
def explainParsesUptoCard : Claim7 := { stood := { row := explainParsesUptoRow, standIns := [], harness := (true, "b485c705184a60cdb07d968f0bf1592958ed27264a33c3a613b1e8207281a220"), looks := false }, kinds := [], alts := [], laidByText := true, laidKinds := [.data, .pinned], laidTests := true, laidLooks := .later }
def ExplainParsesUptoCardSaid : Prop := Claim7.holds Tryd.pinned (.plain (OpenSpec.upto explainParsesSpec)) explainParsesUptoCard

/-- THE SECOND FORM's CARD OF 'pilasterlaw55.ExplainBack'. -/
def explainBackUptoCard : Claim7 := { stood := { row := explainBackUptoRow, standIns := [], harness := (true, "b485c705184a60cdb07d968f0bf1592958ed27264a33c3a613b1e8207281a220"), looks := false }, kinds := [], alts := [], laidByText := true, laidKinds := [.data, .pinned], laidTests := true, laidLooks := .later }
def ExplainBackUptoCardSaid : Prop := Claim7.holds Tryd.pinned (.plain (OpenSpec.upto explainBackSpec)) explainBackUptoCard

/-- THE SECOND FORM's CARD OF 'pilasterlaw55.ExplainSteps'. -/
def explainStepsUptoCard : Claim7 := { stood := { row := explainStepsUptoRow, standIns := [], harness := (true, "b485c705184a60cdb07d968f0bf1592958ed27264a33c3a613b1e8207281a220"), looks := false }, kinds := [], alts := [], laidByText := true, laidKinds := [.data, .pinned], laidTests := true, laidLooks := .later }
def ExplainStepsUptoCardSaid : Prop := Claim7.holds Tryd.pinned (.plain (OpenSpec.upto explainStepsSpec)) explainStepsUptoCard
end Rows
end Go.Proofs.YtlhikhaailhoaaaDoor
