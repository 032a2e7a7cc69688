/-
  DERIVED. GIVEN WITH THE SEED: THE CARDS: each row of YtcbjbgiboimgaaaGreatDoorRows.lean that lists a variable, with what it lists TIED to the program's text (the seventh form; the later family's looks); each row that meets fmt, with fmt's text TOLD by the authors' own Lean function (tested against real Go, not proved from fmt's source: count such statements apart). THE CARD IS WHAT COUNTS. Prove the row's statement (the work); the ties are given (YtcbjbgiboimgaaaGreatDoorTie.lean); close each card by the builder's one call (the guide's Derived/Test/ToyasCard.lean, 'card_holds'). Laid BY PROGRAM, IN A SANDBOX (cutbox-door.mjs). By AI agents, Wed Nov 11 2026. No macro, syntax, notation, axiom, sorry.
-/
import Derived.Test.YtcbjbgiboimgaaaGreatDoorRows
import GoSem.ClaimSeven
namespace Go.Proofs.YtcbjbgiboimgaaaGreatDoor
namespace Rows

/-- THE TIED CARD OF 'pilasterlaw04.ParsecoreGroups'. -/
def parsecoreGroupsCard : Claim7 := { stood := { row := parsecoreGroupsRow, standIns := [], harness := (true, "a1a1da11014aad187e2b6fdb28a95ddcc357525fa753d89abb281ead00064632"), looks := true }, kinds := [], alts := [], laidByText := true, laidKinds := [.data, .data, .data, .sentinel, .sentinel, .listed, .data], laidTests := true, laidLooks := .later }
def ParsecoreGroupsCardSaid : Prop := Claim7.holds Tryz.pinned (.plain (OpenSpec.ofChange parsecoreGroupsSpec)) parsecoreGroupsCard

/-- THE TIED CARD OF 'pilasterlaw04.ParsecorePrefix'. -/
def parsecorePrefixCard : Claim7 := { stood := { row := parsecorePrefixRow, standIns := [], harness := (true, "a1a1da11014aad187e2b6fdb28a95ddcc357525fa753d89abb281ead00064632"), looks := true }, kinds := [], alts := [], laidByText := true, laidKinds := [.data, .data, .data, .sentinel, .sentinel, .listed, .data], laidTests := true, laidLooks := .later }
def ParsecorePrefixCardSaid : Prop := Claim7.holds Tryz.pinned (.plain (OpenSpec.ofChange parsecorePrefixSpec)) parsecorePrefixCard

/-- THE TIED CARD OF 'pilasterlaw04.ParsecoreLimits'. -/
def parsecoreLimitsCard : Claim7 := { stood := { row := parsecoreLimitsRow, standIns := [], harness := (true, "a1a1da11014aad187e2b6fdb28a95ddcc357525fa753d89abb281ead00064632"), looks := true }, kinds := [], alts := [], laidByText := true, laidKinds := [.data, .data, .data, .sentinel, .sentinel, .listed, .data], laidTests := true, laidLooks := .later }
def ParsecoreLimitsCardSaid : Prop := Claim7.holds Tryz.pinned (.plain (OpenSpec.ofChange parsecoreLimitsSpec)) parsecoreLimitsCard

/-- THE SECOND FORM's CARD OF 'pilasterlaw04.ParsecoreGroups'. -/
def parsecoreGroupsUptoCard : Claim7 := { stood := { row := parsecoreGroupsUptoRow, standIns := [], harness := (true, "a1a1da11014aad187e2b6fdb28a95ddcc357525fa753d89abb281ead00064632"), looks := true }, kinds := [], alts := [], laidByText := true, laidKinds := [.data, .data, .data, .sentinel, .sentinel, .listed, .data], laidTests := true, laidLooks := .later }
def ParsecoreGroupsUptoCardSaid : Prop := Claim7.holds Tryz.pinned (.plain (OpenSpec.upto parsecoreGroupsSpec)) parsecoreGroupsUptoCard

/-- THE SECOND FORM's CARD OF 'pilasterlaw04.ParsecorePrefix'. -/
def parsecorePrefixUptoCard : Claim7 := { stood := { row := parsecorePrefixUptoRow, standIns := [], harness := (true, "a1a1da11014aad187e2b6fdb28a95ddcc357525fa753d89abb281ead00064632"), looks := true }, kinds := [], alts := [], laidByText := true, laidKinds := [.data, .data, .data, .sentinel, .sentinel, .listed, .data], laidTests := true, laidLooks := .later }
def ParsecorePrefixUptoCardSaid : Prop := Claim7.holds Tryz.pinned (.plain (OpenSpec.upto parsecorePrefixSpec)) parsecorePrefixUptoCard

/-- THE SECOND FORM's CARD OF 'pilasterlaw04.ParsecoreLimits'. -/
def parsecoreLimitsUptoCard : Claim7 := { stood := { row := parsecoreLimitsUptoRow, standIns := [], harness := (true, "a1a1da11014aad187e2b6fdb28a95ddcc357525fa753d89abb281ead00064632"), looks := true }, kinds := [], alts := [], laidByText := true, laidKinds := [.data, .data, .data, .sentinel, .sentinel, .listed, .data], laidTests := true, laidLooks := .later }
def ParsecoreLimitsUptoCardSaid : Prop := Claim7.holds Tryz.pinned (.plain (OpenSpec.upto parsecoreLimitsSpec)) parsecoreLimitsUptoCard
end Rows
end Go.Proofs.YtcbjbgiboimgaaaGreatDoor
