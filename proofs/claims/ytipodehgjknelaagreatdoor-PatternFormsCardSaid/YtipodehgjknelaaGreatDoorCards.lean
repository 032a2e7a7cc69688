/-
  DERIVED. GIVEN WITH THE SEED: THE CARDS: each row of YtipodehgjknelaaGreatDoorRows.lean that lists a variable, with what it lists TIED to the program's text (the seventh form; the later family's looks); each row that meets fmt, with fmt's text TOLD by the authors' own Lean function (tested against real Go, not proved from fmt's source: count such statements apart). THE CARD IS WHAT COUNTS. Prove the row's statement (the work); the ties are given (YtipodehgjknelaaGreatDoorTie.lean); close each card by the builder's one call (the guide's Derived/Test/ToyasCard.lean, 'card_holds'). Laid BY PROGRAM, IN A SANDBOX (cutbox-door.mjs). By AI agents, Wed Nov 11 2026. No macro, syntax, notation, axiom, sorry.
-/
import Derived.Test.YtipodehgjknelaaGreatDoorRows
import GoSem.ClaimSeven
namespace Go.Proofs.YtipodehgjknelaaGreatDoor
namespace Rows

/-- THE TIED CARD OF 'pilasterlaw04.ParsecoreGroups'. -/
def parsecoreGroupsCard : Claim7 := { stood := { row := parsecoreGroupsRow, standIns := [], harness := (true, "b668642a0580b1f8c4ce3696fe52ece14faba54d1795800152585148c8a1b767"), looks := true }, kinds := [], alts := [], laidByText := true, laidKinds := [.data, .data, .data, .sentinel, .sentinel, .listed, .data], laidTests := true, laidLooks := .later }
def ParsecoreGroupsCardSaid : Prop := Claim7.holds Tryz.pinned (.plain (OpenSpec.ofChange parsecoreGroupsSpec)) parsecoreGroupsCard

/-- THE TIED CARD OF 'pilasterlaw20.PatternTypes'. -/
def patternTypesCard : Claim7 := { stood := { row := patternTypesRow, standIns := [], harness := (true, "b668642a0580b1f8c4ce3696fe52ece14faba54d1795800152585148c8a1b767"), looks := true }, kinds := [], alts := [], laidByText := true, laidKinds := [.data, .data, .data, .sentinel, .sentinel, .listed, .data], laidTests := true, laidLooks := .later }
def PatternTypesCardSaid : Prop := Claim7.holds Tryz.pinned (.plain (OpenSpec.ofChange patternTypesSpec)) patternTypesCard

/-- THE TIED CARD OF 'pilasterlaw20.PatternCovers'. -/
def patternCoversCard : Claim7 := { stood := { row := patternCoversRow, standIns := [], harness := (true, "b668642a0580b1f8c4ce3696fe52ece14faba54d1795800152585148c8a1b767"), looks := true }, kinds := [], alts := [], laidByText := true, laidKinds := [.data, .data, .data, .sentinel, .sentinel, .listed, .data], laidTests := true, laidLooks := .later }
def PatternCoversCardSaid : Prop := Claim7.holds Tryz.pinned (.plain (OpenSpec.ofChange patternCoversSpec)) patternCoversCard

/-- THE TIED CARD OF 'pilasterlaw20.PatternForms'. -/
def patternFormsCard : Claim7 := { stood := { row := patternFormsRow, standIns := [], harness := (true, "b668642a0580b1f8c4ce3696fe52ece14faba54d1795800152585148c8a1b767"), looks := true }, kinds := [], alts := [], laidByText := true, laidKinds := [.data, .data, .data, .sentinel, .sentinel, .listed, .data], laidTests := true, laidLooks := .later }
def PatternFormsCardSaid : Prop := Claim7.holds Tryz.pinned (.plain (OpenSpec.ofChange patternFormsSpec)) patternFormsCard

/-- THE TIED CARD OF 'pilasterlaw04.ParsecorePrefix'. -/
def parsecorePrefixCard : Claim7 := { stood := { row := parsecorePrefixRow, standIns := [], harness := (true, "b668642a0580b1f8c4ce3696fe52ece14faba54d1795800152585148c8a1b767"), looks := true }, kinds := [], alts := [], laidByText := true, laidKinds := [.data, .data, .data, .sentinel, .sentinel, .listed, .data], laidTests := true, laidLooks := .later }
def ParsecorePrefixCardSaid : Prop := Claim7.holds Tryz.pinned (.plain (OpenSpec.ofChange parsecorePrefixSpec)) parsecorePrefixCard

/-- THE TIED CARD OF 'pilasterlaw04.ParsecoreLimits'. -/
def parsecoreLimitsCard : Claim7 := { stood := { row := parsecoreLimitsRow, standIns := [], harness := (true, "b668642a0580b1f8c4ce3696fe52ece14faba54d1795800152585148c8a1b767"), looks := true }, kinds := [], alts := [], laidByText := true, laidKinds := [.data, .data, .data, .sentinel, .sentinel, .listed, .data], laidTests := true, laidLooks := .later }
def ParsecoreLimitsCardSaid : Prop := Claim7.holds Tryz.pinned (.plain (OpenSpec.ofChange parsecoreLimitsSpec)) parsecoreLimitsCard

/-- THE TIED CARD OF 'pilasterlaw20.PatternWider'. -/
def patternWiderCard : Claim7 := { stood := { row := patternWiderRow, standIns := [], harness := (true, "b668642a0580b1f8c4ce3696fe52ece14faba54d1795800152585148c8a1b767"), looks := true }, kinds := [], alts := [], laidByText := true, laidKinds := [.data, .data, .data, .sentinel, .sentinel, .listed, .data], laidTests := true, laidLooks := .later }
def PatternWiderCardSaid : Prop := Claim7.holds Tryz.pinned (.plain (OpenSpec.ofChange patternWiderSpec)) patternWiderCard

/-- THE TIED CARD OF 'pilasterlaw20.PatternBack'. -/
def patternBackCard : Claim7 := { stood := { row := patternBackRow, standIns := [], harness := (true, "b668642a0580b1f8c4ce3696fe52ece14faba54d1795800152585148c8a1b767"), looks := true }, kinds := [], alts := [], laidByText := true, laidKinds := [.data, .data, .data, .sentinel, .sentinel, .listed, .data], laidTests := true, laidLooks := .later }
def PatternBackCardSaid : Prop := Claim7.holds Tryz.pinned (.plain (OpenSpec.ofChange patternBackSpec)) patternBackCard

/-- THE SECOND FORM's CARD OF 'pilasterlaw04.ParsecoreGroups'. -/
def parsecoreGroupsUptoCard : Claim7 := { stood := { row := parsecoreGroupsUptoRow, standIns := [], harness := (true, "b668642a0580b1f8c4ce3696fe52ece14faba54d1795800152585148c8a1b767"), looks := true }, kinds := [], alts := [], laidByText := true, laidKinds := [.data, .data, .data, .sentinel, .sentinel, .listed, .data], laidTests := true, laidLooks := .later }
def ParsecoreGroupsUptoCardSaid : Prop := Claim7.holds Tryz.pinned (.plain (OpenSpec.upto parsecoreGroupsSpec)) parsecoreGroupsUptoCard

/-- THE SECOND FORM's CARD OF 'pilasterlaw20.PatternTypes'. -/
def patternTypesUptoCard : Claim7 := { stood := { row := patternTypesUptoRow, standIns := [], harness := (true, "b668642a0580b1f8c4ce3696fe52ece14faba54d1795800152585148c8a1b767"), looks := true }, kinds := [], alts := [], laidByText := true, laidKinds := [.data, .data, .data, .sentinel, .sentinel, .listed, .data], laidTests := true, laidLooks := .later }
def PatternTypesUptoCardSaid : Prop := Claim7.holds Tryz.pinned (.plain (OpenSpec.upto patternTypesSpec)) patternTypesUptoCard

/-- THE SECOND FORM's CARD OF 'pilasterlaw20.PatternCovers'. -/
def patternCoversUptoCard : Claim7 := { stood := { row := patternCoversUptoRow, standIns := [], harness := (true, "b668642a0580b1f8c4ce3696fe52ece14faba54d1795800152585148c8a1b767"), looks := true }, kinds := [], alts := [], laidByText := true, laidKinds := [.data, .data, .data, .sentinel, .sentinel, .listed, .data], laidTests := true, laidLooks := .later }
def PatternCoversUptoCardSaid : Prop := Claim7.holds Tryz.pinned (.plain (OpenSpec.upto patternCoversSpec)) patternCoversUptoCard

/-- THE SECOND FORM's CARD OF 'pilasterlaw20.PatternForms'. -/
def patternFormsUptoCard : Claim7 := { stood := { row := patternFormsUptoRow, standIns := [], harness := (true, "b668642a0580b1f8c4ce3696fe52ece14faba54d1795800152585148c8a1b767"), looks := true }, kinds := [], alts := [], laidByText := true, laidKinds := [.data, .data, .data, .sentinel, .sentinel, .listed, .data], laidTests := true, laidLooks := .later }
def PatternFormsUptoCardSaid : Prop := Claim7.holds Tryz.pinned (.plain (OpenSpec.upto patternFormsSpec)) patternFormsUptoCard

/-- THE SECOND FORM's CARD OF 'pilasterlaw04.ParsecorePrefix'. -/
def parsecorePrefixUptoCard : Claim7 := { stood := { row := parsecorePrefixUptoRow, standIns := [], harness := (true, "b668642a0580b1f8c4ce3696fe52ece14faba54d1795800152585148c8a1b767"), looks := true }, kinds := [], alts := [], laidByText := true, laidKinds := [.data, .data, .data, .sentinel, .sentinel, .listed, .data], laidTests := true, laidLooks := .later }
def ParsecorePrefixUptoCardSaid : Prop := Claim7.holds Tryz.pinned (.plain (OpenSpec.upto parsecorePrefixSpec)) parsecorePrefixUptoCard

/-- THE SECOND FORM's CARD OF 'pilasterlaw04.ParsecoreLimits'. -/
def parsecoreLimitsUptoCard : Claim7 := { stood := { row := parsecoreLimitsUptoRow, standIns := [], harness := (true, "b668642a0580b1f8c4ce3696fe52ece14faba54d1795800152585148c8a1b767"), looks := true }, kinds := [], alts := [], laidByText := true, laidKinds := [.data, .data, .data, .sentinel, .sentinel, .listed, .data], laidTests := true, laidLooks := .later }
def ParsecoreLimitsUptoCardSaid : Prop := Claim7.holds Tryz.pinned (.plain (OpenSpec.upto parsecoreLimitsSpec)) parsecoreLimitsUptoCard

/-- THE SECOND FORM's CARD OF 'pilasterlaw20.PatternWider'. -/
def patternWiderUptoCard : Claim7 := { stood := { row := patternWiderUptoRow, standIns := [], harness := (true, "b668642a0580b1f8c4ce3696fe52ece14faba54d1795800152585148c8a1b767"), looks := true }, kinds := [], alts := [], laidByText := true, laidKinds := [.data, .data, .data, .sentinel, .sentinel, .listed, .data], laidTests := true, laidLooks := .later }
def PatternWiderUptoCardSaid : Prop := Claim7.holds Tryz.pinned (.plain (OpenSpec.upto patternWiderSpec)) patternWiderUptoCard

/-- THE SECOND FORM's CARD OF 'pilasterlaw20.PatternBack'. -/
def patternBackUptoCard : Claim7 := { stood := { row := patternBackUptoRow, standIns := [], harness := (true, "b668642a0580b1f8c4ce3696fe52ece14faba54d1795800152585148c8a1b767"), looks := true }, kinds := [], alts := [], laidByText := true, laidKinds := [.data, .data, .data, .sentinel, .sentinel, .listed, .data], laidTests := true, laidLooks := .later }
def PatternBackUptoCardSaid : Prop := Claim7.holds Tryz.pinned (.plain (OpenSpec.upto patternBackSpec)) patternBackUptoCard
end Rows
end Go.Proofs.YtipodehgjknelaaGreatDoor
