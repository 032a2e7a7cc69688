/-
  No cell of these rows narrows 'for every input' (looked for: loops, veiled, ifaces, maps, wideKeys, modest, calm, conditions, laid).
  DERIVED. THE GIVEN ROWS OF THIS SEAT. 10 by the template 'for every input the law returns true; each argument reads behind the call as it read before'; 0 by the template 'total and deterministic' (their statements: YthbjlmoaceaeeaaTotals.lean).
  GIVEN WITH THE SEED: the statements are not yours to turn. If you find one false, say at which input.
  Laid BY PROGRAM, IN A SANDBOX (cutbox-rows.mjs): the forced cells as the released guide's own fill.sh prints them over the translation 938b090d93e23e02… (all of the seat's roots in one cut). By AI agents, Wed Nov 11 2026. No macro, syntax, notation, axiom, sorry.
-/
import Derived.Test.YthbjlmoaceaeeaaChecked
import GoSem.Claim
import GoSem.ClaimJoined
import GoSem.ClaimMapViews
import Derived.JoinedTies
import Derived.KernelRfl
namespace Go.Proofs.Ythbjlmoaceaeeaa
/- THE CELL 'sum', in the pinned program and in every row, IS THE sha256 OF THE DUMP (.gsa) THAT YthbjlmoaceaeeaaProg.lean LOADS. Nothing in Lean hashes anything: it is a label: what it is worth is what the hold of that sum in a sandbox is worth. -/
noncomputable def Try.pinned : Pinned := { name := "ythbjlmoaceaeeaa", sum := "938b090d93e23e022171054e297bd35a8c9c8d9ed8a2e9e116438f65d3582c94", checked := Try.checked }
namespace Rows
def none {H : Type} : Left H := { results := [], args := [] }

/-- 'pilasterlaw48.VerifyChecks': WHATEVER THE INPUT: true; the input reads as it did. -/
def verifyChecksSpec : ChangeSpec := { name := "verifyChecks", fn := fun _ => fun
  | [d1, d2] => { results := [.lit (.bool true)], args := [d1, d2] }
  | _ => none }
def verifyChecksRow : OpenClaim := { program := "ythbjlmoaceaeeaa", sum := "938b090d93e23e022171054e297bd35a8c9c8d9ed8a2e9e116438f65d3582c94", func := "pilaster/pilasterlaw48.VerifyChecks", spec := "verifyChecks", inPlace := ["internal/abi.NoEscape"], unfollowed := true, recurses := true, apart := false }
def VerifyChecksSaid : Prop := verifyChecksRow.holds Try.pinned (OpenSpec.ofChange verifyChecksSpec)

/-- ITS FALSE NEIGHBOUR: 'it returns false'. Refute it at one input. -/
def verifyChecksWrong : ChangeSpec := { name := "verifyChecks", fn := fun _ => fun
  | [d1, d2] => { results := [.lit (.bool false)], args := [d1, d2] }
  | _ => none }
def VerifyChecksWrongFalsely : Prop := verifyChecksRow.holds Try.pinned (OpenSpec.ofChange verifyChecksWrong)

/-- 'pilasterlaw48.VerifyDepths': WHATEVER THE INPUT: true; the input reads as it did. -/
def verifyDepthsSpec : ChangeSpec := { name := "verifyDepths", fn := fun _ => fun
  | [d1, d2, d3] => { results := [.lit (.bool true)], args := [d1, d2, d3] }
  | _ => none }
def verifyDepthsRow : OpenClaim := { program := "ythbjlmoaceaeeaa", sum := "938b090d93e23e022171054e297bd35a8c9c8d9ed8a2e9e116438f65d3582c94", func := "pilaster/pilasterlaw48.VerifyDepths", spec := "verifyDepths", inPlace := ["internal/abi.NoEscape"], unfollowed := true, recurses := true, apart := false }
def VerifyDepthsSaid : Prop := verifyDepthsRow.holds Try.pinned (OpenSpec.ofChange verifyDepthsSpec)

/-- ITS FALSE NEIGHBOUR: 'it returns false'. Refute it at one input. -/
def verifyDepthsWrong : ChangeSpec := { name := "verifyDepths", fn := fun _ => fun
  | [d1, d2, d3] => { results := [.lit (.bool false)], args := [d1, d2, d3] }
  | _ => none }
def VerifyDepthsWrongFalsely : Prop := verifyDepthsRow.holds Try.pinned (OpenSpec.ofChange verifyDepthsWrong)

/-- 'pilasterlaw48.VerifyDead': WHATEVER THE INPUT: true; the input reads as it did. -/
def verifyDeadSpec : ChangeSpec := { name := "verifyDead", fn := fun _ => fun
  | [d1, d2, d3] => { results := [.lit (.bool true)], args := [d1, d2, d3] }
  | _ => none }
def verifyDeadRow : OpenClaim := { program := "ythbjlmoaceaeeaa", sum := "938b090d93e23e022171054e297bd35a8c9c8d9ed8a2e9e116438f65d3582c94", func := "pilaster/pilasterlaw48.VerifyDead", spec := "verifyDead", inPlace := ["internal/abi.NoEscape"], unfollowed := true, recurses := true, apart := false }
def VerifyDeadSaid : Prop := verifyDeadRow.holds Try.pinned (OpenSpec.ofChange verifyDeadSpec)

/-- ITS FALSE NEIGHBOUR: 'it returns false'. Refute it at one input. -/
def verifyDeadWrong : ChangeSpec := { name := "verifyDead", fn := fun _ => fun
  | [d1, d2, d3] => { results := [.lit (.bool false)], args := [d1, d2, d3] }
  | _ => none }
def VerifyDeadWrongFalsely : Prop := verifyDeadRow.holds Try.pinned (OpenSpec.ofChange verifyDeadWrong)

/-- 'pilasterlaw02.LexerTokens': WHATEVER THE INPUT: true; the input reads as it did. -/
def lexerTokensSpec : ChangeSpec := { name := "lexerTokens", fn := fun _ => fun
  | [d] => { results := [.lit (.bool true)], args := [d] }
  | _ => none }
def lexerTokensRow : OpenClaim := { program := "ythbjlmoaceaeeaa", sum := "938b090d93e23e022171054e297bd35a8c9c8d9ed8a2e9e116438f65d3582c94", func := "pilaster/pilasterlaw02.LexerTokens", spec := "lexerTokens", inPlace := ["internal/bytealg.IndexByteString", "internal/bytealg.CountString", "internal/bytealg.IndexString", "internal/abi.NoEscape"], unfollowed := true, recurses := true, named := ["internal/bytealg.MaxLen"], apart := false }
def LexerTokensSaid : Prop := lexerTokensRow.holds Try.pinned (OpenSpec.ofChange lexerTokensSpec)

/-- ITS FALSE NEIGHBOUR: 'it returns false'. Refute it at one input. -/
def lexerTokensWrong : ChangeSpec := { name := "lexerTokens", fn := fun _ => fun
  | [d] => { results := [.lit (.bool false)], args := [d] }
  | _ => none }
def LexerTokensWrongFalsely : Prop := lexerTokensRow.holds Try.pinned (OpenSpec.ofChange lexerTokensWrong)

/-- 'pilasterlaw48.VerifyWays': WHATEVER THE INPUT: true; the input reads as it did. -/
def verifyWaysSpec : ChangeSpec := { name := "verifyWays", fn := fun _ => fun
  | [d1, d2, d3] => { results := [.lit (.bool true)], args := [d1, d2, d3] }
  | _ => none }
def verifyWaysRow : OpenClaim := { program := "ythbjlmoaceaeeaa", sum := "938b090d93e23e022171054e297bd35a8c9c8d9ed8a2e9e116438f65d3582c94", func := "pilaster/pilasterlaw48.VerifyWays", spec := "verifyWays", inPlace := ["internal/abi.NoEscape"], unfollowed := true, recurses := true, apart := false }
def VerifyWaysSaid : Prop := verifyWaysRow.holds Try.pinned (OpenSpec.ofChange verifyWaysSpec)

/-- ITS FALSE NEIGHBOUR: 'it returns false'. Refute it at one input. -/
def verifyWaysWrong : ChangeSpec := { name := "verifyWays", fn := fun _ => fun
  | [d1, d2, d3] => { results := [.lit (.bool false)], args := [d1, d2, d3] }
  | _ => none }
def VerifyWaysWrongFalsely : Prop := verifyWaysRow.holds Try.pinned (OpenSpec.ofChange verifyWaysWrong)

/-- 'pilasterlaw48.VerifyTables': WHATEVER THE INPUT: true; the input reads as it did. -/
def verifyTablesSpec : ChangeSpec := { name := "verifyTables", fn := fun _ => fun
  | [d1, d2] => { results := [.lit (.bool true)], args := [d1, d2] }
  | _ => none }
def verifyTablesRow : OpenClaim := { program := "ythbjlmoaceaeeaa", sum := "938b090d93e23e022171054e297bd35a8c9c8d9ed8a2e9e116438f65d3582c94", func := "pilaster/pilasterlaw48.VerifyTables", spec := "verifyTables", inPlace := ["internal/abi.NoEscape"], unfollowed := true, recurses := true, apart := false }
def VerifyTablesSaid : Prop := verifyTablesRow.holds Try.pinned (OpenSpec.ofChange verifyTablesSpec)

/-- ITS FALSE NEIGHBOUR: 'it returns false'. Refute it at one input. -/
def verifyTablesWrong : ChangeSpec := { name := "verifyTables", fn := fun _ => fun
  | [d1, d2] => { results := [.lit (.bool false)], args := [d1, d2] }
  | _ => none }
def VerifyTablesWrongFalsely : Prop := verifyTablesRow.holds Try.pinned (OpenSpec.ofChange verifyTablesWrong)

/-- 'pilasterlaw02.LexerBlanks': WHATEVER THE INPUT: true; the input reads as it did. -/
def lexerBlanksSpec : ChangeSpec := { name := "lexerBlanks", fn := fun _ => fun
  | [d1, d2, d3] => { results := [.lit (.bool true)], args := [d1, d2, d3] }
  | _ => none }
def lexerBlanksRow : OpenClaim := { program := "ythbjlmoaceaeeaa", sum := "938b090d93e23e022171054e297bd35a8c9c8d9ed8a2e9e116438f65d3582c94", func := "pilaster/pilasterlaw02.LexerBlanks", spec := "lexerBlanks", inPlace := ["internal/bytealg.IndexByteString", "internal/bytealg.CountString", "internal/bytealg.IndexString", "internal/abi.NoEscape"], unfollowed := true, recurses := true, named := ["internal/bytealg.MaxLen"], apart := false }
def LexerBlanksSaid : Prop := lexerBlanksRow.holds Try.pinned (OpenSpec.ofChange lexerBlanksSpec)

/-- ITS FALSE NEIGHBOUR: 'it returns false'. Refute it at one input. -/
def lexerBlanksWrong : ChangeSpec := { name := "lexerBlanks", fn := fun _ => fun
  | [d1, d2, d3] => { results := [.lit (.bool false)], args := [d1, d2, d3] }
  | _ => none }
def LexerBlanksWrongFalsely : Prop := lexerBlanksRow.holds Try.pinned (OpenSpec.ofChange lexerBlanksWrong)

/-- 'pilasterlaw02.LexerLiterals': WHATEVER THE INPUT: true; the input reads as it did. -/
def lexerLiteralsSpec : ChangeSpec := { name := "lexerLiterals", fn := fun _ => fun
  | [d] => { results := [.lit (.bool true)], args := [d] }
  | _ => none }
def lexerLiteralsRow : OpenClaim := { program := "ythbjlmoaceaeeaa", sum := "938b090d93e23e022171054e297bd35a8c9c8d9ed8a2e9e116438f65d3582c94", func := "pilaster/pilasterlaw02.LexerLiterals", spec := "lexerLiterals", inPlace := ["internal/bytealg.IndexByteString", "internal/bytealg.CountString", "internal/bytealg.IndexString", "internal/abi.NoEscape"], unfollowed := true, recurses := true, named := ["internal/bytealg.MaxLen"], apart := false }
def LexerLiteralsSaid : Prop := lexerLiteralsRow.holds Try.pinned (OpenSpec.ofChange lexerLiteralsSpec)

/-- ITS FALSE NEIGHBOUR: 'it returns false'. Refute it at one input. -/
def lexerLiteralsWrong : ChangeSpec := { name := "lexerLiterals", fn := fun _ => fun
  | [d] => { results := [.lit (.bool false)], args := [d] }
  | _ => none }
def LexerLiteralsWrongFalsely : Prop := lexerLiteralsRow.holds Try.pinned (OpenSpec.ofChange lexerLiteralsWrong)

/-- 'pilasterlaw02.LexerJoins': WHATEVER THE INPUT: true; the input reads as it did. -/
def lexerJoinsSpec : ChangeSpec := { name := "lexerJoins", fn := fun _ => fun
  | [d] => { results := [.lit (.bool true)], args := [d] }
  | _ => none }
def lexerJoinsRow : OpenClaim := { program := "ythbjlmoaceaeeaa", sum := "938b090d93e23e022171054e297bd35a8c9c8d9ed8a2e9e116438f65d3582c94", func := "pilaster/pilasterlaw02.LexerJoins", spec := "lexerJoins", inPlace := ["internal/bytealg.IndexByteString", "internal/bytealg.CountString", "internal/bytealg.IndexString", "internal/abi.NoEscape", "internal/bytealg.MakeNoZero"], unfollowed := true, recurses := true, named := ["internal/bytealg.MaxLen"], apart := false }
def LexerJoinsSaid : Prop := lexerJoinsRow.holds Try.pinned (OpenSpec.ofChange lexerJoinsSpec)

/-- ITS FALSE NEIGHBOUR: 'it returns false'. Refute it at one input. -/
def lexerJoinsWrong : ChangeSpec := { name := "lexerJoins", fn := fun _ => fun
  | [d] => { results := [.lit (.bool false)], args := [d] }
  | _ => none }
def LexerJoinsWrongFalsely : Prop := lexerJoinsRow.holds Try.pinned (OpenSpec.ofChange lexerJoinsWrong)

/-- 'pilasterlaw02.LexerBack': WHATEVER THE INPUT: true; the input reads as it did. -/
def lexerBackSpec : ChangeSpec := { name := "lexerBack", fn := fun _ => fun
  | [d1, d2] => { results := [.lit (.bool true)], args := [d1, d2] }
  | _ => none }
def lexerBackRow : OpenClaim := { program := "ythbjlmoaceaeeaa", sum := "938b090d93e23e022171054e297bd35a8c9c8d9ed8a2e9e116438f65d3582c94", func := "pilaster/pilasterlaw02.LexerBack", spec := "lexerBack", inPlace := ["internal/bytealg.IndexByteString", "internal/bytealg.CountString", "internal/bytealg.IndexString", "internal/abi.NoEscape", "internal/bytealg.MakeNoZero"], unfollowed := true, recurses := true, named := ["internal/bytealg.MaxLen"], apart := false }
def LexerBackSaid : Prop := lexerBackRow.holds Try.pinned (OpenSpec.ofChange lexerBackSpec)

/-- ITS FALSE NEIGHBOUR: 'it returns false'. Refute it at one input. -/
def lexerBackWrong : ChangeSpec := { name := "lexerBack", fn := fun _ => fun
  | [d1, d2] => { results := [.lit (.bool false)], args := [d1, d2] }
  | _ => none }
def LexerBackWrongFalsely : Prop := lexerBackRow.holds Try.pinned (OpenSpec.ofChange lexerBackWrong)

/- THE SECOND FORM. 'bulk': how many values and letters a reading holds, each counted each time it is reached (what is shared counts as often as it is met; a slice's spare places count too). A statement '..UptoSaid' is the law's where the arguments, and the package variables that the reading takes, are together of bulk at most 1048576: NARROWER than '..Said'. Prove '..Said' where nothing that the law and all that it calls make is longer than what came in: it says more and counts as full. Else prove '..UptoSaid'. A law counts once. -/
mutual
def uptoBulk {H : Type} : DataW H → Nat
  | .lit (.string bytes) => bytes.length + 1
  | .lit _ => 1
  | .nil => 1
  | .ptr d => uptoBulk d + 1
  | .slice elems spare => uptoBulkAll elems + uptoBulkAll spare + 1
  | .agg parts => uptoBulkAll parts + 1
  | .iface _ d => uptoBulk d + 1
  | .map entries => uptoBulkEntries entries + 1
  | .held _ => 1
def uptoBulkAll {H : Type} : List (DataW H) → Nat
  | [] => 0
  | d :: r => uptoBulk d + uptoBulkAll r
def uptoBulkEntries {H : Type} : List (Lit × DataW H) → Nat
  | [] => 0
  | x :: r => uptoBulkEntry x + uptoBulkEntries r
def uptoBulkEntry {H : Type} : Lit × DataW H → Nat
  | (.string bytes, d) => bytes.length + uptoBulk d + 1
  | (_, d) => uptoBulk d + 1
 end
def uptoSmall : (H : Type) → List (DataW H) → Bool := fun _ ds => decide (uptoBulkAll ds ≤ 1048576)
def OpenSpec.upto (s : _root_.Go.ChangeSpec) : _root_.Go.OpenSpec := { _root_.Go.OpenSpec.ofChange s with cond := some uptoSmall }

/-- 'pilasterlaw48.VerifyChecks', WHERE WHAT IT READS IS OF BULK AT MOST 1048576: true; the input reads as it did. -/
def verifyChecksUptoRow : OpenClaim := { program := "ythbjlmoaceaeeaa", sum := "938b090d93e23e022171054e297bd35a8c9c8d9ed8a2e9e116438f65d3582c94", func := "pilaster/pilasterlaw48.VerifyChecks", spec := "verifyChecks", inPlace := ["internal/abi.NoEscape"], unfollowed := true, recurses := true, apart := false, narrowed := true }
def VerifyChecksUptoSaid : Prop := verifyChecksUptoRow.holds Try.pinned (OpenSpec.upto verifyChecksSpec)

/-- 'pilasterlaw48.VerifyDepths', WHERE WHAT IT READS IS OF BULK AT MOST 1048576: true; the input reads as it did. -/
def verifyDepthsUptoRow : OpenClaim := { program := "ythbjlmoaceaeeaa", sum := "938b090d93e23e022171054e297bd35a8c9c8d9ed8a2e9e116438f65d3582c94", func := "pilaster/pilasterlaw48.VerifyDepths", spec := "verifyDepths", inPlace := ["internal/abi.NoEscape"], unfollowed := true, recurses := true, apart := false, narrowed := true }
def VerifyDepthsUptoSaid : Prop := verifyDepthsUptoRow.holds Try.pinned (OpenSpec.upto verifyDepthsSpec)

/-- 'pilasterlaw48.VerifyDead', WHERE WHAT IT READS IS OF BULK AT MOST 1048576: true; the input reads as it did. -/
def verifyDeadUptoRow : OpenClaim := { program := "ythbjlmoaceaeeaa", sum := "938b090d93e23e022171054e297bd35a8c9c8d9ed8a2e9e116438f65d3582c94", func := "pilaster/pilasterlaw48.VerifyDead", spec := "verifyDead", inPlace := ["internal/abi.NoEscape"], unfollowed := true, recurses := true, apart := false, narrowed := true }
def VerifyDeadUptoSaid : Prop := verifyDeadUptoRow.holds Try.pinned (OpenSpec.upto verifyDeadSpec)

/-- 'pilasterlaw02.LexerTokens', WHERE WHAT IT READS IS OF BULK AT MOST 1048576: true; the input reads as it did. -/
def lexerTokensUptoRow : OpenClaim := { program := "ythbjlmoaceaeeaa", sum := "938b090d93e23e022171054e297bd35a8c9c8d9ed8a2e9e116438f65d3582c94", func := "pilaster/pilasterlaw02.LexerTokens", spec := "lexerTokens", inPlace := ["internal/bytealg.IndexByteString", "internal/bytealg.CountString", "internal/bytealg.IndexString", "internal/abi.NoEscape"], unfollowed := true, recurses := true, named := ["internal/bytealg.MaxLen"], apart := false, narrowed := true }
def LexerTokensUptoSaid : Prop := lexerTokensUptoRow.holds Try.pinned (OpenSpec.upto lexerTokensSpec)

/-- 'pilasterlaw48.VerifyWays', WHERE WHAT IT READS IS OF BULK AT MOST 1048576: true; the input reads as it did. -/
def verifyWaysUptoRow : OpenClaim := { program := "ythbjlmoaceaeeaa", sum := "938b090d93e23e022171054e297bd35a8c9c8d9ed8a2e9e116438f65d3582c94", func := "pilaster/pilasterlaw48.VerifyWays", spec := "verifyWays", inPlace := ["internal/abi.NoEscape"], unfollowed := true, recurses := true, apart := false, narrowed := true }
def VerifyWaysUptoSaid : Prop := verifyWaysUptoRow.holds Try.pinned (OpenSpec.upto verifyWaysSpec)

/-- 'pilasterlaw48.VerifyTables', WHERE WHAT IT READS IS OF BULK AT MOST 1048576: true; the input reads as it did. -/
def verifyTablesUptoRow : OpenClaim := { program := "ythbjlmoaceaeeaa", sum := "938b090d93e23e022171054e297bd35a8c9c8d9ed8a2e9e116438f65d3582c94", func := "pilaster/pilasterlaw48.VerifyTables", spec := "verifyTables", inPlace := ["internal/abi.NoEscape"], unfollowed := true, recurses := true, apart := false, narrowed := true }
def VerifyTablesUptoSaid : Prop := verifyTablesUptoRow.holds Try.pinned (OpenSpec.upto verifyTablesSpec)

/-- 'pilasterlaw02.LexerBlanks', WHERE WHAT IT READS IS OF BULK AT MOST 1048576: true; the input reads as it did. -/
def lexerBlanksUptoRow : OpenClaim := { program := "ythbjlmoaceaeeaa", sum := "938b090d93e23e022171054e297bd35a8c9c8d9ed8a2e9e116438f65d3582c94", func := "pilaster/pilasterlaw02.LexerBlanks", spec := "lexerBlanks", inPlace := ["internal/bytealg.IndexByteString", "internal/bytealg.CountString", "internal/bytealg.IndexString", "internal/abi.NoEscape"], unfollowed := true, recurses := true, named := ["internal/bytealg.MaxLen"], apart := false, narrowed := true }
def LexerBlanksUptoSaid : Prop := lexerBlanksUptoRow.holds Try.pinned (OpenSpec.upto lexerBlanksSpec)

/-- 'pilasterlaw02.LexerLiterals', WHERE WHAT IT READS IS OF BULK AT MOST 1048576: true; the input reads as it did. -/
def lexerLiteralsUptoRow : OpenClaim := { program := "ythbjlmoaceaeeaa", sum := "938b090d93e23e022171054e297bd35a8c9c8d9ed8a2e9e116438f65d3582c94", func := "pilaster/pilasterlaw02.LexerLiterals", spec := "lexerLiterals", inPlace := ["internal/bytealg.IndexByteString", "internal/bytealg.CountString", "internal/bytealg.IndexString", "internal/abi.NoEscape"], unfollowed := true, recurses := true, named := ["internal/bytealg.MaxLen"], apart := false, narrowed := true }
def LexerLiteralsUptoSaid : Prop := lexerLiteralsUptoRow.holds Try.pinned (OpenSpec.upto lexerLiteralsSpec)

/-- 'pilasterlaw02.LexerJoins', WHERE WHAT IT READS IS OF BULK AT MOST 1048576: true; the input reads as it did. -/
def lexerJoinsUptoRow : OpenClaim := { program := "ythbjlmoaceaeeaa", sum := "938b090d93e23e022171054e297bd35a8c9c8d9ed8a2e9e116438f65d3582c94", func := "pilaster/pilasterlaw02.LexerJoins", spec := "lexerJoins", inPlace := ["internal/bytealg.IndexByteString", "internal/bytealg.CountString", "internal/bytealg.IndexString", "internal/abi.NoEscape", "internal/bytealg.MakeNoZero"], unfollowed := true, recurses := true, named := ["internal/bytealg.MaxLen"], apart := false, narrowed := true }
def LexerJoinsUptoSaid : Prop := lexerJoinsUptoRow.holds Try.pinned (OpenSpec.upto lexerJoinsSpec)

/-- 'pilasterlaw02.LexerBack', WHERE WHAT IT READS IS OF BULK AT MOST 1048576: true; the input reads as it did. -/
def lexerBackUptoRow : OpenClaim := { program := "ythbjlmoaceaeeaa", sum := "938b090d93e23e022171054e297bd35a8c9c8d9ed8a2e9e116438f65d3582c94", func := "pilaster/pilasterlaw02.LexerBack", spec := "lexerBack", inPlace := ["internal/bytealg.IndexByteString", "internal/bytealg.CountString", "internal/bytealg.IndexString", "internal/abi.NoEscape", "internal/bytealg.MakeNoZero"], unfollowed := true, recurses := true, named := ["internal/bytealg.MaxLen"], apart := false, narrowed := true }
def LexerBackUptoSaid : Prop := lexerBackUptoRow.holds Try.pinned (OpenSpec.upto lexerBackSpec)

end Rows
end Go.Proofs.Ythbjlmoaceaeeaa
