/-
  NARROWER THAN 'FOR EVERY INPUT', by the rows' own cells (each row's printed sentence says how): KindApplies: loops · KindForms: loops · KindBuilds: loops · KindTexts: loops · KindBack: loops · KindCurries: loops.
  DERIVED. THE GIVEN ROWS OF THIS SEAT. 7 by the template 'for every input the law returns true; each argument reads behind the call as it read before'; 0 by the template 'total and deterministic' (their statements: YtcdjdpoahngkjaaTotals.lean).
  GIVEN WITH THE SEED: the statements are not yours to turn. If you find one false, say at which input.
  Laid BY PROGRAM, IN A SANDBOX (cutbox-rows.mjs): the forced cells as the released guide's own fill.sh prints them over the translation 862543d5b612fa1e… (all of the seat's roots in one cut). By AI agents, Wed Nov 11 2026. No macro, syntax, notation, axiom, sorry.
-/
import Derived.Test.YtcdjdpoahngkjaaChecked
import GoSem.Claim
import GoSem.ClaimJoined
import GoSem.ClaimMapViews
import Derived.JoinedTies
import Derived.KernelRfl
namespace Go.Proofs.Ytcdjdpoahngkjaa
/- THE CELL 'sum', in the pinned program and in every row, IS THE sha256 OF THE DUMP (.gsa) THAT YtcdjdpoahngkjaaProg.lean LOADS. Nothing in Lean hashes anything: it is a label: what it is worth is what the hold of that sum in a sandbox is worth. -/
noncomputable def Try.pinned : Pinned := { name := "ytcdjdpoahngkjaa", sum := "862543d5b612fa1e2489103f7f22493a5ee81a657d684e84c3c75f700017ee1a", checked := Try.checked }
namespace Rows
def none {H : Type} : Left H := { results := [], args := [] }

/-- 'pilasterlaw08.KindApplies': WHATEVER THE INPUT: true; the input reads as it did. -/
def kindAppliesSpec : ChangeSpec := { name := "kindApplies", fn := fun _ => fun
  | [d1, d2] => { results := [.lit (.bool true)], args := [d1, d2] }
  | _ => none }
def kindAppliesRow : OpenClaim := { program := "ytcdjdpoahngkjaa", sum := "862543d5b612fa1e2489103f7f22493a5ee81a657d684e84c3c75f700017ee1a", func := "pilaster/pilasterlaw08.KindApplies", spec := "kindApplies", inPlace := ["internal/abi.NoEscape"], unfollowed := true, recurses := true, loops := true, apart := false }
def KindAppliesSaid : Prop := kindAppliesRow.holds Try.pinned (OpenSpec.ofChange kindAppliesSpec)

/-- ITS FALSE NEIGHBOUR: 'it returns false'. Refute it at one input. -/
def kindAppliesWrong : ChangeSpec := { name := "kindApplies", fn := fun _ => fun
  | [d1, d2] => { results := [.lit (.bool false)], args := [d1, d2] }
  | _ => none }
def KindAppliesWrongFalsely : Prop := kindAppliesRow.holds Try.pinned (OpenSpec.ofChange kindAppliesWrong)

/-- 'pilasterlaw08.KindForms': WHATEVER THE INPUT: true; the input reads as it did. -/
def kindFormsSpec : ChangeSpec := { name := "kindForms", fn := fun _ => fun
  | [d1, d2] => { results := [.lit (.bool true)], args := [d1, d2] }
  | _ => none }
def kindFormsRow : OpenClaim := { program := "ytcdjdpoahngkjaa", sum := "862543d5b612fa1e2489103f7f22493a5ee81a657d684e84c3c75f700017ee1a", func := "pilaster/pilasterlaw08.KindForms", spec := "kindForms", inPlace := ["internal/abi.NoEscape"], unfollowed := true, recurses := true, loops := true, apart := false }
def KindFormsSaid : Prop := kindFormsRow.holds Try.pinned (OpenSpec.ofChange kindFormsSpec)

/-- ITS FALSE NEIGHBOUR: 'it returns false'. Refute it at one input. -/
def kindFormsWrong : ChangeSpec := { name := "kindForms", fn := fun _ => fun
  | [d1, d2] => { results := [.lit (.bool false)], args := [d1, d2] }
  | _ => none }
def KindFormsWrongFalsely : Prop := kindFormsRow.holds Try.pinned (OpenSpec.ofChange kindFormsWrong)

/-- 'pilasterlaw08.KindLimits': WHATEVER THE INPUT: true; the input reads as it did. -/
def kindLimitsSpec : ChangeSpec := { name := "kindLimits", fn := fun _ => fun
  | [d1, d2] => { results := [.lit (.bool true)], args := [d1, d2] }
  | _ => none }
def kindLimitsRow : OpenClaim := { program := "ytcdjdpoahngkjaa", sum := "862543d5b612fa1e2489103f7f22493a5ee81a657d684e84c3c75f700017ee1a", func := "pilaster/pilasterlaw08.KindLimits", spec := "kindLimits", inPlace := ["internal/abi.NoEscape"], recurses := true, apart := false }
def KindLimitsSaid : Prop := kindLimitsRow.holds Try.pinned (OpenSpec.ofChange kindLimitsSpec)

/-- ITS FALSE NEIGHBOUR: 'it returns false'. Refute it at one input. -/
def kindLimitsWrong : ChangeSpec := { name := "kindLimits", fn := fun _ => fun
  | [d1, d2] => { results := [.lit (.bool false)], args := [d1, d2] }
  | _ => none }
def KindLimitsWrongFalsely : Prop := kindLimitsRow.holds Try.pinned (OpenSpec.ofChange kindLimitsWrong)

/-- 'pilasterlaw08.KindBuilds': WHATEVER THE INPUT: true; the input reads as it did. -/
def kindBuildsSpec : ChangeSpec := { name := "kindBuilds", fn := fun _ => fun
  | [d1, d2, d3] => { results := [.lit (.bool true)], args := [d1, d2, d3] }
  | _ => none }
def kindBuildsRow : OpenClaim := { program := "ytcdjdpoahngkjaa", sum := "862543d5b612fa1e2489103f7f22493a5ee81a657d684e84c3c75f700017ee1a", func := "pilaster/pilasterlaw08.KindBuilds", spec := "kindBuilds", inPlace := ["internal/abi.NoEscape"], unfollowed := true, recurses := true, loops := true, apart := false }
def KindBuildsSaid : Prop := kindBuildsRow.holds Try.pinned (OpenSpec.ofChange kindBuildsSpec)

/-- ITS FALSE NEIGHBOUR: 'it returns false'. Refute it at one input. -/
def kindBuildsWrong : ChangeSpec := { name := "kindBuilds", fn := fun _ => fun
  | [d1, d2, d3] => { results := [.lit (.bool false)], args := [d1, d2, d3] }
  | _ => none }
def KindBuildsWrongFalsely : Prop := kindBuildsRow.holds Try.pinned (OpenSpec.ofChange kindBuildsWrong)

/-- 'pilasterlaw08.KindTexts': WHATEVER THE INPUT: true; the input reads as it did. -/
def kindTextsSpec : ChangeSpec := { name := "kindTexts", fn := fun _ => fun
  | [d1, d2] => { results := [.lit (.bool true)], args := [d1, d2] }
  | _ => none }
def kindTextsRow : OpenClaim := { program := "ytcdjdpoahngkjaa", sum := "862543d5b612fa1e2489103f7f22493a5ee81a657d684e84c3c75f700017ee1a", func := "pilaster/pilasterlaw08.KindTexts", spec := "kindTexts", inPlace := ["internal/abi.NoEscape"], unfollowed := true, recurses := true, loops := true, apart := false }
def KindTextsSaid : Prop := kindTextsRow.holds Try.pinned (OpenSpec.ofChange kindTextsSpec)

/-- ITS FALSE NEIGHBOUR: 'it returns false'. Refute it at one input. -/
def kindTextsWrong : ChangeSpec := { name := "kindTexts", fn := fun _ => fun
  | [d1, d2] => { results := [.lit (.bool false)], args := [d1, d2] }
  | _ => none }
def KindTextsWrongFalsely : Prop := kindTextsRow.holds Try.pinned (OpenSpec.ofChange kindTextsWrong)

/-- 'pilasterlaw08.KindBack': WHATEVER THE INPUT: true; the input reads as it did. -/
def kindBackSpec : ChangeSpec := { name := "kindBack", fn := fun _ => fun
  | [d1, d2] => { results := [.lit (.bool true)], args := [d1, d2] }
  | _ => none }
def kindBackRow : OpenClaim := { program := "ytcdjdpoahngkjaa", sum := "862543d5b612fa1e2489103f7f22493a5ee81a657d684e84c3c75f700017ee1a", func := "pilaster/pilasterlaw08.KindBack", spec := "kindBack", inPlace := ["internal/abi.NoEscape"], unfollowed := true, recurses := true, loops := true, apart := false }
def KindBackSaid : Prop := kindBackRow.holds Try.pinned (OpenSpec.ofChange kindBackSpec)

/-- ITS FALSE NEIGHBOUR: 'it returns false'. Refute it at one input. -/
def kindBackWrong : ChangeSpec := { name := "kindBack", fn := fun _ => fun
  | [d1, d2] => { results := [.lit (.bool false)], args := [d1, d2] }
  | _ => none }
def KindBackWrongFalsely : Prop := kindBackRow.holds Try.pinned (OpenSpec.ofChange kindBackWrong)

/-- 'pilasterlaw08.KindCurries': WHATEVER THE INPUT: true; the input reads as it did. -/
def kindCurriesSpec : ChangeSpec := { name := "kindCurries", fn := fun _ => fun
  | [d1, d2] => { results := [.lit (.bool true)], args := [d1, d2] }
  | _ => none }
def kindCurriesRow : OpenClaim := { program := "ytcdjdpoahngkjaa", sum := "862543d5b612fa1e2489103f7f22493a5ee81a657d684e84c3c75f700017ee1a", func := "pilaster/pilasterlaw08.KindCurries", spec := "kindCurries", inPlace := ["internal/abi.NoEscape"], unfollowed := true, recurses := true, loops := true, apart := false }
def KindCurriesSaid : Prop := kindCurriesRow.holds Try.pinned (OpenSpec.ofChange kindCurriesSpec)

/-- ITS FALSE NEIGHBOUR: 'it returns false'. Refute it at one input. -/
def kindCurriesWrong : ChangeSpec := { name := "kindCurries", fn := fun _ => fun
  | [d1, d2] => { results := [.lit (.bool false)], args := [d1, d2] }
  | _ => none }
def KindCurriesWrongFalsely : Prop := kindCurriesRow.holds Try.pinned (OpenSpec.ofChange kindCurriesWrong)

/- THE SECOND FORM. 'bulk': how many values and letters a reading holds, each counted each time it is reached (what is shared counts as often as it is met; a slice's spare places count too). A statement '..UptoSaid' is the law's where the arguments, and the package variables that the reading takes, are together of bulk at most 1048576: NARROWER than '..Said'. Prove '..Said' where nothing that the law and all that it calls make is longer than what came in: it says more and counts as full. Else prove '..UptoSaid'. A law counts once. -/
mutual
def uptoBulk {H : Type} : DataW H → Nat
  | .lit (.string bytes) => bytes.length + 1
  | .lit _ => 1
  | .nil => 1
  | .ptr d => uptoBulk d + 1
  | .slice elems spare => uptoBulkAll elems + uptoBulkAll spare + 1
  | .agg parts => uptoBulkAll parts + 1
  | .iface _ d => uptoBulk d + 1
  | .map entries => uptoBulkEntries entries + 1
  | .held _ => 1
def uptoBulkAll {H : Type} : List (DataW H) → Nat
  | [] => 0
  | d :: r => uptoBulk d + uptoBulkAll r
def uptoBulkEntries {H : Type} : List (Lit × DataW H) → Nat
  | [] => 0
  | x :: r => uptoBulkEntry x + uptoBulkEntries r
def uptoBulkEntry {H : Type} : Lit × DataW H → Nat
  | (.string bytes, d) => bytes.length + uptoBulk d + 1
  | (_, d) => uptoBulk d + 1
 end
def uptoSmall : (H : Type) → List (DataW H) → Bool := fun _ ds => decide (uptoBulkAll ds ≤ 1048576)
def OpenSpec.upto (s : _root_.Go.ChangeSpec) : _root_.Go.OpenSpec := { _root_.Go.OpenSpec.ofChange s with cond := some uptoSmall }

/-- 'pilasterlaw08.KindApplies', WHERE WHAT IT READS IS OF BULK AT MOST 1048576: true; the input reads as it did. -/
def kindAppliesUptoRow : OpenClaim := { program := "ytcdjdpoahngkjaa", sum := "862543d5b612fa1e2489103f7f22493a5ee81a657d684e84c3c75f700017ee1a", func := "pilaster/pilasterlaw08.KindApplies", spec := "kindApplies", inPlace := ["internal/abi.NoEscape"], unfollowed := true, recurses := true, loops := true, apart := false, narrowed := true }
def KindAppliesUptoSaid : Prop := kindAppliesUptoRow.holds Try.pinned (OpenSpec.upto kindAppliesSpec)

/-- 'pilasterlaw08.KindForms', WHERE WHAT IT READS IS OF BULK AT MOST 1048576: true; the input reads as it did. -/
def kindFormsUptoRow : OpenClaim := { program := "ytcdjdpoahngkjaa", sum := "862543d5b612fa1e2489103f7f22493a5ee81a657d684e84c3c75f700017ee1a", func := "pilaster/pilasterlaw08.KindForms", spec := "kindForms", inPlace := ["internal/abi.NoEscape"], unfollowed := true, recurses := true, loops := true, apart := false, narrowed := true }
def KindFormsUptoSaid : Prop := kindFormsUptoRow.holds Try.pinned (OpenSpec.upto kindFormsSpec)

/-- 'pilasterlaw08.KindLimits', WHERE WHAT IT READS IS OF BULK AT MOST 1048576: true; the input reads as it did. -/
def kindLimitsUptoRow : OpenClaim := { program := "ytcdjdpoahngkjaa", sum := "862543d5b612fa1e2489103f7f22493a5ee81a657d684e84c3c75f700017ee1a", func := "pilaster/pilasterlaw08.KindLimits", spec := "kindLimits", inPlace := ["internal/abi.NoEscape"], recurses := true, apart := false, narrowed := true }
def KindLimitsUptoSaid : Prop := kindLimitsUptoRow.holds Try.pinned (OpenSpec.upto kindLimitsSpec)

/-- 'pilasterlaw08.KindBuilds', WHERE WHAT IT READS IS OF BULK AT MOST 1048576: true; the input reads as it did. -/
def kindBuildsUptoRow : OpenClaim := { program := "ytcdjdpoahngkjaa", sum := "862543d5b612fa1e2489103f7f22493a5ee81a657d684e84c3c75f700017ee1a", func := "pilaster/pilasterlaw08.KindBuilds", spec := "kindBuilds", inPlace := ["internal/abi.NoEscape"], unfollowed := true, recurses := true, loops := true, apart := false, narrowed := true }
def KindBuildsUptoSaid : Prop := kindBuildsUptoRow.holds Try.pinned (OpenSpec.upto kindBuildsSpec)

/-- 'pilasterlaw08.KindTexts', WHERE WHAT IT READS IS OF BULK AT MOST 1048576: true; the input reads as it did. -/
def kindTextsUptoRow : OpenClaim := { program := "ytcdjdpoahngkjaa", sum := "862543d5b612fa1e2489103f7f22493a5ee81a657d684e84c3c75f700017ee1a", func := "pilaster/pilasterlaw08.KindTexts", spec := "kindTexts", inPlace := ["internal/abi.NoEscape"], unfollowed := true, recurses := true, loops := true, apart := false, narrowed := true }
def KindTextsUptoSaid : Prop := kindTextsUptoRow.holds Try.pinned (OpenSpec.upto kindTextsSpec)

/-- 'pilasterlaw08.KindBack', WHERE WHAT IT READS IS OF BULK AT MOST 1048576: true; the input reads as it did. -/
def kindBackUptoRow : OpenClaim := { program := "ytcdjdpoahngkjaa", sum := "862543d5b612fa1e2489103f7f22493a5ee81a657d684e84c3c75f700017ee1a", func := "pilaster/pilasterlaw08.KindBack", spec := "kindBack", inPlace := ["internal/abi.NoEscape"], unfollowed := true, recurses := true, loops := true, apart := false, narrowed := true }
def KindBackUptoSaid : Prop := kindBackUptoRow.holds Try.pinned (OpenSpec.upto kindBackSpec)

/-- 'pilasterlaw08.KindCurries', WHERE WHAT IT READS IS OF BULK AT MOST 1048576: true; the input reads as it did. -/
def kindCurriesUptoRow : OpenClaim := { program := "ytcdjdpoahngkjaa", sum := "862543d5b612fa1e2489103f7f22493a5ee81a657d684e84c3c75f700017ee1a", func := "pilaster/pilasterlaw08.KindCurries", spec := "kindCurries", inPlace := ["internal/abi.NoEscape"], unfollowed := true, recurses := true, loops := true, apart := false, narrowed := true }
def KindCurriesUptoSaid : Prop := kindCurriesUptoRow.holds Try.pinned (OpenSpec.upto kindCurriesSpec)

end Rows
end Go.Proofs.Ytcdjdpoahngkjaa
