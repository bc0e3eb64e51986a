/-
  No cell of these rows narrows 'for every input' (looked for: loops, veiled, ifaces, maps, wideKeys, modest, calm, conditions, laid).
  DERIVED. THE GIVEN ROWS OF THIS SEAT. 8 by the template 'for every input the law returns true; each argument reads behind the call as it read before'; 0 by the template 'total and deterministic' (their statements: YtodgdoglhecolaaGreatTotals.lean).
  GIVEN WITH THE SEED: the statements are not yours to turn. If you find one false, say at which input.
  Laid BY PROGRAM, IN A SANDBOX (cutbox-rows.mjs): the forced cells as the released guide's own fill.sh prints them over the translation 4e1adfae8f9c9378… (all of the seat's roots in one cut). By AI agents, Wed Nov 11 2026. No macro, syntax, notation, axiom, sorry.
-/
import Derived.Test.YtodgdoglhecolaaGreatChecked
import GoSem.Claim
import GoSem.ClaimJoined
import GoSem.ClaimMapViews
import Derived.JoinedTies
import Derived.KernelRfl
namespace Go.Proofs.YtodgdoglhecolaaGreat
/- THE CELL 'sum', in the pinned program and in every row, IS THE sha256 OF THE DUMP (.gsa) THAT YtodgdoglhecolaaGreatProg.lean LOADS. Nothing in Lean hashes anything: it is a label: what it is worth is what the hold of that sum in a sandbox is worth. -/
noncomputable def Tryz.pinned : Pinned := { name := "ytodgdoglhecolaagreat", sum := "4e1adfae8f9c9378bb27229fc551a73eb9c76c3d09d63a0c4dc035bc044cfaa0", checked := Tryz.checked }
namespace Rows
def none {H : Type} : Left H := { results := [], args := [] }

/-- 'codewrightlaw12.CodeLists': WHATEVER THE INPUT: true; the input reads as it did. -/
def codeListsSpec : ChangeSpec := { name := "codeLists", fn := fun _ => fun
  | [d1, d2, d3] => { results := [.lit (.bool true)], args := [d1, d2, d3] }
  | _ => none }
def codeListsRow : OpenClaim := { program := "ytodgdoglhecolaagreat", sum := "4e1adfae8f9c9378bb27229fc551a73eb9c76c3d09d63a0c4dc035bc044cfaa0", func := "codewright/codewrightlaw12.CodeLists", spec := "codeLists", unfollowed := true, recurses := true, apart := false }
def CodeListsSaid : Prop := codeListsRow.holds Tryz.pinned (OpenSpec.ofChange codeListsSpec)

/-- ITS FALSE NEIGHBOUR: 'it returns false'. Refute it at one input. -/
def codeListsWrong : ChangeSpec := { name := "codeLists", fn := fun _ => fun
  | [d1, d2, d3] => { results := [.lit (.bool false)], args := [d1, d2, d3] }
  | _ => none }
def CodeListsWrongFalsely : Prop := codeListsRow.holds Tryz.pinned (OpenSpec.ofChange codeListsWrong)

/-- 'codewrightlaw12.CodeWalks': WHATEVER THE INPUT: true; the input reads as it did. -/
def codeWalksSpec : ChangeSpec := { name := "codeWalks", fn := fun _ => fun
  | [d1, d2] => { results := [.lit (.bool true)], args := [d1, d2] }
  | _ => none }
def codeWalksRow : OpenClaim := { program := "ytodgdoglhecolaagreat", sum := "4e1adfae8f9c9378bb27229fc551a73eb9c76c3d09d63a0c4dc035bc044cfaa0", func := "codewright/codewrightlaw12.CodeWalks", spec := "codeWalks", unfollowed := true, recurses := true, apart := false }
def CodeWalksSaid : Prop := codeWalksRow.holds Tryz.pinned (OpenSpec.ofChange codeWalksSpec)

/-- ITS FALSE NEIGHBOUR: 'it returns false'. Refute it at one input. -/
def codeWalksWrong : ChangeSpec := { name := "codeWalks", fn := fun _ => fun
  | [d1, d2] => { results := [.lit (.bool false)], args := [d1, d2] }
  | _ => none }
def CodeWalksWrongFalsely : Prop := codeWalksRow.holds Tryz.pinned (OpenSpec.ofChange codeWalksWrong)

/-- 'codewrightlaw12.CodeChecks': WHATEVER THE INPUT: true; the input reads as it did. -/
def codeChecksSpec : ChangeSpec := { name := "codeChecks", fn := fun _ => fun
  | [d] => { results := [.lit (.bool true)], args := [d] }
  | _ => none }
def codeChecksRow : OpenClaim := { program := "ytodgdoglhecolaagreat", sum := "4e1adfae8f9c9378bb27229fc551a73eb9c76c3d09d63a0c4dc035bc044cfaa0", func := "codewright/codewrightlaw12.CodeChecks", spec := "codeChecks", unfollowed := true, recurses := true, apart := false }
def CodeChecksSaid : Prop := codeChecksRow.holds Tryz.pinned (OpenSpec.ofChange codeChecksSpec)

/-- ITS FALSE NEIGHBOUR: 'it returns false'. Refute it at one input. -/
def codeChecksWrong : ChangeSpec := { name := "codeChecks", fn := fun _ => fun
  | [d] => { results := [.lit (.bool false)], args := [d] }
  | _ => none }
def CodeChecksWrongFalsely : Prop := codeChecksRow.holds Tryz.pinned (OpenSpec.ofChange codeChecksWrong)

/-- 'codewrightlaw12.CodeDuality': WHATEVER THE INPUT: true; the input reads as it did. -/
def codeDualitySpec : ChangeSpec := { name := "codeDuality", fn := fun _ => fun
  | [d1, d2, d3] => { results := [.lit (.bool true)], args := [d1, d2, d3] }
  | _ => none }
def codeDualityRow : OpenClaim := { program := "ytodgdoglhecolaagreat", sum := "4e1adfae8f9c9378bb27229fc551a73eb9c76c3d09d63a0c4dc035bc044cfaa0", func := "codewright/codewrightlaw12.CodeDuality", spec := "codeDuality", unfollowed := true, recurses := true, apart := false }
def CodeDualitySaid : Prop := codeDualityRow.holds Tryz.pinned (OpenSpec.ofChange codeDualitySpec)

/-- ITS FALSE NEIGHBOUR: 'it returns false'. Refute it at one input. -/
def codeDualityWrong : ChangeSpec := { name := "codeDuality", fn := fun _ => fun
  | [d1, d2, d3] => { results := [.lit (.bool false)], args := [d1, d2, d3] }
  | _ => none }
def CodeDualityWrongFalsely : Prop := codeDualityRow.holds Tryz.pinned (OpenSpec.ofChange codeDualityWrong)

/-- 'codewrightlaw12.CodeWords': WHATEVER THE INPUT: true; the input reads as it did. -/
def codeWordsSpec : ChangeSpec := { name := "codeWords", fn := fun _ => fun
  | [d1, d2] => { results := [.lit (.bool true)], args := [d1, d2] }
  | _ => none }
def codeWordsRow : OpenClaim := { program := "ytodgdoglhecolaagreat", sum := "4e1adfae8f9c9378bb27229fc551a73eb9c76c3d09d63a0c4dc035bc044cfaa0", func := "codewright/codewrightlaw12.CodeWords", spec := "codeWords", unfollowed := true, recurses := true, apart := false }
def CodeWordsSaid : Prop := codeWordsRow.holds Tryz.pinned (OpenSpec.ofChange codeWordsSpec)

/-- ITS FALSE NEIGHBOUR: 'it returns false'. Refute it at one input. -/
def codeWordsWrong : ChangeSpec := { name := "codeWords", fn := fun _ => fun
  | [d1, d2] => { results := [.lit (.bool false)], args := [d1, d2] }
  | _ => none }
def CodeWordsWrongFalsely : Prop := codeWordsRow.holds Tryz.pinned (OpenSpec.ofChange codeWordsWrong)

/-- 'codewrightlaw12.CodeSyndromes': WHATEVER THE INPUT: true; the input reads as it did. -/
def codeSyndromesSpec : ChangeSpec := { name := "codeSyndromes", fn := fun _ => fun
  | [d1, d2, d3] => { results := [.lit (.bool true)], args := [d1, d2, d3] }
  | _ => none }
def codeSyndromesRow : OpenClaim := { program := "ytodgdoglhecolaagreat", sum := "4e1adfae8f9c9378bb27229fc551a73eb9c76c3d09d63a0c4dc035bc044cfaa0", func := "codewright/codewrightlaw12.CodeSyndromes", spec := "codeSyndromes", unfollowed := true, recurses := true, apart := false }
def CodeSyndromesSaid : Prop := codeSyndromesRow.holds Tryz.pinned (OpenSpec.ofChange codeSyndromesSpec)

/-- ITS FALSE NEIGHBOUR: 'it returns false'. Refute it at one input. -/
def codeSyndromesWrong : ChangeSpec := { name := "codeSyndromes", fn := fun _ => fun
  | [d1, d2, d3] => { results := [.lit (.bool false)], args := [d1, d2, d3] }
  | _ => none }
def CodeSyndromesWrongFalsely : Prop := codeSyndromesRow.holds Tryz.pinned (OpenSpec.ofChange codeSyndromesWrong)

/-- 'codewrightlaw12.CodeMakes': WHATEVER THE INPUT: true; the input reads as it did. -/
def codeMakesSpec : ChangeSpec := { name := "codeMakes", fn := fun _ => fun
  | [d1, d2, d3] => { results := [.lit (.bool true)], args := [d1, d2, d3] }
  | _ => none }
def codeMakesRow : OpenClaim := { program := "ytodgdoglhecolaagreat", sum := "4e1adfae8f9c9378bb27229fc551a73eb9c76c3d09d63a0c4dc035bc044cfaa0", func := "codewright/codewrightlaw12.CodeMakes", spec := "codeMakes", unfollowed := true, recurses := true, apart := false }
def CodeMakesSaid : Prop := codeMakesRow.holds Tryz.pinned (OpenSpec.ofChange codeMakesSpec)

/-- ITS FALSE NEIGHBOUR: 'it returns false'. Refute it at one input. -/
def codeMakesWrong : ChangeSpec := { name := "codeMakes", fn := fun _ => fun
  | [d1, d2, d3] => { results := [.lit (.bool false)], args := [d1, d2, d3] }
  | _ => none }
def CodeMakesWrongFalsely : Prop := codeMakesRow.holds Tryz.pinned (OpenSpec.ofChange codeMakesWrong)

/-- 'codewrightlaw12.CodePairs': WHATEVER THE INPUT: true; the input reads as it did. -/
def codePairsSpec : ChangeSpec := { name := "codePairs", fn := fun _ => fun
  | [d1, d2] => { results := [.lit (.bool true)], args := [d1, d2] }
  | _ => none }
def codePairsRow : OpenClaim := { program := "ytodgdoglhecolaagreat", sum := "4e1adfae8f9c9378bb27229fc551a73eb9c76c3d09d63a0c4dc035bc044cfaa0", func := "codewright/codewrightlaw12.CodePairs", spec := "codePairs", unfollowed := true, recurses := true, apart := false }
def CodePairsSaid : Prop := codePairsRow.holds Tryz.pinned (OpenSpec.ofChange codePairsSpec)

/-- ITS FALSE NEIGHBOUR: 'it returns false'. Refute it at one input. -/
def codePairsWrong : ChangeSpec := { name := "codePairs", fn := fun _ => fun
  | [d1, d2] => { results := [.lit (.bool false)], args := [d1, d2] }
  | _ => none }
def CodePairsWrongFalsely : Prop := codePairsRow.holds Tryz.pinned (OpenSpec.ofChange codePairsWrong)

/- THE SECOND FORM. 'bulk': how many values and letters a reading holds, each counted each time it is reached (what is shared counts as often as it is met; a slice's spare places count too). A statement '..UptoSaid' is the law's where the arguments, and the package variables that the reading takes, are together of bulk at most 1048576: NARROWER than '..Said'. Prove '..Said' where nothing that the law and all that it calls make is longer than what came in: it says more and counts as full. Else prove '..UptoSaid'. A law counts once. -/
mutual
def uptoBulk {H : Type} : DataW H → Nat
  | .lit (.string bytes) => bytes.length + 1
  | .lit _ => 1
  | .nil => 1
  | .ptr d => uptoBulk d + 1
  | .slice elems spare => uptoBulkAll elems + uptoBulkAll spare + 1
  | .agg parts => uptoBulkAll parts + 1
  | .iface _ d => uptoBulk d + 1
  | .map entries => uptoBulkEntries entries + 1
  | .held _ => 1
def uptoBulkAll {H : Type} : List (DataW H) → Nat
  | [] => 0
  | d :: r => uptoBulk d + uptoBulkAll r
def uptoBulkEntries {H : Type} : List (Lit × DataW H) → Nat
  | [] => 0
  | x :: r => uptoBulkEntry x + uptoBulkEntries r
def uptoBulkEntry {H : Type} : Lit × DataW H → Nat
  | (.string bytes, d) => bytes.length + uptoBulk d + 1
  | (_, d) => uptoBulk d + 1
 end
def uptoSmall : (H : Type) → List (DataW H) → Bool := fun _ ds => decide (uptoBulkAll ds ≤ 1048576)
def OpenSpec.upto (s : _root_.Go.ChangeSpec) : _root_.Go.OpenSpec := { _root_.Go.OpenSpec.ofChange s with cond := some uptoSmall }

/-- 'codewrightlaw12.CodeLists', WHERE WHAT IT READS IS OF BULK AT MOST 1048576: true; the input reads as it did. -/
def codeListsUptoRow : OpenClaim := { program := "ytodgdoglhecolaagreat", sum := "4e1adfae8f9c9378bb27229fc551a73eb9c76c3d09d63a0c4dc035bc044cfaa0", func := "codewright/codewrightlaw12.CodeLists", spec := "codeLists", unfollowed := true, recurses := true, apart := false, narrowed := true }
def CodeListsUptoSaid : Prop := codeListsUptoRow.holds Tryz.pinned (OpenSpec.upto codeListsSpec)

/-- 'codewrightlaw12.CodeWalks', WHERE WHAT IT READS IS OF BULK AT MOST 1048576: true; the input reads as it did. -/
def codeWalksUptoRow : OpenClaim := { program := "ytodgdoglhecolaagreat", sum := "4e1adfae8f9c9378bb27229fc551a73eb9c76c3d09d63a0c4dc035bc044cfaa0", func := "codewright/codewrightlaw12.CodeWalks", spec := "codeWalks", unfollowed := true, recurses := true, apart := false, narrowed := true }
def CodeWalksUptoSaid : Prop := codeWalksUptoRow.holds Tryz.pinned (OpenSpec.upto codeWalksSpec)

/-- 'codewrightlaw12.CodeChecks', WHERE WHAT IT READS IS OF BULK AT MOST 1048576: true; the input reads as it did. -/
def codeChecksUptoRow : OpenClaim := { program := "ytodgdoglhecolaagreat", sum := "4e1adfae8f9c9378bb27229fc551a73eb9c76c3d09d63a0c4dc035bc044cfaa0", func := "codewright/codewrightlaw12.CodeChecks", spec := "codeChecks", unfollowed := true, recurses := true, apart := false, narrowed := true }
def CodeChecksUptoSaid : Prop := codeChecksUptoRow.holds Tryz.pinned (OpenSpec.upto codeChecksSpec)

/-- 'codewrightlaw12.CodeDuality', WHERE WHAT IT READS IS OF BULK AT MOST 1048576: true; the input reads as it did. -/
def codeDualityUptoRow : OpenClaim := { program := "ytodgdoglhecolaagreat", sum := "4e1adfae8f9c9378bb27229fc551a73eb9c76c3d09d63a0c4dc035bc044cfaa0", func := "codewright/codewrightlaw12.CodeDuality", spec := "codeDuality", unfollowed := true, recurses := true, apart := false, narrowed := true }
def CodeDualityUptoSaid : Prop := codeDualityUptoRow.holds Tryz.pinned (OpenSpec.upto codeDualitySpec)

/-- 'codewrightlaw12.CodeWords', WHERE WHAT IT READS IS OF BULK AT MOST 1048576: true; the input reads as it did. -/
def codeWordsUptoRow : OpenClaim := { program := "ytodgdoglhecolaagreat", sum := "4e1adfae8f9c9378bb27229fc551a73eb9c76c3d09d63a0c4dc035bc044cfaa0", func := "codewright/codewrightlaw12.CodeWords", spec := "codeWords", unfollowed := true, recurses := true, apart := false, narrowed := true }
def CodeWordsUptoSaid : Prop := codeWordsUptoRow.holds Tryz.pinned (OpenSpec.upto codeWordsSpec)

/-- 'codewrightlaw12.CodeSyndromes', WHERE WHAT IT READS IS OF BULK AT MOST 1048576: true; the input reads as it did. -/
def codeSyndromesUptoRow : OpenClaim := { program := "ytodgdoglhecolaagreat", sum := "4e1adfae8f9c9378bb27229fc551a73eb9c76c3d09d63a0c4dc035bc044cfaa0", func := "codewright/codewrightlaw12.CodeSyndromes", spec := "codeSyndromes", unfollowed := true, recurses := true, apart := false, narrowed := true }
def CodeSyndromesUptoSaid : Prop := codeSyndromesUptoRow.holds Tryz.pinned (OpenSpec.upto codeSyndromesSpec)

/-- 'codewrightlaw12.CodeMakes', WHERE WHAT IT READS IS OF BULK AT MOST 1048576: true; the input reads as it did. -/
def codeMakesUptoRow : OpenClaim := { program := "ytodgdoglhecolaagreat", sum := "4e1adfae8f9c9378bb27229fc551a73eb9c76c3d09d63a0c4dc035bc044cfaa0", func := "codewright/codewrightlaw12.CodeMakes", spec := "codeMakes", unfollowed := true, recurses := true, apart := false, narrowed := true }
def CodeMakesUptoSaid : Prop := codeMakesUptoRow.holds Tryz.pinned (OpenSpec.upto codeMakesSpec)

/-- 'codewrightlaw12.CodePairs', WHERE WHAT IT READS IS OF BULK AT MOST 1048576: true; the input reads as it did. -/
def codePairsUptoRow : OpenClaim := { program := "ytodgdoglhecolaagreat", sum := "4e1adfae8f9c9378bb27229fc551a73eb9c76c3d09d63a0c4dc035bc044cfaa0", func := "codewright/codewrightlaw12.CodePairs", spec := "codePairs", unfollowed := true, recurses := true, apart := false, narrowed := true }
def CodePairsUptoSaid : Prop := codePairsUptoRow.holds Tryz.pinned (OpenSpec.upto codePairsSpec)

end Rows
end Go.Proofs.YtodgdoglhecolaaGreat
