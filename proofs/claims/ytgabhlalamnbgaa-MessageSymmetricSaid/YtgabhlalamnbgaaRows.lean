/-
  No cell of these rows narrows 'for every input' (looked for: loops, veiled, ifaces, maps, wideKeys, modest, calm, conditions, laid).
  DERIVED. THE GIVEN ROWS OF THIS SEAT. 10 by the template 'for every input the law returns true; each argument reads behind the call as it read before'; 0 by the template 'total and deterministic' (their statements: YtgabhlalamnbgaaTotals.lean).
  GIVEN WITH THE SEED: the statements are not yours to turn. If you find one false, say at which input.
  Laid BY PROGRAM, IN A SANDBOX (cutbox-rows.mjs): the forced cells as the released guide's own fill.sh prints them over the translation 279544a8b0ababe8… (all of the seat's roots in one cut). By AI agents, Wed Nov 11 2026. No macro, syntax, notation, axiom, sorry.
-/
import Derived.Test.YtgabhlalamnbgaaChecked
import GoSem.Claim
import GoSem.ClaimJoined
import GoSem.ClaimMapViews
import Derived.JoinedTies
import Derived.KernelRfl
namespace Go.Proofs.Ytgabhlalamnbgaa
/- THE CELL 'sum', in the pinned program and in every row, IS THE sha256 OF THE DUMP (.gsa) THAT YtgabhlalamnbgaaProg.lean LOADS. Nothing in Lean hashes anything: it is a label: what it is worth is what the hold of that sum in a sandbox is worth. -/
noncomputable def Try.pinned : Pinned := { name := "ytgabhlalamnbgaa", sum := "279544a8b0ababe89205a3cf97323734f694e71b5aadd3aa2418013b27cf670d", checked := Try.checked }
namespace Rows
def none {H : Type} : Left H := { results := [], args := [] }

/-- 'codewrightlaw45.MessageTraps': WHATEVER THE INPUT: true; the input reads as it did. -/
def messageTrapsSpec : ChangeSpec := { name := "messageTraps", fn := fun _ => fun
  | [d1, d2] => { results := [.lit (.bool true)], args := [d1, d2] }
  | _ => none }
def messageTrapsRow : OpenClaim := { program := "ytgabhlalamnbgaa", sum := "279544a8b0ababe89205a3cf97323734f694e71b5aadd3aa2418013b27cf670d", func := "codewright/codewrightlaw45.MessageTraps", spec := "messageTraps", apart := false }
def MessageTrapsSaid : Prop := messageTrapsRow.holds Try.pinned (OpenSpec.ofChange messageTrapsSpec)

/-- ITS FALSE NEIGHBOUR: 'it returns false'. Refute it at one input. -/
def messageTrapsWrong : ChangeSpec := { name := "messageTraps", fn := fun _ => fun
  | [d1, d2] => { results := [.lit (.bool false)], args := [d1, d2] }
  | _ => none }
def MessageTrapsWrongFalsely : Prop := messageTrapsRow.holds Try.pinned (OpenSpec.ofChange messageTrapsWrong)

/-- 'codewrightlaw45.MessageFlips': WHATEVER THE INPUT: true; the input reads as it did. -/
def messageFlipsSpec : ChangeSpec := { name := "messageFlips", fn := fun _ => fun
  | [d1, d2] => { results := [.lit (.bool true)], args := [d1, d2] }
  | _ => none }
def messageFlipsRow : OpenClaim := { program := "ytgabhlalamnbgaa", sum := "279544a8b0ababe89205a3cf97323734f694e71b5aadd3aa2418013b27cf670d", func := "codewright/codewrightlaw45.MessageFlips", spec := "messageFlips", apart := false }
def MessageFlipsSaid : Prop := messageFlipsRow.holds Try.pinned (OpenSpec.ofChange messageFlipsSpec)

/-- ITS FALSE NEIGHBOUR: 'it returns false'. Refute it at one input. -/
def messageFlipsWrong : ChangeSpec := { name := "messageFlips", fn := fun _ => fun
  | [d1, d2] => { results := [.lit (.bool false)], args := [d1, d2] }
  | _ => none }
def MessageFlipsWrongFalsely : Prop := messageFlipsRow.holds Try.pinned (OpenSpec.ofChange messageFlipsWrong)

/-- 'codewrightlaw45.MessageDecreases': WHATEVER THE INPUT: true; the input reads as it did. -/
def messageDecreasesSpec : ChangeSpec := { name := "messageDecreases", fn := fun _ => fun
  | [d1, d2] => { results := [.lit (.bool true)], args := [d1, d2] }
  | _ => none }
def messageDecreasesRow : OpenClaim := { program := "ytgabhlalamnbgaa", sum := "279544a8b0ababe89205a3cf97323734f694e71b5aadd3aa2418013b27cf670d", func := "codewright/codewrightlaw45.MessageDecreases", spec := "messageDecreases", apart := false }
def MessageDecreasesSaid : Prop := messageDecreasesRow.holds Try.pinned (OpenSpec.ofChange messageDecreasesSpec)

/-- ITS FALSE NEIGHBOUR: 'it returns false'. Refute it at one input. -/
def messageDecreasesWrong : ChangeSpec := { name := "messageDecreases", fn := fun _ => fun
  | [d1, d2] => { results := [.lit (.bool false)], args := [d1, d2] }
  | _ => none }
def MessageDecreasesWrongFalsely : Prop := messageDecreasesRow.holds Try.pinned (OpenSpec.ofChange messageDecreasesWrong)

/-- 'codewrightlaw45.MessageSmallest': WHATEVER THE INPUT: true; the input reads as it did. -/
def messageSmallestSpec : ChangeSpec := { name := "messageSmallest", fn := fun _ => fun
  | [d1, d2] => { results := [.lit (.bool true)], args := [d1, d2] }
  | _ => none }
def messageSmallestRow : OpenClaim := { program := "ytgabhlalamnbgaa", sum := "279544a8b0ababe89205a3cf97323734f694e71b5aadd3aa2418013b27cf670d", func := "codewright/codewrightlaw45.MessageSmallest", spec := "messageSmallest", recurses := true, apart := false }
def MessageSmallestSaid : Prop := messageSmallestRow.holds Try.pinned (OpenSpec.ofChange messageSmallestSpec)

/-- ITS FALSE NEIGHBOUR: 'it returns false'. Refute it at one input. -/
def messageSmallestWrong : ChangeSpec := { name := "messageSmallest", fn := fun _ => fun
  | [d1, d2] => { results := [.lit (.bool false)], args := [d1, d2] }
  | _ => none }
def MessageSmallestWrongFalsely : Prop := messageSmallestRow.holds Try.pinned (OpenSpec.ofChange messageSmallestWrong)

/-- 'codewrightlaw45.MessageDistance': WHATEVER THE INPUT: true; the input reads as it did. -/
def messageDistanceSpec : ChangeSpec := { name := "messageDistance", fn := fun _ => fun
  | [d1, d2] => { results := [.lit (.bool true)], args := [d1, d2] }
  | _ => none }
def messageDistanceRow : OpenClaim := { program := "ytgabhlalamnbgaa", sum := "279544a8b0ababe89205a3cf97323734f694e71b5aadd3aa2418013b27cf670d", func := "codewright/codewrightlaw45.MessageDistance", spec := "messageDistance", recurses := true, apart := false }
def MessageDistanceSaid : Prop := messageDistanceRow.holds Try.pinned (OpenSpec.ofChange messageDistanceSpec)

/-- ITS FALSE NEIGHBOUR: 'it returns false'. Refute it at one input. -/
def messageDistanceWrong : ChangeSpec := { name := "messageDistance", fn := fun _ => fun
  | [d1, d2] => { results := [.lit (.bool false)], args := [d1, d2] }
  | _ => none }
def MessageDistanceWrongFalsely : Prop := messageDistanceRow.holds Try.pinned (OpenSpec.ofChange messageDistanceWrong)

/-- 'codewrightlaw45.MessageExact': WHATEVER THE INPUT: true; the input reads as it did. -/
def messageExactSpec : ChangeSpec := { name := "messageExact", fn := fun _ => fun
  | [d1, d2, d3] => { results := [.lit (.bool true)], args := [d1, d2, d3] }
  | _ => none }
def messageExactRow : OpenClaim := { program := "ytgabhlalamnbgaa", sum := "279544a8b0ababe89205a3cf97323734f694e71b5aadd3aa2418013b27cf670d", func := "codewright/codewrightlaw45.MessageExact", spec := "messageExact", apart := false }
def MessageExactSaid : Prop := messageExactRow.holds Try.pinned (OpenSpec.ofChange messageExactSpec)

/-- ITS FALSE NEIGHBOUR: 'it returns false'. Refute it at one input. -/
def messageExactWrong : ChangeSpec := { name := "messageExact", fn := fun _ => fun
  | [d1, d2, d3] => { results := [.lit (.bool false)], args := [d1, d2, d3] }
  | _ => none }
def MessageExactWrongFalsely : Prop := messageExactRow.holds Try.pinned (OpenSpec.ofChange messageExactWrong)

/-- 'codewrightlaw45.MessageBeliefs': WHATEVER THE INPUT: true; the input reads as it did. -/
def messageBeliefsSpec : ChangeSpec := { name := "messageBeliefs", fn := fun _ => fun
  | [d1, d2, d3] => { results := [.lit (.bool true)], args := [d1, d2, d3] }
  | _ => none }
def messageBeliefsRow : OpenClaim := { program := "ytgabhlalamnbgaa", sum := "279544a8b0ababe89205a3cf97323734f694e71b5aadd3aa2418013b27cf670d", func := "codewright/codewrightlaw45.MessageBeliefs", spec := "messageBeliefs", apart := false }
def MessageBeliefsSaid : Prop := messageBeliefsRow.holds Try.pinned (OpenSpec.ofChange messageBeliefsSpec)

/-- ITS FALSE NEIGHBOUR: 'it returns false'. Refute it at one input. -/
def messageBeliefsWrong : ChangeSpec := { name := "messageBeliefs", fn := fun _ => fun
  | [d1, d2, d3] => { results := [.lit (.bool false)], args := [d1, d2, d3] }
  | _ => none }
def MessageBeliefsWrongFalsely : Prop := messageBeliefsRow.holds Try.pinned (OpenSpec.ofChange messageBeliefsWrong)

/-- 'codewrightlaw45.MessageMinSums': WHATEVER THE INPUT: true; the input reads as it did. -/
def messageMinSumsSpec : ChangeSpec := { name := "messageMinSums", fn := fun _ => fun
  | [d1, d2, d3] => { results := [.lit (.bool true)], args := [d1, d2, d3] }
  | _ => none }
def messageMinSumsRow : OpenClaim := { program := "ytgabhlalamnbgaa", sum := "279544a8b0ababe89205a3cf97323734f694e71b5aadd3aa2418013b27cf670d", func := "codewright/codewrightlaw45.MessageMinSums", spec := "messageMinSums", apart := false }
def MessageMinSumsSaid : Prop := messageMinSumsRow.holds Try.pinned (OpenSpec.ofChange messageMinSumsSpec)

/-- ITS FALSE NEIGHBOUR: 'it returns false'. Refute it at one input. -/
def messageMinSumsWrong : ChangeSpec := { name := "messageMinSums", fn := fun _ => fun
  | [d1, d2, d3] => { results := [.lit (.bool false)], args := [d1, d2, d3] }
  | _ => none }
def MessageMinSumsWrongFalsely : Prop := messageMinSumsRow.holds Try.pinned (OpenSpec.ofChange messageMinSumsWrong)

/-- 'codewrightlaw45.MessageBest': WHATEVER THE INPUT: true; the input reads as it did. -/
def messageBestSpec : ChangeSpec := { name := "messageBest", fn := fun _ => fun
  | [d1, d2, d3] => { results := [.lit (.bool true)], args := [d1, d2, d3] }
  | _ => none }
def messageBestRow : OpenClaim := { program := "ytgabhlalamnbgaa", sum := "279544a8b0ababe89205a3cf97323734f694e71b5aadd3aa2418013b27cf670d", func := "codewright/codewrightlaw45.MessageBest", spec := "messageBest", apart := false }
def MessageBestSaid : Prop := messageBestRow.holds Try.pinned (OpenSpec.ofChange messageBestSpec)

/-- ITS FALSE NEIGHBOUR: 'it returns false'. Refute it at one input. -/
def messageBestWrong : ChangeSpec := { name := "messageBest", fn := fun _ => fun
  | [d1, d2, d3] => { results := [.lit (.bool false)], args := [d1, d2, d3] }
  | _ => none }
def MessageBestWrongFalsely : Prop := messageBestRow.holds Try.pinned (OpenSpec.ofChange messageBestWrong)

/-- 'codewrightlaw45.MessageSymmetric': WHATEVER THE INPUT: true; the input reads as it did. -/
def messageSymmetricSpec : ChangeSpec := { name := "messageSymmetric", fn := fun _ => fun
  | [d1, d2, d3, d4, d5] => { results := [.lit (.bool true)], args := [d1, d2, d3, d4, d5] }
  | _ => none }
def messageSymmetricRow : OpenClaim := { program := "ytgabhlalamnbgaa", sum := "279544a8b0ababe89205a3cf97323734f694e71b5aadd3aa2418013b27cf670d", func := "codewright/codewrightlaw45.MessageSymmetric", spec := "messageSymmetric", apart := false }
def MessageSymmetricSaid : Prop := messageSymmetricRow.holds Try.pinned (OpenSpec.ofChange messageSymmetricSpec)

/-- ITS FALSE NEIGHBOUR: 'it returns false'. Refute it at one input. -/
def messageSymmetricWrong : ChangeSpec := { name := "messageSymmetric", fn := fun _ => fun
  | [d1, d2, d3, d4, d5] => { results := [.lit (.bool false)], args := [d1, d2, d3, d4, d5] }
  | _ => none }
def MessageSymmetricWrongFalsely : Prop := messageSymmetricRow.holds Try.pinned (OpenSpec.ofChange messageSymmetricWrong)

/- THE SECOND FORM. 'bulk': how many values and letters a reading holds, each counted each time it is reached (what is shared counts as often as it is met; a slice's spare places count too). A statement '..UptoSaid' is the law's where the arguments, and the package variables that the reading takes, are together of bulk at most 1048576: NARROWER than '..Said'. Prove '..Said' where nothing that the law and all that it calls make is longer than what came in: it says more and counts as full. Else prove '..UptoSaid'. A law counts once. -/
mutual
def uptoBulk {H : Type} : DataW H → Nat
  | .lit (.string bytes) => bytes.length + 1
  | .lit _ => 1
  | .nil => 1
  | .ptr d => uptoBulk d + 1
  | .slice elems spare => uptoBulkAll elems + uptoBulkAll spare + 1
  | .agg parts => uptoBulkAll parts + 1
  | .iface _ d => uptoBulk d + 1
  | .map entries => uptoBulkEntries entries + 1
  | .held _ => 1
def uptoBulkAll {H : Type} : List (DataW H) → Nat
  | [] => 0
  | d :: r => uptoBulk d + uptoBulkAll r
def uptoBulkEntries {H : Type} : List (Lit × DataW H) → Nat
  | [] => 0
  | x :: r => uptoBulkEntry x + uptoBulkEntries r
def uptoBulkEntry {H : Type} : Lit × DataW H → Nat
  | (.string bytes, d) => bytes.length + uptoBulk d + 1
  | (_, d) => uptoBulk d + 1
 end
def uptoSmall : (H : Type) → List (DataW H) → Bool := fun _ ds => decide (uptoBulkAll ds ≤ 1048576)
def OpenSpec.upto (s : _root_.Go.ChangeSpec) : _root_.Go.OpenSpec := { _root_.Go.OpenSpec.ofChange s with cond := some uptoSmall }

/-- 'codewrightlaw45.MessageTraps', WHERE WHAT IT READS IS OF BULK AT MOST 1048576: true; the input reads as it did. -/
def messageTrapsUptoRow : OpenClaim := { program := "ytgabhlalamnbgaa", sum := "279544a8b0ababe89205a3cf97323734f694e71b5aadd3aa2418013b27cf670d", func := "codewright/codewrightlaw45.MessageTraps", spec := "messageTraps", apart := false, narrowed := true }
def MessageTrapsUptoSaid : Prop := messageTrapsUptoRow.holds Try.pinned (OpenSpec.upto messageTrapsSpec)

/-- 'codewrightlaw45.MessageFlips', WHERE WHAT IT READS IS OF BULK AT MOST 1048576: true; the input reads as it did. -/
def messageFlipsUptoRow : OpenClaim := { program := "ytgabhlalamnbgaa", sum := "279544a8b0ababe89205a3cf97323734f694e71b5aadd3aa2418013b27cf670d", func := "codewright/codewrightlaw45.MessageFlips", spec := "messageFlips", apart := false, narrowed := true }
def MessageFlipsUptoSaid : Prop := messageFlipsUptoRow.holds Try.pinned (OpenSpec.upto messageFlipsSpec)

/-- 'codewrightlaw45.MessageDecreases', WHERE WHAT IT READS IS OF BULK AT MOST 1048576: true; the input reads as it did. -/
def messageDecreasesUptoRow : OpenClaim := { program := "ytgabhlalamnbgaa", sum := "279544a8b0ababe89205a3cf97323734f694e71b5aadd3aa2418013b27cf670d", func := "codewright/codewrightlaw45.MessageDecreases", spec := "messageDecreases", apart := false, narrowed := true }
def MessageDecreasesUptoSaid : Prop := messageDecreasesUptoRow.holds Try.pinned (OpenSpec.upto messageDecreasesSpec)

/-- 'codewrightlaw45.MessageSmallest', WHERE WHAT IT READS IS OF BULK AT MOST 1048576: true; the input reads as it did. -/
def messageSmallestUptoRow : OpenClaim := { program := "ytgabhlalamnbgaa", sum := "279544a8b0ababe89205a3cf97323734f694e71b5aadd3aa2418013b27cf670d", func := "codewright/codewrightlaw45.MessageSmallest", spec := "messageSmallest", recurses := true, apart := false, narrowed := true }
def MessageSmallestUptoSaid : Prop := messageSmallestUptoRow.holds Try.pinned (OpenSpec.upto messageSmallestSpec)

/-- 'codewrightlaw45.MessageDistance', WHERE WHAT IT READS IS OF BULK AT MOST 1048576: true; the input reads as it did. -/
def messageDistanceUptoRow : OpenClaim := { program := "ytgabhlalamnbgaa", sum := "279544a8b0ababe89205a3cf97323734f694e71b5aadd3aa2418013b27cf670d", func := "codewright/codewrightlaw45.MessageDistance", spec := "messageDistance", recurses := true, apart := false, narrowed := true }
def MessageDistanceUptoSaid : Prop := messageDistanceUptoRow.holds Try.pinned (OpenSpec.upto messageDistanceSpec)

/-- 'codewrightlaw45.MessageExact', WHERE WHAT IT READS IS OF BULK AT MOST 1048576: true; the input reads as it did. -/
def messageExactUptoRow : OpenClaim := { program := "ytgabhlalamnbgaa", sum := "279544a8b0ababe89205a3cf97323734f694e71b5aadd3aa2418013b27cf670d", func := "codewright/codewrightlaw45.MessageExact", spec := "messageExact", apart := false, narrowed := true }
def MessageExactUptoSaid : Prop := messageExactUptoRow.holds Try.pinned (OpenSpec.upto messageExactSpec)

/-- 'codewrightlaw45.MessageBeliefs', WHERE WHAT IT READS IS OF BULK AT MOST 1048576: true; the input reads as it did. -/
def messageBeliefsUptoRow : OpenClaim := { program := "ytgabhlalamnbgaa", sum := "279544a8b0ababe89205a3cf97323734f694e71b5aadd3aa2418013b27cf670d", func := "codewright/codewrightlaw45.MessageBeliefs", spec := "messageBeliefs", apart := false, narrowed := true }
def MessageBeliefsUptoSaid : Prop := messageBeliefsUptoRow.holds Try.pinned (OpenSpec.upto messageBeliefsSpec)

/-- 'codewrightlaw45.MessageMinSums', WHERE WHAT IT READS IS OF BULK AT MOST 1048576: true; the input reads as it did. -/
def messageMinSumsUptoRow : OpenClaim := { program := "ytgabhlalamnbgaa", sum := "279544a8b0ababe89205a3cf97323734f694e71b5aadd3aa2418013b27cf670d", func := "codewright/codewrightlaw45.MessageMinSums", spec := "messageMinSums", apart := false, narrowed := true }
def MessageMinSumsUptoSaid : Prop := messageMinSumsUptoRow.holds Try.pinned (OpenSpec.upto messageMinSumsSpec)

/-- 'codewrightlaw45.MessageBest', WHERE WHAT IT READS IS OF BULK AT MOST 1048576: true; the input reads as it did. -/
def messageBestUptoRow : OpenClaim := { program := "ytgabhlalamnbgaa", sum := "279544a8b0ababe89205a3cf97323734f694e71b5aadd3aa2418013b27cf670d", func := "codewright/codewrightlaw45.MessageBest", spec := "messageBest", apart := false, narrowed := true }
def MessageBestUptoSaid : Prop := messageBestUptoRow.holds Try.pinned (OpenSpec.upto messageBestSpec)

/-- 'codewrightlaw45.MessageSymmetric', WHERE WHAT IT READS IS OF BULK AT MOST 1048576: true; the input reads as it did. -/
def messageSymmetricUptoRow : OpenClaim := { program := "ytgabhlalamnbgaa", sum := "279544a8b0ababe89205a3cf97323734f694e71b5aadd3aa2418013b27cf670d", func := "codewright/codewrightlaw45.MessageSymmetric", spec := "messageSymmetric", apart := false, narrowed := true }
def MessageSymmetricUptoSaid : Prop := messageSymmetricUptoRow.holds Try.pinned (OpenSpec.upto messageSymmetricSpec)

end Rows
end Go.Proofs.Ytgabhlalamnbgaa
