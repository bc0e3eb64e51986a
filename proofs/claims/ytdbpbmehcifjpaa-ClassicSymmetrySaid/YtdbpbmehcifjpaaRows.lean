/-
  No cell of these rows narrows 'for every input' (looked for: loops, veiled, ifaces, maps, wideKeys, modest, calm, conditions, laid).
  DERIVED. THE GIVEN ROWS OF THIS SEAT. 7 by the template 'for every input the law returns true; each argument reads behind the call as it read before'; 0 by the template 'total and deterministic' (their statements: YtdbpbmehcifjpaaTotals.lean).
  GIVEN WITH THE SEED: the statements are not yours to turn. If you find one false, say at which input.
  Laid BY PROGRAM, IN A SANDBOX (cutbox-rows.mjs): the forced cells as the released guide's own fill.sh prints them over the translation c1e5753341975055… (all of the seat's roots in one cut). By AI agents, Wed Nov 11 2026. No macro, syntax, notation, axiom, sorry.
-/
import Derived.Test.YtdbpbmehcifjpaaChecked
import GoSem.Claim
import GoSem.ClaimJoined
import GoSem.ClaimMapViews
import Derived.JoinedTies
import Derived.KernelRfl
namespace Go.Proofs.Ytdbpbmehcifjpaa
/- THE CELL 'sum', in the pinned program and in every row, IS THE sha256 OF THE DUMP (.gsa) THAT YtdbpbmehcifjpaaProg.lean LOADS. Nothing in Lean hashes anything: it is a label: what it is worth is what the hold of that sum in a sandbox is worth. -/
noncomputable def Try.pinned : Pinned := { name := "ytdbpbmehcifjpaa", sum := "c1e5753341975055ecd262337e4ef245d647d8ad3710b48c9289fcbe1c9f09d6", checked := Try.checked }
namespace Rows
def none {H : Type} : Left H := { results := [], args := [] }

/-- 'codewrightlaw15.ClassicReedMuller': WHATEVER THE INPUT: true; the input reads as it did. -/
def classicReedMullerSpec : ChangeSpec := { name := "classicReedMuller", fn := fun _ => fun
  | [d1, d2] => { results := [.lit (.bool true)], args := [d1, d2] }
  | _ => none }
def classicReedMullerRow : OpenClaim := { program := "ytdbpbmehcifjpaa", sum := "c1e5753341975055ecd262337e4ef245d647d8ad3710b48c9289fcbe1c9f09d6", func := "codewright/codewrightlaw15.ClassicReedMuller", spec := "classicReedMuller", unfollowed := true, recurses := true, apart := false }
def ClassicReedMullerSaid : Prop := classicReedMullerRow.holds Try.pinned (OpenSpec.ofChange classicReedMullerSpec)

/-- ITS FALSE NEIGHBOUR: 'it returns false'. Refute it at one input. -/
def classicReedMullerWrong : ChangeSpec := { name := "classicReedMuller", fn := fun _ => fun
  | [d1, d2] => { results := [.lit (.bool false)], args := [d1, d2] }
  | _ => none }
def ClassicReedMullerWrongFalsely : Prop := classicReedMullerRow.holds Try.pinned (OpenSpec.ofChange classicReedMullerWrong)

/-- 'codewrightlaw15.ClassicDuality': WHATEVER THE INPUT: true; the input reads as it did. -/
def classicDualitySpec : ChangeSpec := { name := "classicDuality", fn := fun _ => fun
  | [d1, d2] => { results := [.lit (.bool true)], args := [d1, d2] }
  | _ => none }
def classicDualityRow : OpenClaim := { program := "ytdbpbmehcifjpaa", sum := "c1e5753341975055ecd262337e4ef245d647d8ad3710b48c9289fcbe1c9f09d6", func := "codewright/codewrightlaw15.ClassicDuality", spec := "classicDuality", unfollowed := true, recurses := true, apart := false }
def ClassicDualitySaid : Prop := classicDualityRow.holds Try.pinned (OpenSpec.ofChange classicDualitySpec)

/-- ITS FALSE NEIGHBOUR: 'it returns false'. Refute it at one input. -/
def classicDualityWrong : ChangeSpec := { name := "classicDuality", fn := fun _ => fun
  | [d1, d2] => { results := [.lit (.bool false)], args := [d1, d2] }
  | _ => none }
def ClassicDualityWrongFalsely : Prop := classicDualityRow.holds Try.pinned (OpenSpec.ofChange classicDualityWrong)

/-- 'codewrightlaw15.ClassicHamming': WHATEVER THE INPUT: true; the input reads as it did. -/
def classicHammingSpec : ChangeSpec := { name := "classicHamming", fn := fun _ => fun
  | [d1, d2] => { results := [.lit (.bool true)], args := [d1, d2] }
  | _ => none }
def classicHammingRow : OpenClaim := { program := "ytdbpbmehcifjpaa", sum := "c1e5753341975055ecd262337e4ef245d647d8ad3710b48c9289fcbe1c9f09d6", func := "codewright/codewrightlaw15.ClassicHamming", spec := "classicHamming", unfollowed := true, recurses := true, apart := false }
def ClassicHammingSaid : Prop := classicHammingRow.holds Try.pinned (OpenSpec.ofChange classicHammingSpec)

/-- ITS FALSE NEIGHBOUR: 'it returns false'. Refute it at one input. -/
def classicHammingWrong : ChangeSpec := { name := "classicHamming", fn := fun _ => fun
  | [d1, d2] => { results := [.lit (.bool false)], args := [d1, d2] }
  | _ => none }
def ClassicHammingWrongFalsely : Prop := classicHammingRow.holds Try.pinned (OpenSpec.ofChange classicHammingWrong)

/-- 'codewrightlaw15.ClassicRepetition': WHATEVER THE INPUT: true; the input reads as it did. -/
def classicRepetitionSpec : ChangeSpec := { name := "classicRepetition", fn := fun _ => fun
  | [d1, d2] => { results := [.lit (.bool true)], args := [d1, d2] }
  | _ => none }
def classicRepetitionRow : OpenClaim := { program := "ytdbpbmehcifjpaa", sum := "c1e5753341975055ecd262337e4ef245d647d8ad3710b48c9289fcbe1c9f09d6", func := "codewright/codewrightlaw15.ClassicRepetition", spec := "classicRepetition", unfollowed := true, recurses := true, apart := false }
def ClassicRepetitionSaid : Prop := classicRepetitionRow.holds Try.pinned (OpenSpec.ofChange classicRepetitionSpec)

/-- ITS FALSE NEIGHBOUR: 'it returns false'. Refute it at one input. -/
def classicRepetitionWrong : ChangeSpec := { name := "classicRepetition", fn := fun _ => fun
  | [d1, d2] => { results := [.lit (.bool false)], args := [d1, d2] }
  | _ => none }
def ClassicRepetitionWrongFalsely : Prop := classicRepetitionRow.holds Try.pinned (OpenSpec.ofChange classicRepetitionWrong)

/-- 'codewrightlaw15.ClassicHalves': WHATEVER THE INPUT: true; the input reads as it did. -/
def classicHalvesSpec : ChangeSpec := { name := "classicHalves", fn := fun _ => fun
  | [d1, d2, d3] => { results := [.lit (.bool true)], args := [d1, d2, d3] }
  | _ => none }
def classicHalvesRow : OpenClaim := { program := "ytdbpbmehcifjpaa", sum := "c1e5753341975055ecd262337e4ef245d647d8ad3710b48c9289fcbe1c9f09d6", func := "codewright/codewrightlaw15.ClassicHalves", spec := "classicHalves", unfollowed := true, recurses := true, apart := false }
def ClassicHalvesSaid : Prop := classicHalvesRow.holds Try.pinned (OpenSpec.ofChange classicHalvesSpec)

/-- ITS FALSE NEIGHBOUR: 'it returns false'. Refute it at one input. -/
def classicHalvesWrong : ChangeSpec := { name := "classicHalves", fn := fun _ => fun
  | [d1, d2, d3] => { results := [.lit (.bool false)], args := [d1, d2, d3] }
  | _ => none }
def ClassicHalvesWrongFalsely : Prop := classicHalvesRow.holds Try.pinned (OpenSpec.ofChange classicHalvesWrong)

/-- 'codewrightlaw15.ClassicWeights': WHATEVER THE INPUT: true; the input reads as it did. -/
def classicWeightsSpec : ChangeSpec := { name := "classicWeights", fn := fun _ => fun
  | [d1, d2, d3] => { results := [.lit (.bool true)], args := [d1, d2, d3] }
  | _ => none }
def classicWeightsRow : OpenClaim := { program := "ytdbpbmehcifjpaa", sum := "c1e5753341975055ecd262337e4ef245d647d8ad3710b48c9289fcbe1c9f09d6", func := "codewright/codewrightlaw15.ClassicWeights", spec := "classicWeights", unfollowed := true, recurses := true, apart := false }
def ClassicWeightsSaid : Prop := classicWeightsRow.holds Try.pinned (OpenSpec.ofChange classicWeightsSpec)

/-- ITS FALSE NEIGHBOUR: 'it returns false'. Refute it at one input. -/
def classicWeightsWrong : ChangeSpec := { name := "classicWeights", fn := fun _ => fun
  | [d1, d2, d3] => { results := [.lit (.bool false)], args := [d1, d2, d3] }
  | _ => none }
def ClassicWeightsWrongFalsely : Prop := classicWeightsRow.holds Try.pinned (OpenSpec.ofChange classicWeightsWrong)

/-- 'codewrightlaw15.ClassicSymmetry': WHATEVER THE INPUT: true; the input reads as it did. -/
def classicSymmetrySpec : ChangeSpec := { name := "classicSymmetry", fn := fun _ => fun
  | [d1, d2, d3] => { results := [.lit (.bool true)], args := [d1, d2, d3] }
  | _ => none }
def classicSymmetryRow : OpenClaim := { program := "ytdbpbmehcifjpaa", sum := "c1e5753341975055ecd262337e4ef245d647d8ad3710b48c9289fcbe1c9f09d6", func := "codewright/codewrightlaw15.ClassicSymmetry", spec := "classicSymmetry", unfollowed := true, recurses := true, apart := false }
def ClassicSymmetrySaid : Prop := classicSymmetryRow.holds Try.pinned (OpenSpec.ofChange classicSymmetrySpec)

/-- ITS FALSE NEIGHBOUR: 'it returns false'. Refute it at one input. -/
def classicSymmetryWrong : ChangeSpec := { name := "classicSymmetry", fn := fun _ => fun
  | [d1, d2, d3] => { results := [.lit (.bool false)], args := [d1, d2, d3] }
  | _ => none }
def ClassicSymmetryWrongFalsely : Prop := classicSymmetryRow.holds Try.pinned (OpenSpec.ofChange classicSymmetryWrong)

/- THE SECOND FORM. 'bulk': how many values and letters a reading holds, each counted each time it is reached (what is shared counts as often as it is met; a slice's spare places count too). A statement '..UptoSaid' is the law's where the arguments, and the package variables that the reading takes, are together of bulk at most 1048576: NARROWER than '..Said'. Prove '..Said' where nothing that the law and all that it calls make is longer than what came in: it says more and counts as full. Else prove '..UptoSaid'. A law counts once. -/
mutual
def uptoBulk {H : Type} : DataW H → Nat
  | .lit (.string bytes) => bytes.length + 1
  | .lit _ => 1
  | .nil => 1
  | .ptr d => uptoBulk d + 1
  | .slice elems spare => uptoBulkAll elems + uptoBulkAll spare + 1
  | .agg parts => uptoBulkAll parts + 1
  | .iface _ d => uptoBulk d + 1
  | .map entries => uptoBulkEntries entries + 1
  | .held _ => 1
def uptoBulkAll {H : Type} : List (DataW H) → Nat
  | [] => 0
  | d :: r => uptoBulk d + uptoBulkAll r
def uptoBulkEntries {H : Type} : List (Lit × DataW H) → Nat
  | [] => 0
  | x :: r => uptoBulkEntry x + uptoBulkEntries r
def uptoBulkEntry {H : Type} : Lit × DataW H → Nat
  | (.string bytes, d) => bytes.length + uptoBulk d + 1
  | (_, d) => uptoBulk d + 1
 end
def uptoSmall : (H : Type) → List (DataW H) → Bool := fun _ ds => decide (uptoBulkAll ds ≤ 1048576)
def OpenSpec.upto (s : _root_.Go.ChangeSpec) : _root_.Go.OpenSpec := { _root_.Go.OpenSpec.ofChange s with cond := some uptoSmall }

/-- 'codewrightlaw15.ClassicReedMuller', WHERE WHAT IT READS IS OF BULK AT MOST 1048576: true; the input reads as it did. -/
def classicReedMullerUptoRow : OpenClaim := { program := "ytdbpbmehcifjpaa", sum := "c1e5753341975055ecd262337e4ef245d647d8ad3710b48c9289fcbe1c9f09d6", func := "codewright/codewrightlaw15.ClassicReedMuller", spec := "classicReedMuller", unfollowed := true, recurses := true, apart := false, narrowed := true }
def ClassicReedMullerUptoSaid : Prop := classicReedMullerUptoRow.holds Try.pinned (OpenSpec.upto classicReedMullerSpec)

/-- 'codewrightlaw15.ClassicDuality', WHERE WHAT IT READS IS OF BULK AT MOST 1048576: true; the input reads as it did. -/
def classicDualityUptoRow : OpenClaim := { program := "ytdbpbmehcifjpaa", sum := "c1e5753341975055ecd262337e4ef245d647d8ad3710b48c9289fcbe1c9f09d6", func := "codewright/codewrightlaw15.ClassicDuality", spec := "classicDuality", unfollowed := true, recurses := true, apart := false, narrowed := true }
def ClassicDualityUptoSaid : Prop := classicDualityUptoRow.holds Try.pinned (OpenSpec.upto classicDualitySpec)

/-- 'codewrightlaw15.ClassicHamming', WHERE WHAT IT READS IS OF BULK AT MOST 1048576: true; the input reads as it did. -/
def classicHammingUptoRow : OpenClaim := { program := "ytdbpbmehcifjpaa", sum := "c1e5753341975055ecd262337e4ef245d647d8ad3710b48c9289fcbe1c9f09d6", func := "codewright/codewrightlaw15.ClassicHamming", spec := "classicHamming", unfollowed := true, recurses := true, apart := false, narrowed := true }
def ClassicHammingUptoSaid : Prop := classicHammingUptoRow.holds Try.pinned (OpenSpec.upto classicHammingSpec)

/-- 'codewrightlaw15.ClassicRepetition', WHERE WHAT IT READS IS OF BULK AT MOST 1048576: true; the input reads as it did. -/
def classicRepetitionUptoRow : OpenClaim := { program := "ytdbpbmehcifjpaa", sum := "c1e5753341975055ecd262337e4ef245d647d8ad3710b48c9289fcbe1c9f09d6", func := "codewright/codewrightlaw15.ClassicRepetition", spec := "classicRepetition", unfollowed := true, recurses := true, apart := false, narrowed := true }
def ClassicRepetitionUptoSaid : Prop := classicRepetitionUptoRow.holds Try.pinned (OpenSpec.upto classicRepetitionSpec)

/-- 'codewrightlaw15.ClassicHalves', WHERE WHAT IT READS IS OF BULK AT MOST 1048576: true; the input reads as it did. -/
def classicHalvesUptoRow : OpenClaim := { program := "ytdbpbmehcifjpaa", sum := "c1e5753341975055ecd262337e4ef245d647d8ad3710b48c9289fcbe1c9f09d6", func := "codewright/codewrightlaw15.ClassicHalves", spec := "classicHalves", unfollowed := true, recurses := true, apart := false, narrowed := true }
def ClassicHalvesUptoSaid : Prop := classicHalvesUptoRow.holds Try.pinned (OpenSpec.upto classicHalvesSpec)

/-- 'codewrightlaw15.ClassicWeights', WHERE WHAT IT READS IS OF BULK AT MOST 1048576: true; the input reads as it did. -/
def classicWeightsUptoRow : OpenClaim := { program := "ytdbpbmehcifjpaa", sum := "c1e5753341975055ecd262337e4ef245d647d8ad3710b48c9289fcbe1c9f09d6", func := "codewright/codewrightlaw15.ClassicWeights", spec := "classicWeights", unfollowed := true, recurses := true, apart := false, narrowed := true }
def ClassicWeightsUptoSaid : Prop := classicWeightsUptoRow.holds Try.pinned (OpenSpec.upto classicWeightsSpec)

/-- 'codewrightlaw15.ClassicSymmetry', WHERE WHAT IT READS IS OF BULK AT MOST 1048576: true; the input reads as it did. -/
def classicSymmetryUptoRow : OpenClaim := { program := "ytdbpbmehcifjpaa", sum := "c1e5753341975055ecd262337e4ef245d647d8ad3710b48c9289fcbe1c9f09d6", func := "codewright/codewrightlaw15.ClassicSymmetry", spec := "classicSymmetry", unfollowed := true, recurses := true, apart := false, narrowed := true }
def ClassicSymmetryUptoSaid : Prop := classicSymmetryUptoRow.holds Try.pinned (OpenSpec.upto classicSymmetrySpec)

end Rows
end Go.Proofs.Ytdbpbmehcifjpaa
