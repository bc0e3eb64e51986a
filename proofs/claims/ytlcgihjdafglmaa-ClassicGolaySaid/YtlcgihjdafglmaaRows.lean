/-
  No cell of these rows narrows 'for every input' (looked for: loops, veiled, ifaces, maps, wideKeys, modest, calm, conditions, laid).
  DERIVED. THE GIVEN ROWS OF THIS SEAT. 8 by the template 'for every input the law returns true; each argument reads behind the call as it read before'; 0 by the template 'total and deterministic' (their statements: YtlcgihjdafglmaaTotals.lean).
  GIVEN WITH THE SEED: the statements are not yours to turn. If you find one false, say at which input.
  Laid BY PROGRAM, IN A SANDBOX (cutbox-rows.mjs): the forced cells as the released guide's own fill.sh prints them over the translation 98e4da501c9cef37… (all of the seat's roots in one cut). By AI agents, Wed Nov 11 2026. No macro, syntax, notation, axiom, sorry.
-/
import Derived.Test.YtlcgihjdafglmaaChecked
import GoSem.Claim
import GoSem.ClaimJoined
import GoSem.ClaimMapViews
import Derived.JoinedTies
import Derived.KernelRfl
namespace Go.Proofs.Ytlcgihjdafglmaa
/- THE CELL 'sum', in the pinned program and in every row, IS THE sha256 OF THE DUMP (.gsa) THAT YtlcgihjdafglmaaProg.lean LOADS. Nothing in Lean hashes anything: it is a label: what it is worth is what the hold of that sum in a sandbox is worth. -/
noncomputable def Try.pinned : Pinned := { name := "ytlcgihjdafglmaa", sum := "98e4da501c9cef3737e3ab86d2019291c49a16f2e330996d22d1bfb19c2c3bcd", checked := Try.checked }
namespace Rows
def none {H : Type} : Left H := { results := [], args := [] }

/-- 'codewrightlaw15.ClassicResidue': WHATEVER THE INPUT: true; the input reads as it did. -/
def classicResidueSpec : ChangeSpec := { name := "classicResidue", fn := fun _ => fun
  | [d] => { results := [.lit (.bool true)], args := [d] }
  | _ => none }
def classicResidueRow : OpenClaim := { program := "ytlcgihjdafglmaa", sum := "98e4da501c9cef3737e3ab86d2019291c49a16f2e330996d22d1bfb19c2c3bcd", func := "codewright/codewrightlaw15.ClassicResidue", spec := "classicResidue", unfollowed := true, recurses := true, apart := false }
def ClassicResidueSaid : Prop := classicResidueRow.holds Try.pinned (OpenSpec.ofChange classicResidueSpec)

/-- ITS FALSE NEIGHBOUR: 'it returns false'. Refute it at one input. -/
def classicResidueWrong : ChangeSpec := { name := "classicResidue", fn := fun _ => fun
  | [d] => { results := [.lit (.bool false)], args := [d] }
  | _ => none }
def ClassicResidueWrongFalsely : Prop := classicResidueRow.holds Try.pinned (OpenSpec.ofChange classicResidueWrong)

/-- 'codewrightlaw15.ClassicRoot': WHATEVER THE INPUT: true; the input reads as it did. -/
def classicRootSpec : ChangeSpec := { name := "classicRoot", fn := fun _ => fun
  | [d1, d2] => { results := [.lit (.bool true)], args := [d1, d2] }
  | _ => none }
def classicRootRow : OpenClaim := { program := "ytlcgihjdafglmaa", sum := "98e4da501c9cef3737e3ab86d2019291c49a16f2e330996d22d1bfb19c2c3bcd", func := "codewright/codewrightlaw15.ClassicRoot", spec := "classicRoot", unfollowed := true, recurses := true, apart := false }
def ClassicRootSaid : Prop := classicRootRow.holds Try.pinned (OpenSpec.ofChange classicRootSpec)

/-- ITS FALSE NEIGHBOUR: 'it returns false'. Refute it at one input. -/
def classicRootWrong : ChangeSpec := { name := "classicRoot", fn := fun _ => fun
  | [d1, d2] => { results := [.lit (.bool false)], args := [d1, d2] }
  | _ => none }
def ClassicRootWrongFalsely : Prop := classicRootRow.holds Try.pinned (OpenSpec.ofChange classicRootWrong)

/-- 'codewrightlaw15.ClassicGolay': WHATEVER THE INPUT: true; the input reads as it did. -/
def classicGolaySpec : ChangeSpec := { name := "classicGolay", fn := fun _ => fun
  | [d1, d2] => { results := [.lit (.bool true)], args := [d1, d2] }
  | _ => none }
def classicGolayRow : OpenClaim := { program := "ytlcgihjdafglmaa", sum := "98e4da501c9cef3737e3ab86d2019291c49a16f2e330996d22d1bfb19c2c3bcd", func := "codewright/codewrightlaw15.ClassicGolay", spec := "classicGolay", unfollowed := true, recurses := true, apart := false }
def ClassicGolaySaid : Prop := classicGolayRow.holds Try.pinned (OpenSpec.ofChange classicGolaySpec)

/-- ITS FALSE NEIGHBOUR: 'it returns false'. Refute it at one input. -/
def classicGolayWrong : ChangeSpec := { name := "classicGolay", fn := fun _ => fun
  | [d1, d2] => { results := [.lit (.bool false)], args := [d1, d2] }
  | _ => none }
def ClassicGolayWrongFalsely : Prop := classicGolayRow.holds Try.pinned (OpenSpec.ofChange classicGolayWrong)

/-- 'codewrightlaw15.ClassicSimplex': WHATEVER THE INPUT: true; the input reads as it did. -/
def classicSimplexSpec : ChangeSpec := { name := "classicSimplex", fn := fun _ => fun
  | [d1, d2, d3] => { results := [.lit (.bool true)], args := [d1, d2, d3] }
  | _ => none }
def classicSimplexRow : OpenClaim := { program := "ytlcgihjdafglmaa", sum := "98e4da501c9cef3737e3ab86d2019291c49a16f2e330996d22d1bfb19c2c3bcd", func := "codewright/codewrightlaw15.ClassicSimplex", spec := "classicSimplex", unfollowed := true, recurses := true, apart := false }
def ClassicSimplexSaid : Prop := classicSimplexRow.holds Try.pinned (OpenSpec.ofChange classicSimplexSpec)

/-- ITS FALSE NEIGHBOUR: 'it returns false'. Refute it at one input. -/
def classicSimplexWrong : ChangeSpec := { name := "classicSimplex", fn := fun _ => fun
  | [d1, d2, d3] => { results := [.lit (.bool false)], args := [d1, d2, d3] }
  | _ => none }
def ClassicSimplexWrongFalsely : Prop := classicSimplexRow.holds Try.pinned (OpenSpec.ofChange classicSimplexWrong)

/-- 'codewrightlaw15.ClassicPerfect': WHATEVER THE INPUT: true; the input reads as it did. -/
def classicPerfectSpec : ChangeSpec := { name := "classicPerfect", fn := fun _ => fun
  | [d1, d2, d3] => { results := [.lit (.bool true)], args := [d1, d2, d3] }
  | _ => none }
def classicPerfectRow : OpenClaim := { program := "ytlcgihjdafglmaa", sum := "98e4da501c9cef3737e3ab86d2019291c49a16f2e330996d22d1bfb19c2c3bcd", func := "codewright/codewrightlaw15.ClassicPerfect", spec := "classicPerfect", unfollowed := true, recurses := true, apart := false }
def ClassicPerfectSaid : Prop := classicPerfectRow.holds Try.pinned (OpenSpec.ofChange classicPerfectSpec)

/-- ITS FALSE NEIGHBOUR: 'it returns false'. Refute it at one input. -/
def classicPerfectWrong : ChangeSpec := { name := "classicPerfect", fn := fun _ => fun
  | [d1, d2, d3] => { results := [.lit (.bool false)], args := [d1, d2, d3] }
  | _ => none }
def ClassicPerfectWrongFalsely : Prop := classicPerfectRow.holds Try.pinned (OpenSpec.ofChange classicPerfectWrong)

/-- 'codewrightlaw43.MajorityOrthogonal': WHATEVER THE INPUT: true; the input reads as it did. -/
def majorityOrthogonalSpec : ChangeSpec := { name := "majorityOrthogonal", fn := fun _ => fun
  | [d] => { results := [.lit (.bool true)], args := [d] }
  | _ => none }
def majorityOrthogonalRow : OpenClaim := { program := "ytlcgihjdafglmaa", sum := "98e4da501c9cef3737e3ab86d2019291c49a16f2e330996d22d1bfb19c2c3bcd", func := "codewright/codewrightlaw43.MajorityOrthogonal", spec := "majorityOrthogonal", unfollowed := true, recurses := true, apart := false }
def MajorityOrthogonalSaid : Prop := majorityOrthogonalRow.holds Try.pinned (OpenSpec.ofChange majorityOrthogonalSpec)

/-- ITS FALSE NEIGHBOUR: 'it returns false'. Refute it at one input. -/
def majorityOrthogonalWrong : ChangeSpec := { name := "majorityOrthogonal", fn := fun _ => fun
  | [d] => { results := [.lit (.bool false)], args := [d] }
  | _ => none }
def MajorityOrthogonalWrongFalsely : Prop := majorityOrthogonalRow.holds Try.pinned (OpenSpec.ofChange majorityOrthogonalWrong)

/-- 'codewrightlaw43.MajorityBound': WHATEVER THE INPUT: true; the input reads as it did. -/
def majorityBoundSpec : ChangeSpec := { name := "majorityBound", fn := fun _ => fun
  | [d] => { results := [.lit (.bool true)], args := [d] }
  | _ => none }
def majorityBoundRow : OpenClaim := { program := "ytlcgihjdafglmaa", sum := "98e4da501c9cef3737e3ab86d2019291c49a16f2e330996d22d1bfb19c2c3bcd", func := "codewright/codewrightlaw43.MajorityBound", spec := "majorityBound", unfollowed := true, recurses := true, apart := false }
def MajorityBoundSaid : Prop := majorityBoundRow.holds Try.pinned (OpenSpec.ofChange majorityBoundSpec)

/-- ITS FALSE NEIGHBOUR: 'it returns false'. Refute it at one input. -/
def majorityBoundWrong : ChangeSpec := { name := "majorityBound", fn := fun _ => fun
  | [d] => { results := [.lit (.bool false)], args := [d] }
  | _ => none }
def MajorityBoundWrongFalsely : Prop := majorityBoundRow.holds Try.pinned (OpenSpec.ofChange majorityBoundWrong)

/-- 'codewrightlaw43.MajorityEstimates': WHATEVER THE INPUT: true; the input reads as it did. -/
def majorityEstimatesSpec : ChangeSpec := { name := "majorityEstimates", fn := fun _ => fun
  | [d] => { results := [.lit (.bool true)], args := [d] }
  | _ => none }
def majorityEstimatesRow : OpenClaim := { program := "ytlcgihjdafglmaa", sum := "98e4da501c9cef3737e3ab86d2019291c49a16f2e330996d22d1bfb19c2c3bcd", func := "codewright/codewrightlaw43.MajorityEstimates", spec := "majorityEstimates", unfollowed := true, recurses := true, apart := false }
def MajorityEstimatesSaid : Prop := majorityEstimatesRow.holds Try.pinned (OpenSpec.ofChange majorityEstimatesSpec)

/-- ITS FALSE NEIGHBOUR: 'it returns false'. Refute it at one input. -/
def majorityEstimatesWrong : ChangeSpec := { name := "majorityEstimates", fn := fun _ => fun
  | [d] => { results := [.lit (.bool false)], args := [d] }
  | _ => none }
def MajorityEstimatesWrongFalsely : Prop := majorityEstimatesRow.holds Try.pinned (OpenSpec.ofChange majorityEstimatesWrong)

/- THE SECOND FORM. 'bulk': how many values and letters a reading holds, each counted each time it is reached (what is shared counts as often as it is met; a slice's spare places count too). A statement '..UptoSaid' is the law's where the arguments, and the package variables that the reading takes, are together of bulk at most 1048576: NARROWER than '..Said'. Prove '..Said' where nothing that the law and all that it calls make is longer than what came in: it says more and counts as full. Else prove '..UptoSaid'. A law counts once. -/
mutual
def uptoBulk {H : Type} : DataW H → Nat
  | .lit (.string bytes) => bytes.length + 1
  | .lit _ => 1
  | .nil => 1
  | .ptr d => uptoBulk d + 1
  | .slice elems spare => uptoBulkAll elems + uptoBulkAll spare + 1
  | .agg parts => uptoBulkAll parts + 1
  | .iface _ d => uptoBulk d + 1
  | .map entries => uptoBulkEntries entries + 1
  | .held _ => 1
def uptoBulkAll {H : Type} : List (DataW H) → Nat
  | [] => 0
  | d :: r => uptoBulk d + uptoBulkAll r
def uptoBulkEntries {H : Type} : List (Lit × DataW H) → Nat
  | [] => 0
  | x :: r => uptoBulkEntry x + uptoBulkEntries r
def uptoBulkEntry {H : Type} : Lit × DataW H → Nat
  | (.string bytes, d) => bytes.length + uptoBulk d + 1
  | (_, d) => uptoBulk d + 1
 end
def uptoSmall : (H : Type) → List (DataW H) → Bool := fun _ ds => decide (uptoBulkAll ds ≤ 1048576)
def OpenSpec.upto (s : _root_.Go.ChangeSpec) : _root_.Go.OpenSpec := { _root_.Go.OpenSpec.ofChange s with cond := some uptoSmall }

/-- 'codewrightlaw15.ClassicResidue', WHERE WHAT IT READS IS OF BULK AT MOST 1048576: true; the input reads as it did. -/
def classicResidueUptoRow : OpenClaim := { program := "ytlcgihjdafglmaa", sum := "98e4da501c9cef3737e3ab86d2019291c49a16f2e330996d22d1bfb19c2c3bcd", func := "codewright/codewrightlaw15.ClassicResidue", spec := "classicResidue", unfollowed := true, recurses := true, apart := false, narrowed := true }
def ClassicResidueUptoSaid : Prop := classicResidueUptoRow.holds Try.pinned (OpenSpec.upto classicResidueSpec)

/-- 'codewrightlaw15.ClassicRoot', WHERE WHAT IT READS IS OF BULK AT MOST 1048576: true; the input reads as it did. -/
def classicRootUptoRow : OpenClaim := { program := "ytlcgihjdafglmaa", sum := "98e4da501c9cef3737e3ab86d2019291c49a16f2e330996d22d1bfb19c2c3bcd", func := "codewright/codewrightlaw15.ClassicRoot", spec := "classicRoot", unfollowed := true, recurses := true, apart := false, narrowed := true }
def ClassicRootUptoSaid : Prop := classicRootUptoRow.holds Try.pinned (OpenSpec.upto classicRootSpec)

/-- 'codewrightlaw15.ClassicGolay', WHERE WHAT IT READS IS OF BULK AT MOST 1048576: true; the input reads as it did. -/
def classicGolayUptoRow : OpenClaim := { program := "ytlcgihjdafglmaa", sum := "98e4da501c9cef3737e3ab86d2019291c49a16f2e330996d22d1bfb19c2c3bcd", func := "codewright/codewrightlaw15.ClassicGolay", spec := "classicGolay", unfollowed := true, recurses := true, apart := false, narrowed := true }
def ClassicGolayUptoSaid : Prop := classicGolayUptoRow.holds Try.pinned (OpenSpec.upto classicGolaySpec)

/-- 'codewrightlaw15.ClassicSimplex', WHERE WHAT IT READS IS OF BULK AT MOST 1048576: true; the input reads as it did. -/
def classicSimplexUptoRow : OpenClaim := { program := "ytlcgihjdafglmaa", sum := "98e4da501c9cef3737e3ab86d2019291c49a16f2e330996d22d1bfb19c2c3bcd", func := "codewright/codewrightlaw15.ClassicSimplex", spec := "classicSimplex", unfollowed := true, recurses := true, apart := false, narrowed := true }
def ClassicSimplexUptoSaid : Prop := classicSimplexUptoRow.holds Try.pinned (OpenSpec.upto classicSimplexSpec)

/-- 'codewrightlaw15.ClassicPerfect', WHERE WHAT IT READS IS OF BULK AT MOST 1048576: true; the input reads as it did. -/
def classicPerfectUptoRow : OpenClaim := { program := "ytlcgihjdafglmaa", sum := "98e4da501c9cef3737e3ab86d2019291c49a16f2e330996d22d1bfb19c2c3bcd", func := "codewright/codewrightlaw15.ClassicPerfect", spec := "classicPerfect", unfollowed := true, recurses := true, apart := false, narrowed := true }
def ClassicPerfectUptoSaid : Prop := classicPerfectUptoRow.holds Try.pinned (OpenSpec.upto classicPerfectSpec)

/-- 'codewrightlaw43.MajorityOrthogonal', WHERE WHAT IT READS IS OF BULK AT MOST 1048576: true; the input reads as it did. -/
def majorityOrthogonalUptoRow : OpenClaim := { program := "ytlcgihjdafglmaa", sum := "98e4da501c9cef3737e3ab86d2019291c49a16f2e330996d22d1bfb19c2c3bcd", func := "codewright/codewrightlaw43.MajorityOrthogonal", spec := "majorityOrthogonal", unfollowed := true, recurses := true, apart := false, narrowed := true }
def MajorityOrthogonalUptoSaid : Prop := majorityOrthogonalUptoRow.holds Try.pinned (OpenSpec.upto majorityOrthogonalSpec)

/-- 'codewrightlaw43.MajorityBound', WHERE WHAT IT READS IS OF BULK AT MOST 1048576: true; the input reads as it did. -/
def majorityBoundUptoRow : OpenClaim := { program := "ytlcgihjdafglmaa", sum := "98e4da501c9cef3737e3ab86d2019291c49a16f2e330996d22d1bfb19c2c3bcd", func := "codewright/codewrightlaw43.MajorityBound", spec := "majorityBound", unfollowed := true, recurses := true, apart := false, narrowed := true }
def MajorityBoundUptoSaid : Prop := majorityBoundUptoRow.holds Try.pinned (OpenSpec.upto majorityBoundSpec)

/-- 'codewrightlaw43.MajorityEstimates', WHERE WHAT IT READS IS OF BULK AT MOST 1048576: true; the input reads as it did. -/
def majorityEstimatesUptoRow : OpenClaim := { program := "ytlcgihjdafglmaa", sum := "98e4da501c9cef3737e3ab86d2019291c49a16f2e330996d22d1bfb19c2c3bcd", func := "codewright/codewrightlaw43.MajorityEstimates", spec := "majorityEstimates", unfollowed := true, recurses := true, apart := false, narrowed := true }
def MajorityEstimatesUptoSaid : Prop := majorityEstimatesUptoRow.holds Try.pinned (OpenSpec.upto majorityEstimatesSpec)

end Rows
end Go.Proofs.Ytlcgihjdafglmaa
