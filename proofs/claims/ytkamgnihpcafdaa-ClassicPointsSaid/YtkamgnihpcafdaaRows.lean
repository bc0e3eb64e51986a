/-
  No cell of these rows narrows 'for every input' (looked for: loops, veiled, ifaces, maps, wideKeys, modest, calm, conditions, laid).
  DERIVED. THE GIVEN ROWS OF THIS SEAT. 7 by the template 'for every input the law returns true; each argument reads behind the call as it read before'; 0 by the template 'total and deterministic' (their statements: YtkamgnihpcafdaaTotals.lean).
  GIVEN WITH THE SEED: the statements are not yours to turn. If you find one false, say at which input.
  Laid BY PROGRAM, IN A SANDBOX (cutbox-rows.mjs): the forced cells as the released guide's own fill.sh prints them over the translation 75dcd1a00377c641… (all of the seat's roots in one cut). By AI agents, Wed Nov 11 2026. No macro, syntax, notation, axiom, sorry.
-/
import Derived.Test.YtkamgnihpcafdaaChecked
import GoSem.Claim
import GoSem.ClaimJoined
import GoSem.ClaimMapViews
import Derived.JoinedTies
import Derived.KernelRfl
namespace Go.Proofs.Ytkamgnihpcafdaa
/- THE CELL 'sum', in the pinned program and in every row, IS THE sha256 OF THE DUMP (.gsa) THAT YtkamgnihpcafdaaProg.lean LOADS. Nothing in Lean hashes anything: it is a label: what it is worth is what the hold of that sum in a sandbox is worth. -/
noncomputable def Try.pinned : Pinned := { name := "ytkamgnihpcafdaa", sum := "75dcd1a00377c6413f00079897fbe680299798060c3c29d91f56b9b160921794", checked := Try.checked }
namespace Rows
def none {H : Type} : Left H := { results := [], args := [] }

/-- 'codewrightlaw15.ClassicMonomials': WHATEVER THE INPUT: true; the input reads as it did. -/
def classicMonomialsSpec : ChangeSpec := { name := "classicMonomials", fn := fun _ => fun
  | [d1, d2, d3] => { results := [.lit (.bool true)], args := [d1, d2, d3] }
  | _ => none }
def classicMonomialsRow : OpenClaim := { program := "ytkamgnihpcafdaa", sum := "75dcd1a00377c6413f00079897fbe680299798060c3c29d91f56b9b160921794", func := "codewright/codewrightlaw15.ClassicMonomials", spec := "classicMonomials", unfollowed := true, recurses := true, apart := false }
def ClassicMonomialsSaid : Prop := classicMonomialsRow.holds Try.pinned (OpenSpec.ofChange classicMonomialsSpec)

/-- ITS FALSE NEIGHBOUR: 'it returns false'. Refute it at one input. -/
def classicMonomialsWrong : ChangeSpec := { name := "classicMonomials", fn := fun _ => fun
  | [d1, d2, d3] => { results := [.lit (.bool false)], args := [d1, d2, d3] }
  | _ => none }
def ClassicMonomialsWrongFalsely : Prop := classicMonomialsRow.holds Try.pinned (OpenSpec.ofChange classicMonomialsWrong)

/-- 'codewrightlaw43.MajorityVotes': WHATEVER THE INPUT: true; the input reads as it did. -/
def majorityVotesSpec : ChangeSpec := { name := "majorityVotes", fn := fun _ => fun
  | [d1, d2, d3] => { results := [.lit (.bool true)], args := [d1, d2, d3] }
  | _ => none }
def majorityVotesRow : OpenClaim := { program := "ytkamgnihpcafdaa", sum := "75dcd1a00377c6413f00079897fbe680299798060c3c29d91f56b9b160921794", func := "codewright/codewrightlaw43.MajorityVotes", spec := "majorityVotes", apart := false }
def MajorityVotesSaid : Prop := majorityVotesRow.holds Try.pinned (OpenSpec.ofChange majorityVotesSpec)

/-- ITS FALSE NEIGHBOUR: 'it returns false'. Refute it at one input. -/
def majorityVotesWrong : ChangeSpec := { name := "majorityVotes", fn := fun _ => fun
  | [d1, d2, d3] => { results := [.lit (.bool false)], args := [d1, d2, d3] }
  | _ => none }
def MajorityVotesWrongFalsely : Prop := majorityVotesRow.holds Try.pinned (OpenSpec.ofChange majorityVotesWrong)

/-- 'codewrightlaw43.MajorityAgrees': WHATEVER THE INPUT: true; the input reads as it did. -/
def majorityAgreesSpec : ChangeSpec := { name := "majorityAgrees", fn := fun _ => fun
  | [d1, d2, d3] => { results := [.lit (.bool true)], args := [d1, d2, d3] }
  | _ => none }
def majorityAgreesRow : OpenClaim := { program := "ytkamgnihpcafdaa", sum := "75dcd1a00377c6413f00079897fbe680299798060c3c29d91f56b9b160921794", func := "codewright/codewrightlaw43.MajorityAgrees", spec := "majorityAgrees", apart := false }
def MajorityAgreesSaid : Prop := majorityAgreesRow.holds Try.pinned (OpenSpec.ofChange majorityAgreesSpec)

/-- ITS FALSE NEIGHBOUR: 'it returns false'. Refute it at one input. -/
def majorityAgreesWrong : ChangeSpec := { name := "majorityAgrees", fn := fun _ => fun
  | [d1, d2, d3] => { results := [.lit (.bool false)], args := [d1, d2, d3] }
  | _ => none }
def MajorityAgreesWrongFalsely : Prop := majorityAgreesRow.holds Try.pinned (OpenSpec.ofChange majorityAgreesWrong)

/-- 'codewrightlaw43.MajorityReed': WHATEVER THE INPUT: true; the input reads as it did. -/
def majorityReedSpec : ChangeSpec := { name := "majorityReed", fn := fun _ => fun
  | [d1, d2, d3] => { results := [.lit (.bool true)], args := [d1, d2, d3] }
  | _ => none }
def majorityReedRow : OpenClaim := { program := "ytkamgnihpcafdaa", sum := "75dcd1a00377c6413f00079897fbe680299798060c3c29d91f56b9b160921794", func := "codewright/codewrightlaw43.MajorityReed", spec := "majorityReed", unfollowed := true, recurses := true, apart := false }
def MajorityReedSaid : Prop := majorityReedRow.holds Try.pinned (OpenSpec.ofChange majorityReedSpec)

/-- ITS FALSE NEIGHBOUR: 'it returns false'. Refute it at one input. -/
def majorityReedWrong : ChangeSpec := { name := "majorityReed", fn := fun _ => fun
  | [d1, d2, d3] => { results := [.lit (.bool false)], args := [d1, d2, d3] }
  | _ => none }
def MajorityReedWrongFalsely : Prop := majorityReedRow.holds Try.pinned (OpenSpec.ofChange majorityReedWrong)

/-- 'codewrightlaw43.MajorityCorrects': WHATEVER THE INPUT: true; the input reads as it did. -/
def majorityCorrectsSpec : ChangeSpec := { name := "majorityCorrects", fn := fun _ => fun
  | [d] => { results := [.lit (.bool true)], args := [d] }
  | _ => none }
def majorityCorrectsRow : OpenClaim := { program := "ytkamgnihpcafdaa", sum := "75dcd1a00377c6413f00079897fbe680299798060c3c29d91f56b9b160921794", func := "codewright/codewrightlaw43.MajorityCorrects", spec := "majorityCorrects", unfollowed := true, recurses := true, apart := false }
def MajorityCorrectsSaid : Prop := majorityCorrectsRow.holds Try.pinned (OpenSpec.ofChange majorityCorrectsSpec)

/-- ITS FALSE NEIGHBOUR: 'it returns false'. Refute it at one input. -/
def majorityCorrectsWrong : ChangeSpec := { name := "majorityCorrects", fn := fun _ => fun
  | [d] => { results := [.lit (.bool false)], args := [d] }
  | _ => none }
def MajorityCorrectsWrongFalsely : Prop := majorityCorrectsRow.holds Try.pinned (OpenSpec.ofChange majorityCorrectsWrong)

/-- 'codewrightlaw43.MajorityWithin': WHATEVER THE INPUT: true; the input reads as it did. -/
def majorityWithinSpec : ChangeSpec := { name := "majorityWithin", fn := fun _ => fun
  | [d] => { results := [.lit (.bool true)], args := [d] }
  | _ => none }
def majorityWithinRow : OpenClaim := { program := "ytkamgnihpcafdaa", sum := "75dcd1a00377c6413f00079897fbe680299798060c3c29d91f56b9b160921794", func := "codewright/codewrightlaw43.MajorityWithin", spec := "majorityWithin", unfollowed := true, recurses := true, apart := false }
def MajorityWithinSaid : Prop := majorityWithinRow.holds Try.pinned (OpenSpec.ofChange majorityWithinSpec)

/-- ITS FALSE NEIGHBOUR: 'it returns false'. Refute it at one input. -/
def majorityWithinWrong : ChangeSpec := { name := "majorityWithin", fn := fun _ => fun
  | [d] => { results := [.lit (.bool false)], args := [d] }
  | _ => none }
def MajorityWithinWrongFalsely : Prop := majorityWithinRow.holds Try.pinned (OpenSpec.ofChange majorityWithinWrong)

/-- 'codewrightlaw15.ClassicPoints': WHATEVER THE INPUT: true; the input reads as it did. -/
def classicPointsSpec : ChangeSpec := { name := "classicPoints", fn := fun _ => fun
  | [d1, d2] => { results := [.lit (.bool true)], args := [d1, d2] }
  | _ => none }
def classicPointsRow : OpenClaim := { program := "ytkamgnihpcafdaa", sum := "75dcd1a00377c6413f00079897fbe680299798060c3c29d91f56b9b160921794", func := "codewright/codewrightlaw15.ClassicPoints", spec := "classicPoints", apart := false }
def ClassicPointsSaid : Prop := classicPointsRow.holds Try.pinned (OpenSpec.ofChange classicPointsSpec)

/-- ITS FALSE NEIGHBOUR: 'it returns false'. Refute it at one input. -/
def classicPointsWrong : ChangeSpec := { name := "classicPoints", fn := fun _ => fun
  | [d1, d2] => { results := [.lit (.bool false)], args := [d1, d2] }
  | _ => none }
def ClassicPointsWrongFalsely : Prop := classicPointsRow.holds Try.pinned (OpenSpec.ofChange classicPointsWrong)

/- THE SECOND FORM. 'bulk': how many values and letters a reading holds, each counted each time it is reached (what is shared counts as often as it is met; a slice's spare places count too). A statement '..UptoSaid' is the law's where the arguments, and the package variables that the reading takes, are together of bulk at most 1048576: NARROWER than '..Said'. Prove '..Said' where nothing that the law and all that it calls make is longer than what came in: it says more and counts as full. Else prove '..UptoSaid'. A law counts once. -/
mutual
def uptoBulk {H : Type} : DataW H → Nat
  | .lit (.string bytes) => bytes.length + 1
  | .lit _ => 1
  | .nil => 1
  | .ptr d => uptoBulk d + 1
  | .slice elems spare => uptoBulkAll elems + uptoBulkAll spare + 1
  | .agg parts => uptoBulkAll parts + 1
  | .iface _ d => uptoBulk d + 1
  | .map entries => uptoBulkEntries entries + 1
  | .held _ => 1
def uptoBulkAll {H : Type} : List (DataW H) → Nat
  | [] => 0
  | d :: r => uptoBulk d + uptoBulkAll r
def uptoBulkEntries {H : Type} : List (Lit × DataW H) → Nat
  | [] => 0
  | x :: r => uptoBulkEntry x + uptoBulkEntries r
def uptoBulkEntry {H : Type} : Lit × DataW H → Nat
  | (.string bytes, d) => bytes.length + uptoBulk d + 1
  | (_, d) => uptoBulk d + 1
 end
def uptoSmall : (H : Type) → List (DataW H) → Bool := fun _ ds => decide (uptoBulkAll ds ≤ 1048576)
def OpenSpec.upto (s : _root_.Go.ChangeSpec) : _root_.Go.OpenSpec := { _root_.Go.OpenSpec.ofChange s with cond := some uptoSmall }

/-- 'codewrightlaw15.ClassicMonomials', WHERE WHAT IT READS IS OF BULK AT MOST 1048576: true; the input reads as it did. -/
def classicMonomialsUptoRow : OpenClaim := { program := "ytkamgnihpcafdaa", sum := "75dcd1a00377c6413f00079897fbe680299798060c3c29d91f56b9b160921794", func := "codewright/codewrightlaw15.ClassicMonomials", spec := "classicMonomials", unfollowed := true, recurses := true, apart := false, narrowed := true }
def ClassicMonomialsUptoSaid : Prop := classicMonomialsUptoRow.holds Try.pinned (OpenSpec.upto classicMonomialsSpec)

/-- 'codewrightlaw43.MajorityVotes', WHERE WHAT IT READS IS OF BULK AT MOST 1048576: true; the input reads as it did. -/
def majorityVotesUptoRow : OpenClaim := { program := "ytkamgnihpcafdaa", sum := "75dcd1a00377c6413f00079897fbe680299798060c3c29d91f56b9b160921794", func := "codewright/codewrightlaw43.MajorityVotes", spec := "majorityVotes", apart := false, narrowed := true }
def MajorityVotesUptoSaid : Prop := majorityVotesUptoRow.holds Try.pinned (OpenSpec.upto majorityVotesSpec)

/-- 'codewrightlaw43.MajorityAgrees', WHERE WHAT IT READS IS OF BULK AT MOST 1048576: true; the input reads as it did. -/
def majorityAgreesUptoRow : OpenClaim := { program := "ytkamgnihpcafdaa", sum := "75dcd1a00377c6413f00079897fbe680299798060c3c29d91f56b9b160921794", func := "codewright/codewrightlaw43.MajorityAgrees", spec := "majorityAgrees", apart := false, narrowed := true }
def MajorityAgreesUptoSaid : Prop := majorityAgreesUptoRow.holds Try.pinned (OpenSpec.upto majorityAgreesSpec)

/-- 'codewrightlaw43.MajorityReed', WHERE WHAT IT READS IS OF BULK AT MOST 1048576: true; the input reads as it did. -/
def majorityReedUptoRow : OpenClaim := { program := "ytkamgnihpcafdaa", sum := "75dcd1a00377c6413f00079897fbe680299798060c3c29d91f56b9b160921794", func := "codewright/codewrightlaw43.MajorityReed", spec := "majorityReed", unfollowed := true, recurses := true, apart := false, narrowed := true }
def MajorityReedUptoSaid : Prop := majorityReedUptoRow.holds Try.pinned (OpenSpec.upto majorityReedSpec)

/-- 'codewrightlaw43.MajorityCorrects', WHERE WHAT IT READS IS OF BULK AT MOST 1048576: true; the input reads as it did. -/
def majorityCorrectsUptoRow : OpenClaim := { program := "ytkamgnihpcafdaa", sum := "75dcd1a00377c6413f00079897fbe680299798060c3c29d91f56b9b160921794", func := "codewright/codewrightlaw43.MajorityCorrects", spec := "majorityCorrects", unfollowed := true, recurses := true, apart := false, narrowed := true }
def MajorityCorrectsUptoSaid : Prop := majorityCorrectsUptoRow.holds Try.pinned (OpenSpec.upto majorityCorrectsSpec)

/-- 'codewrightlaw43.MajorityWithin', WHERE WHAT IT READS IS OF BULK AT MOST 1048576: true; the input reads as it did. -/
def majorityWithinUptoRow : OpenClaim := { program := "ytkamgnihpcafdaa", sum := "75dcd1a00377c6413f00079897fbe680299798060c3c29d91f56b9b160921794", func := "codewright/codewrightlaw43.MajorityWithin", spec := "majorityWithin", unfollowed := true, recurses := true, apart := false, narrowed := true }
def MajorityWithinUptoSaid : Prop := majorityWithinUptoRow.holds Try.pinned (OpenSpec.upto majorityWithinSpec)

/-- 'codewrightlaw15.ClassicPoints', WHERE WHAT IT READS IS OF BULK AT MOST 1048576: true; the input reads as it did. -/
def classicPointsUptoRow : OpenClaim := { program := "ytkamgnihpcafdaa", sum := "75dcd1a00377c6413f00079897fbe680299798060c3c29d91f56b9b160921794", func := "codewright/codewrightlaw15.ClassicPoints", spec := "classicPoints", apart := false, narrowed := true }
def ClassicPointsUptoSaid : Prop := classicPointsUptoRow.holds Try.pinned (OpenSpec.upto classicPointsSpec)

end Rows
end Go.Proofs.Ytkamgnihpcafdaa
