/-
  No cell of these rows narrows 'for every input' (looked for: loops, veiled, ifaces, maps, wideKeys, modest, calm, conditions, laid).
  DERIVED. THE GIVEN ROWS OF THIS SEAT. 4 by the template 'for every input the law returns true; each argument reads behind the call as it read before'; 0 by the template 'total and deterministic' (their statements: YtlcgihjdafglmaaGreatTotals.lean).
  GIVEN WITH THE SEED: the statements are not yours to turn. If you find one false, say at which input.
  Laid BY PROGRAM, IN A SANDBOX (cutbox-rows.mjs): the forced cells as the released guide's own fill.sh prints them over the translation 99c539976e268713… (all of the seat's roots in one cut). By AI agents, Wed Nov 11 2026. No macro, syntax, notation, axiom, sorry.
-/
import Derived.Test.YtlcgihjdafglmaaGreatChecked
import GoSem.Claim
import GoSem.ClaimJoined
import GoSem.ClaimMapViews
import Derived.JoinedTies
import Derived.KernelRfl
namespace Go.Proofs.YtlcgihjdafglmaaGreat
/- THE CELL 'sum', in the pinned program and in every row, IS THE sha256 OF THE DUMP (.gsa) THAT YtlcgihjdafglmaaGreatProg.lean LOADS. Nothing in Lean hashes anything: it is a label: what it is worth is what the hold of that sum in a sandbox is worth. -/
noncomputable def Tryz.pinned : Pinned := { name := "ytlcgihjdafglmaagreat", sum := "99c539976e268713868d99134cabb519898618ac083296024801b3277f50cc5a", checked := Tryz.checked }
namespace Rows
def none {H : Type} : Left H := { results := [], args := [] }

/-- 'codewrightlaw43.MajorityTells': WHATEVER THE INPUT: true; the input reads as it did. -/
def majorityTellsSpec : ChangeSpec := { name := "majorityTells", fn := fun _ => fun
  | [d] => { results := [.lit (.bool true)], args := [d] }
  | _ => none }
def majorityTellsRow : OpenClaim := { program := "ytlcgihjdafglmaagreat", sum := "99c539976e268713868d99134cabb519898618ac083296024801b3277f50cc5a", func := "codewright/codewrightlaw43.MajorityTells", spec := "majorityTells", unfollowed := true, recurses := true, apart := false }
def MajorityTellsSaid : Prop := majorityTellsRow.holds Tryz.pinned (OpenSpec.ofChange majorityTellsSpec)

/-- ITS FALSE NEIGHBOUR: 'it returns false'. Refute it at one input. -/
def majorityTellsWrong : ChangeSpec := { name := "majorityTells", fn := fun _ => fun
  | [d] => { results := [.lit (.bool false)], args := [d] }
  | _ => none }
def MajorityTellsWrongFalsely : Prop := majorityTellsRow.holds Tryz.pinned (OpenSpec.ofChange majorityTellsWrong)

/-- 'codewrightlaw43.MajorityOneStep': WHATEVER THE INPUT: true; the input reads as it did. -/
def majorityOneStepSpec : ChangeSpec := { name := "majorityOneStep", fn := fun _ => fun
  | [d] => { results := [.lit (.bool true)], args := [d] }
  | _ => none }
def majorityOneStepRow : OpenClaim := { program := "ytlcgihjdafglmaagreat", sum := "99c539976e268713868d99134cabb519898618ac083296024801b3277f50cc5a", func := "codewright/codewrightlaw43.MajorityOneStep", spec := "majorityOneStep", unfollowed := true, recurses := true, apart := false }
def MajorityOneStepSaid : Prop := majorityOneStepRow.holds Tryz.pinned (OpenSpec.ofChange majorityOneStepSpec)

/-- ITS FALSE NEIGHBOUR: 'it returns false'. Refute it at one input. -/
def majorityOneStepWrong : ChangeSpec := { name := "majorityOneStep", fn := fun _ => fun
  | [d] => { results := [.lit (.bool false)], args := [d] }
  | _ => none }
def MajorityOneStepWrongFalsely : Prop := majorityOneStepRow.holds Tryz.pinned (OpenSpec.ofChange majorityOneStepWrong)

/-- 'codewrightlaw43.MajorityOne': WHATEVER THE INPUT: true; the input reads as it did. -/
def majorityOneSpec : ChangeSpec := { name := "majorityOne", fn := fun _ => fun
  | [d] => { results := [.lit (.bool true)], args := [d] }
  | _ => none }
def majorityOneRow : OpenClaim := { program := "ytlcgihjdafglmaagreat", sum := "99c539976e268713868d99134cabb519898618ac083296024801b3277f50cc5a", func := "codewright/codewrightlaw43.MajorityOne", spec := "majorityOne", unfollowed := true, recurses := true, apart := false }
def MajorityOneSaid : Prop := majorityOneRow.holds Tryz.pinned (OpenSpec.ofChange majorityOneSpec)

/-- ITS FALSE NEIGHBOUR: 'it returns false'. Refute it at one input. -/
def majorityOneWrong : ChangeSpec := { name := "majorityOne", fn := fun _ => fun
  | [d] => { results := [.lit (.bool false)], args := [d] }
  | _ => none }
def MajorityOneWrongFalsely : Prop := majorityOneRow.holds Tryz.pinned (OpenSpec.ofChange majorityOneWrong)

/-- 'codewrightlaw43.MajorityFinds': WHATEVER THE INPUT: true; the input reads as it did. -/
def majorityFindsSpec : ChangeSpec := { name := "majorityFinds", fn := fun _ => fun
  | [d1, d2, d3] => { results := [.lit (.bool true)], args := [d1, d2, d3] }
  | _ => none }
def majorityFindsRow : OpenClaim := { program := "ytlcgihjdafglmaagreat", sum := "99c539976e268713868d99134cabb519898618ac083296024801b3277f50cc5a", func := "codewright/codewrightlaw43.MajorityFinds", spec := "majorityFinds", unfollowed := true, recurses := true, apart := false }
def MajorityFindsSaid : Prop := majorityFindsRow.holds Tryz.pinned (OpenSpec.ofChange majorityFindsSpec)

/-- ITS FALSE NEIGHBOUR: 'it returns false'. Refute it at one input. -/
def majorityFindsWrong : ChangeSpec := { name := "majorityFinds", fn := fun _ => fun
  | [d1, d2, d3] => { results := [.lit (.bool false)], args := [d1, d2, d3] }
  | _ => none }
def MajorityFindsWrongFalsely : Prop := majorityFindsRow.holds Tryz.pinned (OpenSpec.ofChange majorityFindsWrong)

/- THE SECOND FORM. 'bulk': how many values and letters a reading holds, each counted each time it is reached (what is shared counts as often as it is met; a slice's spare places count too). A statement '..UptoSaid' is the law's where the arguments, and the package variables that the reading takes, are together of bulk at most 1048576: NARROWER than '..Said'. Prove '..Said' where nothing that the law and all that it calls make is longer than what came in: it says more and counts as full. Else prove '..UptoSaid'. A law counts once. -/
mutual
def uptoBulk {H : Type} : DataW H → Nat
  | .lit (.string bytes) => bytes.length + 1
  | .lit _ => 1
  | .nil => 1
  | .ptr d => uptoBulk d + 1
  | .slice elems spare => uptoBulkAll elems + uptoBulkAll spare + 1
  | .agg parts => uptoBulkAll parts + 1
  | .iface _ d => uptoBulk d + 1
  | .map entries => uptoBulkEntries entries + 1
  | .held _ => 1
def uptoBulkAll {H : Type} : List (DataW H) → Nat
  | [] => 0
  | d :: r => uptoBulk d + uptoBulkAll r
def uptoBulkEntries {H : Type} : List (Lit × DataW H) → Nat
  | [] => 0
  | x :: r => uptoBulkEntry x + uptoBulkEntries r
def uptoBulkEntry {H : Type} : Lit × DataW H → Nat
  | (.string bytes, d) => bytes.length + uptoBulk d + 1
  | (_, d) => uptoBulk d + 1
 end
def uptoSmall : (H : Type) → List (DataW H) → Bool := fun _ ds => decide (uptoBulkAll ds ≤ 1048576)
def OpenSpec.upto (s : _root_.Go.ChangeSpec) : _root_.Go.OpenSpec := { _root_.Go.OpenSpec.ofChange s with cond := some uptoSmall }

/-- 'codewrightlaw43.MajorityTells', WHERE WHAT IT READS IS OF BULK AT MOST 1048576: true; the input reads as it did. -/
def majorityTellsUptoRow : OpenClaim := { program := "ytlcgihjdafglmaagreat", sum := "99c539976e268713868d99134cabb519898618ac083296024801b3277f50cc5a", func := "codewright/codewrightlaw43.MajorityTells", spec := "majorityTells", unfollowed := true, recurses := true, apart := false, narrowed := true }
def MajorityTellsUptoSaid : Prop := majorityTellsUptoRow.holds Tryz.pinned (OpenSpec.upto majorityTellsSpec)

/-- 'codewrightlaw43.MajorityOneStep', WHERE WHAT IT READS IS OF BULK AT MOST 1048576: true; the input reads as it did. -/
def majorityOneStepUptoRow : OpenClaim := { program := "ytlcgihjdafglmaagreat", sum := "99c539976e268713868d99134cabb519898618ac083296024801b3277f50cc5a", func := "codewright/codewrightlaw43.MajorityOneStep", spec := "majorityOneStep", unfollowed := true, recurses := true, apart := false, narrowed := true }
def MajorityOneStepUptoSaid : Prop := majorityOneStepUptoRow.holds Tryz.pinned (OpenSpec.upto majorityOneStepSpec)

/-- 'codewrightlaw43.MajorityOne', WHERE WHAT IT READS IS OF BULK AT MOST 1048576: true; the input reads as it did. -/
def majorityOneUptoRow : OpenClaim := { program := "ytlcgihjdafglmaagreat", sum := "99c539976e268713868d99134cabb519898618ac083296024801b3277f50cc5a", func := "codewright/codewrightlaw43.MajorityOne", spec := "majorityOne", unfollowed := true, recurses := true, apart := false, narrowed := true }
def MajorityOneUptoSaid : Prop := majorityOneUptoRow.holds Tryz.pinned (OpenSpec.upto majorityOneSpec)

/-- 'codewrightlaw43.MajorityFinds', WHERE WHAT IT READS IS OF BULK AT MOST 1048576: true; the input reads as it did. -/
def majorityFindsUptoRow : OpenClaim := { program := "ytlcgihjdafglmaagreat", sum := "99c539976e268713868d99134cabb519898618ac083296024801b3277f50cc5a", func := "codewright/codewrightlaw43.MajorityFinds", spec := "majorityFinds", unfollowed := true, recurses := true, apart := false, narrowed := true }
def MajorityFindsUptoSaid : Prop := majorityFindsUptoRow.holds Tryz.pinned (OpenSpec.upto majorityFindsSpec)

end Rows
end Go.Proofs.YtlcgihjdafglmaaGreat
