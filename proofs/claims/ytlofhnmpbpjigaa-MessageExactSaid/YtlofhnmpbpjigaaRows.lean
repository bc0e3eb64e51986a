/-
  No cell of these rows narrows 'for every input' (looked for: loops, veiled, ifaces, maps, wideKeys, modest, calm, conditions, laid).
  DERIVED. THE GIVEN ROWS OF THIS SEAT. 2 by the template 'for every input the law returns true; each argument reads behind the call as it read before'; 0 by the template 'total and deterministic' (their statements: YtlofhnmpbpjigaaTotals.lean).
  GIVEN WITH THE SEED: the statements are not yours to turn. If you find one false, say at which input.
  Laid BY PROGRAM, IN A SANDBOX (cutbox-rows.mjs): the forced cells as the released guide's own fill.sh prints them over the translation a2d03c785fb5fafd… (all of the seat's roots in one cut). By AI agents, Wed Nov 11 2026. No macro, syntax, notation, axiom, sorry.
-/
import Derived.Test.YtlofhnmpbpjigaaChecked
import GoSem.Claim
import GoSem.ClaimJoined
import GoSem.ClaimMapViews
import Derived.JoinedTies
import Derived.KernelRfl
namespace Go.Proofs.Ytlofhnmpbpjigaa
/- THE CELL 'sum', in the pinned program and in every row, IS THE sha256 OF THE DUMP (.gsa) THAT YtlofhnmpbpjigaaProg.lean LOADS. Nothing in Lean hashes anything: it is a label: what it is worth is what the hold of that sum in a sandbox is worth. -/
noncomputable def Try.pinned : Pinned := { name := "ytlofhnmpbpjigaa", sum := "a2d03c785fb5fafdadacd4308a203f4c5acd0930837de0afe3c097d2a9678bf5", checked := Try.checked }
namespace Rows
def none {H : Type} : Left H := { results := [], args := [] }

/-- 'codewrightlaw45.MessageExact': WHATEVER THE INPUT: true; the input reads as it did. -/
def messageExactSpec : ChangeSpec := { name := "messageExact", fn := fun _ => fun
  | [d1, d2, d3] => { results := [.lit (.bool true)], args := [d1, d2, d3] }
  | _ => none }
def messageExactRow : OpenClaim := { program := "ytlofhnmpbpjigaa", sum := "a2d03c785fb5fafdadacd4308a203f4c5acd0930837de0afe3c097d2a9678bf5", func := "codewright/codewrightlaw45.MessageExact", spec := "messageExact", apart := false }
def MessageExactSaid : Prop := messageExactRow.holds Try.pinned (OpenSpec.ofChange messageExactSpec)

/-- ITS FALSE NEIGHBOUR: 'it returns false'. Refute it at one input. -/
def messageExactWrong : ChangeSpec := { name := "messageExact", fn := fun _ => fun
  | [d1, d2, d3] => { results := [.lit (.bool false)], args := [d1, d2, d3] }
  | _ => none }
def MessageExactWrongFalsely : Prop := messageExactRow.holds Try.pinned (OpenSpec.ofChange messageExactWrong)

/-- 'codewrightlaw45.MessageBest': WHATEVER THE INPUT: true; the input reads as it did. -/
def messageBestSpec : ChangeSpec := { name := "messageBest", fn := fun _ => fun
  | [d1, d2, d3] => { results := [.lit (.bool true)], args := [d1, d2, d3] }
  | _ => none }
def messageBestRow : OpenClaim := { program := "ytlofhnmpbpjigaa", sum := "a2d03c785fb5fafdadacd4308a203f4c5acd0930837de0afe3c097d2a9678bf5", func := "codewright/codewrightlaw45.MessageBest", spec := "messageBest", apart := false }
def MessageBestSaid : Prop := messageBestRow.holds Try.pinned (OpenSpec.ofChange messageBestSpec)

/-- ITS FALSE NEIGHBOUR: 'it returns false'. Refute it at one input. -/
def messageBestWrong : ChangeSpec := { name := "messageBest", fn := fun _ => fun
  | [d1, d2, d3] => { results := [.lit (.bool false)], args := [d1, d2, d3] }
  | _ => none }
def MessageBestWrongFalsely : Prop := messageBestRow.holds Try.pinned (OpenSpec.ofChange messageBestWrong)

/- THE SECOND FORM. 'bulk': how many values and letters a reading holds, each counted each time it is reached (what is shared counts as often as it is met; a slice's spare places count too). A statement '..UptoSaid' is the law's where the arguments, and the package variables that the reading takes, are together of bulk at most 1048576: NARROWER than '..Said'. Prove '..Said' where nothing that the law and all that it calls make is longer than what came in: it says more and counts as full. Else prove '..UptoSaid'. A law counts once. -/
mutual
def uptoBulk {H : Type} : DataW H → Nat
  | .lit (.string bytes) => bytes.length + 1
  | .lit _ => 1
  | .nil => 1
  | .ptr d => uptoBulk d + 1
  | .slice elems spare => uptoBulkAll elems + uptoBulkAll spare + 1
  | .agg parts => uptoBulkAll parts + 1
  | .iface _ d => uptoBulk d + 1
  | .map entries => uptoBulkEntries entries + 1
  | .held _ => 1
def uptoBulkAll {H : Type} : List (DataW H) → Nat
  | [] => 0
  | d :: r => uptoBulk d + uptoBulkAll r
def uptoBulkEntries {H : Type} : List (Lit × DataW H) → Nat
  | [] => 0
  | x :: r => uptoBulkEntry x + uptoBulkEntries r
def uptoBulkEntry {H : Type} : Lit × DataW H → Nat
  | (.string bytes, d) => bytes.length + uptoBulk d + 1
  | (_, d) => uptoBulk d + 1
 end
def uptoSmall : (H : Type) → List (DataW H) → Bool := fun _ ds => decide (uptoBulkAll ds ≤ 1048576)
def OpenSpec.upto (s : _root_.Go.ChangeSpec) : _root_.Go.OpenSpec := { _root_.Go.OpenSpec.ofChange s with cond := some uptoSmall }

/-- 'codewrightlaw45.MessageExact', WHERE WHAT IT READS IS OF BULK AT MOST 1048576: true; the input reads as it did. -/
def messageExactUptoRow : OpenClaim := { program := "ytlofhnmpbpjigaa", sum := "a2d03c785fb5fafdadacd4308a203f4c5acd0930837de0afe3c097d2a9678bf5", func := "codewright/codewrightlaw45.MessageExact", spec := "messageExact", apart := false, narrowed := true }
def MessageExactUptoSaid : Prop := messageExactUptoRow.holds Try.pinned (OpenSpec.upto messageExactSpec)

/-- 'codewrightlaw45.MessageBest', WHERE WHAT IT READS IS OF BULK AT MOST 1048576: true; the input reads as it did. -/
def messageBestUptoRow : OpenClaim := { program := "ytlofhnmpbpjigaa", sum := "a2d03c785fb5fafdadacd4308a203f4c5acd0930837de0afe3c097d2a9678bf5", func := "codewright/codewrightlaw45.MessageBest", spec := "messageBest", apart := false, narrowed := true }
def MessageBestUptoSaid : Prop := messageBestUptoRow.holds Try.pinned (OpenSpec.upto messageBestSpec)

end Rows
end Go.Proofs.Ytlofhnmpbpjigaa
