/-
  No cell of these rows narrows 'for every input' (looked for: loops, veiled, ifaces, maps, wideKeys, modest, calm, conditions, laid).
  DERIVED. THE GIVEN ROWS OF THIS SEAT. 6 by the template 'for every input the law returns true; each argument reads behind the call as it read before'; 0 by the template 'total and deterministic' (their statements: YtmejijekcfhonaaTotals.lean).
  GIVEN WITH THE SEED: the statements are not yours to turn. If you find one false, say at which input.
  Laid BY PROGRAM, IN A SANDBOX (cutbox-rows.mjs): the forced cells as the released guide's own fill.sh prints them over the translation 6e292324d77e31c3… (all of the seat's roots in one cut). By AI agents, Wed Nov 11 2026. No macro, syntax, notation, axiom, sorry.
-/
import Derived.Test.YtmejijekcfhonaaChecked
import GoSem.Claim
import GoSem.ClaimJoined
import GoSem.ClaimMapViews
import Derived.JoinedTies
import Derived.KernelRfl
namespace Go.Proofs.Ytmejijekcfhonaa
/- THE CELL 'sum', in the pinned program and in every row, IS THE sha256 OF THE DUMP (.gsa) THAT YtmejijekcfhonaaProg.lean LOADS. Nothing in Lean hashes anything: it is a label: what it is worth is what the hold of that sum in a sandbox is worth. -/
noncomputable def Try.pinned : Pinned := { name := "ytmejijekcfhonaa", sum := "6e292324d77e31c3ac370d03e9c8aa985600a2de3d0b39bd420a20efd928744d", checked := Try.checked }
namespace Rows
def none {H : Type} : Left H := { results := [], args := [] }

/-- 'codewrightlaw10.SpaceSums': WHATEVER THE INPUT: true; the input reads as it did. -/
def spaceSumsSpec : ChangeSpec := { name := "spaceSums", fn := fun _ => fun
  | [d1, d2, d3] => { results := [.lit (.bool true)], args := [d1, d2, d3] }
  | _ => none }
def spaceSumsRow : OpenClaim := { program := "ytmejijekcfhonaa", sum := "6e292324d77e31c3ac370d03e9c8aa985600a2de3d0b39bd420a20efd928744d", func := "codewright/codewrightlaw10.SpaceSums", spec := "spaceSums", unfollowed := true, recurses := true, apart := false }
def SpaceSumsSaid : Prop := spaceSumsRow.holds Try.pinned (OpenSpec.ofChange spaceSumsSpec)

/-- ITS FALSE NEIGHBOUR: 'it returns false'. Refute it at one input. -/
def spaceSumsWrong : ChangeSpec := { name := "spaceSums", fn := fun _ => fun
  | [d1, d2, d3] => { results := [.lit (.bool false)], args := [d1, d2, d3] }
  | _ => none }
def SpaceSumsWrongFalsely : Prop := spaceSumsRow.holds Try.pinned (OpenSpec.ofChange spaceSumsWrong)

/-- 'codewrightlaw10.SpaceDuality': WHATEVER THE INPUT: true; the input reads as it did. -/
def spaceDualitySpec : ChangeSpec := { name := "spaceDuality", fn := fun _ => fun
  | [d1, d2, d3] => { results := [.lit (.bool true)], args := [d1, d2, d3] }
  | _ => none }
def spaceDualityRow : OpenClaim := { program := "ytmejijekcfhonaa", sum := "6e292324d77e31c3ac370d03e9c8aa985600a2de3d0b39bd420a20efd928744d", func := "codewright/codewrightlaw10.SpaceDuality", spec := "spaceDuality", unfollowed := true, recurses := true, apart := false }
def SpaceDualitySaid : Prop := spaceDualityRow.holds Try.pinned (OpenSpec.ofChange spaceDualitySpec)

/-- ITS FALSE NEIGHBOUR: 'it returns false'. Refute it at one input. -/
def spaceDualityWrong : ChangeSpec := { name := "spaceDuality", fn := fun _ => fun
  | [d1, d2, d3] => { results := [.lit (.bool false)], args := [d1, d2, d3] }
  | _ => none }
def SpaceDualityWrongFalsely : Prop := spaceDualityRow.holds Try.pinned (OpenSpec.ofChange spaceDualityWrong)

/-- 'codewrightlaw10.SpaceModular': WHATEVER THE INPUT: true; the input reads as it did. -/
def spaceModularSpec : ChangeSpec := { name := "spaceModular", fn := fun _ => fun
  | [d1, d2, d3] => { results := [.lit (.bool true)], args := [d1, d2, d3] }
  | _ => none }
def spaceModularRow : OpenClaim := { program := "ytmejijekcfhonaa", sum := "6e292324d77e31c3ac370d03e9c8aa985600a2de3d0b39bd420a20efd928744d", func := "codewright/codewrightlaw10.SpaceModular", spec := "spaceModular", unfollowed := true, recurses := true, apart := false }
def SpaceModularSaid : Prop := spaceModularRow.holds Try.pinned (OpenSpec.ofChange spaceModularSpec)

/-- ITS FALSE NEIGHBOUR: 'it returns false'. Refute it at one input. -/
def spaceModularWrong : ChangeSpec := { name := "spaceModular", fn := fun _ => fun
  | [d1, d2, d3] => { results := [.lit (.bool false)], args := [d1, d2, d3] }
  | _ => none }
def SpaceModularWrongFalsely : Prop := spaceModularRow.holds Try.pinned (OpenSpec.ofChange spaceModularWrong)

/-- 'codewrightlaw10.SpaceCosets': WHATEVER THE INPUT: true; the input reads as it did. -/
def spaceCosetsSpec : ChangeSpec := { name := "spaceCosets", fn := fun _ => fun
  | [d1, d2, d3] => { results := [.lit (.bool true)], args := [d1, d2, d3] }
  | _ => none }
def spaceCosetsRow : OpenClaim := { program := "ytmejijekcfhonaa", sum := "6e292324d77e31c3ac370d03e9c8aa985600a2de3d0b39bd420a20efd928744d", func := "codewright/codewrightlaw10.SpaceCosets", spec := "spaceCosets", unfollowed := true, recurses := true, apart := false }
def SpaceCosetsSaid : Prop := spaceCosetsRow.holds Try.pinned (OpenSpec.ofChange spaceCosetsSpec)

/-- ITS FALSE NEIGHBOUR: 'it returns false'. Refute it at one input. -/
def spaceCosetsWrong : ChangeSpec := { name := "spaceCosets", fn := fun _ => fun
  | [d1, d2, d3] => { results := [.lit (.bool false)], args := [d1, d2, d3] }
  | _ => none }
def SpaceCosetsWrongFalsely : Prop := spaceCosetsRow.holds Try.pinned (OpenSpec.ofChange spaceCosetsWrong)

/-- 'codewrightlaw10.SpaceQuotient': WHATEVER THE INPUT: true; the input reads as it did. -/
def spaceQuotientSpec : ChangeSpec := { name := "spaceQuotient", fn := fun _ => fun
  | [d1, d2, d3] => { results := [.lit (.bool true)], args := [d1, d2, d3] }
  | _ => none }
def spaceQuotientRow : OpenClaim := { program := "ytmejijekcfhonaa", sum := "6e292324d77e31c3ac370d03e9c8aa985600a2de3d0b39bd420a20efd928744d", func := "codewright/codewrightlaw10.SpaceQuotient", spec := "spaceQuotient", unfollowed := true, recurses := true, apart := false }
def SpaceQuotientSaid : Prop := spaceQuotientRow.holds Try.pinned (OpenSpec.ofChange spaceQuotientSpec)

/-- ITS FALSE NEIGHBOUR: 'it returns false'. Refute it at one input. -/
def spaceQuotientWrong : ChangeSpec := { name := "spaceQuotient", fn := fun _ => fun
  | [d1, d2, d3] => { results := [.lit (.bool false)], args := [d1, d2, d3] }
  | _ => none }
def SpaceQuotientWrongFalsely : Prop := spaceQuotientRow.holds Try.pinned (OpenSpec.ofChange spaceQuotientWrong)

/-- 'codewrightlaw10.SpaceSupport': WHATEVER THE INPUT: true; the input reads as it did. -/
def spaceSupportSpec : ChangeSpec := { name := "spaceSupport", fn := fun _ => fun
  | [d1, d2, d3] => { results := [.lit (.bool true)], args := [d1, d2, d3] }
  | _ => none }
def spaceSupportRow : OpenClaim := { program := "ytmejijekcfhonaa", sum := "6e292324d77e31c3ac370d03e9c8aa985600a2de3d0b39bd420a20efd928744d", func := "codewright/codewrightlaw10.SpaceSupport", spec := "spaceSupport", unfollowed := true, recurses := true, apart := false }
def SpaceSupportSaid : Prop := spaceSupportRow.holds Try.pinned (OpenSpec.ofChange spaceSupportSpec)

/-- ITS FALSE NEIGHBOUR: 'it returns false'. Refute it at one input. -/
def spaceSupportWrong : ChangeSpec := { name := "spaceSupport", fn := fun _ => fun
  | [d1, d2, d3] => { results := [.lit (.bool false)], args := [d1, d2, d3] }
  | _ => none }
def SpaceSupportWrongFalsely : Prop := spaceSupportRow.holds Try.pinned (OpenSpec.ofChange spaceSupportWrong)

/- THE SECOND FORM. 'bulk': how many values and letters a reading holds, each counted each time it is reached (what is shared counts as often as it is met; a slice's spare places count too). A statement '..UptoSaid' is the law's where the arguments, and the package variables that the reading takes, are together of bulk at most 1048576: NARROWER than '..Said'. Prove '..Said' where nothing that the law and all that it calls make is longer than what came in: it says more and counts as full. Else prove '..UptoSaid'. A law counts once. -/
mutual
def uptoBulk {H : Type} : DataW H → Nat
  | .lit (.string bytes) => bytes.length + 1
  | .lit _ => 1
  | .nil => 1
  | .ptr d => uptoBulk d + 1
  | .slice elems spare => uptoBulkAll elems + uptoBulkAll spare + 1
  | .agg parts => uptoBulkAll parts + 1
  | .iface _ d => uptoBulk d + 1
  | .map entries => uptoBulkEntries entries + 1
  | .held _ => 1
def uptoBulkAll {H : Type} : List (DataW H) → Nat
  | [] => 0
  | d :: r => uptoBulk d + uptoBulkAll r
def uptoBulkEntries {H : Type} : List (Lit × DataW H) → Nat
  | [] => 0
  | x :: r => uptoBulkEntry x + uptoBulkEntries r
def uptoBulkEntry {H : Type} : Lit × DataW H → Nat
  | (.string bytes, d) => bytes.length + uptoBulk d + 1
  | (_, d) => uptoBulk d + 1
 end
def uptoSmall : (H : Type) → List (DataW H) → Bool := fun _ ds => decide (uptoBulkAll ds ≤ 1048576)
def OpenSpec.upto (s : _root_.Go.ChangeSpec) : _root_.Go.OpenSpec := { _root_.Go.OpenSpec.ofChange s with cond := some uptoSmall }

/-- 'codewrightlaw10.SpaceSums', WHERE WHAT IT READS IS OF BULK AT MOST 1048576: true; the input reads as it did. -/
def spaceSumsUptoRow : OpenClaim := { program := "ytmejijekcfhonaa", sum := "6e292324d77e31c3ac370d03e9c8aa985600a2de3d0b39bd420a20efd928744d", func := "codewright/codewrightlaw10.SpaceSums", spec := "spaceSums", unfollowed := true, recurses := true, apart := false, narrowed := true }
def SpaceSumsUptoSaid : Prop := spaceSumsUptoRow.holds Try.pinned (OpenSpec.upto spaceSumsSpec)

/-- 'codewrightlaw10.SpaceDuality', WHERE WHAT IT READS IS OF BULK AT MOST 1048576: true; the input reads as it did. -/
def spaceDualityUptoRow : OpenClaim := { program := "ytmejijekcfhonaa", sum := "6e292324d77e31c3ac370d03e9c8aa985600a2de3d0b39bd420a20efd928744d", func := "codewright/codewrightlaw10.SpaceDuality", spec := "spaceDuality", unfollowed := true, recurses := true, apart := false, narrowed := true }
def SpaceDualityUptoSaid : Prop := spaceDualityUptoRow.holds Try.pinned (OpenSpec.upto spaceDualitySpec)

/-- 'codewrightlaw10.SpaceModular', WHERE WHAT IT READS IS OF BULK AT MOST 1048576: true; the input reads as it did. -/
def spaceModularUptoRow : OpenClaim := { program := "ytmejijekcfhonaa", sum := "6e292324d77e31c3ac370d03e9c8aa985600a2de3d0b39bd420a20efd928744d", func := "codewright/codewrightlaw10.SpaceModular", spec := "spaceModular", unfollowed := true, recurses := true, apart := false, narrowed := true }
def SpaceModularUptoSaid : Prop := spaceModularUptoRow.holds Try.pinned (OpenSpec.upto spaceModularSpec)

/-- 'codewrightlaw10.SpaceCosets', WHERE WHAT IT READS IS OF BULK AT MOST 1048576: true; the input reads as it did. -/
def spaceCosetsUptoRow : OpenClaim := { program := "ytmejijekcfhonaa", sum := "6e292324d77e31c3ac370d03e9c8aa985600a2de3d0b39bd420a20efd928744d", func := "codewright/codewrightlaw10.SpaceCosets", spec := "spaceCosets", unfollowed := true, recurses := true, apart := false, narrowed := true }
def SpaceCosetsUptoSaid : Prop := spaceCosetsUptoRow.holds Try.pinned (OpenSpec.upto spaceCosetsSpec)

/-- 'codewrightlaw10.SpaceQuotient', WHERE WHAT IT READS IS OF BULK AT MOST 1048576: true; the input reads as it did. -/
def spaceQuotientUptoRow : OpenClaim := { program := "ytmejijekcfhonaa", sum := "6e292324d77e31c3ac370d03e9c8aa985600a2de3d0b39bd420a20efd928744d", func := "codewright/codewrightlaw10.SpaceQuotient", spec := "spaceQuotient", unfollowed := true, recurses := true, apart := false, narrowed := true }
def SpaceQuotientUptoSaid : Prop := spaceQuotientUptoRow.holds Try.pinned (OpenSpec.upto spaceQuotientSpec)

/-- 'codewrightlaw10.SpaceSupport', WHERE WHAT IT READS IS OF BULK AT MOST 1048576: true; the input reads as it did. -/
def spaceSupportUptoRow : OpenClaim := { program := "ytmejijekcfhonaa", sum := "6e292324d77e31c3ac370d03e9c8aa985600a2de3d0b39bd420a20efd928744d", func := "codewright/codewrightlaw10.SpaceSupport", spec := "spaceSupport", unfollowed := true, recurses := true, apart := false, narrowed := true }
def SpaceSupportUptoSaid : Prop := spaceSupportUptoRow.holds Try.pinned (OpenSpec.upto spaceSupportSpec)

end Rows
end Go.Proofs.Ytmejijekcfhonaa
