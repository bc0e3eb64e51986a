/-
  No cell of these rows narrows 'for every input' (looked for: loops, veiled, ifaces, maps, wideKeys, modest, calm, conditions, laid).
  DERIVED. THE GIVEN ROWS OF THIS SEAT. 3 by the template 'for every input the law returns true; each argument reads behind the call as it read before'; 0 by the template 'total and deterministic' (their statements: YtlofhnmpbpjigaaGreatTotals.lean).
  GIVEN WITH THE SEED: the statements are not yours to turn. If you find one false, say at which input.
  Laid BY PROGRAM, IN A SANDBOX (cutbox-rows.mjs): the forced cells as the released guide's own fill.sh prints them over the translation 0f0a2754e2b4f5ef… (all of the seat's roots in one cut). By AI agents, Wed Nov 11 2026. No macro, syntax, notation, axiom, sorry.
-/
import Derived.Test.YtlofhnmpbpjigaaGreatChecked
import GoSem.Claim
import GoSem.ClaimJoined
import GoSem.ClaimMapViews
import Derived.JoinedTies
import Derived.KernelRfl
namespace Go.Proofs.YtlofhnmpbpjigaaGreat
/- THE CELL 'sum', in the pinned program and in every row, IS THE sha256 OF THE DUMP (.gsa) THAT YtlofhnmpbpjigaaGreatProg.lean LOADS. Nothing in Lean hashes anything: it is a label: what it is worth is what the hold of that sum in a sandbox is worth. -/
noncomputable def Tryz.pinned : Pinned := { name := "ytlofhnmpbpjigaagreat", sum := "0f0a2754e2b4f5efe2b586672da08653928c98f3aad1c04948c86645e166971c", checked := Tryz.checked }
namespace Rows
def none {H : Type} : Left H := { results := [], args := [] }

/-- 'codewrightlaw43.MajorityFinds': WHATEVER THE INPUT: true; the input reads as it did. -/
def majorityFindsSpec : ChangeSpec := { name := "majorityFinds", fn := fun _ => fun
  | [d1, d2, d3] => { results := [.lit (.bool true)], args := [d1, d2, d3] }
  | _ => none }
def majorityFindsRow : OpenClaim := { program := "ytlofhnmpbpjigaagreat", sum := "0f0a2754e2b4f5efe2b586672da08653928c98f3aad1c04948c86645e166971c", func := "codewright/codewrightlaw43.MajorityFinds", spec := "majorityFinds", unfollowed := true, recurses := true, apart := false }
def MajorityFindsSaid : Prop := majorityFindsRow.holds Tryz.pinned (OpenSpec.ofChange majorityFindsSpec)

/-- ITS FALSE NEIGHBOUR: 'it returns false'. Refute it at one input. -/
def majorityFindsWrong : ChangeSpec := { name := "majorityFinds", fn := fun _ => fun
  | [d1, d2, d3] => { results := [.lit (.bool false)], args := [d1, d2, d3] }
  | _ => none }
def MajorityFindsWrongFalsely : Prop := majorityFindsRow.holds Tryz.pinned (OpenSpec.ofChange majorityFindsWrong)

/-- 'codewrightlaw12.CodeLists': WHATEVER THE INPUT: true; the input reads as it did. -/
def codeListsSpec : ChangeSpec := { name := "codeLists", fn := fun _ => fun
  | [d1, d2, d3] => { results := [.lit (.bool true)], args := [d1, d2, d3] }
  | _ => none }
def codeListsRow : OpenClaim := { program := "ytlofhnmpbpjigaagreat", sum := "0f0a2754e2b4f5efe2b586672da08653928c98f3aad1c04948c86645e166971c", func := "codewright/codewrightlaw12.CodeLists", spec := "codeLists", unfollowed := true, recurses := true, apart := false }
def CodeListsSaid : Prop := codeListsRow.holds Tryz.pinned (OpenSpec.ofChange codeListsSpec)

/-- ITS FALSE NEIGHBOUR: 'it returns false'. Refute it at one input. -/
def codeListsWrong : ChangeSpec := { name := "codeLists", fn := fun _ => fun
  | [d1, d2, d3] => { results := [.lit (.bool false)], args := [d1, d2, d3] }
  | _ => none }
def CodeListsWrongFalsely : Prop := codeListsRow.holds Tryz.pinned (OpenSpec.ofChange codeListsWrong)

/-- 'codewrightlaw12.CodeWalks': WHATEVER THE INPUT: true; the input reads as it did. -/
def codeWalksSpec : ChangeSpec := { name := "codeWalks", fn := fun _ => fun
  | [d1, d2] => { results := [.lit (.bool true)], args := [d1, d2] }
  | _ => none }
def codeWalksRow : OpenClaim := { program := "ytlofhnmpbpjigaagreat", sum := "0f0a2754e2b4f5efe2b586672da08653928c98f3aad1c04948c86645e166971c", func := "codewright/codewrightlaw12.CodeWalks", spec := "codeWalks", unfollowed := true, recurses := true, apart := false }
def CodeWalksSaid : Prop := codeWalksRow.holds Tryz.pinned (OpenSpec.ofChange codeWalksSpec)

/-- ITS FALSE NEIGHBOUR: 'it returns false'. Refute it at one input. -/
def codeWalksWrong : ChangeSpec := { name := "codeWalks", fn := fun _ => fun
  | [d1, d2] => { results := [.lit (.bool false)], args := [d1, d2] }
  | _ => none }
def CodeWalksWrongFalsely : Prop := codeWalksRow.holds Tryz.pinned (OpenSpec.ofChange codeWalksWrong)

/- THE SECOND FORM. 'bulk': how many values and letters a reading holds, each counted each time it is reached (what is shared counts as often as it is met; a slice's spare places count too). A statement '..UptoSaid' is the law's where the arguments, and the package variables that the reading takes, are together of bulk at most 1048576: NARROWER than '..Said'. Prove '..Said' where nothing that the law and all that it calls make is longer than what came in: it says more and counts as full. Else prove '..UptoSaid'. A law counts once. -/
mutual
def uptoBulk {H : Type} : DataW H → Nat
  | .lit (.string bytes) => bytes.length + 1
  | .lit _ => 1
  | .nil => 1
  | .ptr d => uptoBulk d + 1
  | .slice elems spare => uptoBulkAll elems + uptoBulkAll spare + 1
  | .agg parts => uptoBulkAll parts + 1
  | .iface _ d => uptoBulk d + 1
  | .map entries => uptoBulkEntries entries + 1
  | .held _ => 1
def uptoBulkAll {H : Type} : List (DataW H) → Nat
  | [] => 0
  | d :: r => uptoBulk d + uptoBulkAll r
def uptoBulkEntries {H : Type} : List (Lit × DataW H) → Nat
  | [] => 0
  | x :: r => uptoBulkEntry x + uptoBulkEntries r
def uptoBulkEntry {H : Type} : Lit × DataW H → Nat
  | (.string bytes, d) => bytes.length + uptoBulk d + 1
  | (_, d) => uptoBulk d + 1
 end
def uptoSmall : (H : Type) → List (DataW H) → Bool := fun _ ds => decide (uptoBulkAll ds ≤ 1048576)
def OpenSpec.upto (s : _root_.Go.ChangeSpec) : _root_.Go.OpenSpec := { _root_.Go.OpenSpec.ofChange s with cond := some uptoSmall }

/-- 'codewrightlaw43.MajorityFinds', WHERE WHAT IT READS IS OF BULK AT MOST 1048576: true; the input reads as it did. -/
def majorityFindsUptoRow : OpenClaim := { program := "ytlofhnmpbpjigaagreat", sum := "0f0a2754e2b4f5efe2b586672da08653928c98f3aad1c04948c86645e166971c", func := "codewright/codewrightlaw43.MajorityFinds", spec := "majorityFinds", unfollowed := true, recurses := true, apart := false, narrowed := true }
def MajorityFindsUptoSaid : Prop := majorityFindsUptoRow.holds Tryz.pinned (OpenSpec.upto majorityFindsSpec)

/-- 'codewrightlaw12.CodeLists', WHERE WHAT IT READS IS OF BULK AT MOST 1048576: true; the input reads as it did. -/
def codeListsUptoRow : OpenClaim := { program := "ytlofhnmpbpjigaagreat", sum := "0f0a2754e2b4f5efe2b586672da08653928c98f3aad1c04948c86645e166971c", func := "codewright/codewrightlaw12.CodeLists", spec := "codeLists", unfollowed := true, recurses := true, apart := false, narrowed := true }
def CodeListsUptoSaid : Prop := codeListsUptoRow.holds Tryz.pinned (OpenSpec.upto codeListsSpec)

/-- 'codewrightlaw12.CodeWalks', WHERE WHAT IT READS IS OF BULK AT MOST 1048576: true; the input reads as it did. -/
def codeWalksUptoRow : OpenClaim := { program := "ytlofhnmpbpjigaagreat", sum := "0f0a2754e2b4f5efe2b586672da08653928c98f3aad1c04948c86645e166971c", func := "codewright/codewrightlaw12.CodeWalks", spec := "codeWalks", unfollowed := true, recurses := true, apart := false, narrowed := true }
def CodeWalksUptoSaid : Prop := codeWalksUptoRow.holds Tryz.pinned (OpenSpec.upto codeWalksSpec)

end Rows
end Go.Proofs.YtlofhnmpbpjigaaGreat
