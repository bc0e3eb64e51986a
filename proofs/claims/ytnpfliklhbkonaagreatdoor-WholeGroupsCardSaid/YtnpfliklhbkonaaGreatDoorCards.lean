/-
  DERIVED. GIVEN WITH THE SEED: THE CARDS: each row of YtnpfliklhbkonaaGreatDoorRows.lean that lists a variable, with what it lists TIED to the program's text (the seventh form; the later family's looks); each row that meets fmt, with fmt's text TOLD by the authors' own Lean function (tested against real Go, not proved from fmt's source: count such statements apart). THE CARD IS WHAT COUNTS. Prove the row's statement (the work); the ties are given (YtnpfliklhbkonaaGreatDoorTie.lean); close each card by the builder's one call (the guide's Derived/Test/ToyasCard.lean, 'card_holds'). Laid BY PROGRAM, IN A SANDBOX (cutbox-door.mjs). By AI agents, Wed Nov 11 2026. No macro, syntax, notation, axiom, sorry.
-/
import Derived.Test.YtnpfliklhbkonaaGreatDoorRows
import GoSem.ClaimSeven
namespace Go.Proofs.YtnpfliklhbkonaaGreatDoor
namespace Rows

/-- THE TIED CARD OF 'codewrighttop.WholeGroups'. -/
def wholeGroupsCard : Claim7 := { stood := { row := wholeGroupsRow, standIns := [], harness := (true, "87642a5e1c32e955e04045f7c7e6c92ca004bc5c8766c1c335332aae2a810fb8"), looks := true }, kinds := [], alts := [], laidByText := true, laidKinds := [.data, .data, .data], laidTests := true, laidLooks := .later }
def WholeGroupsCardSaid : Prop := Claim7.holds Tryz.pinned (.plain (OpenSpec.ofChange wholeGroupsSpec)) wholeGroupsCard

/-- THE SECOND FORM's CARD OF 'codewrighttop.WholeGroups'. -/
def wholeGroupsUptoCard : Claim7 := { stood := { row := wholeGroupsUptoRow, standIns := [], harness := (true, "87642a5e1c32e955e04045f7c7e6c92ca004bc5c8766c1c335332aae2a810fb8"), looks := true }, kinds := [], alts := [], laidByText := true, laidKinds := [.data, .data, .data], laidTests := true, laidLooks := .later }
def WholeGroupsUptoCardSaid : Prop := Claim7.holds Tryz.pinned (.plain (OpenSpec.upto wholeGroupsSpec)) wholeGroupsUptoCard
end Rows
end Go.Proofs.YtnpfliklhbkonaaGreatDoor
