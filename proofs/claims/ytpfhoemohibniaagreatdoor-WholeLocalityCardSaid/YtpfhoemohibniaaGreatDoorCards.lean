/-
  DERIVED. GIVEN WITH THE SEED: THE CARDS: each row of YtpfhoemohibniaaGreatDoorRows.lean that lists a variable, with what it lists TIED to the program's text (the seventh form; the later family's looks); each row that meets fmt, with fmt's text TOLD by the authors' own Lean function (tested against real Go, not proved from fmt's source: count such statements apart). THE CARD IS WHAT COUNTS. Prove the row's statement (the work); the ties are given (YtpfhoemohibniaaGreatDoorTie.lean); close each card by the builder's one call (the guide's Derived/Test/ToyasCard.lean, 'card_holds'). Laid BY PROGRAM, IN A SANDBOX (cutbox-door.mjs). By AI agents, Wed Nov 11 2026. No macro, syntax, notation, axiom, sorry.
-/
import Derived.Test.YtpfhoemohibniaaGreatDoorRows
import GoSem.ClaimSeven
namespace Go.Proofs.YtpfhoemohibniaaGreatDoor
namespace Rows

/-- THE TIED CARD OF 'codewrighttop.WholeLocality'. -/
def wholeLocalityCard : Claim7 := { stood := { row := wholeLocalityRow, standIns := [], harness := (true, "1ec97e4099825dc708d7565c0690986d26bca84e8850bae13054544cd4e6c40f"), looks := true }, kinds := [], alts := [], laidByText := true, laidKinds := [.data, .data, .data], laidTests := true, laidLooks := .later }
def WholeLocalityCardSaid : Prop := Claim7.holds Tryz.pinned (.plain (OpenSpec.ofChange wholeLocalitySpec)) wholeLocalityCard

/-- THE SECOND FORM's CARD OF 'codewrighttop.WholeLocality'. -/
def wholeLocalityUptoCard : Claim7 := { stood := { row := wholeLocalityUptoRow, standIns := [], harness := (true, "1ec97e4099825dc708d7565c0690986d26bca84e8850bae13054544cd4e6c40f"), looks := true }, kinds := [], alts := [], laidByText := true, laidKinds := [.data, .data, .data], laidTests := true, laidLooks := .later }
def WholeLocalityUptoCardSaid : Prop := Claim7.holds Tryz.pinned (.plain (OpenSpec.upto wholeLocalitySpec)) wholeLocalityUptoCard
end Rows
end Go.Proofs.YtpfhoemohibniaaGreatDoor
