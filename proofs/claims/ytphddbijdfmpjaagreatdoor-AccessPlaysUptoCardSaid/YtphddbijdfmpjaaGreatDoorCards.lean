/-
  DERIVED. GIVEN WITH THE SEED: THE CARDS: each row of YtphddbijdfmpjaaGreatDoorRows.lean that lists a variable, with what it lists TIED to the program's text (the seventh form; the later family's looks); each row that meets fmt, with fmt's text TOLD by the authors' own Lean function (tested against real Go, not proved from fmt's source: count such statements apart). THE CARD IS WHAT COUNTS. Prove the row's statement (the work); the ties are given (YtphddbijdfmpjaaGreatDoorTie.lean); close each card by the builder's one call (the guide's Derived/Test/ToyasCard.lean, 'card_holds'). Laid BY PROGRAM, IN A SANDBOX (cutbox-door.mjs). By AI agents, Wed Nov 11 2026. No macro, syntax, notation, axiom, sorry.
-/
import Derived.Test.YtphddbijdfmpjaaGreatDoorRows
import GoSem.ClaimSeven
namespace Go.Proofs.YtphddbijdfmpjaaGreatDoor
namespace Rows

/-- THE TIED CARD OF 'bursarlaw21.AccessPlays'. -/
def accessPlaysCard : Claim7 := { stood := { row := accessPlaysRow, standIns := [], harness := (true, "f4ae94bedcd8c45eedd2d14eaa7c1ab07412310b11e54d86ada4358e16ac6fc3"), looks := false }, kinds := [], alts := [], laidByText := true, laidKinds := [.data, .data, .pinned], laidTests := true, laidLooks := .later }
def AccessPlaysCardSaid : Prop := Claim7.holds Tryz.pinned (.plain (OpenSpec.ofChange accessPlaysSpec)) accessPlaysCard

/-- THE SECOND FORM's CARD OF 'bursarlaw21.AccessPlays'. -/
def accessPlaysUptoCard : Claim7 := { stood := { row := accessPlaysUptoRow, standIns := [], harness := (true, "f4ae94bedcd8c45eedd2d14eaa7c1ab07412310b11e54d86ada4358e16ac6fc3"), looks := false }, kinds := [], alts := [], laidByText := true, laidKinds := [.data, .data, .pinned], laidTests := true, laidLooks := .later }
def AccessPlaysUptoCardSaid : Prop := Claim7.holds Tryz.pinned (.plain (OpenSpec.upto accessPlaysSpec)) accessPlaysUptoCard
end Rows
end Go.Proofs.YtphddbijdfmpjaaGreatDoor
