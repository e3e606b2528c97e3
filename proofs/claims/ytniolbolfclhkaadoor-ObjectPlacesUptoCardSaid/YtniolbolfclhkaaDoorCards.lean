/-
  DERIVED. GIVEN WITH THE SEED: THE CARDS: each row of YtniolbolfclhkaaDoorRows.lean that lists a variable, with what it lists TIED to the program's text (the seventh form; the later family's looks); each row that meets fmt, with fmt's text TOLD by the authors' own Lean function (tested against real Go, not proved from fmt's source: count such statements apart). THE CARD IS WHAT COUNTS. Prove the row's statement (the work); the ties are given (YtniolbolfclhkaaDoorTie.lean); close each card by the builder's one call (the guide's Derived/Test/ToyasCard.lean, 'card_holds'). Laid BY PROGRAM, IN A SANDBOX (cutbox-door.mjs). By AI agents, Wed Nov 11 2026. No macro, syntax, notation, axiom, sorry.
-/
import Derived.Test.YtniolbolfclhkaaDoorRows
import GoSem.ClaimSeven
namespace Go.Proofs.YtniolbolfclhkaaDoor
namespace Rows

/-- THE TIED CARD OF 'bursarlaw13.ObjectRefuses'. -/
def objectRefusesCard : Claim7 := { stood := { row := objectRefusesRow, standIns := [], harness := (true, "1a98170d59e2725ab22a0cea7dc75dc519231665d81bc4d63fc8a8a73f1fbf35"), looks := false }, kinds := [], alts := [], laidByText := true, laidKinds := [.data, .data, .pinned], laidTests := true, laidLooks := .later }
def ObjectRefusesCardSaid : Prop := Claim7.holds Tryd.pinned (.plain (OpenSpec.ofChange objectRefusesSpec)) objectRefusesCard

/-- THE TIED CARD OF 'bursarlaw13.ObjectKeys'. -/
def objectKeysCard : Claim7 := { stood := { row := objectKeysRow, standIns := [], harness := (true, "1a98170d59e2725ab22a0cea7dc75dc519231665d81bc4d63fc8a8a73f1fbf35"), looks := false }, kinds := [], alts := [], laidByText := true, laidKinds := [.data, .data, .pinned], laidTests := true, laidLooks := .later }
def ObjectKeysCardSaid : Prop := Claim7.holds Tryd.pinned (.plain (OpenSpec.ofChange objectKeysSpec)) objectKeysCard

/-- THE TIED CARD OF 'bursarlaw13.ObjectPlaces'. -/
def objectPlacesCard : Claim7 := { stood := { row := objectPlacesRow, standIns := [], harness := (true, "1a98170d59e2725ab22a0cea7dc75dc519231665d81bc4d63fc8a8a73f1fbf35"), looks := false }, kinds := [], alts := [], laidByText := true, laidKinds := [.data, .data, .pinned], laidTests := true, laidLooks := .later }
def ObjectPlacesCardSaid : Prop := Claim7.holds Tryd.pinned (.plain (OpenSpec.ofChange objectPlacesSpec)) objectPlacesCard

/-- THE SECOND FORM's CARD OF 'bursarlaw13.ObjectRefuses'. -/
def objectRefusesUptoCard : Claim7 := { stood := { row := objectRefusesUptoRow, standIns := [], harness := (true, "1a98170d59e2725ab22a0cea7dc75dc519231665d81bc4d63fc8a8a73f1fbf35"), looks := false }, kinds := [], alts := [], laidByText := true, laidKinds := [.data, .data, .pinned], laidTests := true, laidLooks := .later }
def ObjectRefusesUptoCardSaid : Prop := Claim7.holds Tryd.pinned (.plain (OpenSpec.upto objectRefusesSpec)) objectRefusesUptoCard

/-- THE SECOND FORM's CARD OF 'bursarlaw13.ObjectKeys'. -/
def objectKeysUptoCard : Claim7 := { stood := { row := objectKeysUptoRow, standIns := [], harness := (true, "1a98170d59e2725ab22a0cea7dc75dc519231665d81bc4d63fc8a8a73f1fbf35"), looks := false }, kinds := [], alts := [], laidByText := true, laidKinds := [.data, .data, .pinned], laidTests := true, laidLooks := .later }
def ObjectKeysUptoCardSaid : Prop := Claim7.holds Tryd.pinned (.plain (OpenSpec.upto objectKeysSpec)) objectKeysUptoCard

/-- THE SECOND FORM's CARD OF 'bursarlaw13.ObjectPlaces'. -/
def objectPlacesUptoCard : Claim7 := { stood := { row := objectPlacesUptoRow, standIns := [], harness := (true, "1a98170d59e2725ab22a0cea7dc75dc519231665d81bc4d63fc8a8a73f1fbf35"), looks := false }, kinds := [], alts := [], laidByText := true, laidKinds := [.data, .data, .pinned], laidTests := true, laidLooks := .later }
def ObjectPlacesUptoCardSaid : Prop := Claim7.holds Tryd.pinned (.plain (OpenSpec.upto objectPlacesSpec)) objectPlacesUptoCard
end Rows
end Go.Proofs.YtniolbolfclhkaaDoor
