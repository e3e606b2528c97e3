/-
  DERIVED. GIVEN WITH THE SEED: THE CARDS: each row of YtphddbijdfmpjaaDoorRows.lean that lists a variable, with what it lists TIED to the program's text (the seventh form; the later family's looks); each row that meets fmt, with fmt's text TOLD by the authors' own Lean function (tested against real Go, not proved from fmt's source: count such statements apart). THE CARD IS WHAT COUNTS. Prove the row's statement (the work); the ties are given (YtphddbijdfmpjaaDoorTie.lean); close each card by the builder's one call (the guide's Derived/Test/ToyasCard.lean, 'card_holds'). Laid BY PROGRAM, IN A SANDBOX (cutbox-door.mjs). By AI agents, Wed Nov 11 2026. No macro, syntax, notation, axiom, sorry.
-/
import Derived.Test.YtphddbijdfmpjaaDoorRows
import GoSem.ClaimSeven
namespace Go.Proofs.YtphddbijdfmpjaaDoor
namespace Rows

/-- THE TIED CARD OF 'bursarlaw21.AccessGoesDown'. -/
def accessGoesDownCard : Claim7 := { stood := { row := accessGoesDownRow, standIns := [], harness := (true, "bc4c8e71dae75c2bc1dc915f05abcc66ef412ddca907de4a79c4faa4337448e5"), looks := false }, kinds := [], alts := [], laidByText := true, laidKinds := [.data, .data, .pinned], laidTests := true, laidLooks := .later }
def AccessGoesDownCardSaid : Prop := Claim7.holds Tryd.pinned (.plain (OpenSpec.ofChange accessGoesDownSpec)) accessGoesDownCard

/-- THE TIED CARD OF 'bursarlaw21.AccessOfMany'. -/
def accessOfManyCard : Claim7 := { stood := { row := accessOfManyRow, standIns := [], harness := (true, "bc4c8e71dae75c2bc1dc915f05abcc66ef412ddca907de4a79c4faa4337448e5"), looks := false }, kinds := [], alts := [], laidByText := true, laidKinds := [.data, .data, .pinned], laidTests := true, laidLooks := .later }
def AccessOfManyCardSaid : Prop := Claim7.holds Tryd.pinned (.plain (OpenSpec.ofChange accessOfManySpec)) accessOfManyCard

/-- THE TIED CARD OF 'bursarlaw21.AccessHoldsSixteen'. -/
def accessHoldsSixteenCard : Claim7 := { stood := { row := accessHoldsSixteenRow, standIns := [], harness := (true, "bc4c8e71dae75c2bc1dc915f05abcc66ef412ddca907de4a79c4faa4337448e5"), looks := false }, kinds := [], alts := [], laidByText := true, laidKinds := [.data, .data, .pinned], laidTests := true, laidLooks := .later }
def AccessHoldsSixteenCardSaid : Prop := Claim7.holds Tryd.pinned (.plain (OpenSpec.ofChange accessHoldsSixteenSpec)) accessHoldsSixteenCard

/-- THE TIED CARD OF 'bursarlaw21.AccessTouchesNoOther'. -/
def accessTouchesNoOtherCard : Claim7 := { stood := { row := accessTouchesNoOtherRow, standIns := [], harness := (true, "bc4c8e71dae75c2bc1dc915f05abcc66ef412ddca907de4a79c4faa4337448e5"), looks := false }, kinds := [], alts := [], laidByText := true, laidKinds := [.data, .data, .pinned], laidTests := true, laidLooks := .later }
def AccessTouchesNoOtherCardSaid : Prop := Claim7.holds Tryd.pinned (.plain (OpenSpec.ofChange accessTouchesNoOtherSpec)) accessTouchesNoOtherCard

/-- THE TIED CARD OF 'bursarlaw21.AccessIsItsBindings'. -/
def accessIsItsBindingsCard : Claim7 := { stood := { row := accessIsItsBindingsRow, standIns := [], harness := (true, "bc4c8e71dae75c2bc1dc915f05abcc66ef412ddca907de4a79c4faa4337448e5"), looks := false }, kinds := [], alts := [], laidByText := true, laidKinds := [.data, .data, .pinned], laidTests := true, laidLooks := .later }
def AccessIsItsBindingsCardSaid : Prop := Claim7.holds Tryd.pinned (.plain (OpenSpec.ofChange accessIsItsBindingsSpec)) accessIsItsBindingsCard

/-- THE TIED CARD OF 'bursarlaw21.AccessSays'. -/
def accessSaysCard : Claim7 := { stood := { row := accessSaysRow, standIns := [], harness := (true, "bc4c8e71dae75c2bc1dc915f05abcc66ef412ddca907de4a79c4faa4337448e5"), looks := false }, kinds := [], alts := [], laidByText := true, laidKinds := [.data, .data, .pinned], laidTests := true, laidLooks := .later }
def AccessSaysCardSaid : Prop := Claim7.holds Tryd.pinned (.plain (OpenSpec.ofChange accessSaysSpec)) accessSaysCard

/-- THE TIED CARD OF 'bursarlaw21.AccessApart'. -/
def accessApartCard : Claim7 := { stood := { row := accessApartRow, standIns := [], harness := (true, "bc4c8e71dae75c2bc1dc915f05abcc66ef412ddca907de4a79c4faa4337448e5"), looks := false }, kinds := [], alts := [], laidByText := true, laidKinds := [.data, .data, .pinned], laidTests := true, laidLooks := .later }
def AccessApartCardSaid : Prop := Claim7.holds Tryd.pinned (.plain (OpenSpec.ofChange accessApartSpec)) accessApartCard

/-- THE SECOND FORM's CARD OF 'bursarlaw21.AccessGoesDown'. -/
def accessGoesDownUptoCard : Claim7 := { stood := { row := accessGoesDownUptoRow, standIns := [], harness := (true, "bc4c8e71dae75c2bc1dc915f05abcc66ef412ddca907de4a79c4faa4337448e5"), looks := false }, kinds := [], alts := [], laidByText := true, laidKinds := [.data, .data, .pinned], laidTests := true, laidLooks := .later }
def AccessGoesDownUptoCardSaid : Prop := Claim7.holds Tryd.pinned (.plain (OpenSpec.upto accessGoesDownSpec)) accessGoesDownUptoCard

/-- THE SECOND FORM's CARD OF 'bursarlaw21.AccessOfMany'. -/
def accessOfManyUptoCard : Claim7 := { stood := { row := accessOfManyUptoRow, standIns := [], harness := (true, "bc4c8e71dae75c2bc1dc915f05abcc66ef412ddca907de4a79c4faa4337448e5"), looks := false }, kinds := [], alts := [], laidByText := true, laidKinds := [.data, .data, .pinned], laidTests := true, laidLooks := .later }
def AccessOfManyUptoCardSaid : Prop := Claim7.holds Tryd.pinned (.plain (OpenSpec.upto accessOfManySpec)) accessOfManyUptoCard

/-- THE SECOND FORM's CARD OF 'bursarlaw21.AccessHoldsSixteen'. -/
def accessHoldsSixteenUptoCard : Claim7 := { stood := { row := accessHoldsSixteenUptoRow, standIns := [], harness := (true, "bc4c8e71dae75c2bc1dc915f05abcc66ef412ddca907de4a79c4faa4337448e5"), looks := false }, kinds := [], alts := [], laidByText := true, laidKinds := [.data, .data, .pinned], laidTests := true, laidLooks := .later }
def AccessHoldsSixteenUptoCardSaid : Prop := Claim7.holds Tryd.pinned (.plain (OpenSpec.upto accessHoldsSixteenSpec)) accessHoldsSixteenUptoCard

/-- THE SECOND FORM's CARD OF 'bursarlaw21.AccessTouchesNoOther'. -/
def accessTouchesNoOtherUptoCard : Claim7 := { stood := { row := accessTouchesNoOtherUptoRow, standIns := [], harness := (true, "bc4c8e71dae75c2bc1dc915f05abcc66ef412ddca907de4a79c4faa4337448e5"), looks := false }, kinds := [], alts := [], laidByText := true, laidKinds := [.data, .data, .pinned], laidTests := true, laidLooks := .later }
def AccessTouchesNoOtherUptoCardSaid : Prop := Claim7.holds Tryd.pinned (.plain (OpenSpec.upto accessTouchesNoOtherSpec)) accessTouchesNoOtherUptoCard

/-- THE SECOND FORM's CARD OF 'bursarlaw21.AccessIsItsBindings'. -/
def accessIsItsBindingsUptoCard : Claim7 := { stood := { row := accessIsItsBindingsUptoRow, standIns := [], harness := (true, "bc4c8e71dae75c2bc1dc915f05abcc66ef412ddca907de4a79c4faa4337448e5"), looks := false }, kinds := [], alts := [], laidByText := true, laidKinds := [.data, .data, .pinned], laidTests := true, laidLooks := .later }
def AccessIsItsBindingsUptoCardSaid : Prop := Claim7.holds Tryd.pinned (.plain (OpenSpec.upto accessIsItsBindingsSpec)) accessIsItsBindingsUptoCard

/-- THE SECOND FORM's CARD OF 'bursarlaw21.AccessSays'. -/
def accessSaysUptoCard : Claim7 := { stood := { row := accessSaysUptoRow, standIns := [], harness := (true, "bc4c8e71dae75c2bc1dc915f05abcc66ef412ddca907de4a79c4faa4337448e5"), looks := false }, kinds := [], alts := [], laidByText := true, laidKinds := [.data, .data, .pinned], laidTests := true, laidLooks := .later }
def AccessSaysUptoCardSaid : Prop := Claim7.holds Tryd.pinned (.plain (OpenSpec.upto accessSaysSpec)) accessSaysUptoCard

/-- THE SECOND FORM's CARD OF 'bursarlaw21.AccessApart'. -/
def accessApartUptoCard : Claim7 := { stood := { row := accessApartUptoRow, standIns := [], harness := (true, "bc4c8e71dae75c2bc1dc915f05abcc66ef412ddca907de4a79c4faa4337448e5"), looks := false }, kinds := [], alts := [], laidByText := true, laidKinds := [.data, .data, .pinned], laidTests := true, laidLooks := .later }
def AccessApartUptoCardSaid : Prop := Claim7.holds Tryd.pinned (.plain (OpenSpec.upto accessApartSpec)) accessApartUptoCard
end Rows
end Go.Proofs.YtphddbijdfmpjaaDoor
