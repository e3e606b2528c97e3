/-
  DERIVED. GIVEN WITH THE SEED: THE CARDS: each row of YteaiobgnhlpblaaDoorRows.lean that lists a variable, with what it lists TIED to the program's text (the seventh form; the later family's looks); each row that meets fmt, with fmt's text TOLD by the authors' own Lean function (tested against real Go, not proved from fmt's source: count such statements apart). THE CARD IS WHAT COUNTS. Prove the row's statement (the work); the ties are given (YteaiobgnhlpblaaDoorTie.lean); close each card by the builder's one call (the guide's Derived/Test/ToyasCard.lean, 'card_holds'). Laid BY PROGRAM, IN A SANDBOX (cutbox-door.mjs). By AI agents, Wed Nov 11 2026. No macro, syntax, notation, axiom, sorry.
-/
import Derived.Test.YteaiobgnhlpblaaDoorRows
import GoSem.ClaimSeven
namespace Go.Proofs.YteaiobgnhlpblaaDoor
namespace Rows

/-- THE TIED CARD OF 'bursarlaw04.LabelParses'. -/
def labelParsesCard : Claim7 := { stood := { row := labelParsesRow, standIns := [], harness := (true, "146bdd4b0726a1417c9e1279872f78c84dafd33ef8e34bcfc7c5597056428a63"), looks := false }, kinds := [], alts := [], laidByText := true, laidKinds := [.data, .pinned], laidTests := true, laidLooks := .later }
def LabelParsesCardSaid : Prop := Claim7.holds Tryd.pinned (.plain (OpenSpec.ofChange labelParsesSpec)) labelParsesCard

/-- THE TIED CARD OF 'bursarlaw04.LabelReadsBack'. -/
def labelReadsBackCard : Claim7 := { stood := { row := labelReadsBackRow, standIns := [], harness := (true, "146bdd4b0726a1417c9e1279872f78c84dafd33ef8e34bcfc7c5597056428a63"), looks := false }, kinds := [], alts := [], laidByText := true, laidKinds := [.data, .pinned], laidTests := true, laidLooks := .later }
def LabelReadsBackCardSaid : Prop := Claim7.holds Tryd.pinned (.plain (OpenSpec.ofChange labelReadsBackSpec)) labelReadsBackCard

/-- THE TIED CARD OF 'bursarlaw04.LabelPaths'. -/
def labelPathsCard : Claim7 := { stood := { row := labelPathsRow, standIns := [], harness := (true, "146bdd4b0726a1417c9e1279872f78c84dafd33ef8e34bcfc7c5597056428a63"), looks := false }, kinds := [], alts := [], laidByText := true, laidKinds := [.data, .pinned], laidTests := true, laidLooks := .later }
def LabelPathsCardSaid : Prop := Claim7.holds Tryd.pinned (.plain (OpenSpec.ofChange labelPathsSpec)) labelPathsCard

/-- THE TIED CARD OF 'bursarlaw04.LabelJoins'. -/
def labelJoinsCard : Claim7 := { stood := { row := labelJoinsRow, standIns := [], harness := (true, "146bdd4b0726a1417c9e1279872f78c84dafd33ef8e34bcfc7c5597056428a63"), looks := false }, kinds := [], alts := [], laidByText := true, laidKinds := [.data, .pinned], laidTests := true, laidLooks := .later }
def LabelJoinsCardSaid : Prop := Claim7.holds Tryd.pinned (.plain (OpenSpec.ofChange labelJoinsSpec)) labelJoinsCard

/-- THE TIED CARD OF 'bursarlaw04.LabelJoinsApart'. -/
def labelJoinsApartCard : Claim7 := { stood := { row := labelJoinsApartRow, standIns := [], harness := (true, "146bdd4b0726a1417c9e1279872f78c84dafd33ef8e34bcfc7c5597056428a63"), looks := false }, kinds := [], alts := [], laidByText := true, laidKinds := [.data, .pinned], laidTests := true, laidLooks := .later }
def LabelJoinsApartCardSaid : Prop := Claim7.holds Tryd.pinned (.plain (OpenSpec.ofChange labelJoinsApartSpec)) labelJoinsApartCard

/-- THE TIED CARD OF 'bursarlaw04.LabelKeepsApart'. -/
def labelKeepsApartCard : Claim7 := { stood := { row := labelKeepsApartRow, standIns := [], harness := (true, "146bdd4b0726a1417c9e1279872f78c84dafd33ef8e34bcfc7c5597056428a63"), looks := false }, kinds := [], alts := [], laidByText := true, laidKinds := [.data, .pinned], laidTests := true, laidLooks := .later }
def LabelKeepsApartCardSaid : Prop := Claim7.holds Tryd.pinned (.plain (OpenSpec.ofChange labelKeepsApartSpec)) labelKeepsApartCard

/-- THE TIED CARD OF 'bursarlaw04.LabelGoesBack'. -/
def labelGoesBackCard : Claim7 := { stood := { row := labelGoesBackRow, standIns := [], harness := (true, "146bdd4b0726a1417c9e1279872f78c84dafd33ef8e34bcfc7c5597056428a63"), looks := false }, kinds := [], alts := [], laidByText := true, laidKinds := [.data, .pinned], laidTests := true, laidLooks := .later }
def LabelGoesBackCardSaid : Prop := Claim7.holds Tryd.pinned (.plain (OpenSpec.ofChange labelGoesBackSpec)) labelGoesBackCard

/-- THE TIED CARD OF 'bursarlaw04.LabelMatches'. -/
def labelMatchesCard : Claim7 := { stood := { row := labelMatchesRow, standIns := [], harness := (true, "146bdd4b0726a1417c9e1279872f78c84dafd33ef8e34bcfc7c5597056428a63"), looks := false }, kinds := [], alts := [], laidByText := true, laidKinds := [.data, .pinned], laidTests := true, laidLooks := .later }
def LabelMatchesCardSaid : Prop := Claim7.holds Tryd.pinned (.plain (OpenSpec.ofChange labelMatchesSpec)) labelMatchesCard

/-- THE TIED CARD OF 'bursarlaw04.LabelTermsHold'. -/
def labelTermsHoldCard : Claim7 := { stood := { row := labelTermsHoldRow, standIns := [], harness := (true, "146bdd4b0726a1417c9e1279872f78c84dafd33ef8e34bcfc7c5597056428a63"), looks := false }, kinds := [], alts := [], laidByText := true, laidKinds := [.data, .pinned], laidTests := true, laidLooks := .later }
def LabelTermsHoldCardSaid : Prop := Claim7.holds Tryd.pinned (.plain (OpenSpec.ofChange labelTermsHoldSpec)) labelTermsHoldCard

/-- THE SECOND FORM's CARD OF 'bursarlaw04.LabelParses'. -/
def labelParsesUptoCard : Claim7 := { stood := { row := labelParsesUptoRow, standIns := [], harness := (true, "146bdd4b0726a1417c9e1279872f78c84dafd33ef8e34bcfc7c5597056428a63"), looks := false }, kinds := [], alts := [], laidByText := true, laidKinds := [.data, .pinned], laidTests := true, laidLooks := .later }
def LabelParsesUptoCardSaid : Prop := Claim7.holds Tryd.pinned (.plain (OpenSpec.upto labelParsesSpec)) labelParsesUptoCard

/-- THE SECOND FORM's CARD OF 'bursarlaw04.LabelReadsBack'. -/
def labelReadsBackUptoCard : Claim7 := { stood := { row := labelReadsBackUptoRow, standIns := [], harness := (true, "146bdd4b0726a1417c9e1279872f78c84dafd33ef8e34bcfc7c5597056428a63"), looks := false }, kinds := [], alts := [], laidByText := true, laidKinds := [.data, .pinned], laidTests := true, laidLooks := .later }
def LabelReadsBackUptoCardSaid : Prop := Claim7.holds Tryd.pinned (.plain (OpenSpec.upto labelReadsBackSpec)) labelReadsBackUptoCard

/-- THE SECOND FORM's CARD OF 'bursarlaw04.LabelPaths'. -/
def labelPathsUptoCard : Claim7 := { stood := { row := labelPathsUptoRow, standIns := [], harness := (true, "146bdd4b0726a1417c9e1279872f78c84dafd33ef8e34bcfc7c5597056428a63"), looks := false }, kinds := [], alts := [], laidByText := true, laidKinds := [.data, .pinned], laidTests := true, laidLooks := .later }
def LabelPathsUptoCardSaid : Prop := Claim7.holds Tryd.pinned (.plain (OpenSpec.upto labelPathsSpec)) labelPathsUptoCard

/-- THE SECOND FORM's CARD OF 'bursarlaw04.LabelJoins'. -/
def labelJoinsUptoCard : Claim7 := { stood := { row := labelJoinsUptoRow, standIns := [], harness := (true, "146bdd4b0726a1417c9e1279872f78c84dafd33ef8e34bcfc7c5597056428a63"), looks := false }, kinds := [], alts := [], laidByText := true, laidKinds := [.data, .pinned], laidTests := true, laidLooks := .later }
def LabelJoinsUptoCardSaid : Prop := Claim7.holds Tryd.pinned (.plain (OpenSpec.upto labelJoinsSpec)) labelJoinsUptoCard

/-- THE SECOND FORM's CARD OF 'bursarlaw04.LabelJoinsApart'. -/
def labelJoinsApartUptoCard : Claim7 := { stood := { row := labelJoinsApartUptoRow, standIns := [], harness := (true, "146bdd4b0726a1417c9e1279872f78c84dafd33ef8e34bcfc7c5597056428a63"), looks := false }, kinds := [], alts := [], laidByText := true, laidKinds := [.data, .pinned], laidTests := true, laidLooks := .later }
def LabelJoinsApartUptoCardSaid : Prop := Claim7.holds Tryd.pinned (.plain (OpenSpec.upto labelJoinsApartSpec)) labelJoinsApartUptoCard

/-- THE SECOND FORM's CARD OF 'bursarlaw04.LabelKeepsApart'. -/
def labelKeepsApartUptoCard : Claim7 := { stood := { row := labelKeepsApartUptoRow, standIns := [], harness := (true, "146bdd4b0726a1417c9e1279872f78c84dafd33ef8e34bcfc7c5597056428a63"), looks := false }, kinds := [], alts := [], laidByText := true, laidKinds := [.data, .pinned], laidTests := true, laidLooks := .later }
def LabelKeepsApartUptoCardSaid : Prop := Claim7.holds Tryd.pinned (.plain (OpenSpec.upto labelKeepsApartSpec)) labelKeepsApartUptoCard

/-- THE SECOND FORM's CARD OF 'bursarlaw04.LabelGoesBack'. -/
def labelGoesBackUptoCard : Claim7 := { stood := { row := labelGoesBackUptoRow, standIns := [], harness := (true, "146bdd4b0726a1417c9e1279872f78c84dafd33ef8e34bcfc7c5597056428a63"), looks := false }, kinds := [], alts := [], laidByText := true, laidKinds := [.data, .pinned], laidTests := true, laidLooks := .later }
def LabelGoesBackUptoCardSaid : Prop := Claim7.holds Tryd.pinned (.plain (OpenSpec.upto labelGoesBackSpec)) labelGoesBackUptoCard

/-- THE SECOND FORM's CARD OF 'bursarlaw04.LabelMatches'. -/
def labelMatchesUptoCard : Claim7 := { stood := { row := labelMatchesUptoRow, standIns := [], harness := (true, "146bdd4b0726a1417c9e1279872f78c84dafd33ef8e34bcfc7c5597056428a63"), looks := false }, kinds := [], alts := [], laidByText := true, laidKinds := [.data, .pinned], laidTests := true, laidLooks := .later }
def LabelMatchesUptoCardSaid : Prop := Claim7.holds Tryd.pinned (.plain (OpenSpec.upto labelMatchesSpec)) labelMatchesUptoCard

/-- THE SECOND FORM's CARD OF 'bursarlaw04.LabelTermsHold'. -/
def labelTermsHoldUptoCard : Claim7 := { stood := { row := labelTermsHoldUptoRow, standIns := [], harness := (true, "146bdd4b0726a1417c9e1279872f78c84dafd33ef8e34bcfc7c5597056428a63"), looks := false }, kinds := [], alts := [], laidByText := true, laidKinds := [.data, .pinned], laidTests := true, laidLooks := .later }
def LabelTermsHoldUptoCardSaid : Prop := Claim7.holds Tryd.pinned (.plain (OpenSpec.upto labelTermsHoldSpec)) labelTermsHoldUptoCard
end Rows
end Go.Proofs.YteaiobgnhlpblaaDoor
