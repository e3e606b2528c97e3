/-
  DERIVED. GIVEN WITH THE SEED: THE CARDS: each row of YtejgbdclhlolkaaGreatDoorRows.lean that lists a variable, with what it lists TIED to the program's text (the seventh form; the later family's looks); each row that meets fmt, with fmt's text TOLD by the authors' own Lean function (tested against real Go, not proved from fmt's source: count such statements apart). THE CARD IS WHAT COUNTS. Prove the row's statement (the work); the ties are given (YtejgbdclhlolkaaGreatDoorTie.lean); close each card by the builder's one call (the guide's Derived/Test/ToyasCard.lean, 'card_holds'). Laid BY PROGRAM, IN A SANDBOX (cutbox-door.mjs). By AI agents, Wed Nov 11 2026. No macro, syntax, notation, axiom, sorry.
-/
import Derived.Test.YtejgbdclhlolkaaGreatDoorRows
import GoSem.ClaimSeven
namespace Go.Proofs.YtejgbdclhlolkaaGreatDoor
namespace Rows

/-- THE TIED CARD OF 'bursarlaw03.QuantParses'. -/
def quantParsesCard : Claim7 := { stood := { row := quantParsesRow, standIns := [], harness := (true, "c45dd35d08935a94eb247086c7443b538c0c00717e4dec08f33d07a1db25a0d9"), looks := true }, kinds := [], alts := [], laidByText := true, laidKinds := [.data, .data, .data, .data, .sentinel, .sentinel, .widerDeep, .pinned], laidTests := true, laidLooks := .later }
def QuantParsesCardSaid : Prop := Claim7.holds Tryz.pinned (.plain (OpenSpec.ofChange quantParsesSpec)) quantParsesCard

/-- THE TIED CARD OF 'bursarlaw03.QuantPrints'. -/
def quantPrintsCard : Claim7 := { stood := { row := quantPrintsRow, standIns := [], harness := (true, "c45dd35d08935a94eb247086c7443b538c0c00717e4dec08f33d07a1db25a0d9"), looks := true }, kinds := [], alts := [], laidByText := true, laidKinds := [.data, .data, .data, .data, .sentinel, .sentinel, .widerDeep, .pinned], laidTests := true, laidLooks := .later }
def QuantPrintsCardSaid : Prop := Claim7.holds Tryz.pinned (.plain (OpenSpec.ofChange quantPrintsSpec)) quantPrintsCard

/-- THE TIED CARD OF 'bursarlaw03.QuantBack'. -/
def quantBackCard : Claim7 := { stood := { row := quantBackRow, standIns := [], harness := (true, "c45dd35d08935a94eb247086c7443b538c0c00717e4dec08f33d07a1db25a0d9"), looks := true }, kinds := [], alts := [], laidByText := true, laidKinds := [.data, .data, .data, .data, .sentinel, .sentinel, .widerDeep, .pinned], laidTests := true, laidLooks := .later }
def QuantBackCardSaid : Prop := Claim7.holds Tryz.pinned (.plain (OpenSpec.ofChange quantBackSpec)) quantBackCard

/-- THE TIED CARD OF 'bursarlaw03.QuantPlain'. -/
def quantPlainCard : Claim7 := { stood := { row := quantPlainRow, standIns := [], harness := (true, "c45dd35d08935a94eb247086c7443b538c0c00717e4dec08f33d07a1db25a0d9"), looks := true }, kinds := [], alts := [], laidByText := true, laidKinds := [.data, .data, .data, .data, .sentinel, .sentinel, .widerDeep, .pinned], laidTests := true, laidLooks := .later }
def QuantPlainCardSaid : Prop := Claim7.holds Tryz.pinned (.plain (OpenSpec.ofChange quantPlainSpec)) quantPlainCard

/-- THE TIED CARD OF 'bursarlaw03.QuantMeans'. -/
def quantMeansCard : Claim7 := { stood := { row := quantMeansRow, standIns := [], harness := (true, "c45dd35d08935a94eb247086c7443b538c0c00717e4dec08f33d07a1db25a0d9"), looks := true }, kinds := [], alts := [], laidByText := true, laidKinds := [.data, .data, .data, .data, .sentinel, .sentinel, .widerDeep, .pinned], laidTests := true, laidLooks := .later }
def QuantMeansCardSaid : Prop := Claim7.holds Tryz.pinned (.plain (OpenSpec.ofChange quantMeansSpec)) quantMeansCard

/-- THE TIED CARD OF 'bursarlaw03.QuantSums'. -/
def quantSumsCard : Claim7 := { stood := { row := quantSumsRow, standIns := [], harness := (true, "c45dd35d08935a94eb247086c7443b538c0c00717e4dec08f33d07a1db25a0d9"), looks := true }, kinds := [], alts := [], laidByText := true, laidKinds := [.data, .data, .data, .data, .sentinel, .sentinel, .widerDeep, .pinned], laidTests := true, laidLooks := .later }
def QuantSumsCardSaid : Prop := Claim7.holds Tryz.pinned (.plain (OpenSpec.ofChange quantSumsSpec)) quantSumsCard

/-- THE TIED CARD OF 'bursarlaw03.QuantScales'. -/
def quantScalesCard : Claim7 := { stood := { row := quantScalesRow, standIns := [], harness := (true, "c45dd35d08935a94eb247086c7443b538c0c00717e4dec08f33d07a1db25a0d9"), looks := true }, kinds := [], alts := [], laidByText := true, laidKinds := [.data, .data, .data, .data, .sentinel, .sentinel, .widerDeep, .pinned], laidTests := true, laidLooks := .later }
def QuantScalesCardSaid : Prop := Claim7.holds Tryz.pinned (.plain (OpenSpec.ofChange quantScalesSpec)) quantScalesCard

/-- THE TIED CARD OF 'bursarlaw03.QuantFinds'. -/
def quantFindsCard : Claim7 := { stood := { row := quantFindsRow, standIns := [], harness := (true, "c45dd35d08935a94eb247086c7443b538c0c00717e4dec08f33d07a1db25a0d9"), looks := true }, kinds := [], alts := [], laidByText := true, laidKinds := [.data, .data, .data, .data, .sentinel, .sentinel, .widerDeep, .data, .pinned], laidTests := true, laidLooks := .later }
def QuantFindsCardSaid : Prop := Claim7.holds Tryz.pinned (.plain (OpenSpec.ofChange quantFindsSpec)) quantFindsCard

/-- THE TIED CARD OF 'bursarlaw03.QuantReckons'. -/
def quantReckonsCard : Claim7 := { stood := { row := quantReckonsRow, standIns := [], harness := (true, "c45dd35d08935a94eb247086c7443b538c0c00717e4dec08f33d07a1db25a0d9"), looks := true }, kinds := [], alts := [], laidByText := true, laidKinds := [.data, .data, .data, .data, .sentinel, .sentinel, .widerDeep, .pinned], laidTests := true, laidLooks := .later }
def QuantReckonsCardSaid : Prop := Claim7.holds Tryz.pinned (.plain (OpenSpec.ofChange quantReckonsSpec)) quantReckonsCard

/-- THE TIED CARD OF 'bursarlaw03.QuantOrders'. -/
def quantOrdersCard : Claim7 := { stood := { row := quantOrdersRow, standIns := [], harness := (true, "c45dd35d08935a94eb247086c7443b538c0c00717e4dec08f33d07a1db25a0d9"), looks := true }, kinds := [], alts := [], laidByText := true, laidKinds := [.data, .data, .data, .data, .sentinel, .sentinel, .widerDeep, .data, .pinned], laidTests := true, laidLooks := .later }
def QuantOrdersCardSaid : Prop := Claim7.holds Tryz.pinned (.plain (OpenSpec.ofChange quantOrdersSpec)) quantOrdersCard

/-- THE TIED CARD OF 'bursarlaw03.QuantApart'. -/
def quantApartCard : Claim7 := { stood := { row := quantApartRow, standIns := [], harness := (true, "c45dd35d08935a94eb247086c7443b538c0c00717e4dec08f33d07a1db25a0d9"), looks := true }, kinds := [], alts := [], laidByText := true, laidKinds := [.data, .data, .data, .data, .sentinel, .sentinel, .widerDeep, .data, .pinned], laidTests := true, laidLooks := .later }
def QuantApartCardSaid : Prop := Claim7.holds Tryz.pinned (.plain (OpenSpec.ofChange quantApartSpec)) quantApartCard

/-- THE TIED CARD OF 'bursarlaw03.QuantAddsUp'. -/
def quantAddsUpCard : Claim7 := { stood := { row := quantAddsUpRow, standIns := [], harness := (true, "c45dd35d08935a94eb247086c7443b538c0c00717e4dec08f33d07a1db25a0d9"), looks := true }, kinds := [], alts := [], laidByText := true, laidKinds := [.data, .data, .data, .data, .sentinel, .sentinel, .widerDeep, .data, .pinned], laidTests := true, laidLooks := .later }
def QuantAddsUpCardSaid : Prop := Claim7.holds Tryz.pinned (.plain (OpenSpec.ofChange quantAddsUpSpec)) quantAddsUpCard

/-- THE TIED CARD OF 'bursarlaw03.QuantLists'. -/
def quantListsCard : Claim7 := { stood := { row := quantListsRow, standIns := [], harness := (true, "c45dd35d08935a94eb247086c7443b538c0c00717e4dec08f33d07a1db25a0d9"), looks := true }, kinds := [], alts := [], laidByText := true, laidKinds := [.data, .data, .data, .data, .sentinel, .sentinel, .widerDeep, .data, .pinned], laidTests := true, laidLooks := .later }
def QuantListsCardSaid : Prop := Claim7.holds Tryz.pinned (.plain (OpenSpec.ofChange quantListsSpec)) quantListsCard

/-- THE SECOND FORM's CARD OF 'bursarlaw03.QuantParses'. -/
def quantParsesUptoCard : Claim7 := { stood := { row := quantParsesUptoRow, standIns := [], harness := (true, "c45dd35d08935a94eb247086c7443b538c0c00717e4dec08f33d07a1db25a0d9"), looks := true }, kinds := [], alts := [], laidByText := true, laidKinds := [.data, .data, .data, .data, .sentinel, .sentinel, .widerDeep, .pinned], laidTests := true, laidLooks := .later }
def QuantParsesUptoCardSaid : Prop := Claim7.holds Tryz.pinned (.plain (OpenSpec.upto quantParsesSpec)) quantParsesUptoCard

/-- THE SECOND FORM's CARD OF 'bursarlaw03.QuantPrints'. -/
def quantPrintsUptoCard : Claim7 := { stood := { row := quantPrintsUptoRow, standIns := [], harness := (true, "c45dd35d08935a94eb247086c7443b538c0c00717e4dec08f33d07a1db25a0d9"), looks := true }, kinds := [], alts := [], laidByText := true, laidKinds := [.data, .data, .data, .data, .sentinel, .sentinel, .widerDeep, .pinned], laidTests := true, laidLooks := .later }
def QuantPrintsUptoCardSaid : Prop := Claim7.holds Tryz.pinned (.plain (OpenSpec.upto quantPrintsSpec)) quantPrintsUptoCard

/-- THE SECOND FORM's CARD OF 'bursarlaw03.QuantBack'. -/
def quantBackUptoCard : Claim7 := { stood := { row := quantBackUptoRow, standIns := [], harness := (true, "c45dd35d08935a94eb247086c7443b538c0c00717e4dec08f33d07a1db25a0d9"), looks := true }, kinds := [], alts := [], laidByText := true, laidKinds := [.data, .data, .data, .data, .sentinel, .sentinel, .widerDeep, .pinned], laidTests := true, laidLooks := .later }
def QuantBackUptoCardSaid : Prop := Claim7.holds Tryz.pinned (.plain (OpenSpec.upto quantBackSpec)) quantBackUptoCard

/-- THE SECOND FORM's CARD OF 'bursarlaw03.QuantPlain'. -/
def quantPlainUptoCard : Claim7 := { stood := { row := quantPlainUptoRow, standIns := [], harness := (true, "c45dd35d08935a94eb247086c7443b538c0c00717e4dec08f33d07a1db25a0d9"), looks := true }, kinds := [], alts := [], laidByText := true, laidKinds := [.data, .data, .data, .data, .sentinel, .sentinel, .widerDeep, .pinned], laidTests := true, laidLooks := .later }
def QuantPlainUptoCardSaid : Prop := Claim7.holds Tryz.pinned (.plain (OpenSpec.upto quantPlainSpec)) quantPlainUptoCard

/-- THE SECOND FORM's CARD OF 'bursarlaw03.QuantMeans'. -/
def quantMeansUptoCard : Claim7 := { stood := { row := quantMeansUptoRow, standIns := [], harness := (true, "c45dd35d08935a94eb247086c7443b538c0c00717e4dec08f33d07a1db25a0d9"), looks := true }, kinds := [], alts := [], laidByText := true, laidKinds := [.data, .data, .data, .data, .sentinel, .sentinel, .widerDeep, .pinned], laidTests := true, laidLooks := .later }
def QuantMeansUptoCardSaid : Prop := Claim7.holds Tryz.pinned (.plain (OpenSpec.upto quantMeansSpec)) quantMeansUptoCard

/-- THE SECOND FORM's CARD OF 'bursarlaw03.QuantSums'. -/
def quantSumsUptoCard : Claim7 := { stood := { row := quantSumsUptoRow, standIns := [], harness := (true, "c45dd35d08935a94eb247086c7443b538c0c00717e4dec08f33d07a1db25a0d9"), looks := true }, kinds := [], alts := [], laidByText := true, laidKinds := [.data, .data, .data, .data, .sentinel, .sentinel, .widerDeep, .pinned], laidTests := true, laidLooks := .later }
def QuantSumsUptoCardSaid : Prop := Claim7.holds Tryz.pinned (.plain (OpenSpec.upto quantSumsSpec)) quantSumsUptoCard

/-- THE SECOND FORM's CARD OF 'bursarlaw03.QuantScales'. -/
def quantScalesUptoCard : Claim7 := { stood := { row := quantScalesUptoRow, standIns := [], harness := (true, "c45dd35d08935a94eb247086c7443b538c0c00717e4dec08f33d07a1db25a0d9"), looks := true }, kinds := [], alts := [], laidByText := true, laidKinds := [.data, .data, .data, .data, .sentinel, .sentinel, .widerDeep, .pinned], laidTests := true, laidLooks := .later }
def QuantScalesUptoCardSaid : Prop := Claim7.holds Tryz.pinned (.plain (OpenSpec.upto quantScalesSpec)) quantScalesUptoCard

/-- THE SECOND FORM's CARD OF 'bursarlaw03.QuantFinds'. -/
def quantFindsUptoCard : Claim7 := { stood := { row := quantFindsUptoRow, standIns := [], harness := (true, "c45dd35d08935a94eb247086c7443b538c0c00717e4dec08f33d07a1db25a0d9"), looks := true }, kinds := [], alts := [], laidByText := true, laidKinds := [.data, .data, .data, .data, .sentinel, .sentinel, .widerDeep, .data, .pinned], laidTests := true, laidLooks := .later }
def QuantFindsUptoCardSaid : Prop := Claim7.holds Tryz.pinned (.plain (OpenSpec.upto quantFindsSpec)) quantFindsUptoCard

/-- THE SECOND FORM's CARD OF 'bursarlaw03.QuantReckons'. -/
def quantReckonsUptoCard : Claim7 := { stood := { row := quantReckonsUptoRow, standIns := [], harness := (true, "c45dd35d08935a94eb247086c7443b538c0c00717e4dec08f33d07a1db25a0d9"), looks := true }, kinds := [], alts := [], laidByText := true, laidKinds := [.data, .data, .data, .data, .sentinel, .sentinel, .widerDeep, .pinned], laidTests := true, laidLooks := .later }
def QuantReckonsUptoCardSaid : Prop := Claim7.holds Tryz.pinned (.plain (OpenSpec.upto quantReckonsSpec)) quantReckonsUptoCard

/-- THE SECOND FORM's CARD OF 'bursarlaw03.QuantOrders'. -/
def quantOrdersUptoCard : Claim7 := { stood := { row := quantOrdersUptoRow, standIns := [], harness := (true, "c45dd35d08935a94eb247086c7443b538c0c00717e4dec08f33d07a1db25a0d9"), looks := true }, kinds := [], alts := [], laidByText := true, laidKinds := [.data, .data, .data, .data, .sentinel, .sentinel, .widerDeep, .data, .pinned], laidTests := true, laidLooks := .later }
def QuantOrdersUptoCardSaid : Prop := Claim7.holds Tryz.pinned (.plain (OpenSpec.upto quantOrdersSpec)) quantOrdersUptoCard

/-- THE SECOND FORM's CARD OF 'bursarlaw03.QuantApart'. -/
def quantApartUptoCard : Claim7 := { stood := { row := quantApartUptoRow, standIns := [], harness := (true, "c45dd35d08935a94eb247086c7443b538c0c00717e4dec08f33d07a1db25a0d9"), looks := true }, kinds := [], alts := [], laidByText := true, laidKinds := [.data, .data, .data, .data, .sentinel, .sentinel, .widerDeep, .data, .pinned], laidTests := true, laidLooks := .later }
def QuantApartUptoCardSaid : Prop := Claim7.holds Tryz.pinned (.plain (OpenSpec.upto quantApartSpec)) quantApartUptoCard

/-- THE SECOND FORM's CARD OF 'bursarlaw03.QuantAddsUp'. -/
def quantAddsUpUptoCard : Claim7 := { stood := { row := quantAddsUpUptoRow, standIns := [], harness := (true, "c45dd35d08935a94eb247086c7443b538c0c00717e4dec08f33d07a1db25a0d9"), looks := true }, kinds := [], alts := [], laidByText := true, laidKinds := [.data, .data, .data, .data, .sentinel, .sentinel, .widerDeep, .data, .pinned], laidTests := true, laidLooks := .later }
def QuantAddsUpUptoCardSaid : Prop := Claim7.holds Tryz.pinned (.plain (OpenSpec.upto quantAddsUpSpec)) quantAddsUpUptoCard

/-- THE SECOND FORM's CARD OF 'bursarlaw03.QuantLists'. -/
def quantListsUptoCard : Claim7 := { stood := { row := quantListsUptoRow, standIns := [], harness := (true, "c45dd35d08935a94eb247086c7443b538c0c00717e4dec08f33d07a1db25a0d9"), looks := true }, kinds := [], alts := [], laidByText := true, laidKinds := [.data, .data, .data, .data, .sentinel, .sentinel, .widerDeep, .data, .pinned], laidTests := true, laidLooks := .later }
def QuantListsUptoCardSaid : Prop := Claim7.holds Tryz.pinned (.plain (OpenSpec.upto quantListsSpec)) quantListsUptoCard
end Rows
end Go.Proofs.YtejgbdclhlolkaaGreatDoor
