/-
  NARROWER THAN 'FOR EVERY INPUT', by the rows' own cells (each row's printed sentence says how): LabelParses: laid · LabelReadsBack: laid · LabelPaths: laid · LabelJoins: laid · LabelJoinsApart: laid · LabelKeepsApart: laid · LabelGoesBack: laid · LabelMatches: laid · LabelTermsHold: laid.
  DERIVED. THE GIVEN ROWS OF THIS SEAT. 9 by the template 'for every input the law returns true; each argument reads behind the call as it read before'; 0 by the template 'total and deterministic' (their statements: YteaiobgnhlpblaaDoorTotals.lean).
  GIVEN WITH THE SEED: the statements are not yours to turn. If you find one false, say at which input.
  Laid BY PROGRAM, IN A SANDBOX (cutbox-rows.mjs): the forced cells as the released guide's own fill.sh prints them over the translation 638ab11838c4c162… (all of the seat's roots in one cut). By AI agents, Wed Nov 11 2026. No macro, syntax, notation, axiom, sorry.
-/
import Derived.Test.YteaiobgnhlpblaaDoorChecked
import GoSem.PinnedTables
import GoSem.Claim
import GoSem.ClaimJoined
import GoSem.ClaimMapViews
import Derived.JoinedTies
import Derived.KernelRfl
namespace Go.Proofs.YteaiobgnhlpblaaDoor
/- THE CELL 'sum', in the pinned program and in every row, IS THE sha256 OF THE DUMP (.gsa) THAT YteaiobgnhlpblaaDoorProg.lean LOADS. Nothing in Lean hashes anything: it is a label: what it is worth is what the hold of that sum in a sandbox is worth. -/
noncomputable def Tryd.pinned : Pinned := { name := "yteaiobgnhlpblaadoor", sum := "638ab11838c4c16274b5864403e3c5b1721f8b06d48a83c83106ec385447358d", checked := Tryd.checked }
namespace Rows
def none {H : Type} : Left H := { results := [], args := [] }

/- WHAT THE LISTED PACKAGE-LEVEL VARIABLES READ AS WHEN THE CALL BEGINS. Each datum BY PROGRAM (the guide's laid-datum.mjs) off the statement by which the dump's own 'gosem.cut.vars' lays the variable. In a bare row this is a premise. The card (YteaiobgnhlpblaaDoorCards.lean) ties it to the program's text. -/
def laid_unicode_utf8_acceptRanges {H : Type} : DataW H := .agg [.agg [.lit (.int .u8 128), .lit (.int .u8 191)], .agg [.lit (.int .u8 160), .lit (.int .u8 191)], .agg [.lit (.int .u8 128), .lit (.int .u8 159)], .agg [.lit (.int .u8 144), .lit (.int .u8 191)], .agg [.lit (.int .u8 128), .lit (.int .u8 143)], .agg [.lit (.int .u8 0), .lit (.int .u8 0)], .agg [.lit (.int .u8 0), .lit (.int .u8 0)], .agg [.lit (.int .u8 0), .lit (.int .u8 0)], .agg [.lit (.int .u8 0), .lit (.int .u8 0)], .agg [.lit (.int .u8 0), .lit (.int .u8 0)], .agg [.lit (.int .u8 0), .lit (.int .u8 0)], .agg [.lit (.int .u8 0), .lit (.int .u8 0)], .agg [.lit (.int .u8 0), .lit (.int .u8 0)], .agg [.lit (.int .u8 0), .lit (.int .u8 0)], .agg [.lit (.int .u8 0), .lit (.int .u8 0)], .agg [.lit (.int .u8 0), .lit (.int .u8 0)]]
/-- One of Go's own tables, pinned by name: the form's constant. -/
def laid_unicode_utf8_first : DataW Unit := Go.Pinned.utf8First

/-- 'bursarlaw04.LabelParses': WHATEVER THE INPUT: true; the input reads as it did. -/
def labelParsesSpec : ChangeSpec := { name := "labelParses", fn := fun _ => fun
  | [d] => { results := [.lit (.bool true)], args := [d] }
  | _ => none }
def labelParsesRow : OpenClaim := { program := "yteaiobgnhlpblaadoor", sum := "638ab11838c4c16274b5864403e3c5b1721f8b06d48a83c83106ec385447358d", func := "bursar/bursarlaw04.LabelParses", spec := "labelParses", inPlace := ["internal/bytealg.CountString", "internal/bytealg.IndexByteString", "internal/bytealg.IndexString", "internal/abi.NoEscape", "internal/bytealg.MakeNoZero"], unfollowed := true, recurses := true, named := ["unicode/utf8.first", "unicode/utf8.acceptRanges", "internal/bytealg.MaxLen"], apart := false, laid := [("unicode/utf8.acceptRanges", laid_unicode_utf8_acceptRanges), ("unicode/utf8.first", laid_unicode_utf8_first)] }
def LabelParsesSaid : Prop := labelParsesRow.holds Tryd.pinned (OpenSpec.ofChange labelParsesSpec)

/-- ITS FALSE NEIGHBOUR: 'it returns false'. Refute it at one input. -/
def labelParsesWrong : ChangeSpec := { name := "labelParses", fn := fun _ => fun
  | [d] => { results := [.lit (.bool false)], args := [d] }
  | _ => none }
def LabelParsesWrongFalsely : Prop := labelParsesRow.holds Tryd.pinned (OpenSpec.ofChange labelParsesWrong)

/-- 'bursarlaw04.LabelReadsBack': WHATEVER THE INPUT: true; the input reads as it did. -/
def labelReadsBackSpec : ChangeSpec := { name := "labelReadsBack", fn := fun _ => fun
  | [d1, d2] => { results := [.lit (.bool true)], args := [d1, d2] }
  | _ => none }
def labelReadsBackRow : OpenClaim := { program := "yteaiobgnhlpblaadoor", sum := "638ab11838c4c16274b5864403e3c5b1721f8b06d48a83c83106ec385447358d", func := "bursar/bursarlaw04.LabelReadsBack", spec := "labelReadsBack", inPlace := ["internal/bytealg.CountString", "internal/bytealg.IndexByteString", "internal/bytealg.IndexString", "internal/abi.NoEscape", "internal/bytealg.MakeNoZero"], unfollowed := true, recurses := true, named := ["unicode/utf8.first", "unicode/utf8.acceptRanges", "internal/bytealg.MaxLen"], apart := false, laid := [("unicode/utf8.acceptRanges", laid_unicode_utf8_acceptRanges), ("unicode/utf8.first", laid_unicode_utf8_first)] }
def LabelReadsBackSaid : Prop := labelReadsBackRow.holds Tryd.pinned (OpenSpec.ofChange labelReadsBackSpec)

/-- ITS FALSE NEIGHBOUR: 'it returns false'. Refute it at one input. -/
def labelReadsBackWrong : ChangeSpec := { name := "labelReadsBack", fn := fun _ => fun
  | [d1, d2] => { results := [.lit (.bool false)], args := [d1, d2] }
  | _ => none }
def LabelReadsBackWrongFalsely : Prop := labelReadsBackRow.holds Tryd.pinned (OpenSpec.ofChange labelReadsBackWrong)

/-- 'bursarlaw04.LabelPaths': WHATEVER THE INPUT: true; the input reads as it did. -/
def labelPathsSpec : ChangeSpec := { name := "labelPaths", fn := fun _ => fun
  | [d1, d2] => { results := [.lit (.bool true)], args := [d1, d2] }
  | _ => none }
def labelPathsRow : OpenClaim := { program := "yteaiobgnhlpblaadoor", sum := "638ab11838c4c16274b5864403e3c5b1721f8b06d48a83c83106ec385447358d", func := "bursar/bursarlaw04.LabelPaths", spec := "labelPaths", inPlace := ["internal/bytealg.CountString", "internal/bytealg.IndexByteString", "internal/bytealg.IndexString", "internal/abi.NoEscape", "internal/bytealg.MakeNoZero"], unfollowed := true, recurses := true, named := ["unicode/utf8.first", "unicode/utf8.acceptRanges", "internal/bytealg.MaxLen"], apart := false, laid := [("unicode/utf8.acceptRanges", laid_unicode_utf8_acceptRanges), ("unicode/utf8.first", laid_unicode_utf8_first)] }
def LabelPathsSaid : Prop := labelPathsRow.holds Tryd.pinned (OpenSpec.ofChange labelPathsSpec)

/-- ITS FALSE NEIGHBOUR: 'it returns false'. Refute it at one input. -/
def labelPathsWrong : ChangeSpec := { name := "labelPaths", fn := fun _ => fun
  | [d1, d2] => { results := [.lit (.bool false)], args := [d1, d2] }
  | _ => none }
def LabelPathsWrongFalsely : Prop := labelPathsRow.holds Tryd.pinned (OpenSpec.ofChange labelPathsWrong)

/-- 'bursarlaw04.LabelJoins': WHATEVER THE INPUT: true; the input reads as it did. -/
def labelJoinsSpec : ChangeSpec := { name := "labelJoins", fn := fun _ => fun
  | [d] => { results := [.lit (.bool true)], args := [d] }
  | _ => none }
def labelJoinsRow : OpenClaim := { program := "yteaiobgnhlpblaadoor", sum := "638ab11838c4c16274b5864403e3c5b1721f8b06d48a83c83106ec385447358d", func := "bursar/bursarlaw04.LabelJoins", spec := "labelJoins", inPlace := ["internal/bytealg.CountString", "internal/bytealg.IndexByteString", "internal/bytealg.IndexString", "internal/abi.NoEscape", "internal/bytealg.MakeNoZero"], unfollowed := true, recurses := true, named := ["unicode/utf8.first", "unicode/utf8.acceptRanges", "internal/bytealg.MaxLen"], apart := false, laid := [("unicode/utf8.acceptRanges", laid_unicode_utf8_acceptRanges), ("unicode/utf8.first", laid_unicode_utf8_first)] }
def LabelJoinsSaid : Prop := labelJoinsRow.holds Tryd.pinned (OpenSpec.ofChange labelJoinsSpec)

/-- ITS FALSE NEIGHBOUR: 'it returns false'. Refute it at one input. -/
def labelJoinsWrong : ChangeSpec := { name := "labelJoins", fn := fun _ => fun
  | [d] => { results := [.lit (.bool false)], args := [d] }
  | _ => none }
def LabelJoinsWrongFalsely : Prop := labelJoinsRow.holds Tryd.pinned (OpenSpec.ofChange labelJoinsWrong)

/-- 'bursarlaw04.LabelJoinsApart': WHATEVER THE INPUT: true; the input reads as it did. -/
def labelJoinsApartSpec : ChangeSpec := { name := "labelJoinsApart", fn := fun _ => fun
  | [d] => { results := [.lit (.bool true)], args := [d] }
  | _ => none }
def labelJoinsApartRow : OpenClaim := { program := "yteaiobgnhlpblaadoor", sum := "638ab11838c4c16274b5864403e3c5b1721f8b06d48a83c83106ec385447358d", func := "bursar/bursarlaw04.LabelJoinsApart", spec := "labelJoinsApart", inPlace := ["internal/bytealg.CountString", "internal/bytealg.IndexByteString", "internal/bytealg.IndexString", "internal/abi.NoEscape", "internal/bytealg.MakeNoZero"], unfollowed := true, recurses := true, named := ["unicode/utf8.first", "unicode/utf8.acceptRanges", "internal/bytealg.MaxLen"], apart := false, laid := [("unicode/utf8.acceptRanges", laid_unicode_utf8_acceptRanges), ("unicode/utf8.first", laid_unicode_utf8_first)] }
def LabelJoinsApartSaid : Prop := labelJoinsApartRow.holds Tryd.pinned (OpenSpec.ofChange labelJoinsApartSpec)

/-- ITS FALSE NEIGHBOUR: 'it returns false'. Refute it at one input. -/
def labelJoinsApartWrong : ChangeSpec := { name := "labelJoinsApart", fn := fun _ => fun
  | [d] => { results := [.lit (.bool false)], args := [d] }
  | _ => none }
def LabelJoinsApartWrongFalsely : Prop := labelJoinsApartRow.holds Tryd.pinned (OpenSpec.ofChange labelJoinsApartWrong)

/-- 'bursarlaw04.LabelKeepsApart': WHATEVER THE INPUT: true; the input reads as it did. -/
def labelKeepsApartSpec : ChangeSpec := { name := "labelKeepsApart", fn := fun _ => fun
  | [d1, d2] => { results := [.lit (.bool true)], args := [d1, d2] }
  | _ => none }
def labelKeepsApartRow : OpenClaim := { program := "yteaiobgnhlpblaadoor", sum := "638ab11838c4c16274b5864403e3c5b1721f8b06d48a83c83106ec385447358d", func := "bursar/bursarlaw04.LabelKeepsApart", spec := "labelKeepsApart", inPlace := ["internal/bytealg.CountString", "internal/bytealg.IndexByteString", "internal/bytealg.IndexString", "internal/abi.NoEscape", "internal/bytealg.MakeNoZero"], unfollowed := true, recurses := true, named := ["unicode/utf8.first", "unicode/utf8.acceptRanges", "internal/bytealg.MaxLen"], apart := false, laid := [("unicode/utf8.acceptRanges", laid_unicode_utf8_acceptRanges), ("unicode/utf8.first", laid_unicode_utf8_first)] }
def LabelKeepsApartSaid : Prop := labelKeepsApartRow.holds Tryd.pinned (OpenSpec.ofChange labelKeepsApartSpec)

/-- ITS FALSE NEIGHBOUR: 'it returns false'. Refute it at one input. -/
def labelKeepsApartWrong : ChangeSpec := { name := "labelKeepsApart", fn := fun _ => fun
  | [d1, d2] => { results := [.lit (.bool false)], args := [d1, d2] }
  | _ => none }
def LabelKeepsApartWrongFalsely : Prop := labelKeepsApartRow.holds Tryd.pinned (OpenSpec.ofChange labelKeepsApartWrong)

/-- 'bursarlaw04.LabelGoesBack': WHATEVER THE INPUT: true; the input reads as it did. -/
def labelGoesBackSpec : ChangeSpec := { name := "labelGoesBack", fn := fun _ => fun
  | [d1, d2] => { results := [.lit (.bool true)], args := [d1, d2] }
  | _ => none }
def labelGoesBackRow : OpenClaim := { program := "yteaiobgnhlpblaadoor", sum := "638ab11838c4c16274b5864403e3c5b1721f8b06d48a83c83106ec385447358d", func := "bursar/bursarlaw04.LabelGoesBack", spec := "labelGoesBack", inPlace := ["internal/bytealg.CountString", "internal/bytealg.IndexByteString", "internal/bytealg.IndexString", "internal/abi.NoEscape", "internal/bytealg.MakeNoZero"], unfollowed := true, recurses := true, named := ["unicode/utf8.first", "unicode/utf8.acceptRanges", "internal/bytealg.MaxLen"], apart := false, laid := [("unicode/utf8.acceptRanges", laid_unicode_utf8_acceptRanges), ("unicode/utf8.first", laid_unicode_utf8_first)] }
def LabelGoesBackSaid : Prop := labelGoesBackRow.holds Tryd.pinned (OpenSpec.ofChange labelGoesBackSpec)

/-- ITS FALSE NEIGHBOUR: 'it returns false'. Refute it at one input. -/
def labelGoesBackWrong : ChangeSpec := { name := "labelGoesBack", fn := fun _ => fun
  | [d1, d2] => { results := [.lit (.bool false)], args := [d1, d2] }
  | _ => none }
def LabelGoesBackWrongFalsely : Prop := labelGoesBackRow.holds Tryd.pinned (OpenSpec.ofChange labelGoesBackWrong)

/-- 'bursarlaw04.LabelMatches': WHATEVER THE INPUT: true; the input reads as it did. -/
def labelMatchesSpec : ChangeSpec := { name := "labelMatches", fn := fun _ => fun
  | [d1, d2] => { results := [.lit (.bool true)], args := [d1, d2] }
  | _ => none }
def labelMatchesRow : OpenClaim := { program := "yteaiobgnhlpblaadoor", sum := "638ab11838c4c16274b5864403e3c5b1721f8b06d48a83c83106ec385447358d", func := "bursar/bursarlaw04.LabelMatches", spec := "labelMatches", inPlace := ["internal/bytealg.CountString", "internal/bytealg.IndexByteString", "internal/bytealg.IndexString", "internal/abi.NoEscape", "internal/bytealg.MakeNoZero"], unfollowed := true, recurses := true, named := ["unicode/utf8.first", "unicode/utf8.acceptRanges", "internal/bytealg.MaxLen"], apart := false, laid := [("unicode/utf8.acceptRanges", laid_unicode_utf8_acceptRanges), ("unicode/utf8.first", laid_unicode_utf8_first)] }
def LabelMatchesSaid : Prop := labelMatchesRow.holds Tryd.pinned (OpenSpec.ofChange labelMatchesSpec)

/-- ITS FALSE NEIGHBOUR: 'it returns false'. Refute it at one input. -/
def labelMatchesWrong : ChangeSpec := { name := "labelMatches", fn := fun _ => fun
  | [d1, d2] => { results := [.lit (.bool false)], args := [d1, d2] }
  | _ => none }
def LabelMatchesWrongFalsely : Prop := labelMatchesRow.holds Tryd.pinned (OpenSpec.ofChange labelMatchesWrong)

/-- 'bursarlaw04.LabelTermsHold': WHATEVER THE INPUT: true; the input reads as it did. -/
def labelTermsHoldSpec : ChangeSpec := { name := "labelTermsHold", fn := fun _ => fun
  | [d1, d2] => { results := [.lit (.bool true)], args := [d1, d2] }
  | _ => none }
def labelTermsHoldRow : OpenClaim := { program := "yteaiobgnhlpblaadoor", sum := "638ab11838c4c16274b5864403e3c5b1721f8b06d48a83c83106ec385447358d", func := "bursar/bursarlaw04.LabelTermsHold", spec := "labelTermsHold", inPlace := ["internal/bytealg.CountString", "internal/bytealg.IndexByteString", "internal/bytealg.IndexString", "internal/abi.NoEscape", "internal/bytealg.MakeNoZero"], unfollowed := true, recurses := true, named := ["unicode/utf8.first", "unicode/utf8.acceptRanges", "internal/bytealg.MaxLen"], apart := false, laid := [("unicode/utf8.acceptRanges", laid_unicode_utf8_acceptRanges), ("unicode/utf8.first", laid_unicode_utf8_first)] }
def LabelTermsHoldSaid : Prop := labelTermsHoldRow.holds Tryd.pinned (OpenSpec.ofChange labelTermsHoldSpec)

/-- ITS FALSE NEIGHBOUR: 'it returns false'. Refute it at one input. -/
def labelTermsHoldWrong : ChangeSpec := { name := "labelTermsHold", fn := fun _ => fun
  | [d1, d2] => { results := [.lit (.bool false)], args := [d1, d2] }
  | _ => none }
def LabelTermsHoldWrongFalsely : Prop := labelTermsHoldRow.holds Tryd.pinned (OpenSpec.ofChange labelTermsHoldWrong)

/- THE SECOND FORM. 'bulk': how many values and letters a reading holds, each counted each time it is reached (what is shared counts as often as it is met; a slice's spare places count too). A statement '..UptoSaid' is the law's where the arguments, and the package variables that the reading takes, are together of bulk at most 1048576: NARROWER than '..Said'. Prove '..Said' where nothing that the law and all that it calls make is longer than what came in: it says more and counts as full. Else prove '..UptoSaid'. A law counts once. -/
mutual
def uptoBulk {H : Type} : DataW H → Nat
  | .lit (.string bytes) => bytes.length + 1
  | .lit _ => 1
  | .nil => 1
  | .ptr d => uptoBulk d + 1
  | .slice elems spare => uptoBulkAll elems + uptoBulkAll spare + 1
  | .agg parts => uptoBulkAll parts + 1
  | .iface _ d => uptoBulk d + 1
  | .map entries => uptoBulkEntries entries + 1
  | .held _ => 1
def uptoBulkAll {H : Type} : List (DataW H) → Nat
  | [] => 0
  | d :: r => uptoBulk d + uptoBulkAll r
def uptoBulkEntries {H : Type} : List (Lit × DataW H) → Nat
  | [] => 0
  | x :: r => uptoBulkEntry x + uptoBulkEntries r
def uptoBulkEntry {H : Type} : Lit × DataW H → Nat
  | (.string bytes, d) => bytes.length + uptoBulk d + 1
  | (_, d) => uptoBulk d + 1
 end
def uptoSmall : (H : Type) → List (DataW H) → Bool := fun _ ds => decide (uptoBulkAll ds ≤ 1048576)
def OpenSpec.upto (s : _root_.Go.ChangeSpec) : _root_.Go.OpenSpec := { _root_.Go.OpenSpec.ofChange s with cond := some uptoSmall }

/-- 'bursarlaw04.LabelParses', WHERE WHAT IT READS IS OF BULK AT MOST 1048576: true; the input reads as it did. -/
def labelParsesUptoRow : OpenClaim := { program := "yteaiobgnhlpblaadoor", sum := "638ab11838c4c16274b5864403e3c5b1721f8b06d48a83c83106ec385447358d", func := "bursar/bursarlaw04.LabelParses", spec := "labelParses", inPlace := ["internal/bytealg.CountString", "internal/bytealg.IndexByteString", "internal/bytealg.IndexString", "internal/abi.NoEscape", "internal/bytealg.MakeNoZero"], unfollowed := true, recurses := true, named := ["unicode/utf8.first", "unicode/utf8.acceptRanges", "internal/bytealg.MaxLen"], apart := false, laid := [("unicode/utf8.acceptRanges", laid_unicode_utf8_acceptRanges), ("unicode/utf8.first", laid_unicode_utf8_first)], narrowed := true }
def LabelParsesUptoSaid : Prop := labelParsesUptoRow.holds Tryd.pinned (OpenSpec.upto labelParsesSpec)

/-- 'bursarlaw04.LabelReadsBack', WHERE WHAT IT READS IS OF BULK AT MOST 1048576: true; the input reads as it did. -/
def labelReadsBackUptoRow : OpenClaim := { program := "yteaiobgnhlpblaadoor", sum := "638ab11838c4c16274b5864403e3c5b1721f8b06d48a83c83106ec385447358d", func := "bursar/bursarlaw04.LabelReadsBack", spec := "labelReadsBack", inPlace := ["internal/bytealg.CountString", "internal/bytealg.IndexByteString", "internal/bytealg.IndexString", "internal/abi.NoEscape", "internal/bytealg.MakeNoZero"], unfollowed := true, recurses := true, named := ["unicode/utf8.first", "unicode/utf8.acceptRanges", "internal/bytealg.MaxLen"], apart := false, laid := [("unicode/utf8.acceptRanges", laid_unicode_utf8_acceptRanges), ("unicode/utf8.first", laid_unicode_utf8_first)], narrowed := true }
def LabelReadsBackUptoSaid : Prop := labelReadsBackUptoRow.holds Tryd.pinned (OpenSpec.upto labelReadsBackSpec)

/-- 'bursarlaw04.LabelPaths', WHERE WHAT IT READS IS OF BULK AT MOST 1048576: true; the input reads as it did. -/
def labelPathsUptoRow : OpenClaim := { program := "yteaiobgnhlpblaadoor", sum := "638ab11838c4c16274b5864403e3c5b1721f8b06d48a83c83106ec385447358d", func := "bursar/bursarlaw04.LabelPaths", spec := "labelPaths", inPlace := ["internal/bytealg.CountString", "internal/bytealg.IndexByteString", "internal/bytealg.IndexString", "internal/abi.NoEscape", "internal/bytealg.MakeNoZero"], unfollowed := true, recurses := true, named := ["unicode/utf8.first", "unicode/utf8.acceptRanges", "internal/bytealg.MaxLen"], apart := false, laid := [("unicode/utf8.acceptRanges", laid_unicode_utf8_acceptRanges), ("unicode/utf8.first", laid_unicode_utf8_first)], narrowed := true }
def LabelPathsUptoSaid : Prop := labelPathsUptoRow.holds Tryd.pinned (OpenSpec.upto labelPathsSpec)

/-- 'bursarlaw04.LabelJoins', WHERE WHAT IT READS IS OF BULK AT MOST 1048576: true; the input reads as it did. -/
def labelJoinsUptoRow : OpenClaim := { program := "yteaiobgnhlpblaadoor", sum := "638ab11838c4c16274b5864403e3c5b1721f8b06d48a83c83106ec385447358d", func := "bursar/bursarlaw04.LabelJoins", spec := "labelJoins", inPlace := ["internal/bytealg.CountString", "internal/bytealg.IndexByteString", "internal/bytealg.IndexString", "internal/abi.NoEscape", "internal/bytealg.MakeNoZero"], unfollowed := true, recurses := true, named := ["unicode/utf8.first", "unicode/utf8.acceptRanges", "internal/bytealg.MaxLen"], apart := false, laid := [("unicode/utf8.acceptRanges", laid_unicode_utf8_acceptRanges), ("unicode/utf8.first", laid_unicode_utf8_first)], narrowed := true }
def LabelJoinsUptoSaid : Prop := labelJoinsUptoRow.holds Tryd.pinned (OpenSpec.upto labelJoinsSpec)

/-- 'bursarlaw04.LabelJoinsApart', WHERE WHAT IT READS IS OF BULK AT MOST 1048576: true; the input reads as it did. -/
def labelJoinsApartUptoRow : OpenClaim := { program := "yteaiobgnhlpblaadoor", sum := "638ab11838c4c16274b5864403e3c5b1721f8b06d48a83c83106ec385447358d", func := "bursar/bursarlaw04.LabelJoinsApart", spec := "labelJoinsApart", inPlace := ["internal/bytealg.CountString", "internal/bytealg.IndexByteString", "internal/bytealg.IndexString", "internal/abi.NoEscape", "internal/bytealg.MakeNoZero"], unfollowed := true, recurses := true, named := ["unicode/utf8.first", "unicode/utf8.acceptRanges", "internal/bytealg.MaxLen"], apart := false, laid := [("unicode/utf8.acceptRanges", laid_unicode_utf8_acceptRanges), ("unicode/utf8.first", laid_unicode_utf8_first)], narrowed := true }
def LabelJoinsApartUptoSaid : Prop := labelJoinsApartUptoRow.holds Tryd.pinned (OpenSpec.upto labelJoinsApartSpec)

/-- 'bursarlaw04.LabelKeepsApart', WHERE WHAT IT READS IS OF BULK AT MOST 1048576: true; the input reads as it did. -/
def labelKeepsApartUptoRow : OpenClaim := { program := "yteaiobgnhlpblaadoor", sum := "638ab11838c4c16274b5864403e3c5b1721f8b06d48a83c83106ec385447358d", func := "bursar/bursarlaw04.LabelKeepsApart", spec := "labelKeepsApart", inPlace := ["internal/bytealg.CountString", "internal/bytealg.IndexByteString", "internal/bytealg.IndexString", "internal/abi.NoEscape", "internal/bytealg.MakeNoZero"], unfollowed := true, recurses := true, named := ["unicode/utf8.first", "unicode/utf8.acceptRanges", "internal/bytealg.MaxLen"], apart := false, laid := [("unicode/utf8.acceptRanges", laid_unicode_utf8_acceptRanges), ("unicode/utf8.first", laid_unicode_utf8_first)], narrowed := true }
def LabelKeepsApartUptoSaid : Prop := labelKeepsApartUptoRow.holds Tryd.pinned (OpenSpec.upto labelKeepsApartSpec)

/-- 'bursarlaw04.LabelGoesBack', WHERE WHAT IT READS IS OF BULK AT MOST 1048576: true; the input reads as it did. -/
def labelGoesBackUptoRow : OpenClaim := { program := "yteaiobgnhlpblaadoor", sum := "638ab11838c4c16274b5864403e3c5b1721f8b06d48a83c83106ec385447358d", func := "bursar/bursarlaw04.LabelGoesBack", spec := "labelGoesBack", inPlace := ["internal/bytealg.CountString", "internal/bytealg.IndexByteString", "internal/bytealg.IndexString", "internal/abi.NoEscape", "internal/bytealg.MakeNoZero"], unfollowed := true, recurses := true, named := ["unicode/utf8.first", "unicode/utf8.acceptRanges", "internal/bytealg.MaxLen"], apart := false, laid := [("unicode/utf8.acceptRanges", laid_unicode_utf8_acceptRanges), ("unicode/utf8.first", laid_unicode_utf8_first)], narrowed := true }
def LabelGoesBackUptoSaid : Prop := labelGoesBackUptoRow.holds Tryd.pinned (OpenSpec.upto labelGoesBackSpec)

/-- 'bursarlaw04.LabelMatches', WHERE WHAT IT READS IS OF BULK AT MOST 1048576: true; the input reads as it did. -/
def labelMatchesUptoRow : OpenClaim := { program := "yteaiobgnhlpblaadoor", sum := "638ab11838c4c16274b5864403e3c5b1721f8b06d48a83c83106ec385447358d", func := "bursar/bursarlaw04.LabelMatches", spec := "labelMatches", inPlace := ["internal/bytealg.CountString", "internal/bytealg.IndexByteString", "internal/bytealg.IndexString", "internal/abi.NoEscape", "internal/bytealg.MakeNoZero"], unfollowed := true, recurses := true, named := ["unicode/utf8.first", "unicode/utf8.acceptRanges", "internal/bytealg.MaxLen"], apart := false, laid := [("unicode/utf8.acceptRanges", laid_unicode_utf8_acceptRanges), ("unicode/utf8.first", laid_unicode_utf8_first)], narrowed := true }
def LabelMatchesUptoSaid : Prop := labelMatchesUptoRow.holds Tryd.pinned (OpenSpec.upto labelMatchesSpec)

/-- 'bursarlaw04.LabelTermsHold', WHERE WHAT IT READS IS OF BULK AT MOST 1048576: true; the input reads as it did. -/
def labelTermsHoldUptoRow : OpenClaim := { program := "yteaiobgnhlpblaadoor", sum := "638ab11838c4c16274b5864403e3c5b1721f8b06d48a83c83106ec385447358d", func := "bursar/bursarlaw04.LabelTermsHold", spec := "labelTermsHold", inPlace := ["internal/bytealg.CountString", "internal/bytealg.IndexByteString", "internal/bytealg.IndexString", "internal/abi.NoEscape", "internal/bytealg.MakeNoZero"], unfollowed := true, recurses := true, named := ["unicode/utf8.first", "unicode/utf8.acceptRanges", "internal/bytealg.MaxLen"], apart := false, laid := [("unicode/utf8.acceptRanges", laid_unicode_utf8_acceptRanges), ("unicode/utf8.first", laid_unicode_utf8_first)], narrowed := true }
def LabelTermsHoldUptoSaid : Prop := labelTermsHoldUptoRow.holds Tryd.pinned (OpenSpec.upto labelTermsHoldSpec)

end Rows
end Go.Proofs.YteaiobgnhlpblaaDoor
