/-
  NARROWER THAN 'FOR EVERY INPUT', by the rows' own cells (each row's printed sentence says how): QuantParses: laid · QuantPrints: laid · QuantBack: laid · QuantPlain: laid · QuantMeans: laid · QuantSums: laid · QuantScales: laid · QuantFinds: laid · QuantReckons: laid · QuantOrders: laid · QuantApart: laid · QuantAddsUp: laid · QuantLists: laid.
  DERIVED. THE GIVEN ROWS OF THIS SEAT. 13 by the template 'for every input the law returns true; each argument reads behind the call as it read before'; 0 by the template 'total and deterministic' (their statements: YtejgbdclhlolkaaGreatDoorTotals.lean).
  GIVEN WITH THE SEED: the statements are not yours to turn. If you find one false, say at which input.
  Laid BY PROGRAM, IN A SANDBOX (cutbox-rows.mjs): the forced cells as the released guide's own fill.sh prints them over the translation 0b9a0aedeb5437cf… (all of the seat's roots in one cut). By AI agents, Wed Nov 11 2026. No macro, syntax, notation, axiom, sorry.
-/
import Derived.Test.YtejgbdclhlolkaaGreatDoorChecked
import GoSem.PinnedTables
import GoSem.Claim
import GoSem.ClaimJoined
import GoSem.ClaimMapViews
import Derived.JoinedTies
import Derived.KernelRfl
namespace Go.Proofs.YtejgbdclhlolkaaGreatDoor
/- THE CELL 'sum', in the pinned program and in every row, IS THE sha256 OF THE DUMP (.gsa) THAT YtejgbdclhlolkaaGreatDoorProg.lean LOADS. Nothing in Lean hashes anything: it is a label: what it is worth is what the hold of that sum in a sandbox is worth. -/
noncomputable def Tryz.pinned : Pinned := { name := "ytejgbdclhlolkaagreatdoor", sum := "0b9a0aedeb5437cf6183b83313b583472f0da3142cab4c1807045c42fd3d7b1a", checked := Tryz.checked }
namespace Rows
def none {H : Type} : Left H := { results := [], args := [] }

/- WHAT THE LISTED PACKAGE-LEVEL VARIABLES READ AS WHEN THE CALL BEGINS. Each datum BY PROGRAM (the guide's laid-datum.mjs) off the statement by which the dump's own 'gosem.cut.vars' lays the variable. In a bare row this is a premise. The card (YtejgbdclhlolkaaGreatDoorCards.lean) ties it to the program's text. -/
def laid_math_bits_deBruijn32tab {H : Type} : DataW H := .agg [.lit (.int .u8 0), .lit (.int .u8 1), .lit (.int .u8 28), .lit (.int .u8 2), .lit (.int .u8 29), .lit (.int .u8 14), .lit (.int .u8 24), .lit (.int .u8 3), .lit (.int .u8 30), .lit (.int .u8 22), .lit (.int .u8 20), .lit (.int .u8 15), .lit (.int .u8 25), .lit (.int .u8 17), .lit (.int .u8 4), .lit (.int .u8 8), .lit (.int .u8 31), .lit (.int .u8 27), .lit (.int .u8 13), .lit (.int .u8 23), .lit (.int .u8 21), .lit (.int .u8 19), .lit (.int .u8 16), .lit (.int .u8 7), .lit (.int .u8 26), .lit (.int .u8 12), .lit (.int .u8 18), .lit (.int .u8 6), .lit (.int .u8 11), .lit (.int .u8 5), .lit (.int .u8 10), .lit (.int .u8 9)]
def laid_math_bits_deBruijn64tab {H : Type} : DataW H := .agg [.lit (.int .u8 0), .lit (.int .u8 1), .lit (.int .u8 56), .lit (.int .u8 2), .lit (.int .u8 57), .lit (.int .u8 49), .lit (.int .u8 28), .lit (.int .u8 3), .lit (.int .u8 61), .lit (.int .u8 58), .lit (.int .u8 42), .lit (.int .u8 50), .lit (.int .u8 38), .lit (.int .u8 29), .lit (.int .u8 17), .lit (.int .u8 4), .lit (.int .u8 62), .lit (.int .u8 47), .lit (.int .u8 59), .lit (.int .u8 36), .lit (.int .u8 45), .lit (.int .u8 43), .lit (.int .u8 51), .lit (.int .u8 22), .lit (.int .u8 53), .lit (.int .u8 39), .lit (.int .u8 33), .lit (.int .u8 30), .lit (.int .u8 24), .lit (.int .u8 18), .lit (.int .u8 12), .lit (.int .u8 5), .lit (.int .u8 63), .lit (.int .u8 55), .lit (.int .u8 48), .lit (.int .u8 27), .lit (.int .u8 60), .lit (.int .u8 41), .lit (.int .u8 37), .lit (.int .u8 16), .lit (.int .u8 46), .lit (.int .u8 35), .lit (.int .u8 44), .lit (.int .u8 21), .lit (.int .u8 52), .lit (.int .u8 32), .lit (.int .u8 23), .lit (.int .u8 11), .lit (.int .u8 54), .lit (.int .u8 26), .lit (.int .u8 40), .lit (.int .u8 15), .lit (.int .u8 34), .lit (.int .u8 20), .lit (.int .u8 31), .lit (.int .u8 10), .lit (.int .u8 25), .lit (.int .u8 14), .lit (.int .u8 19), .lit (.int .u8 9), .lit (.int .u8 13), .lit (.int .u8 8), .lit (.int .u8 7), .lit (.int .u8 6)]
def laid_internal_strconv_uint64pow10 {H : Type} : DataW H := .agg [.lit (.int .u64 1), .lit (.int .u64 10), .lit (.int .u64 100), .lit (.int .u64 1000), .lit (.int .u64 10000), .lit (.int .u64 100000), .lit (.int .u64 1000000), .lit (.int .u64 10000000), .lit (.int .u64 100000000), .lit (.int .u64 1000000000), .lit (.int .u64 10000000000), .lit (.int .u64 100000000000), .lit (.int .u64 1000000000000), .lit (.int .u64 10000000000000), .lit (.int .u64 100000000000000), .lit (.int .u64 1000000000000000), .lit (.int .u64 10000000000000000), .lit (.int .u64 100000000000000000), .lit (.int .u64 1000000000000000000), .lit (.int .u64 10000000000000000000)]
def laid_unicode_utf8_acceptRanges {H : Type} : DataW H := .agg [.agg [.lit (.int .u8 128), .lit (.int .u8 191)], .agg [.lit (.int .u8 160), .lit (.int .u8 191)], .agg [.lit (.int .u8 128), .lit (.int .u8 159)], .agg [.lit (.int .u8 144), .lit (.int .u8 191)], .agg [.lit (.int .u8 128), .lit (.int .u8 143)], .agg [.lit (.int .u8 0), .lit (.int .u8 0)], .agg [.lit (.int .u8 0), .lit (.int .u8 0)], .agg [.lit (.int .u8 0), .lit (.int .u8 0)], .agg [.lit (.int .u8 0), .lit (.int .u8 0)], .agg [.lit (.int .u8 0), .lit (.int .u8 0)], .agg [.lit (.int .u8 0), .lit (.int .u8 0)], .agg [.lit (.int .u8 0), .lit (.int .u8 0)], .agg [.lit (.int .u8 0), .lit (.int .u8 0)], .agg [.lit (.int .u8 0), .lit (.int .u8 0)], .agg [.lit (.int .u8 0), .lit (.int .u8 0)], .agg [.lit (.int .u8 0), .lit (.int .u8 0)]]
def laid_strconv_ErrRange {H : Type} : DataW H := .iface "*errors.errorString" (.ptr (.agg [.lit (.string [118, 97, 108, 117, 101, 32, 111, 117, 116, 32, 111, 102, 32, 114, 97, 110, 103, 101])]))
def laid_strconv_ErrSyntax {H : Type} : DataW H := .iface "*errors.errorString" (.ptr (.agg [.lit (.string [105, 110, 118, 97, 108, 105, 100, 32, 115, 121, 110, 116, 97, 120])]))
def laid_bursar_quant_units {H : Type} : DataW H := .agg [.agg [.lit (.string [75, 105]), .lit (.int .u64 1024000)], .agg [.lit (.string [77, 105]), .lit (.int .u64 1048576000)], .agg [.lit (.string [71, 105]), .lit (.int .u64 1073741824000)], .agg [.lit (.string [84, 105]), .lit (.int .u64 1099511627776000)], .agg [.lit (.string [80, 105]), .lit (.int .u64 1125899906842624000)], .agg [.lit (.string [107]), .lit (.int .u64 1000000)], .agg [.lit (.string [77]), .lit (.int .u64 1000000000)], .agg [.lit (.string [71]), .lit (.int .u64 1000000000000)], .agg [.lit (.string [84]), .lit (.int .u64 1000000000000000)], .agg [.lit (.string [80]), .lit (.int .u64 1000000000000000000)], .agg [.lit (.string [109]), .lit (.int .u64 1)], .agg [.lit (.string []), .lit (.int .u64 1000)]]
/-- One of Go's own tables, pinned by name: the form's constant. -/
def laid_unicode_utf8_first : DataW Unit := Go.Pinned.utf8First
def laid_bursar_bursarlaw03_mark {H : Type} : DataW H := .agg [.lit (.string [109, 97, 114, 107]), .lit (.int .i64 77)]

/-- 'bursarlaw03.QuantParses': WHATEVER THE INPUT: true; the input reads as it did. -/
def quantParsesSpec : ChangeSpec := { name := "quantParses", fn := fun _ => fun
  | [d] => { results := [.lit (.bool true)], args := [d] }
  | _ => none }
def quantParsesRow : OpenClaim := { program := "ytejgbdclhlolkaagreatdoor", sum := "0b9a0aedeb5437cf6183b83313b583472f0da3142cab4c1807045c42fd3d7b1a", func := "bursar/bursarlaw03.QuantParses", spec := "quantParses", inPlace := ["internal/bytealg.IndexByteString", "internal/bytealg.IndexString", "internal/bytealg.CountString", "internal/bytealg.abigen_runtime_cmpstring"], unfollowed := true, recurses := true, named := ["bursar/quant.units", "internal/bytealg.MaxLen", "unicode/utf8.first", "unicode/utf8.acceptRanges", "strconv.ErrSyntax", "strconv.ErrRange", "internal/strconv.uint64pow10", "math/bits.deBruijn32tab", "math/bits.deBruijn64tab", "math/bits.divideError", "math/bits.overflowError"], apart := false, laid := [("math/bits.deBruijn32tab", laid_math_bits_deBruijn32tab), ("math/bits.deBruijn64tab", laid_math_bits_deBruijn64tab), ("internal/strconv.uint64pow10", laid_internal_strconv_uint64pow10), ("unicode/utf8.acceptRanges", laid_unicode_utf8_acceptRanges), ("strconv.ErrRange", laid_strconv_ErrRange), ("strconv.ErrSyntax", laid_strconv_ErrSyntax), ("bursar/quant.units", laid_bursar_quant_units), ("unicode/utf8.first", laid_unicode_utf8_first)] }
def QuantParsesSaid : Prop := quantParsesRow.holds Tryz.pinned (OpenSpec.ofChange quantParsesSpec)

/-- ITS FALSE NEIGHBOUR: 'it returns false'. Refute it at one input. -/
def quantParsesWrong : ChangeSpec := { name := "quantParses", fn := fun _ => fun
  | [d] => { results := [.lit (.bool false)], args := [d] }
  | _ => none }
def QuantParsesWrongFalsely : Prop := quantParsesRow.holds Tryz.pinned (OpenSpec.ofChange quantParsesWrong)

/-- 'bursarlaw03.QuantPrints': WHATEVER THE INPUT: true; the input reads as it did. -/
def quantPrintsSpec : ChangeSpec := { name := "quantPrints", fn := fun _ => fun
  | [d] => { results := [.lit (.bool true)], args := [d] }
  | _ => none }
def quantPrintsRow : OpenClaim := { program := "ytejgbdclhlolkaagreatdoor", sum := "0b9a0aedeb5437cf6183b83313b583472f0da3142cab4c1807045c42fd3d7b1a", func := "bursar/bursarlaw03.QuantPrints", spec := "quantPrints", inPlace := ["internal/bytealg.IndexByteString", "internal/bytealg.IndexString", "internal/bytealg.CountString", "internal/bytealg.abigen_runtime_cmpstring"], unfollowed := true, recurses := true, named := ["bursar/quant.units", "internal/bytealg.MaxLen", "unicode/utf8.first", "unicode/utf8.acceptRanges", "strconv.ErrSyntax", "strconv.ErrRange", "internal/strconv.uint64pow10", "math/bits.deBruijn32tab", "math/bits.deBruijn64tab", "math/bits.divideError", "math/bits.overflowError"], apart := false, laid := [("math/bits.deBruijn32tab", laid_math_bits_deBruijn32tab), ("math/bits.deBruijn64tab", laid_math_bits_deBruijn64tab), ("internal/strconv.uint64pow10", laid_internal_strconv_uint64pow10), ("unicode/utf8.acceptRanges", laid_unicode_utf8_acceptRanges), ("strconv.ErrRange", laid_strconv_ErrRange), ("strconv.ErrSyntax", laid_strconv_ErrSyntax), ("bursar/quant.units", laid_bursar_quant_units), ("unicode/utf8.first", laid_unicode_utf8_first)] }
def QuantPrintsSaid : Prop := quantPrintsRow.holds Tryz.pinned (OpenSpec.ofChange quantPrintsSpec)

/-- ITS FALSE NEIGHBOUR: 'it returns false'. Refute it at one input. -/
def quantPrintsWrong : ChangeSpec := { name := "quantPrints", fn := fun _ => fun
  | [d] => { results := [.lit (.bool false)], args := [d] }
  | _ => none }
def QuantPrintsWrongFalsely : Prop := quantPrintsRow.holds Tryz.pinned (OpenSpec.ofChange quantPrintsWrong)

/-- 'bursarlaw03.QuantBack': WHATEVER THE INPUT: true; the input reads as it did. -/
def quantBackSpec : ChangeSpec := { name := "quantBack", fn := fun _ => fun
  | [d] => { results := [.lit (.bool true)], args := [d] }
  | _ => none }
def quantBackRow : OpenClaim := { program := "ytejgbdclhlolkaagreatdoor", sum := "0b9a0aedeb5437cf6183b83313b583472f0da3142cab4c1807045c42fd3d7b1a", func := "bursar/bursarlaw03.QuantBack", spec := "quantBack", inPlace := ["internal/bytealg.IndexByteString", "internal/bytealg.IndexString", "internal/bytealg.CountString", "internal/bytealg.abigen_runtime_cmpstring"], unfollowed := true, recurses := true, named := ["bursar/quant.units", "internal/bytealg.MaxLen", "unicode/utf8.first", "unicode/utf8.acceptRanges", "strconv.ErrSyntax", "strconv.ErrRange", "internal/strconv.uint64pow10", "math/bits.deBruijn32tab", "math/bits.deBruijn64tab", "math/bits.divideError", "math/bits.overflowError"], apart := false, laid := [("math/bits.deBruijn32tab", laid_math_bits_deBruijn32tab), ("math/bits.deBruijn64tab", laid_math_bits_deBruijn64tab), ("internal/strconv.uint64pow10", laid_internal_strconv_uint64pow10), ("unicode/utf8.acceptRanges", laid_unicode_utf8_acceptRanges), ("strconv.ErrRange", laid_strconv_ErrRange), ("strconv.ErrSyntax", laid_strconv_ErrSyntax), ("bursar/quant.units", laid_bursar_quant_units), ("unicode/utf8.first", laid_unicode_utf8_first)] }
def QuantBackSaid : Prop := quantBackRow.holds Tryz.pinned (OpenSpec.ofChange quantBackSpec)

/-- ITS FALSE NEIGHBOUR: 'it returns false'. Refute it at one input. -/
def quantBackWrong : ChangeSpec := { name := "quantBack", fn := fun _ => fun
  | [d] => { results := [.lit (.bool false)], args := [d] }
  | _ => none }
def QuantBackWrongFalsely : Prop := quantBackRow.holds Tryz.pinned (OpenSpec.ofChange quantBackWrong)

/-- 'bursarlaw03.QuantPlain': WHATEVER THE INPUT: true; the input reads as it did. -/
def quantPlainSpec : ChangeSpec := { name := "quantPlain", fn := fun _ => fun
  | [d] => { results := [.lit (.bool true)], args := [d] }
  | _ => none }
def quantPlainRow : OpenClaim := { program := "ytejgbdclhlolkaagreatdoor", sum := "0b9a0aedeb5437cf6183b83313b583472f0da3142cab4c1807045c42fd3d7b1a", func := "bursar/bursarlaw03.QuantPlain", spec := "quantPlain", inPlace := ["internal/bytealg.IndexByteString", "internal/bytealg.IndexString", "internal/bytealg.CountString", "internal/bytealg.abigen_runtime_cmpstring"], unfollowed := true, recurses := true, named := ["bursar/quant.units", "internal/bytealg.MaxLen", "unicode/utf8.first", "unicode/utf8.acceptRanges", "strconv.ErrSyntax", "strconv.ErrRange", "internal/strconv.uint64pow10", "math/bits.deBruijn32tab", "math/bits.deBruijn64tab", "math/bits.divideError", "math/bits.overflowError"], apart := false, laid := [("math/bits.deBruijn32tab", laid_math_bits_deBruijn32tab), ("math/bits.deBruijn64tab", laid_math_bits_deBruijn64tab), ("internal/strconv.uint64pow10", laid_internal_strconv_uint64pow10), ("unicode/utf8.acceptRanges", laid_unicode_utf8_acceptRanges), ("strconv.ErrRange", laid_strconv_ErrRange), ("strconv.ErrSyntax", laid_strconv_ErrSyntax), ("bursar/quant.units", laid_bursar_quant_units), ("unicode/utf8.first", laid_unicode_utf8_first)] }
def QuantPlainSaid : Prop := quantPlainRow.holds Tryz.pinned (OpenSpec.ofChange quantPlainSpec)

/-- ITS FALSE NEIGHBOUR: 'it returns false'. Refute it at one input. -/
def quantPlainWrong : ChangeSpec := { name := "quantPlain", fn := fun _ => fun
  | [d] => { results := [.lit (.bool false)], args := [d] }
  | _ => none }
def QuantPlainWrongFalsely : Prop := quantPlainRow.holds Tryz.pinned (OpenSpec.ofChange quantPlainWrong)

/-- 'bursarlaw03.QuantMeans': WHATEVER THE INPUT: true; the input reads as it did. -/
def quantMeansSpec : ChangeSpec := { name := "quantMeans", fn := fun _ => fun
  | [d1, d2, d3, d4] => { results := [.lit (.bool true)], args := [d1, d2, d3, d4] }
  | _ => none }
def quantMeansRow : OpenClaim := { program := "ytejgbdclhlolkaagreatdoor", sum := "0b9a0aedeb5437cf6183b83313b583472f0da3142cab4c1807045c42fd3d7b1a", func := "bursar/bursarlaw03.QuantMeans", spec := "quantMeans", inPlace := ["internal/bytealg.IndexByteString", "internal/bytealg.IndexString", "internal/bytealg.CountString", "internal/bytealg.abigen_runtime_cmpstring"], unfollowed := true, recurses := true, named := ["bursar/quant.units", "internal/bytealg.MaxLen", "unicode/utf8.first", "unicode/utf8.acceptRanges", "strconv.ErrSyntax", "strconv.ErrRange", "internal/strconv.uint64pow10", "math/bits.deBruijn32tab", "math/bits.deBruijn64tab", "math/bits.divideError", "math/bits.overflowError"], apart := false, laid := [("math/bits.deBruijn32tab", laid_math_bits_deBruijn32tab), ("math/bits.deBruijn64tab", laid_math_bits_deBruijn64tab), ("internal/strconv.uint64pow10", laid_internal_strconv_uint64pow10), ("unicode/utf8.acceptRanges", laid_unicode_utf8_acceptRanges), ("strconv.ErrRange", laid_strconv_ErrRange), ("strconv.ErrSyntax", laid_strconv_ErrSyntax), ("bursar/quant.units", laid_bursar_quant_units), ("unicode/utf8.first", laid_unicode_utf8_first)] }
def QuantMeansSaid : Prop := quantMeansRow.holds Tryz.pinned (OpenSpec.ofChange quantMeansSpec)

/-- ITS FALSE NEIGHBOUR: 'it returns false'. Refute it at one input. -/
def quantMeansWrong : ChangeSpec := { name := "quantMeans", fn := fun _ => fun
  | [d1, d2, d3, d4] => { results := [.lit (.bool false)], args := [d1, d2, d3, d4] }
  | _ => none }
def QuantMeansWrongFalsely : Prop := quantMeansRow.holds Tryz.pinned (OpenSpec.ofChange quantMeansWrong)

/-- 'bursarlaw03.QuantSums': WHATEVER THE INPUT: true; the input reads as it did. -/
def quantSumsSpec : ChangeSpec := { name := "quantSums", fn := fun _ => fun
  | [d1, d2] => { results := [.lit (.bool true)], args := [d1, d2] }
  | _ => none }
def quantSumsRow : OpenClaim := { program := "ytejgbdclhlolkaagreatdoor", sum := "0b9a0aedeb5437cf6183b83313b583472f0da3142cab4c1807045c42fd3d7b1a", func := "bursar/bursarlaw03.QuantSums", spec := "quantSums", inPlace := ["internal/bytealg.IndexByteString", "internal/bytealg.IndexString", "internal/bytealg.CountString", "internal/bytealg.abigen_runtime_cmpstring"], unfollowed := true, recurses := true, named := ["bursar/quant.units", "internal/bytealg.MaxLen", "unicode/utf8.first", "unicode/utf8.acceptRanges", "strconv.ErrSyntax", "strconv.ErrRange", "internal/strconv.uint64pow10", "math/bits.deBruijn32tab", "math/bits.deBruijn64tab", "math/bits.divideError", "math/bits.overflowError"], apart := false, laid := [("math/bits.deBruijn32tab", laid_math_bits_deBruijn32tab), ("math/bits.deBruijn64tab", laid_math_bits_deBruijn64tab), ("internal/strconv.uint64pow10", laid_internal_strconv_uint64pow10), ("unicode/utf8.acceptRanges", laid_unicode_utf8_acceptRanges), ("strconv.ErrRange", laid_strconv_ErrRange), ("strconv.ErrSyntax", laid_strconv_ErrSyntax), ("bursar/quant.units", laid_bursar_quant_units), ("unicode/utf8.first", laid_unicode_utf8_first)] }
def QuantSumsSaid : Prop := quantSumsRow.holds Tryz.pinned (OpenSpec.ofChange quantSumsSpec)

/-- ITS FALSE NEIGHBOUR: 'it returns false'. Refute it at one input. -/
def quantSumsWrong : ChangeSpec := { name := "quantSums", fn := fun _ => fun
  | [d1, d2] => { results := [.lit (.bool false)], args := [d1, d2] }
  | _ => none }
def QuantSumsWrongFalsely : Prop := quantSumsRow.holds Tryz.pinned (OpenSpec.ofChange quantSumsWrong)

/-- 'bursarlaw03.QuantScales': WHATEVER THE INPUT: true; the input reads as it did. -/
def quantScalesSpec : ChangeSpec := { name := "quantScales", fn := fun _ => fun
  | [d1, d2, d3] => { results := [.lit (.bool true)], args := [d1, d2, d3] }
  | _ => none }
def quantScalesRow : OpenClaim := { program := "ytejgbdclhlolkaagreatdoor", sum := "0b9a0aedeb5437cf6183b83313b583472f0da3142cab4c1807045c42fd3d7b1a", func := "bursar/bursarlaw03.QuantScales", spec := "quantScales", inPlace := ["internal/bytealg.IndexByteString", "internal/bytealg.IndexString", "internal/bytealg.CountString", "internal/bytealg.abigen_runtime_cmpstring"], unfollowed := true, recurses := true, named := ["bursar/quant.units", "internal/bytealg.MaxLen", "unicode/utf8.first", "unicode/utf8.acceptRanges", "strconv.ErrSyntax", "strconv.ErrRange", "internal/strconv.uint64pow10", "math/bits.deBruijn32tab", "math/bits.deBruijn64tab", "math/bits.divideError", "math/bits.overflowError"], apart := false, laid := [("math/bits.deBruijn32tab", laid_math_bits_deBruijn32tab), ("math/bits.deBruijn64tab", laid_math_bits_deBruijn64tab), ("internal/strconv.uint64pow10", laid_internal_strconv_uint64pow10), ("unicode/utf8.acceptRanges", laid_unicode_utf8_acceptRanges), ("strconv.ErrRange", laid_strconv_ErrRange), ("strconv.ErrSyntax", laid_strconv_ErrSyntax), ("bursar/quant.units", laid_bursar_quant_units), ("unicode/utf8.first", laid_unicode_utf8_first)] }
def QuantScalesSaid : Prop := quantScalesRow.holds Tryz.pinned (OpenSpec.ofChange quantScalesSpec)

/-- ITS FALSE NEIGHBOUR: 'it returns false'. Refute it at one input. -/
def quantScalesWrong : ChangeSpec := { name := "quantScales", fn := fun _ => fun
  | [d1, d2, d3] => { results := [.lit (.bool false)], args := [d1, d2, d3] }
  | _ => none }
def QuantScalesWrongFalsely : Prop := quantScalesRow.holds Tryz.pinned (OpenSpec.ofChange quantScalesWrong)

/-- 'bursarlaw03.QuantFinds': WHATEVER THE INPUT: true; the input reads as it did. -/
def quantFindsSpec : ChangeSpec := { name := "quantFinds", fn := fun _ => fun
  | [d1, d2] => { results := [.lit (.bool true)], args := [d1, d2] }
  | _ => none }
def quantFindsRow : OpenClaim := { program := "ytejgbdclhlolkaagreatdoor", sum := "0b9a0aedeb5437cf6183b83313b583472f0da3142cab4c1807045c42fd3d7b1a", func := "bursar/bursarlaw03.QuantFinds", spec := "quantFinds", inPlace := ["internal/bytealg.IndexByteString", "internal/bytealg.IndexString", "internal/bytealg.CountString", "internal/bytealg.abigen_runtime_cmpstring"], unfollowed := true, recurses := true, named := ["bursar/quant.units", "internal/bytealg.MaxLen", "unicode/utf8.first", "unicode/utf8.acceptRanges", "strconv.ErrSyntax", "strconv.ErrRange", "internal/strconv.uint64pow10", "math/bits.deBruijn32tab", "math/bits.deBruijn64tab", "math/bits.divideError", "math/bits.overflowError", "bursar/bursarlaw03.mark"], apart := false, laid := [("math/bits.deBruijn32tab", laid_math_bits_deBruijn32tab), ("math/bits.deBruijn64tab", laid_math_bits_deBruijn64tab), ("internal/strconv.uint64pow10", laid_internal_strconv_uint64pow10), ("unicode/utf8.acceptRanges", laid_unicode_utf8_acceptRanges), ("strconv.ErrRange", laid_strconv_ErrRange), ("strconv.ErrSyntax", laid_strconv_ErrSyntax), ("bursar/quant.units", laid_bursar_quant_units), ("bursar/bursarlaw03.mark", laid_bursar_bursarlaw03_mark), ("unicode/utf8.first", laid_unicode_utf8_first)] }
def QuantFindsSaid : Prop := quantFindsRow.holds Tryz.pinned (OpenSpec.ofChange quantFindsSpec)

/-- ITS FALSE NEIGHBOUR: 'it returns false'. Refute it at one input. -/
def quantFindsWrong : ChangeSpec := { name := "quantFinds", fn := fun _ => fun
  | [d1, d2] => { results := [.lit (.bool false)], args := [d1, d2] }
  | _ => none }
def QuantFindsWrongFalsely : Prop := quantFindsRow.holds Tryz.pinned (OpenSpec.ofChange quantFindsWrong)

/-- 'bursarlaw03.QuantReckons': WHATEVER THE INPUT: true; the input reads as it did. -/
def quantReckonsSpec : ChangeSpec := { name := "quantReckons", fn := fun _ => fun
  | [d1, d2, d3] => { results := [.lit (.bool true)], args := [d1, d2, d3] }
  | _ => none }
def quantReckonsRow : OpenClaim := { program := "ytejgbdclhlolkaagreatdoor", sum := "0b9a0aedeb5437cf6183b83313b583472f0da3142cab4c1807045c42fd3d7b1a", func := "bursar/bursarlaw03.QuantReckons", spec := "quantReckons", inPlace := ["internal/bytealg.IndexByteString", "internal/bytealg.IndexString", "internal/bytealg.CountString", "internal/bytealg.abigen_runtime_cmpstring"], unfollowed := true, recurses := true, named := ["bursar/quant.units", "internal/bytealg.MaxLen", "unicode/utf8.first", "unicode/utf8.acceptRanges", "strconv.ErrSyntax", "strconv.ErrRange", "internal/strconv.uint64pow10", "math/bits.deBruijn32tab", "math/bits.deBruijn64tab", "math/bits.divideError", "math/bits.overflowError"], apart := false, laid := [("math/bits.deBruijn32tab", laid_math_bits_deBruijn32tab), ("math/bits.deBruijn64tab", laid_math_bits_deBruijn64tab), ("internal/strconv.uint64pow10", laid_internal_strconv_uint64pow10), ("unicode/utf8.acceptRanges", laid_unicode_utf8_acceptRanges), ("strconv.ErrRange", laid_strconv_ErrRange), ("strconv.ErrSyntax", laid_strconv_ErrSyntax), ("bursar/quant.units", laid_bursar_quant_units), ("unicode/utf8.first", laid_unicode_utf8_first)] }
def QuantReckonsSaid : Prop := quantReckonsRow.holds Tryz.pinned (OpenSpec.ofChange quantReckonsSpec)

/-- ITS FALSE NEIGHBOUR: 'it returns false'. Refute it at one input. -/
def quantReckonsWrong : ChangeSpec := { name := "quantReckons", fn := fun _ => fun
  | [d1, d2, d3] => { results := [.lit (.bool false)], args := [d1, d2, d3] }
  | _ => none }
def QuantReckonsWrongFalsely : Prop := quantReckonsRow.holds Tryz.pinned (OpenSpec.ofChange quantReckonsWrong)

/-- 'bursarlaw03.QuantOrders': WHATEVER THE INPUT: true; the input reads as it did. -/
def quantOrdersSpec : ChangeSpec := { name := "quantOrders", fn := fun _ => fun
  | [d1, d2] => { results := [.lit (.bool true)], args := [d1, d2] }
  | _ => none }
def quantOrdersRow : OpenClaim := { program := "ytejgbdclhlolkaagreatdoor", sum := "0b9a0aedeb5437cf6183b83313b583472f0da3142cab4c1807045c42fd3d7b1a", func := "bursar/bursarlaw03.QuantOrders", spec := "quantOrders", inPlace := ["internal/bytealg.IndexByteString", "internal/bytealg.IndexString", "internal/bytealg.CountString", "internal/bytealg.abigen_runtime_cmpstring"], unfollowed := true, recurses := true, named := ["bursar/quant.units", "internal/bytealg.MaxLen", "unicode/utf8.first", "unicode/utf8.acceptRanges", "strconv.ErrSyntax", "strconv.ErrRange", "internal/strconv.uint64pow10", "math/bits.deBruijn32tab", "math/bits.deBruijn64tab", "math/bits.divideError", "math/bits.overflowError", "bursar/bursarlaw03.mark"], apart := false, laid := [("math/bits.deBruijn32tab", laid_math_bits_deBruijn32tab), ("math/bits.deBruijn64tab", laid_math_bits_deBruijn64tab), ("internal/strconv.uint64pow10", laid_internal_strconv_uint64pow10), ("unicode/utf8.acceptRanges", laid_unicode_utf8_acceptRanges), ("strconv.ErrRange", laid_strconv_ErrRange), ("strconv.ErrSyntax", laid_strconv_ErrSyntax), ("bursar/quant.units", laid_bursar_quant_units), ("bursar/bursarlaw03.mark", laid_bursar_bursarlaw03_mark), ("unicode/utf8.first", laid_unicode_utf8_first)] }
def QuantOrdersSaid : Prop := quantOrdersRow.holds Tryz.pinned (OpenSpec.ofChange quantOrdersSpec)

/-- ITS FALSE NEIGHBOUR: 'it returns false'. Refute it at one input. -/
def quantOrdersWrong : ChangeSpec := { name := "quantOrders", fn := fun _ => fun
  | [d1, d2] => { results := [.lit (.bool false)], args := [d1, d2] }
  | _ => none }
def QuantOrdersWrongFalsely : Prop := quantOrdersRow.holds Tryz.pinned (OpenSpec.ofChange quantOrdersWrong)

/-- 'bursarlaw03.QuantApart': WHATEVER THE INPUT: true; the input reads as it did. -/
def quantApartSpec : ChangeSpec := { name := "quantApart", fn := fun _ => fun
  | [d1, d2] => { results := [.lit (.bool true)], args := [d1, d2] }
  | _ => none }
def quantApartRow : OpenClaim := { program := "ytejgbdclhlolkaagreatdoor", sum := "0b9a0aedeb5437cf6183b83313b583472f0da3142cab4c1807045c42fd3d7b1a", func := "bursar/bursarlaw03.QuantApart", spec := "quantApart", inPlace := ["internal/bytealg.IndexByteString", "internal/bytealg.IndexString", "internal/bytealg.CountString", "internal/bytealg.abigen_runtime_cmpstring"], unfollowed := true, recurses := true, named := ["bursar/bursarlaw03.mark", "bursar/quant.units", "internal/bytealg.MaxLen", "unicode/utf8.first", "unicode/utf8.acceptRanges", "strconv.ErrSyntax", "strconv.ErrRange", "internal/strconv.uint64pow10", "math/bits.deBruijn32tab", "math/bits.deBruijn64tab", "math/bits.divideError", "math/bits.overflowError"], apart := false, laid := [("math/bits.deBruijn32tab", laid_math_bits_deBruijn32tab), ("math/bits.deBruijn64tab", laid_math_bits_deBruijn64tab), ("internal/strconv.uint64pow10", laid_internal_strconv_uint64pow10), ("unicode/utf8.acceptRanges", laid_unicode_utf8_acceptRanges), ("strconv.ErrRange", laid_strconv_ErrRange), ("strconv.ErrSyntax", laid_strconv_ErrSyntax), ("bursar/quant.units", laid_bursar_quant_units), ("bursar/bursarlaw03.mark", laid_bursar_bursarlaw03_mark), ("unicode/utf8.first", laid_unicode_utf8_first)] }
def QuantApartSaid : Prop := quantApartRow.holds Tryz.pinned (OpenSpec.ofChange quantApartSpec)

/-- ITS FALSE NEIGHBOUR: 'it returns false'. Refute it at one input. -/
def quantApartWrong : ChangeSpec := { name := "quantApart", fn := fun _ => fun
  | [d1, d2] => { results := [.lit (.bool false)], args := [d1, d2] }
  | _ => none }
def QuantApartWrongFalsely : Prop := quantApartRow.holds Tryz.pinned (OpenSpec.ofChange quantApartWrong)

/-- 'bursarlaw03.QuantAddsUp': WHATEVER THE INPUT: true; the input reads as it did. -/
def quantAddsUpSpec : ChangeSpec := { name := "quantAddsUp", fn := fun _ => fun
  | [d1, d2, d3] => { results := [.lit (.bool true)], args := [d1, d2, d3] }
  | _ => none }
def quantAddsUpRow : OpenClaim := { program := "ytejgbdclhlolkaagreatdoor", sum := "0b9a0aedeb5437cf6183b83313b583472f0da3142cab4c1807045c42fd3d7b1a", func := "bursar/bursarlaw03.QuantAddsUp", spec := "quantAddsUp", inPlace := ["internal/bytealg.IndexByteString", "internal/bytealg.IndexString", "internal/bytealg.CountString", "internal/bytealg.abigen_runtime_cmpstring"], unfollowed := true, recurses := true, named := ["bursar/quant.units", "internal/bytealg.MaxLen", "unicode/utf8.first", "unicode/utf8.acceptRanges", "strconv.ErrSyntax", "strconv.ErrRange", "internal/strconv.uint64pow10", "math/bits.deBruijn32tab", "math/bits.deBruijn64tab", "math/bits.divideError", "math/bits.overflowError", "bursar/bursarlaw03.mark"], apart := false, laid := [("math/bits.deBruijn32tab", laid_math_bits_deBruijn32tab), ("math/bits.deBruijn64tab", laid_math_bits_deBruijn64tab), ("internal/strconv.uint64pow10", laid_internal_strconv_uint64pow10), ("unicode/utf8.acceptRanges", laid_unicode_utf8_acceptRanges), ("strconv.ErrRange", laid_strconv_ErrRange), ("strconv.ErrSyntax", laid_strconv_ErrSyntax), ("bursar/quant.units", laid_bursar_quant_units), ("bursar/bursarlaw03.mark", laid_bursar_bursarlaw03_mark), ("unicode/utf8.first", laid_unicode_utf8_first)] }
def QuantAddsUpSaid : Prop := quantAddsUpRow.holds Tryz.pinned (OpenSpec.ofChange quantAddsUpSpec)

/-- ITS FALSE NEIGHBOUR: 'it returns false'. Refute it at one input. -/
def quantAddsUpWrong : ChangeSpec := { name := "quantAddsUp", fn := fun _ => fun
  | [d1, d2, d3] => { results := [.lit (.bool false)], args := [d1, d2, d3] }
  | _ => none }
def QuantAddsUpWrongFalsely : Prop := quantAddsUpRow.holds Tryz.pinned (OpenSpec.ofChange quantAddsUpWrong)

/-- 'bursarlaw03.QuantLists': WHATEVER THE INPUT: true; the input reads as it did. -/
def quantListsSpec : ChangeSpec := { name := "quantLists", fn := fun _ => fun
  | [d1, d2] => { results := [.lit (.bool true)], args := [d1, d2] }
  | _ => none }
def quantListsRow : OpenClaim := { program := "ytejgbdclhlolkaagreatdoor", sum := "0b9a0aedeb5437cf6183b83313b583472f0da3142cab4c1807045c42fd3d7b1a", func := "bursar/bursarlaw03.QuantLists", spec := "quantLists", inPlace := ["internal/bytealg.IndexByteString", "internal/bytealg.IndexString", "internal/bytealg.CountString", "internal/bytealg.abigen_runtime_cmpstring"], unfollowed := true, recurses := true, named := ["bursar/quant.units", "internal/bytealg.MaxLen", "unicode/utf8.first", "unicode/utf8.acceptRanges", "strconv.ErrSyntax", "strconv.ErrRange", "internal/strconv.uint64pow10", "math/bits.deBruijn32tab", "math/bits.deBruijn64tab", "math/bits.divideError", "math/bits.overflowError", "bursar/bursarlaw03.mark"], apart := false, laid := [("math/bits.deBruijn32tab", laid_math_bits_deBruijn32tab), ("math/bits.deBruijn64tab", laid_math_bits_deBruijn64tab), ("internal/strconv.uint64pow10", laid_internal_strconv_uint64pow10), ("unicode/utf8.acceptRanges", laid_unicode_utf8_acceptRanges), ("strconv.ErrRange", laid_strconv_ErrRange), ("strconv.ErrSyntax", laid_strconv_ErrSyntax), ("bursar/quant.units", laid_bursar_quant_units), ("bursar/bursarlaw03.mark", laid_bursar_bursarlaw03_mark), ("unicode/utf8.first", laid_unicode_utf8_first)] }
def QuantListsSaid : Prop := quantListsRow.holds Tryz.pinned (OpenSpec.ofChange quantListsSpec)

/-- ITS FALSE NEIGHBOUR: 'it returns false'. Refute it at one input. -/
def quantListsWrong : ChangeSpec := { name := "quantLists", fn := fun _ => fun
  | [d1, d2] => { results := [.lit (.bool false)], args := [d1, d2] }
  | _ => none }
def QuantListsWrongFalsely : Prop := quantListsRow.holds Tryz.pinned (OpenSpec.ofChange quantListsWrong)

/- THE SECOND FORM. 'bulk': how many values and letters a reading holds, each counted each time it is reached (what is shared counts as often as it is met; a slice's spare places count too). A statement '..UptoSaid' is the law's where the arguments, and the package variables that the reading takes, are together of bulk at most 1048576: NARROWER than '..Said'. Prove '..Said' where nothing that the law and all that it calls make is longer than what came in: it says more and counts as full. Else prove '..UptoSaid'. A law counts once. -/
mutual
def uptoBulk {H : Type} : DataW H → Nat
  | .lit (.string bytes) => bytes.length + 1
  | .lit _ => 1
  | .nil => 1
  | .ptr d => uptoBulk d + 1
  | .slice elems spare => uptoBulkAll elems + uptoBulkAll spare + 1
  | .agg parts => uptoBulkAll parts + 1
  | .iface _ d => uptoBulk d + 1
  | .map entries => uptoBulkEntries entries + 1
  | .held _ => 1
def uptoBulkAll {H : Type} : List (DataW H) → Nat
  | [] => 0
  | d :: r => uptoBulk d + uptoBulkAll r
def uptoBulkEntries {H : Type} : List (Lit × DataW H) → Nat
  | [] => 0
  | x :: r => uptoBulkEntry x + uptoBulkEntries r
def uptoBulkEntry {H : Type} : Lit × DataW H → Nat
  | (.string bytes, d) => bytes.length + uptoBulk d + 1
  | (_, d) => uptoBulk d + 1
 end
def uptoSmall : (H : Type) → List (DataW H) → Bool := fun _ ds => decide (uptoBulkAll ds ≤ 1048576)
def OpenSpec.upto (s : _root_.Go.ChangeSpec) : _root_.Go.OpenSpec := { _root_.Go.OpenSpec.ofChange s with cond := some uptoSmall }

/-- 'bursarlaw03.QuantParses', WHERE WHAT IT READS IS OF BULK AT MOST 1048576: true; the input reads as it did. -/
def quantParsesUptoRow : OpenClaim := { program := "ytejgbdclhlolkaagreatdoor", sum := "0b9a0aedeb5437cf6183b83313b583472f0da3142cab4c1807045c42fd3d7b1a", func := "bursar/bursarlaw03.QuantParses", spec := "quantParses", inPlace := ["internal/bytealg.IndexByteString", "internal/bytealg.IndexString", "internal/bytealg.CountString", "internal/bytealg.abigen_runtime_cmpstring"], unfollowed := true, recurses := true, named := ["bursar/quant.units", "internal/bytealg.MaxLen", "unicode/utf8.first", "unicode/utf8.acceptRanges", "strconv.ErrSyntax", "strconv.ErrRange", "internal/strconv.uint64pow10", "math/bits.deBruijn32tab", "math/bits.deBruijn64tab", "math/bits.divideError", "math/bits.overflowError"], apart := false, laid := [("math/bits.deBruijn32tab", laid_math_bits_deBruijn32tab), ("math/bits.deBruijn64tab", laid_math_bits_deBruijn64tab), ("internal/strconv.uint64pow10", laid_internal_strconv_uint64pow10), ("unicode/utf8.acceptRanges", laid_unicode_utf8_acceptRanges), ("strconv.ErrRange", laid_strconv_ErrRange), ("strconv.ErrSyntax", laid_strconv_ErrSyntax), ("bursar/quant.units", laid_bursar_quant_units), ("unicode/utf8.first", laid_unicode_utf8_first)], narrowed := true }
def QuantParsesUptoSaid : Prop := quantParsesUptoRow.holds Tryz.pinned (OpenSpec.upto quantParsesSpec)

/-- 'bursarlaw03.QuantPrints', WHERE WHAT IT READS IS OF BULK AT MOST 1048576: true; the input reads as it did. -/
def quantPrintsUptoRow : OpenClaim := { program := "ytejgbdclhlolkaagreatdoor", sum := "0b9a0aedeb5437cf6183b83313b583472f0da3142cab4c1807045c42fd3d7b1a", func := "bursar/bursarlaw03.QuantPrints", spec := "quantPrints", inPlace := ["internal/bytealg.IndexByteString", "internal/bytealg.IndexString", "internal/bytealg.CountString", "internal/bytealg.abigen_runtime_cmpstring"], unfollowed := true, recurses := true, named := ["bursar/quant.units", "internal/bytealg.MaxLen", "unicode/utf8.first", "unicode/utf8.acceptRanges", "strconv.ErrSyntax", "strconv.ErrRange", "internal/strconv.uint64pow10", "math/bits.deBruijn32tab", "math/bits.deBruijn64tab", "math/bits.divideError", "math/bits.overflowError"], apart := false, laid := [("math/bits.deBruijn32tab", laid_math_bits_deBruijn32tab), ("math/bits.deBruijn64tab", laid_math_bits_deBruijn64tab), ("internal/strconv.uint64pow10", laid_internal_strconv_uint64pow10), ("unicode/utf8.acceptRanges", laid_unicode_utf8_acceptRanges), ("strconv.ErrRange", laid_strconv_ErrRange), ("strconv.ErrSyntax", laid_strconv_ErrSyntax), ("bursar/quant.units", laid_bursar_quant_units), ("unicode/utf8.first", laid_unicode_utf8_first)], narrowed := true }
def QuantPrintsUptoSaid : Prop := quantPrintsUptoRow.holds Tryz.pinned (OpenSpec.upto quantPrintsSpec)

/-- 'bursarlaw03.QuantBack', WHERE WHAT IT READS IS OF BULK AT MOST 1048576: true; the input reads as it did. -/
def quantBackUptoRow : OpenClaim := { program := "ytejgbdclhlolkaagreatdoor", sum := "0b9a0aedeb5437cf6183b83313b583472f0da3142cab4c1807045c42fd3d7b1a", func := "bursar/bursarlaw03.QuantBack", spec := "quantBack", inPlace := ["internal/bytealg.IndexByteString", "internal/bytealg.IndexString", "internal/bytealg.CountString", "internal/bytealg.abigen_runtime_cmpstring"], unfollowed := true, recurses := true, named := ["bursar/quant.units", "internal/bytealg.MaxLen", "unicode/utf8.first", "unicode/utf8.acceptRanges", "strconv.ErrSyntax", "strconv.ErrRange", "internal/strconv.uint64pow10", "math/bits.deBruijn32tab", "math/bits.deBruijn64tab", "math/bits.divideError", "math/bits.overflowError"], apart := false, laid := [("math/bits.deBruijn32tab", laid_math_bits_deBruijn32tab), ("math/bits.deBruijn64tab", laid_math_bits_deBruijn64tab), ("internal/strconv.uint64pow10", laid_internal_strconv_uint64pow10), ("unicode/utf8.acceptRanges", laid_unicode_utf8_acceptRanges), ("strconv.ErrRange", laid_strconv_ErrRange), ("strconv.ErrSyntax", laid_strconv_ErrSyntax), ("bursar/quant.units", laid_bursar_quant_units), ("unicode/utf8.first", laid_unicode_utf8_first)], narrowed := true }
def QuantBackUptoSaid : Prop := quantBackUptoRow.holds Tryz.pinned (OpenSpec.upto quantBackSpec)

/-- 'bursarlaw03.QuantPlain', WHERE WHAT IT READS IS OF BULK AT MOST 1048576: true; the input reads as it did. -/
def quantPlainUptoRow : OpenClaim := { program := "ytejgbdclhlolkaagreatdoor", sum := "0b9a0aedeb5437cf6183b83313b583472f0da3142cab4c1807045c42fd3d7b1a", func := "bursar/bursarlaw03.QuantPlain", spec := "quantPlain", inPlace := ["internal/bytealg.IndexByteString", "internal/bytealg.IndexString", "internal/bytealg.CountString", "internal/bytealg.abigen_runtime_cmpstring"], unfollowed := true, recurses := true, named := ["bursar/quant.units", "internal/bytealg.MaxLen", "unicode/utf8.first", "unicode/utf8.acceptRanges", "strconv.ErrSyntax", "strconv.ErrRange", "internal/strconv.uint64pow10", "math/bits.deBruijn32tab", "math/bits.deBruijn64tab", "math/bits.divideError", "math/bits.overflowError"], apart := false, laid := [("math/bits.deBruijn32tab", laid_math_bits_deBruijn32tab), ("math/bits.deBruijn64tab", laid_math_bits_deBruijn64tab), ("internal/strconv.uint64pow10", laid_internal_strconv_uint64pow10), ("unicode/utf8.acceptRanges", laid_unicode_utf8_acceptRanges), ("strconv.ErrRange", laid_strconv_ErrRange), ("strconv.ErrSyntax", laid_strconv_ErrSyntax), ("bursar/quant.units", laid_bursar_quant_units), ("unicode/utf8.first", laid_unicode_utf8_first)], narrowed := true }
def QuantPlainUptoSaid : Prop := quantPlainUptoRow.holds Tryz.pinned (OpenSpec.upto quantPlainSpec)

/-- 'bursarlaw03.QuantMeans', WHERE WHAT IT READS IS OF BULK AT MOST 1048576: true; the input reads as it did. -/
def quantMeansUptoRow : OpenClaim := { program := "ytejgbdclhlolkaagreatdoor", sum := "0b9a0aedeb5437cf6183b83313b583472f0da3142cab4c1807045c42fd3d7b1a", func := "bursar/bursarlaw03.QuantMeans", spec := "quantMeans", inPlace := ["internal/bytealg.IndexByteString", "internal/bytealg.IndexString", "internal/bytealg.CountString", "internal/bytealg.abigen_runtime_cmpstring"], unfollowed := true, recurses := true, named := ["bursar/quant.units", "internal/bytealg.MaxLen", "unicode/utf8.first", "unicode/utf8.acceptRanges", "strconv.ErrSyntax", "strconv.ErrRange", "internal/strconv.uint64pow10", "math/bits.deBruijn32tab", "math/bits.deBruijn64tab", "math/bits.divideError", "math/bits.overflowError"], apart := false, laid := [("math/bits.deBruijn32tab", laid_math_bits_deBruijn32tab), ("math/bits.deBruijn64tab", laid_math_bits_deBruijn64tab), ("internal/strconv.uint64pow10", laid_internal_strconv_uint64pow10), ("unicode/utf8.acceptRanges", laid_unicode_utf8_acceptRanges), ("strconv.ErrRange", laid_strconv_ErrRange), ("strconv.ErrSyntax", laid_strconv_ErrSyntax), ("bursar/quant.units", laid_bursar_quant_units), ("unicode/utf8.first", laid_unicode_utf8_first)], narrowed := true }
def QuantMeansUptoSaid : Prop := quantMeansUptoRow.holds Tryz.pinned (OpenSpec.upto quantMeansSpec)

/-- 'bursarlaw03.QuantSums', WHERE WHAT IT READS IS OF BULK AT MOST 1048576: true; the input reads as it did. -/
def quantSumsUptoRow : OpenClaim := { program := "ytejgbdclhlolkaagreatdoor", sum := "0b9a0aedeb5437cf6183b83313b583472f0da3142cab4c1807045c42fd3d7b1a", func := "bursar/bursarlaw03.QuantSums", spec := "quantSums", inPlace := ["internal/bytealg.IndexByteString", "internal/bytealg.IndexString", "internal/bytealg.CountString", "internal/bytealg.abigen_runtime_cmpstring"], unfollowed := true, recurses := true, named := ["bursar/quant.units", "internal/bytealg.MaxLen", "unicode/utf8.first", "unicode/utf8.acceptRanges", "strconv.ErrSyntax", "strconv.ErrRange", "internal/strconv.uint64pow10", "math/bits.deBruijn32tab", "math/bits.deBruijn64tab", "math/bits.divideError", "math/bits.overflowError"], apart := false, laid := [("math/bits.deBruijn32tab", laid_math_bits_deBruijn32tab), ("math/bits.deBruijn64tab", laid_math_bits_deBruijn64tab), ("internal/strconv.uint64pow10", laid_internal_strconv_uint64pow10), ("unicode/utf8.acceptRanges", laid_unicode_utf8_acceptRanges), ("strconv.ErrRange", laid_strconv_ErrRange), ("strconv.ErrSyntax", laid_strconv_ErrSyntax), ("bursar/quant.units", laid_bursar_quant_units), ("unicode/utf8.first", laid_unicode_utf8_first)], narrowed := true }
def QuantSumsUptoSaid : Prop := quantSumsUptoRow.holds Tryz.pinned (OpenSpec.upto quantSumsSpec)

/-- 'bursarlaw03.QuantScales', WHERE WHAT IT READS IS OF BULK AT MOST 1048576: true; the input reads as it did. -/
def quantScalesUptoRow : OpenClaim := { program := "ytejgbdclhlolkaagreatdoor", sum := "0b9a0aedeb5437cf6183b83313b583472f0da3142cab4c1807045c42fd3d7b1a", func := "bursar/bursarlaw03.QuantScales", spec := "quantScales", inPlace := ["internal/bytealg.IndexByteString", "internal/bytealg.IndexString", "internal/bytealg.CountString", "internal/bytealg.abigen_runtime_cmpstring"], unfollowed := true, recurses := true, named := ["bursar/quant.units", "internal/bytealg.MaxLen", "unicode/utf8.first", "unicode/utf8.acceptRanges", "strconv.ErrSyntax", "strconv.ErrRange", "internal/strconv.uint64pow10", "math/bits.deBruijn32tab", "math/bits.deBruijn64tab", "math/bits.divideError", "math/bits.overflowError"], apart := false, laid := [("math/bits.deBruijn32tab", laid_math_bits_deBruijn32tab), ("math/bits.deBruijn64tab", laid_math_bits_deBruijn64tab), ("internal/strconv.uint64pow10", laid_internal_strconv_uint64pow10), ("unicode/utf8.acceptRanges", laid_unicode_utf8_acceptRanges), ("strconv.ErrRange", laid_strconv_ErrRange), ("strconv.ErrSyntax", laid_strconv_ErrSyntax), ("bursar/quant.units", laid_bursar_quant_units), ("unicode/utf8.first", laid_unicode_utf8_first)], narrowed := true }
def QuantScalesUptoSaid : Prop := quantScalesUptoRow.holds Tryz.pinned (OpenSpec.upto quantScalesSpec)

/-- 'bursarlaw03.QuantFinds', WHERE WHAT IT READS IS OF BULK AT MOST 1048576: true; the input reads as it did. -/
def quantFindsUptoRow : OpenClaim := { program := "ytejgbdclhlolkaagreatdoor", sum := "0b9a0aedeb5437cf6183b83313b583472f0da3142cab4c1807045c42fd3d7b1a", func := "bursar/bursarlaw03.QuantFinds", spec := "quantFinds", inPlace := ["internal/bytealg.IndexByteString", "internal/bytealg.IndexString", "internal/bytealg.CountString", "internal/bytealg.abigen_runtime_cmpstring"], unfollowed := true, recurses := true, named := ["bursar/quant.units", "internal/bytealg.MaxLen", "unicode/utf8.first", "unicode/utf8.acceptRanges", "strconv.ErrSyntax", "strconv.ErrRange", "internal/strconv.uint64pow10", "math/bits.deBruijn32tab", "math/bits.deBruijn64tab", "math/bits.divideError", "math/bits.overflowError", "bursar/bursarlaw03.mark"], apart := false, laid := [("math/bits.deBruijn32tab", laid_math_bits_deBruijn32tab), ("math/bits.deBruijn64tab", laid_math_bits_deBruijn64tab), ("internal/strconv.uint64pow10", laid_internal_strconv_uint64pow10), ("unicode/utf8.acceptRanges", laid_unicode_utf8_acceptRanges), ("strconv.ErrRange", laid_strconv_ErrRange), ("strconv.ErrSyntax", laid_strconv_ErrSyntax), ("bursar/quant.units", laid_bursar_quant_units), ("bursar/bursarlaw03.mark", laid_bursar_bursarlaw03_mark), ("unicode/utf8.first", laid_unicode_utf8_first)], narrowed := true }
def QuantFindsUptoSaid : Prop := quantFindsUptoRow.holds Tryz.pinned (OpenSpec.upto quantFindsSpec)

/-- 'bursarlaw03.QuantReckons', WHERE WHAT IT READS IS OF BULK AT MOST 1048576: true; the input reads as it did. -/
def quantReckonsUptoRow : OpenClaim := { program := "ytejgbdclhlolkaagreatdoor", sum := "0b9a0aedeb5437cf6183b83313b583472f0da3142cab4c1807045c42fd3d7b1a", func := "bursar/bursarlaw03.QuantReckons", spec := "quantReckons", inPlace := ["internal/bytealg.IndexByteString", "internal/bytealg.IndexString", "internal/bytealg.CountString", "internal/bytealg.abigen_runtime_cmpstring"], unfollowed := true, recurses := true, named := ["bursar/quant.units", "internal/bytealg.MaxLen", "unicode/utf8.first", "unicode/utf8.acceptRanges", "strconv.ErrSyntax", "strconv.ErrRange", "internal/strconv.uint64pow10", "math/bits.deBruijn32tab", "math/bits.deBruijn64tab", "math/bits.divideError", "math/bits.overflowError"], apart := false, laid := [("math/bits.deBruijn32tab", laid_math_bits_deBruijn32tab), ("math/bits.deBruijn64tab", laid_math_bits_deBruijn64tab), ("internal/strconv.uint64pow10", laid_internal_strconv_uint64pow10), ("unicode/utf8.acceptRanges", laid_unicode_utf8_acceptRanges), ("strconv.ErrRange", laid_strconv_ErrRange), ("strconv.ErrSyntax", laid_strconv_ErrSyntax), ("bursar/quant.units", laid_bursar_quant_units), ("unicode/utf8.first", laid_unicode_utf8_first)], narrowed := true }
def QuantReckonsUptoSaid : Prop := quantReckonsUptoRow.holds Tryz.pinned (OpenSpec.upto quantReckonsSpec)

/-- 'bursarlaw03.QuantOrders', WHERE WHAT IT READS IS OF BULK AT MOST 1048576: true; the input reads as it did. -/
def quantOrdersUptoRow : OpenClaim := { program := "ytejgbdclhlolkaagreatdoor", sum := "0b9a0aedeb5437cf6183b83313b583472f0da3142cab4c1807045c42fd3d7b1a", func := "bursar/bursarlaw03.QuantOrders", spec := "quantOrders", inPlace := ["internal/bytealg.IndexByteString", "internal/bytealg.IndexString", "internal/bytealg.CountString", "internal/bytealg.abigen_runtime_cmpstring"], unfollowed := true, recurses := true, named := ["bursar/quant.units", "internal/bytealg.MaxLen", "unicode/utf8.first", "unicode/utf8.acceptRanges", "strconv.ErrSyntax", "strconv.ErrRange", "internal/strconv.uint64pow10", "math/bits.deBruijn32tab", "math/bits.deBruijn64tab", "math/bits.divideError", "math/bits.overflowError", "bursar/bursarlaw03.mark"], apart := false, laid := [("math/bits.deBruijn32tab", laid_math_bits_deBruijn32tab), ("math/bits.deBruijn64tab", laid_math_bits_deBruijn64tab), ("internal/strconv.uint64pow10", laid_internal_strconv_uint64pow10), ("unicode/utf8.acceptRanges", laid_unicode_utf8_acceptRanges), ("strconv.ErrRange", laid_strconv_ErrRange), ("strconv.ErrSyntax", laid_strconv_ErrSyntax), ("bursar/quant.units", laid_bursar_quant_units), ("bursar/bursarlaw03.mark", laid_bursar_bursarlaw03_mark), ("unicode/utf8.first", laid_unicode_utf8_first)], narrowed := true }
def QuantOrdersUptoSaid : Prop := quantOrdersUptoRow.holds Tryz.pinned (OpenSpec.upto quantOrdersSpec)

/-- 'bursarlaw03.QuantApart', WHERE WHAT IT READS IS OF BULK AT MOST 1048576: true; the input reads as it did. -/
def quantApartUptoRow : OpenClaim := { program := "ytejgbdclhlolkaagreatdoor", sum := "0b9a0aedeb5437cf6183b83313b583472f0da3142cab4c1807045c42fd3d7b1a", func := "bursar/bursarlaw03.QuantApart", spec := "quantApart", inPlace := ["internal/bytealg.IndexByteString", "internal/bytealg.IndexString", "internal/bytealg.CountString", "internal/bytealg.abigen_runtime_cmpstring"], unfollowed := true, recurses := true, named := ["bursar/bursarlaw03.mark", "bursar/quant.units", "internal/bytealg.MaxLen", "unicode/utf8.first", "unicode/utf8.acceptRanges", "strconv.ErrSyntax", "strconv.ErrRange", "internal/strconv.uint64pow10", "math/bits.deBruijn32tab", "math/bits.deBruijn64tab", "math/bits.divideError", "math/bits.overflowError"], apart := false, laid := [("math/bits.deBruijn32tab", laid_math_bits_deBruijn32tab), ("math/bits.deBruijn64tab", laid_math_bits_deBruijn64tab), ("internal/strconv.uint64pow10", laid_internal_strconv_uint64pow10), ("unicode/utf8.acceptRanges", laid_unicode_utf8_acceptRanges), ("strconv.ErrRange", laid_strconv_ErrRange), ("strconv.ErrSyntax", laid_strconv_ErrSyntax), ("bursar/quant.units", laid_bursar_quant_units), ("bursar/bursarlaw03.mark", laid_bursar_bursarlaw03_mark), ("unicode/utf8.first", laid_unicode_utf8_first)], narrowed := true }
def QuantApartUptoSaid : Prop := quantApartUptoRow.holds Tryz.pinned (OpenSpec.upto quantApartSpec)

/-- 'bursarlaw03.QuantAddsUp', WHERE WHAT IT READS IS OF BULK AT MOST 1048576: true; the input reads as it did. -/
def quantAddsUpUptoRow : OpenClaim := { program := "ytejgbdclhlolkaagreatdoor", sum := "0b9a0aedeb5437cf6183b83313b583472f0da3142cab4c1807045c42fd3d7b1a", func := "bursar/bursarlaw03.QuantAddsUp", spec := "quantAddsUp", inPlace := ["internal/bytealg.IndexByteString", "internal/bytealg.IndexString", "internal/bytealg.CountString", "internal/bytealg.abigen_runtime_cmpstring"], unfollowed := true, recurses := true, named := ["bursar/quant.units", "internal/bytealg.MaxLen", "unicode/utf8.first", "unicode/utf8.acceptRanges", "strconv.ErrSyntax", "strconv.ErrRange", "internal/strconv.uint64pow10", "math/bits.deBruijn32tab", "math/bits.deBruijn64tab", "math/bits.divideError", "math/bits.overflowError", "bursar/bursarlaw03.mark"], apart := false, laid := [("math/bits.deBruijn32tab", laid_math_bits_deBruijn32tab), ("math/bits.deBruijn64tab", laid_math_bits_deBruijn64tab), ("internal/strconv.uint64pow10", laid_internal_strconv_uint64pow10), ("unicode/utf8.acceptRanges", laid_unicode_utf8_acceptRanges), ("strconv.ErrRange", laid_strconv_ErrRange), ("strconv.ErrSyntax", laid_strconv_ErrSyntax), ("bursar/quant.units", laid_bursar_quant_units), ("bursar/bursarlaw03.mark", laid_bursar_bursarlaw03_mark), ("unicode/utf8.first", laid_unicode_utf8_first)], narrowed := true }
def QuantAddsUpUptoSaid : Prop := quantAddsUpUptoRow.holds Tryz.pinned (OpenSpec.upto quantAddsUpSpec)

/-- 'bursarlaw03.QuantLists', WHERE WHAT IT READS IS OF BULK AT MOST 1048576: true; the input reads as it did. -/
def quantListsUptoRow : OpenClaim := { program := "ytejgbdclhlolkaagreatdoor", sum := "0b9a0aedeb5437cf6183b83313b583472f0da3142cab4c1807045c42fd3d7b1a", func := "bursar/bursarlaw03.QuantLists", spec := "quantLists", inPlace := ["internal/bytealg.IndexByteString", "internal/bytealg.IndexString", "internal/bytealg.CountString", "internal/bytealg.abigen_runtime_cmpstring"], unfollowed := true, recurses := true, named := ["bursar/quant.units", "internal/bytealg.MaxLen", "unicode/utf8.first", "unicode/utf8.acceptRanges", "strconv.ErrSyntax", "strconv.ErrRange", "internal/strconv.uint64pow10", "math/bits.deBruijn32tab", "math/bits.deBruijn64tab", "math/bits.divideError", "math/bits.overflowError", "bursar/bursarlaw03.mark"], apart := false, laid := [("math/bits.deBruijn32tab", laid_math_bits_deBruijn32tab), ("math/bits.deBruijn64tab", laid_math_bits_deBruijn64tab), ("internal/strconv.uint64pow10", laid_internal_strconv_uint64pow10), ("unicode/utf8.acceptRanges", laid_unicode_utf8_acceptRanges), ("strconv.ErrRange", laid_strconv_ErrRange), ("strconv.ErrSyntax", laid_strconv_ErrSyntax), ("bursar/quant.units", laid_bursar_quant_units), ("bursar/bursarlaw03.mark", laid_bursar_bursarlaw03_mark), ("unicode/utf8.first", laid_unicode_utf8_first)], narrowed := true }
def QuantListsUptoSaid : Prop := quantListsUptoRow.holds Tryz.pinned (OpenSpec.upto quantListsSpec)

end Rows
end Go.Proofs.YtejgbdclhlolkaaGreatDoor
