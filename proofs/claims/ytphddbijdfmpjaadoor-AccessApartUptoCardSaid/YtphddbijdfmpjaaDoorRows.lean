/-
  NARROWER THAN 'FOR EVERY INPUT', by the rows' own cells (each row's printed sentence says how): AccessGoesDown: laid · AccessOfMany: laid · AccessHoldsSixteen: laid · AccessTouchesNoOther: laid · AccessIsItsBindings: laid · AccessSays: laid · AccessApart: laid.
  DERIVED. THE GIVEN ROWS OF THIS SEAT. 7 by the template 'for every input the law returns true; each argument reads behind the call as it read before'; 0 by the template 'total and deterministic' (their statements: YtphddbijdfmpjaaDoorTotals.lean).
  GIVEN WITH THE SEED: the statements are not yours to turn. If you find one false, say at which input.
  Laid BY PROGRAM, IN A SANDBOX (cutbox-rows.mjs): the forced cells as the released guide's own fill.sh prints them over the translation aee255d1242a907d… (all of the seat's roots in one cut). By AI agents, Wed Nov 11 2026. No macro, syntax, notation, axiom, sorry.
-/
import Derived.Test.YtphddbijdfmpjaaDoorChecked
import GoSem.PinnedTables
import GoSem.Claim
import GoSem.ClaimJoined
import GoSem.ClaimMapViews
import Derived.JoinedTies
import Derived.KernelRfl
namespace Go.Proofs.YtphddbijdfmpjaaDoor
/- THE CELL 'sum', in the pinned program and in every row, IS THE sha256 OF THE DUMP (.gsa) THAT YtphddbijdfmpjaaDoorProg.lean LOADS. Nothing in Lean hashes anything: it is a label: what it is worth is what the hold of that sum in a sandbox is worth. -/
noncomputable def Tryd.pinned : Pinned := { name := "ytphddbijdfmpjaadoor", sum := "aee255d1242a907de98458eb7bd02ee2d1fca161e5053eae761371f17071f4a1", checked := Tryd.checked }
namespace Rows
def none {H : Type} : Left H := { results := [], args := [] }

/- WHAT THE LISTED PACKAGE-LEVEL VARIABLES READ AS WHEN THE CALL BEGINS. Each datum BY PROGRAM (the guide's laid-datum.mjs) off the statement by which the dump's own 'gosem.cut.vars' lays the variable. In a bare row this is a premise. The card (YtphddbijdfmpjaaDoorCards.lean) ties it to the program's text. -/
def laid_unicode_utf8_acceptRanges {H : Type} : DataW H := .agg [.agg [.lit (.int .u8 128), .lit (.int .u8 191)], .agg [.lit (.int .u8 160), .lit (.int .u8 191)], .agg [.lit (.int .u8 128), .lit (.int .u8 159)], .agg [.lit (.int .u8 144), .lit (.int .u8 191)], .agg [.lit (.int .u8 128), .lit (.int .u8 143)], .agg [.lit (.int .u8 0), .lit (.int .u8 0)], .agg [.lit (.int .u8 0), .lit (.int .u8 0)], .agg [.lit (.int .u8 0), .lit (.int .u8 0)], .agg [.lit (.int .u8 0), .lit (.int .u8 0)], .agg [.lit (.int .u8 0), .lit (.int .u8 0)], .agg [.lit (.int .u8 0), .lit (.int .u8 0)], .agg [.lit (.int .u8 0), .lit (.int .u8 0)], .agg [.lit (.int .u8 0), .lit (.int .u8 0)], .agg [.lit (.int .u8 0), .lit (.int .u8 0)], .agg [.lit (.int .u8 0), .lit (.int .u8 0)], .agg [.lit (.int .u8 0), .lit (.int .u8 0)]]
def laid_bursar_object_letters {H : Type} : DataW H := .agg [.lit (.int .u8 0), .lit (.int .u8 81), .lit (.int .u8 76), .lit (.int .u8 79), .lit (.int .u8 66)]
/-- One of Go's own tables, pinned by name: the form's constant. -/
def laid_unicode_utf8_first : DataW Unit := Go.Pinned.utf8First

/-- 'bursarlaw21.AccessGoesDown': WHATEVER THE INPUT: true; the input reads as it did. -/
def accessGoesDownSpec : ChangeSpec := { name := "accessGoesDown", fn := fun _ => fun
  | [d1, d2, d3] => { results := [.lit (.bool true)], args := [d1, d2, d3] }
  | _ => none }
def accessGoesDownRow : OpenClaim := { program := "ytphddbijdfmpjaadoor", sum := "aee255d1242a907de98458eb7bd02ee2d1fca161e5053eae761371f17071f4a1", func := "bursar/bursarlaw21.AccessGoesDown", spec := "accessGoesDown", inPlace := ["internal/bytealg.CountString", "internal/bytealg.IndexByteString", "internal/bytealg.IndexString"], named := ["bursar/object.letters", "unicode/utf8.first", "unicode/utf8.acceptRanges", "internal/bytealg.MaxLen"], plainKeys := false, apart := false, laid := [("unicode/utf8.acceptRanges", laid_unicode_utf8_acceptRanges), ("bursar/object.letters", laid_bursar_object_letters), ("unicode/utf8.first", laid_unicode_utf8_first)] }
def AccessGoesDownSaid : Prop := accessGoesDownRow.holds Tryd.pinned (OpenSpec.ofChange accessGoesDownSpec)

/-- ITS FALSE NEIGHBOUR: 'it returns false'. Refute it at one input. -/
def accessGoesDownWrong : ChangeSpec := { name := "accessGoesDown", fn := fun _ => fun
  | [d1, d2, d3] => { results := [.lit (.bool false)], args := [d1, d2, d3] }
  | _ => none }
def AccessGoesDownWrongFalsely : Prop := accessGoesDownRow.holds Tryd.pinned (OpenSpec.ofChange accessGoesDownWrong)

/-- 'bursarlaw21.AccessOfMany': WHATEVER THE INPUT: true; the input reads as it did. -/
def accessOfManySpec : ChangeSpec := { name := "accessOfMany", fn := fun _ => fun
  | [d] => { results := [.lit (.bool true)], args := [d] }
  | _ => none }
def accessOfManyRow : OpenClaim := { program := "ytphddbijdfmpjaadoor", sum := "aee255d1242a907de98458eb7bd02ee2d1fca161e5053eae761371f17071f4a1", func := "bursar/bursarlaw21.AccessOfMany", spec := "accessOfMany", inPlace := ["internal/bytealg.CountString", "internal/bytealg.IndexByteString", "internal/bytealg.IndexString"], unfollowed := true, recurses := true, named := ["bursar/object.letters", "unicode/utf8.first", "unicode/utf8.acceptRanges", "internal/bytealg.MaxLen"], plainKeys := false, apart := false, laid := [("unicode/utf8.acceptRanges", laid_unicode_utf8_acceptRanges), ("bursar/object.letters", laid_bursar_object_letters), ("unicode/utf8.first", laid_unicode_utf8_first)] }
def AccessOfManySaid : Prop := accessOfManyRow.holds Tryd.pinned (OpenSpec.ofChange accessOfManySpec)

/-- ITS FALSE NEIGHBOUR: 'it returns false'. Refute it at one input. -/
def accessOfManyWrong : ChangeSpec := { name := "accessOfMany", fn := fun _ => fun
  | [d] => { results := [.lit (.bool false)], args := [d] }
  | _ => none }
def AccessOfManyWrongFalsely : Prop := accessOfManyRow.holds Tryd.pinned (OpenSpec.ofChange accessOfManyWrong)

/-- 'bursarlaw21.AccessHoldsSixteen': WHATEVER THE INPUT: true; the input reads as it did. -/
def accessHoldsSixteenSpec : ChangeSpec := { name := "accessHoldsSixteen", fn := fun _ => fun
  | [d1, d2] => { results := [.lit (.bool true)], args := [d1, d2] }
  | _ => none }
def accessHoldsSixteenRow : OpenClaim := { program := "ytphddbijdfmpjaadoor", sum := "aee255d1242a907de98458eb7bd02ee2d1fca161e5053eae761371f17071f4a1", func := "bursar/bursarlaw21.AccessHoldsSixteen", spec := "accessHoldsSixteen", inPlace := ["internal/bytealg.CountString", "internal/bytealg.IndexByteString", "internal/bytealg.IndexString"], unfollowed := true, recurses := true, named := ["bursar/object.letters", "unicode/utf8.first", "unicode/utf8.acceptRanges", "internal/bytealg.MaxLen"], plainKeys := false, apart := false, laid := [("unicode/utf8.acceptRanges", laid_unicode_utf8_acceptRanges), ("bursar/object.letters", laid_bursar_object_letters), ("unicode/utf8.first", laid_unicode_utf8_first)] }
def AccessHoldsSixteenSaid : Prop := accessHoldsSixteenRow.holds Tryd.pinned (OpenSpec.ofChange accessHoldsSixteenSpec)

/-- ITS FALSE NEIGHBOUR: 'it returns false'. Refute it at one input. -/
def accessHoldsSixteenWrong : ChangeSpec := { name := "accessHoldsSixteen", fn := fun _ => fun
  | [d1, d2] => { results := [.lit (.bool false)], args := [d1, d2] }
  | _ => none }
def AccessHoldsSixteenWrongFalsely : Prop := accessHoldsSixteenRow.holds Tryd.pinned (OpenSpec.ofChange accessHoldsSixteenWrong)

/-- 'bursarlaw21.AccessTouchesNoOther': WHATEVER THE INPUT: true; the input reads as it did. -/
def accessTouchesNoOtherSpec : ChangeSpec := { name := "accessTouchesNoOther", fn := fun _ => fun
  | [d1, d2, d3, d4] => { results := [.lit (.bool true)], args := [d1, d2, d3, d4] }
  | _ => none }
def accessTouchesNoOtherRow : OpenClaim := { program := "ytphddbijdfmpjaadoor", sum := "aee255d1242a907de98458eb7bd02ee2d1fca161e5053eae761371f17071f4a1", func := "bursar/bursarlaw21.AccessTouchesNoOther", spec := "accessTouchesNoOther", inPlace := ["internal/bytealg.CountString", "internal/bytealg.IndexByteString", "internal/bytealg.IndexString"], unfollowed := true, recurses := true, named := ["bursar/object.letters", "unicode/utf8.first", "unicode/utf8.acceptRanges", "internal/bytealg.MaxLen"], plainKeys := false, apart := false, laid := [("unicode/utf8.acceptRanges", laid_unicode_utf8_acceptRanges), ("bursar/object.letters", laid_bursar_object_letters), ("unicode/utf8.first", laid_unicode_utf8_first)] }
def AccessTouchesNoOtherSaid : Prop := accessTouchesNoOtherRow.holds Tryd.pinned (OpenSpec.ofChange accessTouchesNoOtherSpec)

/-- ITS FALSE NEIGHBOUR: 'it returns false'. Refute it at one input. -/
def accessTouchesNoOtherWrong : ChangeSpec := { name := "accessTouchesNoOther", fn := fun _ => fun
  | [d1, d2, d3, d4] => { results := [.lit (.bool false)], args := [d1, d2, d3, d4] }
  | _ => none }
def AccessTouchesNoOtherWrongFalsely : Prop := accessTouchesNoOtherRow.holds Tryd.pinned (OpenSpec.ofChange accessTouchesNoOtherWrong)

/-- 'bursarlaw21.AccessIsItsBindings': WHATEVER THE INPUT: true; the input reads as it did. -/
def accessIsItsBindingsSpec : ChangeSpec := { name := "accessIsItsBindings", fn := fun _ => fun
  | [d1, d2] => { results := [.lit (.bool true)], args := [d1, d2] }
  | _ => none }
def accessIsItsBindingsRow : OpenClaim := { program := "ytphddbijdfmpjaadoor", sum := "aee255d1242a907de98458eb7bd02ee2d1fca161e5053eae761371f17071f4a1", func := "bursar/bursarlaw21.AccessIsItsBindings", spec := "accessIsItsBindings", inPlace := ["internal/bytealg.CountString", "internal/bytealg.IndexByteString", "internal/bytealg.IndexString"], unfollowed := true, recurses := true, named := ["bursar/object.letters", "unicode/utf8.first", "unicode/utf8.acceptRanges", "internal/bytealg.MaxLen"], plainKeys := false, apart := false, laid := [("unicode/utf8.acceptRanges", laid_unicode_utf8_acceptRanges), ("bursar/object.letters", laid_bursar_object_letters), ("unicode/utf8.first", laid_unicode_utf8_first)] }
def AccessIsItsBindingsSaid : Prop := accessIsItsBindingsRow.holds Tryd.pinned (OpenSpec.ofChange accessIsItsBindingsSpec)

/-- ITS FALSE NEIGHBOUR: 'it returns false'. Refute it at one input. -/
def accessIsItsBindingsWrong : ChangeSpec := { name := "accessIsItsBindings", fn := fun _ => fun
  | [d1, d2] => { results := [.lit (.bool false)], args := [d1, d2] }
  | _ => none }
def AccessIsItsBindingsWrongFalsely : Prop := accessIsItsBindingsRow.holds Tryd.pinned (OpenSpec.ofChange accessIsItsBindingsWrong)

/-- 'bursarlaw21.AccessSays': WHATEVER THE INPUT: true; the input reads as it did. -/
def accessSaysSpec : ChangeSpec := { name := "accessSays", fn := fun _ => fun
  | [d1, d2, d3] => { results := [.lit (.bool true)], args := [d1, d2, d3] }
  | _ => none }
def accessSaysRow : OpenClaim := { program := "ytphddbijdfmpjaadoor", sum := "aee255d1242a907de98458eb7bd02ee2d1fca161e5053eae761371f17071f4a1", func := "bursar/bursarlaw21.AccessSays", spec := "accessSays", inPlace := ["internal/bytealg.CountString", "internal/bytealg.IndexByteString", "internal/bytealg.IndexString"], unfollowed := true, recurses := true, named := ["bursar/object.letters", "unicode/utf8.first", "unicode/utf8.acceptRanges", "internal/bytealg.MaxLen"], plainKeys := false, apart := false, laid := [("unicode/utf8.acceptRanges", laid_unicode_utf8_acceptRanges), ("bursar/object.letters", laid_bursar_object_letters), ("unicode/utf8.first", laid_unicode_utf8_first)] }
def AccessSaysSaid : Prop := accessSaysRow.holds Tryd.pinned (OpenSpec.ofChange accessSaysSpec)

/-- ITS FALSE NEIGHBOUR: 'it returns false'. Refute it at one input. -/
def accessSaysWrong : ChangeSpec := { name := "accessSays", fn := fun _ => fun
  | [d1, d2, d3] => { results := [.lit (.bool false)], args := [d1, d2, d3] }
  | _ => none }
def AccessSaysWrongFalsely : Prop := accessSaysRow.holds Tryd.pinned (OpenSpec.ofChange accessSaysWrong)

/-- 'bursarlaw21.AccessApart': WHATEVER THE INPUT: true; the input reads as it did. -/
def accessApartSpec : ChangeSpec := { name := "accessApart", fn := fun _ => fun
  | [d1, d2] => { results := [.lit (.bool true)], args := [d1, d2] }
  | _ => none }
def accessApartRow : OpenClaim := { program := "ytphddbijdfmpjaadoor", sum := "aee255d1242a907de98458eb7bd02ee2d1fca161e5053eae761371f17071f4a1", func := "bursar/bursarlaw21.AccessApart", spec := "accessApart", inPlace := ["internal/bytealg.CountString", "internal/bytealg.IndexByteString", "internal/bytealg.IndexString"], unfollowed := true, recurses := true, named := ["bursar/object.letters", "unicode/utf8.first", "unicode/utf8.acceptRanges", "internal/bytealg.MaxLen"], plainKeys := false, apart := false, laid := [("unicode/utf8.acceptRanges", laid_unicode_utf8_acceptRanges), ("bursar/object.letters", laid_bursar_object_letters), ("unicode/utf8.first", laid_unicode_utf8_first)] }
def AccessApartSaid : Prop := accessApartRow.holds Tryd.pinned (OpenSpec.ofChange accessApartSpec)

/-- ITS FALSE NEIGHBOUR: 'it returns false'. Refute it at one input. -/
def accessApartWrong : ChangeSpec := { name := "accessApart", fn := fun _ => fun
  | [d1, d2] => { results := [.lit (.bool false)], args := [d1, d2] }
  | _ => none }
def AccessApartWrongFalsely : Prop := accessApartRow.holds Tryd.pinned (OpenSpec.ofChange accessApartWrong)

/- THE SECOND FORM. 'bulk': how many values and letters a reading holds, each counted each time it is reached (what is shared counts as often as it is met; a slice's spare places count too). A statement '..UptoSaid' is the law's where the arguments, and the package variables that the reading takes, are together of bulk at most 1048576: NARROWER than '..Said'. Prove '..Said' where nothing that the law and all that it calls make is longer than what came in: it says more and counts as full. Else prove '..UptoSaid'. A law counts once. -/
mutual
def uptoBulk {H : Type} : DataW H → Nat
  | .lit (.string bytes) => bytes.length + 1
  | .lit _ => 1
  | .nil => 1
  | .ptr d => uptoBulk d + 1
  | .slice elems spare => uptoBulkAll elems + uptoBulkAll spare + 1
  | .agg parts => uptoBulkAll parts + 1
  | .iface _ d => uptoBulk d + 1
  | .map entries => uptoBulkEntries entries + 1
  | .held _ => 1
def uptoBulkAll {H : Type} : List (DataW H) → Nat
  | [] => 0
  | d :: r => uptoBulk d + uptoBulkAll r
def uptoBulkEntries {H : Type} : List (Lit × DataW H) → Nat
  | [] => 0
  | x :: r => uptoBulkEntry x + uptoBulkEntries r
def uptoBulkEntry {H : Type} : Lit × DataW H → Nat
  | (.string bytes, d) => bytes.length + uptoBulk d + 1
  | (_, d) => uptoBulk d + 1
 end
def uptoSmall : (H : Type) → List (DataW H) → Bool := fun _ ds => decide (uptoBulkAll ds ≤ 1048576)
def OpenSpec.upto (s : _root_.Go.ChangeSpec) : _root_.Go.OpenSpec := { _root_.Go.OpenSpec.ofChange s with cond := some uptoSmall }

/-- 'bursarlaw21.AccessGoesDown', WHERE WHAT IT READS IS OF BULK AT MOST 1048576: true; the input reads as it did. -/
def accessGoesDownUptoRow : OpenClaim := { program := "ytphddbijdfmpjaadoor", sum := "aee255d1242a907de98458eb7bd02ee2d1fca161e5053eae761371f17071f4a1", func := "bursar/bursarlaw21.AccessGoesDown", spec := "accessGoesDown", inPlace := ["internal/bytealg.CountString", "internal/bytealg.IndexByteString", "internal/bytealg.IndexString"], named := ["bursar/object.letters", "unicode/utf8.first", "unicode/utf8.acceptRanges", "internal/bytealg.MaxLen"], plainKeys := false, apart := false, laid := [("unicode/utf8.acceptRanges", laid_unicode_utf8_acceptRanges), ("bursar/object.letters", laid_bursar_object_letters), ("unicode/utf8.first", laid_unicode_utf8_first)], narrowed := true }
def AccessGoesDownUptoSaid : Prop := accessGoesDownUptoRow.holds Tryd.pinned (OpenSpec.upto accessGoesDownSpec)

/-- 'bursarlaw21.AccessOfMany', WHERE WHAT IT READS IS OF BULK AT MOST 1048576: true; the input reads as it did. -/
def accessOfManyUptoRow : OpenClaim := { program := "ytphddbijdfmpjaadoor", sum := "aee255d1242a907de98458eb7bd02ee2d1fca161e5053eae761371f17071f4a1", func := "bursar/bursarlaw21.AccessOfMany", spec := "accessOfMany", inPlace := ["internal/bytealg.CountString", "internal/bytealg.IndexByteString", "internal/bytealg.IndexString"], unfollowed := true, recurses := true, named := ["bursar/object.letters", "unicode/utf8.first", "unicode/utf8.acceptRanges", "internal/bytealg.MaxLen"], plainKeys := false, apart := false, laid := [("unicode/utf8.acceptRanges", laid_unicode_utf8_acceptRanges), ("bursar/object.letters", laid_bursar_object_letters), ("unicode/utf8.first", laid_unicode_utf8_first)], narrowed := true }
def AccessOfManyUptoSaid : Prop := accessOfManyUptoRow.holds Tryd.pinned (OpenSpec.upto accessOfManySpec)

/-- 'bursarlaw21.AccessHoldsSixteen', WHERE WHAT IT READS IS OF BULK AT MOST 1048576: true; the input reads as it did. -/
def accessHoldsSixteenUptoRow : OpenClaim := { program := "ytphddbijdfmpjaadoor", sum := "aee255d1242a907de98458eb7bd02ee2d1fca161e5053eae761371f17071f4a1", func := "bursar/bursarlaw21.AccessHoldsSixteen", spec := "accessHoldsSixteen", inPlace := ["internal/bytealg.CountString", "internal/bytealg.IndexByteString", "internal/bytealg.IndexString"], unfollowed := true, recurses := true, named := ["bursar/object.letters", "unicode/utf8.first", "unicode/utf8.acceptRanges", "internal/bytealg.MaxLen"], plainKeys := false, apart := false, laid := [("unicode/utf8.acceptRanges", laid_unicode_utf8_acceptRanges), ("bursar/object.letters", laid_bursar_object_letters), ("unicode/utf8.first", laid_unicode_utf8_first)], narrowed := true }
def AccessHoldsSixteenUptoSaid : Prop := accessHoldsSixteenUptoRow.holds Tryd.pinned (OpenSpec.upto accessHoldsSixteenSpec)

/-- 'bursarlaw21.AccessTouchesNoOther', WHERE WHAT IT READS IS OF BULK AT MOST 1048576: true; the input reads as it did. -/
def accessTouchesNoOtherUptoRow : OpenClaim := { program := "ytphddbijdfmpjaadoor", sum := "aee255d1242a907de98458eb7bd02ee2d1fca161e5053eae761371f17071f4a1", func := "bursar/bursarlaw21.AccessTouchesNoOther", spec := "accessTouchesNoOther", inPlace := ["internal/bytealg.CountString", "internal/bytealg.IndexByteString", "internal/bytealg.IndexString"], unfollowed := true, recurses := true, named := ["bursar/object.letters", "unicode/utf8.first", "unicode/utf8.acceptRanges", "internal/bytealg.MaxLen"], plainKeys := false, apart := false, laid := [("unicode/utf8.acceptRanges", laid_unicode_utf8_acceptRanges), ("bursar/object.letters", laid_bursar_object_letters), ("unicode/utf8.first", laid_unicode_utf8_first)], narrowed := true }
def AccessTouchesNoOtherUptoSaid : Prop := accessTouchesNoOtherUptoRow.holds Tryd.pinned (OpenSpec.upto accessTouchesNoOtherSpec)

/-- 'bursarlaw21.AccessIsItsBindings', WHERE WHAT IT READS IS OF BULK AT MOST 1048576: true; the input reads as it did. -/
def accessIsItsBindingsUptoRow : OpenClaim := { program := "ytphddbijdfmpjaadoor", sum := "aee255d1242a907de98458eb7bd02ee2d1fca161e5053eae761371f17071f4a1", func := "bursar/bursarlaw21.AccessIsItsBindings", spec := "accessIsItsBindings", inPlace := ["internal/bytealg.CountString", "internal/bytealg.IndexByteString", "internal/bytealg.IndexString"], unfollowed := true, recurses := true, named := ["bursar/object.letters", "unicode/utf8.first", "unicode/utf8.acceptRanges", "internal/bytealg.MaxLen"], plainKeys := false, apart := false, laid := [("unicode/utf8.acceptRanges", laid_unicode_utf8_acceptRanges), ("bursar/object.letters", laid_bursar_object_letters), ("unicode/utf8.first", laid_unicode_utf8_first)], narrowed := true }
def AccessIsItsBindingsUptoSaid : Prop := accessIsItsBindingsUptoRow.holds Tryd.pinned (OpenSpec.upto accessIsItsBindingsSpec)

/-- 'bursarlaw21.AccessSays', WHERE WHAT IT READS IS OF BULK AT MOST 1048576: true; the input reads as it did. -/
def accessSaysUptoRow : OpenClaim := { program := "ytphddbijdfmpjaadoor", sum := "aee255d1242a907de98458eb7bd02ee2d1fca161e5053eae761371f17071f4a1", func := "bursar/bursarlaw21.AccessSays", spec := "accessSays", inPlace := ["internal/bytealg.CountString", "internal/bytealg.IndexByteString", "internal/bytealg.IndexString"], unfollowed := true, recurses := true, named := ["bursar/object.letters", "unicode/utf8.first", "unicode/utf8.acceptRanges", "internal/bytealg.MaxLen"], plainKeys := false, apart := false, laid := [("unicode/utf8.acceptRanges", laid_unicode_utf8_acceptRanges), ("bursar/object.letters", laid_bursar_object_letters), ("unicode/utf8.first", laid_unicode_utf8_first)], narrowed := true }
def AccessSaysUptoSaid : Prop := accessSaysUptoRow.holds Tryd.pinned (OpenSpec.upto accessSaysSpec)

/-- 'bursarlaw21.AccessApart', WHERE WHAT IT READS IS OF BULK AT MOST 1048576: true; the input reads as it did. -/
def accessApartUptoRow : OpenClaim := { program := "ytphddbijdfmpjaadoor", sum := "aee255d1242a907de98458eb7bd02ee2d1fca161e5053eae761371f17071f4a1", func := "bursar/bursarlaw21.AccessApart", spec := "accessApart", inPlace := ["internal/bytealg.CountString", "internal/bytealg.IndexByteString", "internal/bytealg.IndexString"], unfollowed := true, recurses := true, named := ["bursar/object.letters", "unicode/utf8.first", "unicode/utf8.acceptRanges", "internal/bytealg.MaxLen"], plainKeys := false, apart := false, laid := [("unicode/utf8.acceptRanges", laid_unicode_utf8_acceptRanges), ("bursar/object.letters", laid_bursar_object_letters), ("unicode/utf8.first", laid_unicode_utf8_first)], narrowed := true }
def AccessApartUptoSaid : Prop := accessApartUptoRow.holds Tryd.pinned (OpenSpec.upto accessApartSpec)

end Rows
end Go.Proofs.YtphddbijdfmpjaaDoor
