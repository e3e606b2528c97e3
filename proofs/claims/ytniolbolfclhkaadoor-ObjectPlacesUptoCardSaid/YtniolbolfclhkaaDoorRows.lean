/-
  NARROWER THAN 'FOR EVERY INPUT', by the rows' own cells (each row's printed sentence says how): ObjectRefuses: laid · ObjectKeys: laid · ObjectPlaces: laid.
  DERIVED. THE GIVEN ROWS OF THIS SEAT. 3 by the template 'for every input the law returns true; each argument reads behind the call as it read before'; 0 by the template 'total and deterministic' (their statements: YtniolbolfclhkaaDoorTotals.lean).
  GIVEN WITH THE SEED: the statements are not yours to turn. If you find one false, say at which input.
  Laid BY PROGRAM, IN A SANDBOX (cutbox-rows.mjs): the forced cells as the released guide's own fill.sh prints them over the translation 9771bb255182f0ee… (all of the seat's roots in one cut). By AI agents, Wed Nov 11 2026. No macro, syntax, notation, axiom, sorry.
-/
import Derived.Test.YtniolbolfclhkaaDoorChecked
import GoSem.PinnedTables
import GoSem.Claim
import GoSem.ClaimJoined
import GoSem.ClaimMapViews
import Derived.JoinedTies
import Derived.KernelRfl
namespace Go.Proofs.YtniolbolfclhkaaDoor
/- THE CELL 'sum', in the pinned program and in every row, IS THE sha256 OF THE DUMP (.gsa) THAT YtniolbolfclhkaaDoorProg.lean LOADS. Nothing in Lean hashes anything: it is a label: what it is worth is what the hold of that sum in a sandbox is worth. -/
noncomputable def Tryd.pinned : Pinned := { name := "ytniolbolfclhkaadoor", sum := "9771bb255182f0eef4274036df001c08362773ce53c3d3dc49489f04259fea64", checked := Tryd.checked }
namespace Rows
def none {H : Type} : Left H := { results := [], args := [] }

/- WHAT THE LISTED PACKAGE-LEVEL VARIABLES READ AS WHEN THE CALL BEGINS. Each datum BY PROGRAM (the guide's laid-datum.mjs) off the statement by which the dump's own 'gosem.cut.vars' lays the variable. In a bare row this is a premise. The card (YtniolbolfclhkaaDoorCards.lean) ties it to the program's text. -/
def laid_unicode_utf8_acceptRanges {H : Type} : DataW H := .agg [.agg [.lit (.int .u8 128), .lit (.int .u8 191)], .agg [.lit (.int .u8 160), .lit (.int .u8 191)], .agg [.lit (.int .u8 128), .lit (.int .u8 159)], .agg [.lit (.int .u8 144), .lit (.int .u8 191)], .agg [.lit (.int .u8 128), .lit (.int .u8 143)], .agg [.lit (.int .u8 0), .lit (.int .u8 0)], .agg [.lit (.int .u8 0), .lit (.int .u8 0)], .agg [.lit (.int .u8 0), .lit (.int .u8 0)], .agg [.lit (.int .u8 0), .lit (.int .u8 0)], .agg [.lit (.int .u8 0), .lit (.int .u8 0)], .agg [.lit (.int .u8 0), .lit (.int .u8 0)], .agg [.lit (.int .u8 0), .lit (.int .u8 0)], .agg [.lit (.int .u8 0), .lit (.int .u8 0)], .agg [.lit (.int .u8 0), .lit (.int .u8 0)], .agg [.lit (.int .u8 0), .lit (.int .u8 0)], .agg [.lit (.int .u8 0), .lit (.int .u8 0)]]
def laid_bursar_object_letters {H : Type} : DataW H := .agg [.lit (.int .u8 0), .lit (.int .u8 81), .lit (.int .u8 76), .lit (.int .u8 79), .lit (.int .u8 66)]
/-- One of Go's own tables, pinned by name: the form's constant. -/
def laid_unicode_utf8_first : DataW Unit := Go.Pinned.utf8First

/-- 'bursarlaw13.ObjectRefuses': WHATEVER THE INPUT: true; the input reads as it did. -/
def objectRefusesSpec : ChangeSpec := { name := "objectRefuses", fn := fun _ => fun
  | [d1, d2] => { results := [.lit (.bool true)], args := [d1, d2] }
  | _ => none }
def objectRefusesRow : OpenClaim := { program := "ytniolbolfclhkaadoor", sum := "9771bb255182f0eef4274036df001c08362773ce53c3d3dc49489f04259fea64", func := "bursar/bursarlaw13.ObjectRefuses", spec := "objectRefuses", inPlace := ["internal/bytealg.CountString", "internal/bytealg.IndexByteString", "internal/bytealg.IndexString", "internal/abi.NoEscape", "internal/bytealg.MakeNoZero"], unfollowed := true, recurses := true, named := ["bursar/object.letters", "unicode/utf8.first", "unicode/utf8.acceptRanges", "internal/bytealg.MaxLen"], apart := false, laid := [("unicode/utf8.acceptRanges", laid_unicode_utf8_acceptRanges), ("bursar/object.letters", laid_bursar_object_letters), ("unicode/utf8.first", laid_unicode_utf8_first)] }
def ObjectRefusesSaid : Prop := objectRefusesRow.holds Tryd.pinned (OpenSpec.ofChange objectRefusesSpec)

/-- ITS FALSE NEIGHBOUR: 'it returns false'. Refute it at one input. -/
def objectRefusesWrong : ChangeSpec := { name := "objectRefuses", fn := fun _ => fun
  | [d1, d2] => { results := [.lit (.bool false)], args := [d1, d2] }
  | _ => none }
def ObjectRefusesWrongFalsely : Prop := objectRefusesRow.holds Tryd.pinned (OpenSpec.ofChange objectRefusesWrong)

/-- 'bursarlaw13.ObjectKeys': WHATEVER THE INPUT: true; the input reads as it did. -/
def objectKeysSpec : ChangeSpec := { name := "objectKeys", fn := fun _ => fun
  | [d1, d2, d3, d4] => { results := [.lit (.bool true)], args := [d1, d2, d3, d4] }
  | _ => none }
def objectKeysRow : OpenClaim := { program := "ytniolbolfclhkaadoor", sum := "9771bb255182f0eef4274036df001c08362773ce53c3d3dc49489f04259fea64", func := "bursar/bursarlaw13.ObjectKeys", spec := "objectKeys", inPlace := ["internal/bytealg.CountString", "internal/bytealg.IndexByteString", "internal/bytealg.IndexString", "internal/abi.NoEscape", "internal/bytealg.MakeNoZero"], unfollowed := true, recurses := true, named := ["bursar/object.letters", "unicode/utf8.first", "unicode/utf8.acceptRanges", "internal/bytealg.MaxLen"], apart := false, laid := [("unicode/utf8.acceptRanges", laid_unicode_utf8_acceptRanges), ("bursar/object.letters", laid_bursar_object_letters), ("unicode/utf8.first", laid_unicode_utf8_first)] }
def ObjectKeysSaid : Prop := objectKeysRow.holds Tryd.pinned (OpenSpec.ofChange objectKeysSpec)

/-- ITS FALSE NEIGHBOUR: 'it returns false'. Refute it at one input. -/
def objectKeysWrong : ChangeSpec := { name := "objectKeys", fn := fun _ => fun
  | [d1, d2, d3, d4] => { results := [.lit (.bool false)], args := [d1, d2, d3, d4] }
  | _ => none }
def ObjectKeysWrongFalsely : Prop := objectKeysRow.holds Tryd.pinned (OpenSpec.ofChange objectKeysWrong)

/-- 'bursarlaw13.ObjectPlaces': WHATEVER THE INPUT: true; the input reads as it did. -/
def objectPlacesSpec : ChangeSpec := { name := "objectPlaces", fn := fun _ => fun
  | [d1, d2, d3, d4, d5, d6, d7] => { results := [.lit (.bool true)], args := [d1, d2, d3, d4, d5, d6, d7] }
  | _ => none }
def objectPlacesRow : OpenClaim := { program := "ytniolbolfclhkaadoor", sum := "9771bb255182f0eef4274036df001c08362773ce53c3d3dc49489f04259fea64", func := "bursar/bursarlaw13.ObjectPlaces", spec := "objectPlaces", inPlace := ["internal/bytealg.CountString", "internal/bytealg.IndexByteString", "internal/bytealg.IndexString", "internal/abi.NoEscape", "internal/bytealg.MakeNoZero"], unfollowed := true, recurses := true, named := ["bursar/object.letters", "unicode/utf8.first", "unicode/utf8.acceptRanges", "internal/bytealg.MaxLen"], apart := false, laid := [("unicode/utf8.acceptRanges", laid_unicode_utf8_acceptRanges), ("bursar/object.letters", laid_bursar_object_letters), ("unicode/utf8.first", laid_unicode_utf8_first)] }
def ObjectPlacesSaid : Prop := objectPlacesRow.holds Tryd.pinned (OpenSpec.ofChange objectPlacesSpec)

/-- ITS FALSE NEIGHBOUR: 'it returns false'. Refute it at one input. -/
def objectPlacesWrong : ChangeSpec := { name := "objectPlaces", fn := fun _ => fun
  | [d1, d2, d3, d4, d5, d6, d7] => { results := [.lit (.bool false)], args := [d1, d2, d3, d4, d5, d6, d7] }
  | _ => none }
def ObjectPlacesWrongFalsely : Prop := objectPlacesRow.holds Tryd.pinned (OpenSpec.ofChange objectPlacesWrong)

/- THE SECOND FORM. 'bulk': how many values and letters a reading holds, each counted each time it is reached (what is shared counts as often as it is met; a slice's spare places count too). A statement '..UptoSaid' is the law's where the arguments, and the package variables that the reading takes, are together of bulk at most 1048576: NARROWER than '..Said'. Prove '..Said' where nothing that the law and all that it calls make is longer than what came in: it says more and counts as full. Else prove '..UptoSaid'. A law counts once. -/
mutual
def uptoBulk {H : Type} : DataW H → Nat
  | .lit (.string bytes) => bytes.length + 1
  | .lit _ => 1
  | .nil => 1
  | .ptr d => uptoBulk d + 1
  | .slice elems spare => uptoBulkAll elems + uptoBulkAll spare + 1
  | .agg parts => uptoBulkAll parts + 1
  | .iface _ d => uptoBulk d + 1
  | .map entries => uptoBulkEntries entries + 1
  | .held _ => 1
def uptoBulkAll {H : Type} : List (DataW H) → Nat
  | [] => 0
  | d :: r => uptoBulk d + uptoBulkAll r
def uptoBulkEntries {H : Type} : List (Lit × DataW H) → Nat
  | [] => 0
  | x :: r => uptoBulkEntry x + uptoBulkEntries r
def uptoBulkEntry {H : Type} : Lit × DataW H → Nat
  | (.string bytes, d) => bytes.length + uptoBulk d + 1
  | (_, d) => uptoBulk d + 1
 end
def uptoSmall : (H : Type) → List (DataW H) → Bool := fun _ ds => decide (uptoBulkAll ds ≤ 1048576)
def OpenSpec.upto (s : _root_.Go.ChangeSpec) : _root_.Go.OpenSpec := { _root_.Go.OpenSpec.ofChange s with cond := some uptoSmall }

/-- 'bursarlaw13.ObjectRefuses', WHERE WHAT IT READS IS OF BULK AT MOST 1048576: true; the input reads as it did. -/
def objectRefusesUptoRow : OpenClaim := { program := "ytniolbolfclhkaadoor", sum := "9771bb255182f0eef4274036df001c08362773ce53c3d3dc49489f04259fea64", func := "bursar/bursarlaw13.ObjectRefuses", spec := "objectRefuses", inPlace := ["internal/bytealg.CountString", "internal/bytealg.IndexByteString", "internal/bytealg.IndexString", "internal/abi.NoEscape", "internal/bytealg.MakeNoZero"], unfollowed := true, recurses := true, named := ["bursar/object.letters", "unicode/utf8.first", "unicode/utf8.acceptRanges", "internal/bytealg.MaxLen"], apart := false, laid := [("unicode/utf8.acceptRanges", laid_unicode_utf8_acceptRanges), ("bursar/object.letters", laid_bursar_object_letters), ("unicode/utf8.first", laid_unicode_utf8_first)], narrowed := true }
def ObjectRefusesUptoSaid : Prop := objectRefusesUptoRow.holds Tryd.pinned (OpenSpec.upto objectRefusesSpec)

/-- 'bursarlaw13.ObjectKeys', WHERE WHAT IT READS IS OF BULK AT MOST 1048576: true; the input reads as it did. -/
def objectKeysUptoRow : OpenClaim := { program := "ytniolbolfclhkaadoor", sum := "9771bb255182f0eef4274036df001c08362773ce53c3d3dc49489f04259fea64", func := "bursar/bursarlaw13.ObjectKeys", spec := "objectKeys", inPlace := ["internal/bytealg.CountString", "internal/bytealg.IndexByteString", "internal/bytealg.IndexString", "internal/abi.NoEscape", "internal/bytealg.MakeNoZero"], unfollowed := true, recurses := true, named := ["bursar/object.letters", "unicode/utf8.first", "unicode/utf8.acceptRanges", "internal/bytealg.MaxLen"], apart := false, laid := [("unicode/utf8.acceptRanges", laid_unicode_utf8_acceptRanges), ("bursar/object.letters", laid_bursar_object_letters), ("unicode/utf8.first", laid_unicode_utf8_first)], narrowed := true }
def ObjectKeysUptoSaid : Prop := objectKeysUptoRow.holds Tryd.pinned (OpenSpec.upto objectKeysSpec)

/-- 'bursarlaw13.ObjectPlaces', WHERE WHAT IT READS IS OF BULK AT MOST 1048576: true; the input reads as it did. -/
def objectPlacesUptoRow : OpenClaim := { program := "ytniolbolfclhkaadoor", sum := "9771bb255182f0eef4274036df001c08362773ce53c3d3dc49489f04259fea64", func := "bursar/bursarlaw13.ObjectPlaces", spec := "objectPlaces", inPlace := ["internal/bytealg.CountString", "internal/bytealg.IndexByteString", "internal/bytealg.IndexString", "internal/abi.NoEscape", "internal/bytealg.MakeNoZero"], unfollowed := true, recurses := true, named := ["bursar/object.letters", "unicode/utf8.first", "unicode/utf8.acceptRanges", "internal/bytealg.MaxLen"], apart := false, laid := [("unicode/utf8.acceptRanges", laid_unicode_utf8_acceptRanges), ("bursar/object.letters", laid_bursar_object_letters), ("unicode/utf8.first", laid_unicode_utf8_first)], narrowed := true }
def ObjectPlacesUptoSaid : Prop := objectPlacesUptoRow.holds Tryd.pinned (OpenSpec.upto objectPlacesSpec)

end Rows
end Go.Proofs.YtniolbolfclhkaaDoor
