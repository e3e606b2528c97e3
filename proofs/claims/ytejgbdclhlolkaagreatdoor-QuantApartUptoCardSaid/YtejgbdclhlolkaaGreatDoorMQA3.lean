/- What the statement QuantApartUptoCardSaid rests on, part 3 of 5: walks and plain laws; what of the printer's words it leans on. -/
import Derived.Test.YtejgbdclhlolkaaGreatDoorProg
import Derived.Test.YtejgbdclhlolkaaGreatDoorMQA1
import Derived.Test.YtejgbdclhlolkaaGreatDoorMQA2
import Derived.Below
import Derived.Deep.Draws
import Derived.Deep.AppendLies
import Derived.Maps.AppendAt
import Derived.OwnWalk
import Derived.Laws.BytesArg
import Derived.Laws.MakeOwn
import Derived.Laws.OwnMore
import Derived.Deep.OwnRows
import Derived.Tactics
import Derived.Lib.ConvBytes
import Derived.Laws.Slices
import Derived.WalkKit
import Derived.KernelRfl
import Derived.RowKit3
import Derived.Deep.LoopGhost
import Derived.Deep.QuietTactic
import Derived.BigQuiet
import Derived.WideLaws
import Derived.Deep.DeepCutAuto
import Derived.Deep.CutBlock
import Derived.Deep.RegionHeld3
import Derived.Laws.Rows
import Derived.Lib.AppendStr
import Derived.ArgAppend
import Derived.Laws.IdiomCopy
import Derived.OrdersHeld
import Derived.Laws.BitsLemmas
import Derived.RowKit
import Derived.Shelf.Strings.Trim
import Derived.Shelf.Small.Utf8
import Derived.Shelf.Small.Bits
import Derived.Shelf.Small.Strs
import Derived.Shelf.Utf8.RuneCount
import Derived.Shelf.Strconv.Itoa0
import Derived.Shelf.Strconv.Itoa1
import Derived.Shelf.LaysM
import Derived.Shelf.Strconv.Itoa2
import Derived.Shelf.Strconv.Itoa3
import Derived.Shelf.Strconv.Itoa4
import Derived.Shelf.Strconv.Clone
import Derived.Shelf.Strconv.SyntaxError
import Derived.Shelf.LaysC
import Derived.Shelf.Strconv.ToError
import Derived.Shelf.Strconv.Lower
import Derived.Shelf.Strconv.ParseUint10
import Derived.Shelf.Strconv.ParseUint10Empty
import Derived.Shelf.Strconv.ParseUint10Any
import Derived.Shelf.Strconv.RangeError
import Derived.Shelf.Strconv.ToErrorRange
import Derived.Shelf.Strconv.ParseUintEmpty
import Derived.Shelf.Strconv.ParseUint10b64
import Derived.Shelf.Strconv.ParseUint10b32
import Derived.Shelf.Strconv.ParseUint10b16
import Derived.Shelf.Strconv.ParseUint10b8
import Derived.Shelf.Strconv.ParseUint10At
import Derived.Ground.MpProg
import Derived.Shelf.Pu.ParseUintPublic10
import Derived.Shelf.Pu.ErrVarParseUint
import Derived.Shelf.Strings.Search1
import Derived.Shelf.Strings.Search2
import Derived.Shelf.Strings.Search3
import Derived.Shelf.Strings.Cut
import Derived.Shelf.Strings.Count
import Derived.Shelf.Strings.Shaped
import Derived.Shelf.Strings.Prefix
import Derived.Shelf.Strings.Split
import Derived.Shelf.Strings.SplitShaped
import Derived.Shelf.Unicode.Decode
import Derived.Shelf.Strings.Runes
import Derived.Shelf.Strings.RuneCount
import Derived.Shelf.Strings.AsciiSet
import Derived.Shelf.Strings.Explode
import Derived.Shelf.Bits.Mul64
import Derived.Shelf.Unicode.DecodeSlow
import Derived.Shelf.Unicode.DecodeAny
import Derived.Shelf.Unicode.DecodeLast
import Derived.Lib.SplitLaws
import Derived.Lib.ItoaMem
import Derived.Lib.AppendIntMem
import Derived.Shelf.Strings.SlTrimAscii
import Derived.Lib.AtoiErrMem
import Derived.Shelf.SlGeneric
import Derived.Shelf.SlSortCmp.WholeK
import Derived.Ground.SlsfProg
import Derived.Ground.NamesProg
namespace Go.Proofs.YtejgbdclhlolkaaGreatDoor.Q
open Go.RowKit Go.Proofs.YtejgbdclhlolkaaGreatDoorW.PrintWords Go.Proofs.YtejgbdclhlolkaaGreatDoorW.PrintLast Go.Proofs.YtejgbdclhlolkaaGreatDoorW.PrintMore
attribute [local go_sem] max2_int min2_int max_two min_two max_three min_three max_four min_four   -- for this text's walks alone
set_option linter.unusedVariables false
set_option linter.unusedSimpArgs false
def errW : Option Int → Value
  | none => .nilIface
  | some c => .iface 0 (.int .i64 c)
theorem errW_none : errW none = .nilIface := rfl
theorem errW_some (c : Int) : errW (some c) = .iface 0 (.int .i64 c) := rfl
theorem info57 : (Tryz.prog.info? 57).map (fun i => (i.zero, i.size, i.bytes)) = some (some (.agg #[(.string ⟨#[]⟩), (.int .i64 0)]), 2, 24) := by kernel_rfl
structure S57 where
  f0 : ByteArray
  f1 : Int
def z57 : S57 := ⟨(⟨#[]⟩ : ByteArray), (0 : Int)⟩
def k57 : Kd S57 := Kd.iso (Kd.pair Kd.string (Kd.int .i64)) (fun x : S57 => (x.f0, x.f1))
theorem k57_open {w : World} {x : S57} {cs : List Value} (h : k57.K w x cs) : cs = [.string x.f0, .int .i64 x.f1] := by
  obtain ⟨_, _, rfl, rfl, rfl⟩ := h
  exact rfl
theorem k57_openM {w : World} {base : Nat} {ok : Nat → Prop} {x : S57} {cs : List Value} (h : k57.M w base ok x cs) : cs = [.string x.f0, .int .i64 x.f1] := by
  obtain ⟨_, _, rfl, rfl, rfl⟩ := h
  exact rfl
theorem k57_mkM (w : World) (base : Nat) (ok : Nat → Prop) (x : S57)  : k57.M w base ok x [.string x.f0, .int .i64 x.f1] := ⟨[.string x.f0], [.int .i64 x.f1], rfl, rfl, rfl⟩
def rd_T57 (xs : List S57) (i : Int) : S57 := xs.getD i.toNat z57
theorem at_T57 {w : World} {A : Option Addr} {n : Nat} {xs : List S57} (h : Kd.C k57 w A n xs) (i : Int) (h0 : 0 ≤ i) (h1 : i < n) : ∃ ad , A = some ad ∧ w.cell? (ad.add (i.toNat * 2)) = some (.string (rd_T57 xs i).f0) ∧ w.cell? ⟨(ad.add (i.toNat * 2)).block, (ad.add (i.toNat * 2)).off + 1, none⟩ = some (.int .i64 (rd_T57 xs i).f1) := by
  obtain ⟨ad, c, e, _, hK, hc0⟩ := Kd.C_get h z57 i h0 h1
  have hc : ∀ j u, c[j]? = some u → w.cell? (ad.add (i.toNat * 2 + j)) = some u := hc0
  obtain rfl := k57_open hK
  exact ⟨ad, e, hc 0 _ rfl, by rw [← add_field _ _ 1 (by omega)]; exact hc 1 _ rfl⟩
def rd_L3 (xs : List (List S57)) (i : Int) : (List S57) := xs.getD i.toNat ([] : List S57)
theorem at_L3 {w : World} {A : Option Addr} {n : Nat} {xs : List (List S57)} (h : Kd.C (Kd.slice 57 k57) w A n xs) (i : Int) (h0 : 0 ≤ i) (h1 : i < n) : ∃ ad A0 c0, A = some ad ∧ w.cell? (ad.add i.toNat) = some (.slice A0 (rd_L3 xs i).length c0) ∧ (rd_L3 xs i).length ≤ c0 ∧ k57.C w A0 (rd_L3 xs i).length (rd_L3 xs i) := by
  obtain ⟨ad, c, e, _, hK, hc0⟩ := Kd.C_get h ([] : List S57) i h0 h1
  have hc : ∀ j u, c[j]? = some u → w.cell? (ad.add (i.toNat * 1 + j)) = some u := hc0
  obtain ⟨A0, c0, rfl, l0, g0⟩ := hK
  exact ⟨ad, A0, c0, e, by have hq := hc 0 _ rfl; rwa [Nat.mul_one, Nat.add_zero] at hq, l0, g0⟩
structure S66 where
  f0 : ByteArray
  f1 : Int
def z66 : S66 := ⟨(⟨#[]⟩ : ByteArray), (0 : Int)⟩
def k66 : Kd S66 := Kd.iso (Kd.pair Kd.string (Kd.int .u64)) (fun x : S66 => (x.f0, x.f1))
theorem k66_open {w : World} {x : S66} {cs : List Value} (h : k66.K w x cs) : cs = [.string x.f0, .int .u64 x.f1] := by
  obtain ⟨_, _, rfl, rfl, rfl⟩ := h
  exact rfl
theorem k66_mk (w : World) (x : S66)  : k66.K w x [.string x.f0, .int .u64 x.f1] := ⟨[.string x.f0], [.int .u64 x.f1], rfl, rfl, rfl⟩
def rd_T66 (xs : List S66) (i : Int) : S66 := xs.getD i.toNat z66
theorem at_T66 {w : World} {A : Option Addr} {n : Nat} {xs : List S66} (h : Kd.C k66 w A n xs) (i : Int) (h0 : 0 ≤ i) (h1 : i < n) : ∃ ad , A = some ad ∧ w.cell? (ad.add (i.toNat * 2)) = some (.string (rd_T66 xs i).f0) ∧ w.cell? ⟨(ad.add (i.toNat * 2)).block, (ad.add (i.toNat * 2)).off + 1, none⟩ = some (.int .u64 (rd_T66 xs i).f1) := by
  obtain ⟨ad, c, e, _, hK, hc0⟩ := Kd.C_get h z66 i h0 h1
  have hc : ∀ j u, c[j]? = some u → w.cell? (ad.add (i.toNat * 2 + j)) = some u := hc0
  obtain rfl := k66_open hK
  exact ⟨ad, e, hc 0 _ rfl, by rw [← add_field _ _ 1 (by omega)]; exact hc 1 _ rfl⟩
end Go.Proofs.YtejgbdclhlolkaaGreatDoor.Q
namespace Go.Proofs.YtejgbdclhlolkaaGreatDoor.Q
open Go.RowKit Go.Proofs.YtejgbdclhlolkaaGreatDoorW.PrintWords Go.Proofs.YtejgbdclhlolkaaGreatDoorW.PrintLast
theorem pu_ : (∀ (a : Act) (d : Tmp) (v : Value), a.put (some d) v = { tmps := a.tmps.setIfInBounds d v, defers := a.defers }) ∧ (∀ (a : Act) (v : Value), a.put none v = a) ∧ (∀ (l : List Value) (i : Nat) (x : Value), l.toArray.setIfInBounds i x = (l.set i x).toArray) ∧ (∀ (x a : Value) (xs : List Value), (x :: xs).set 0 a = a :: xs) ∧ (∀ (x a : Value) (xs : List Value) (i : Nat), (x :: xs).set (i + 1) a = x :: xs.set i a) ∧ (∀ n : Int, IntKind.i64.wrap n = wrap64 n) ∧ (∀ n : Int, IntKind.i32.wrap n = wrap32 n) :=
  ⟨fun _ _ _ => rfl, fun _ _ => rfl, fun _ _ _ => List.setIfInBounds_toArray .., fun _ _ _ => rfl, fun _ _ _ _ => rfl, i64_w, i32_w⟩
end Go.Proofs.YtejgbdclhlolkaaGreatDoor.Q
namespace Go.Proofs.YtejgbdclhlolkaaGreatDoor.Q
end Go.Proofs.YtejgbdclhlolkaaGreatDoor.Q
namespace Go.Proofs.YtejgbdclhlolkaaGreatDoor.Q
open Go.RowKit Go.Proofs.YtejgbdclhlolkaaGreatDoorW.PrintWords Go.Proofs.YtejgbdclhlolkaaGreatDoorW.PrintLast Go.Proofs.YtejgbdclhlolkaaGreatDoorW.PrintMore
attribute [local go_sem] max2_int min2_int max_two min_two max_three min_three max_four min_four   -- for this text's walks alone
set_option linter.unusedVariables false
set_option linter.unusedSimpArgs false
theorem eqA57 (d : Nat) (w : World) (x0 y0 : ByteArray) (x1 y1 : Int) :
  (Op.equalIn (d + 2) 57 (.agg #[.string x0,.int .i64 x1]) (.agg #[.string y0,.int .i64 y1])).run Tryz.prog w = .ok (x0.toList == y0.toList && (x1 == y1)) w:=by
 refine eqA_of Tryz.underlying57 (by kernel_rfl) ?_
 refine eqf_cons (by rfl) (by go_simp;rfl) (by go_simp;rfl) (by go_simp) ?_
 exact eqf_last (by rfl) (by go_simp;rfl) (by go_simp;rfl) (by go_simp)
end Go.Proofs.YtejgbdclhlolkaaGreatDoor.Q
namespace Go.Proofs
open Go.Shelf
def Tryz.lays160_ren : Go.Shelf.Ren := ⟨fun | 160 => 80 | 232 => 101 | 231 => 100 | 227 => 102 | 234 => 104 | 233 => 103 | 236 => 106 | 235 => 105 | 228 => 125 | 271 => 128 | 151 => 127 | 197 => 126 | 120 => 151 | 152 => 150 | 260 => 149 | 137 => 160 | 119 => 161 | 224 => 123 | 225 => 122 | 217 => 121 | 266 => 147 | n => n, fun | 9 => 9 | 4 => 4 | 3 => 3 | 5 => 5 | 117 => 120 | 116 => 119 | 0 => 0 | 124 => 123 | 21 => 21 | 105 => 137 | 46 => 35 | 119 => 170 | 139 => 173 | 138 => 172 | n => n, fun | 3 => 10 | 4 => 11 | n => n⟩
theorem Tryz.lays160 : Go.Proofs.Lays.n160 Tryz.prog Tryz.lays160_ren := {
  mixed := by kernel_rfl
  f119 := Tryz.func161.trans (congrArg some (by kernel_rfl))
  f120 := Tryz.func151.trans (congrArg some (by kernel_rfl))
  f137 := Tryz.func160.trans (congrArg some (by kernel_rfl))
  f151 := Tryz.func127.trans (congrArg some (by kernel_rfl))
  f152 := Tryz.func150.trans (congrArg some (by kernel_rfl))
  f160 := Tryz.func80.trans (congrArg some (by kernel_rfl))
  f197 := Tryz.func126.trans (congrArg some (by kernel_rfl))
  f217 := Tryz.func121.trans (congrArg some (by kernel_rfl))
  f224 := Tryz.func123.trans (congrArg some (by kernel_rfl))
  f225 := Tryz.func122.trans (congrArg some (by kernel_rfl))
  f227 := Tryz.func102.trans (congrArg some (by kernel_rfl))
  f228 := Tryz.func125.trans (congrArg some (by kernel_rfl))
  f231 := Tryz.func100.trans (congrArg some (by kernel_rfl))
  f232 := Tryz.func101.trans (congrArg some (by kernel_rfl))
  f233 := Tryz.func103.trans (congrArg some (by kernel_rfl))
  f234 := Tryz.func104.trans (congrArg some (by kernel_rfl))
  f235 := Tryz.func105.trans (congrArg some (by kernel_rfl))
  f236 := Tryz.func106.trans (congrArg some (by kernel_rfl))
  f260 := Tryz.func149.trans (congrArg some (by kernel_rfl))
  f266 := Tryz.func147.trans (congrArg some (by kernel_rfl))
  f271 := Tryz.func128.trans (congrArg some (by kernel_rfl))
  t0 := Tryz.underlying0
  a0 := Tryz.isAgg0
  z0 := Tryz.sizeOf0
  v0 := Tryz.zeroValue0
  t3 := Tryz.underlying3
  a3 := Tryz.isAgg3
  z3 := Tryz.sizeOf3
  v3 := Tryz.zeroValue3
  t4 := Tryz.underlying4
  a4 := Tryz.isAgg4
  z4 := Tryz.sizeOf4
  v4 := Tryz.zeroValue4
  t5 := Tryz.underlying5
  a5 := Tryz.isAgg5
  z5 := Tryz.sizeOf5
  v5 := Tryz.zeroValue5
  t9 := Tryz.underlying9
  a9 := Tryz.isAgg9
  z9 := Tryz.sizeOf9
  v9 := Tryz.zeroValue9
  t21 := Tryz.underlying21
  a21 := Tryz.isAgg21
  z21 := Tryz.sizeOf21
  v21 := Tryz.zeroValue21
  t46 := Tryz.underlying35
  a46 := Tryz.isAgg35
  z46 := Tryz.sizeOf35
  v46 := Tryz.zeroValue35
  t105 := Tryz.underlying137
  a105 := Tryz.isAgg137
  z105 := Tryz.sizeOf137
  v105 := Tryz.zeroValue137
  t116 := Tryz.underlying119
  a116 := Tryz.isAgg119
  z116 := Tryz.sizeOf119
  t117 := Tryz.underlying120
  a117 := Tryz.isAgg120
  z117 := Tryz.sizeOf120
  v117 := Tryz.zeroValue120
  t119 := Tryz.underlying170
  a119 := Tryz.isAgg170
  z119 := Tryz.sizeOf170
  t124 := Tryz.underlying123
  a124 := Tryz.isAgg123
  z124 := Tryz.sizeOf123
  v124 := Tryz.zeroValue123
  t138 := Tryz.underlying172
  a138 := Tryz.isAgg172
  z138 := Tryz.sizeOf172
  v138 := Tryz.zeroValue172
  t139 := Tryz.underlying173
  a139 := Tryz.isAgg173
  z139 := Tryz.sizeOf173
  v139 := Tryz.zeroValue173
  g3 := by kernel_rfl
  g4 := by kernel_rfl }
def Tryz.lays134_ren : Go.Shelf.Ren := ⟨fun | 134 => 67 | 129 => 91 | n => n, fun | 53 => 36 | 3 => 3 | 4 => 4 | 46 => 35 | 5 => 5 | 9 => 9 | n => n, fun | n => n⟩
theorem Tryz.lays134 : Go.Proofs.Lays.n134 Tryz.prog Tryz.lays134_ren := {
  mixed := by kernel_rfl
  f129 := Tryz.func91.trans (congrArg some (by kernel_rfl))
  f134 := Tryz.func67.trans (congrArg some (by kernel_rfl))
  t3 := Tryz.underlying3
  a3 := Tryz.isAgg3
  z3 := Tryz.sizeOf3
  v3 := Tryz.zeroValue3
  t4 := Tryz.underlying4
  a4 := Tryz.isAgg4
  z4 := Tryz.sizeOf4
  v4 := Tryz.zeroValue4
  t5 := Tryz.underlying5
  a5 := Tryz.isAgg5
  z5 := Tryz.sizeOf5
  v5 := Tryz.zeroValue5
  t9 := Tryz.underlying9
  a9 := Tryz.isAgg9
  z9 := Tryz.sizeOf9
  v9 := Tryz.zeroValue9
  t46 := Tryz.underlying35
  a46 := Tryz.isAgg35
  z46 := Tryz.sizeOf35
  v46 := Tryz.zeroValue35
  t53 := Tryz.underlying36
  a53 := Tryz.isAgg36
  z53 := Tryz.sizeOf36
  v53 := Tryz.zeroValue36 }
theorem Tryz.bits_LeadingZeros64 (x : Int) (w : World) (h0 : 0 ≤ x) (h1 : x ≤ 18446744073709551615) :
    Calls Tryz.prog 67 #[.int .u64 x] w fun e w' => e = .returned (.int .i64 (64 - (Lib.bitLen x.toNat : Int))) ∧ w' = w := Any.bits_LeadingZeros64 Tryz.lays134 x w h0 h1
def Tryz.lays213_ren : Go.Shelf.Ren := ⟨fun | 213 => 120 | 265 => 146 | n => n, fun | 9 => 9 | 3 => 3 | n => n, fun | n => n⟩
def Tryz.lays106_ren : Go.Shelf.Ren := ⟨fun | 106 => 97 | 213 => 120 | 265 => 146 | n => n, fun | 9 => 9 | 3 => 3 | n => n, fun | n => n⟩
theorem Tryz.lays106 : Go.Proofs.Lays.n106 Tryz.prog Tryz.lays106_ren := {
  mixed := by kernel_rfl
  f106 := Tryz.func97.trans (congrArg some (by kernel_rfl))
  f213 := Tryz.func120.trans (congrArg some (by kernel_rfl))
  f265 := Tryz.func146.trans (congrArg some (by kernel_rfl))
  t3 := Tryz.underlying3
  a3 := Tryz.isAgg3
  z3 := Tryz.sizeOf3
  v3 := Tryz.zeroValue3
  t9 := Tryz.underlying9
  a9 := Tryz.isAgg9
  z9 := Tryz.sizeOf9
  v9 := Tryz.zeroValue9 }
open Go.RowKit in
theorem Tryz.strings_Compare (a b : ByteArray) (w : World) :
    Calls Tryz.prog 97 #[.string a, .string b] w fun e w' => e = .returned (.int .i64 (Lib.compareBytes a.data.toList b.data.toList)) ∧ w' = w := Any.strings_Compare Tryz.lays106 a b w
def Tryz.lays137_ren : Go.Shelf.Ren := ⟨fun | 137 => 160 | 217 => 121 | 266 => 147 | n => n, fun | 9 => 9 | 5 => 5 | 3 => 3 | n => n, fun | n => n⟩
def Tryz.lays283_ren : Go.Shelf.Ren := ⟨fun | 283 => 87 | n => n, fun | 3 => 3 | 9 => 9 | 4 => 4 | n => n, fun | n => n⟩
theorem Tryz.lays283 : Go.Proofs.Lays.n283 Tryz.prog Tryz.lays283_ren := {
  mixed := by kernel_rfl
  f283 := Tryz.func87.trans (congrArg some (by kernel_rfl))
  t3 := Tryz.underlying3
  a3 := Tryz.isAgg3
  z3 := Tryz.sizeOf3
  v3 := Tryz.zeroValue3
  t4 := Tryz.underlying4
  a4 := Tryz.isAgg4
  z4 := Tryz.sizeOf4
  v4 := Tryz.zeroValue4
  t9 := Tryz.underlying9
  a9 := Tryz.isAgg9
  z9 := Tryz.sizeOf9
  v9 := Tryz.zeroValue9 }
open Go.Lib in
theorem Tryz.internal_strconv_small (i : Nat) (h : i < 100) (w : World) :
    Calls Tryz.prog 87 #[.int .i64 i] w fun e w' => e = .returned (.string ⟨(Lib.decDigits i).toArray⟩) ∧ w' = w := Any.internal_strconv_small Tryz.lays283 i h w
def Tryz.laysM284_ren : Go.Shelf.Ren := ⟨fun | 284 => 88 | 129 => 91 | 317 => 113 | 318 => 114 | n => n, fun | 53 => 36 | 3 => 3 | 212 => 130 | 0 => 0 | 4 => 4 | 46 => 35 | 5 => 5 | 9 => 9 | n => n, fun | 17 => 4 | n => n⟩
theorem Tryz.laysM284 : Go.Proofs.LaysM.n284 Tryz.prog Tryz.laysM284_ren := {
  mixed := by kernel_rfl
  f129 := Tryz.func91.trans (congrArg some (by kernel_rfl))
  f284 := Tryz.func88.trans (congrArg some (by kernel_rfl))
  f317 := Tryz.func113.trans (congrArg some (by kernel_rfl))
  f318 := Tryz.func114.trans (congrArg some (by kernel_rfl))
  t0 := Tryz.underlying0
  a0 := Tryz.isAgg0
  z0 := Tryz.sizeOf0
  v0 := Tryz.zeroValue0
  t3 := Tryz.underlying3
  a3 := Tryz.isAgg3
  z3 := Tryz.sizeOf3
  v3 := Tryz.zeroValue3
  t4 := Tryz.underlying4
  a4 := Tryz.isAgg4
  z4 := Tryz.sizeOf4
  v4 := Tryz.zeroValue4
  t5 := Tryz.underlying5
  a5 := Tryz.isAgg5
  z5 := Tryz.sizeOf5
  v5 := Tryz.zeroValue5
  t9 := Tryz.underlying9
  a9 := Tryz.isAgg9
  z9 := Tryz.sizeOf9
  v9 := Tryz.zeroValue9
  t46 := Tryz.underlying35
  a46 := Tryz.isAgg35
  z46 := Tryz.sizeOf35
  v46 := Tryz.zeroValue35
  t53 := Tryz.underlying36
  a53 := Tryz.isAgg36
  z53 := Tryz.sizeOf36
  v53 := Tryz.zeroValue36
  t212 := Tryz.underlying130
  a212 := Tryz.isAgg130
  z212 := Tryz.sizeOf130
  v212 := Tryz.zeroValue130
  g17 := by kernel_rfl
  i0 := by kernel_rfl
  i3 := by kernel_rfl
  i4 := by kernel_rfl
  i5 := by kernel_rfl
  i9 := by kernel_rfl
  i46 := by kernel_rfl
  i53 := by kernel_rfl
  i212 := by kernel_rfl
  m17 := by kernel_rfl }
open Go.Lib in
theorem Tryz.internal_strconv_numDigits (u : Nat) (h1 : 1 ≤ u) (h2 : u < 18446744073709551616) (w : World) (htab : Lib.TabIs Tryz.prog w "internal/strconv.uint64pow10" .u64 Lib.pow10Tab) :
    Calls Tryz.prog 88 #[.int .u64 u] w fun e w' => e = .returned (.int .i64 (Lib.nDigits u)) ∧ w' = w := Any.internal_strconv_numDigits Tryz.laysM284 u h1 h2 w htab
def Tryz.lays285_ren : Go.Shelf.Ren := ⟨fun | 285 => 89 | n => n, fun | 37 => 108 | 53 => 36 | 3 => 3 | 4 => 4 | 51 => 34 | 9 => 9 | 5 => 5 | 0 => 0 | n => n, fun | n => n⟩
theorem Tryz.lays285 : Go.Proofs.Lays.n285 Tryz.prog Tryz.lays285_ren := {
  mixed := by kernel_rfl
  f285 := Tryz.func89.trans (congrArg some (by kernel_rfl))
  t0 := Tryz.underlying0
  a0 := Tryz.isAgg0
  z0 := Tryz.sizeOf0
  v0 := Tryz.zeroValue0
  t3 := Tryz.underlying3
  a3 := Tryz.isAgg3
  z3 := Tryz.sizeOf3
  v3 := Tryz.zeroValue3
  t4 := Tryz.underlying4
  a4 := Tryz.isAgg4
  z4 := Tryz.sizeOf4
  v4 := Tryz.zeroValue4
  t5 := Tryz.underlying5
  a5 := Tryz.isAgg5
  z5 := Tryz.sizeOf5
  v5 := Tryz.zeroValue5
  t9 := Tryz.underlying9
  a9 := Tryz.isAgg9
  z9 := Tryz.sizeOf9
  v9 := Tryz.zeroValue9
  t37 := Tryz.underlying108
  a37 := Tryz.isAgg108
  z37 := Tryz.sizeOf108
  v37 := Tryz.zeroValue108
  t51 := Tryz.underlying34
  a51 := Tryz.isAgg34
  z51 := Tryz.sizeOf34
  v51 := Tryz.zeroValue34
  t53 := Tryz.underlying36
  a53 := Tryz.isAgg36
  z53 := Tryz.sizeOf36
  v53 := Tryz.zeroValue36 }
open Go.RowKit Go.Sort Go.Lib in
theorem Tryz.internal_strconv_formatBase10 (blk off cap : Nat) (u : Nat) (d : Array UInt8) (w : World) (hH : Holds (fun (b : UInt8) => Value.int .u8 (b.toNat : Int)) w blk off d) (hu : u < 10 ^ d.size) (hu64 : u < 18446744073709551616) (hsz : d.size < 4611686018427387904) :
    Calls Tryz.prog 89 #[.slice (some ⟨blk, off, none⟩) d.size cap, .int .u64 u] w fun e w' =>
      e = .returned (.tuple #[]) ∧ ∃ (n v' : Nat) (dk : Array UInt8), w' = (putRow (fun (b : UInt8) => Value.int .u8 (b.toNat : Int)) w blk off dk).drewN n ∧ FmtInv d.size u 0 v' dk := Any.internal_strconv_formatBase10 Tryz.lays285 blk off cap u d w hH hu hu64 hsz
def Tryz.laysM246_ren : Go.Shelf.Ren := ⟨fun | 246 => 65 | 283 => 87 | 284 => 88 | 285 => 89 | 286 => 90 | 129 => 91 | 317 => 113 | 318 => 114 | 319 => 115 | 320 => 116 | 337 => 132 | 338 => 133 | n => n, fun | 2 => 2 | 3 => 3 | 9 => 9 | 4 => 4 | 171 => 106 | 0 => 0 | 53 => 36 | 37 => 108 | 5 => 5 | 173 => 109 | 212 => 130 | 51 => 34 | 20 => 20 | 213 => 131 | 46 => 35 | 232 => 161 | 233 => 162 | n => n, fun | 17 => 4 | 18 => 8 | 19 => 9 | n => n⟩
def Tryz.laysM173_ren : Go.Shelf.Ren := ⟨fun | 173 => 21 | 246 => 65 | 283 => 87 | 284 => 88 | 285 => 89 | 286 => 90 | 129 => 91 | 317 => 113 | 318 => 114 | 319 => 115 | 320 => 116 | 337 => 132 | 338 => 133 | n => n, fun | 2 => 2 | 3 => 3 | 9 => 9 | 4 => 4 | 171 => 106 | 0 => 0 | 53 => 36 | 37 => 108 | 5 => 5 | 173 => 109 | 212 => 130 | 51 => 34 | 20 => 20 | 213 => 131 | 46 => 35 | 232 => 161 | 233 => 162 | n => n, fun | 17 => 4 | 18 => 8 | 19 => 9 | n => n⟩
theorem Tryz.laysM173 : Go.Proofs.LaysM.n173 Tryz.prog Tryz.laysM173_ren := {
  mixed := by kernel_rfl
  f129 := Tryz.func91.trans (congrArg some (by kernel_rfl))
  f173 := Tryz.func21.trans (congrArg some (by kernel_rfl))
  f246 := Tryz.func65.trans (congrArg some (by kernel_rfl))
  f283 := Tryz.func87.trans (congrArg some (by kernel_rfl))
  f284 := Tryz.func88.trans (congrArg some (by kernel_rfl))
  f285 := Tryz.func89.trans (congrArg some (by kernel_rfl))
  f286 := Tryz.func90.trans (congrArg some (by kernel_rfl))
  f317 := Tryz.func113.trans (congrArg some (by kernel_rfl))
  f318 := Tryz.func114.trans (congrArg some (by kernel_rfl))
  f319 := Tryz.func115.trans (congrArg some (by kernel_rfl))
  f320 := Tryz.func116.trans (congrArg some (by kernel_rfl))
  f337 := Tryz.func132.trans (congrArg some (by kernel_rfl))
  f338 := Tryz.func133.trans (congrArg some (by kernel_rfl))
  t0 := Tryz.underlying0
  a0 := Tryz.isAgg0
  z0 := Tryz.sizeOf0
  v0 := Tryz.zeroValue0
  t2 := Tryz.underlying2
  a2 := Tryz.isAgg2
  z2 := Tryz.sizeOf2
  v2 := Tryz.zeroValue2
  t3 := Tryz.underlying3
  a3 := Tryz.isAgg3
  z3 := Tryz.sizeOf3
  v3 := Tryz.zeroValue3
  t4 := Tryz.underlying4
  a4 := Tryz.isAgg4
  z4 := Tryz.sizeOf4
  v4 := Tryz.zeroValue4
  t5 := Tryz.underlying5
  a5 := Tryz.isAgg5
  z5 := Tryz.sizeOf5
  v5 := Tryz.zeroValue5
  t9 := Tryz.underlying9
  a9 := Tryz.isAgg9
  z9 := Tryz.sizeOf9
  v9 := Tryz.zeroValue9
  t20 := Tryz.underlying20
  a20 := Tryz.isAgg20
  z20 := Tryz.sizeOf20
  v20 := Tryz.zeroValue20
  t37 := Tryz.underlying108
  a37 := Tryz.isAgg108
  z37 := Tryz.sizeOf108
  v37 := Tryz.zeroValue108
  t46 := Tryz.underlying35
  a46 := Tryz.isAgg35
  z46 := Tryz.sizeOf35
  v46 := Tryz.zeroValue35
  t51 := Tryz.underlying34
  a51 := Tryz.isAgg34
  z51 := Tryz.sizeOf34
  v51 := Tryz.zeroValue34
  t53 := Tryz.underlying36
  a53 := Tryz.isAgg36
  z53 := Tryz.sizeOf36
  v53 := Tryz.zeroValue36
  t171 := Tryz.underlying106
  a171 := Tryz.isAgg106
  z171 := Tryz.sizeOf106
  v171 := Tryz.zeroValue106
  t173 := Tryz.underlying109
  a173 := Tryz.isAgg109
  z173 := Tryz.sizeOf109
  v173 := Tryz.zeroValue109
  t212 := Tryz.underlying130
  a212 := Tryz.isAgg130
  z212 := Tryz.sizeOf130
  v212 := Tryz.zeroValue130
  t213 := Tryz.underlying131
  a213 := Tryz.isAgg131
  z213 := Tryz.sizeOf131
  t232 := Tryz.underlying161
  a232 := Tryz.isAgg161
  z232 := Tryz.sizeOf161
  v232 := Tryz.zeroValue161
  t233 := Tryz.underlying162
  a233 := Tryz.isAgg162
  z233 := Tryz.sizeOf162
  v233 := Tryz.zeroValue162
  g17 := by kernel_rfl
  g18 := by kernel_rfl
  g19 := by kernel_rfl
  i0 := by kernel_rfl
  i2 := by kernel_rfl
  i3 := by kernel_rfl
  i4 := by kernel_rfl
  i5 := by kernel_rfl
  i9 := by kernel_rfl
  i20 := by kernel_rfl
  i37 := by kernel_rfl
  i46 := by kernel_rfl
  i51 := by kernel_rfl
  i53 := by kernel_rfl
  i171 := by kernel_rfl
  i173 := by kernel_rfl
  i212 := by kernel_rfl
  i232 := by kernel_rfl
  i233 := by kernel_rfl
  m17 := by kernel_rfl
  m18 := by kernel_rfl
  m19 := by kernel_rfl }
open Go.RowKit Go.Sort Go.Lib in
theorem Tryz.strconv_FormatInt_10 (n : Int) (h0 : -9223372036854775808 ≤ n) (h1 : n ≤ 9223372036854775807) (w : World) (htab : Lib.TabIs Tryz.prog w "internal/strconv.uint64pow10" .u64 Lib.pow10Tab) :
    Calls Tryz.prog 21 #[.int .i64 n, .int .i64 10] w fun e w' => e = .returned (.string ⟨(Lib.itoa n).toArray⟩) ∧ ∃ k os, w' = grow (w.drewN k) os := Any.strconv_FormatInt_10 Tryz.laysM173 n h0 h1 w htab
def Tryz.laysPu14_ren : Go.Shelf.Ren := ⟨fun | 14 => 56 | 16 => 81 | 17 => 82 | 19 => 107 | 20 => 108 | 21 => 109 | 22 => 110 | 23 => 111 | 24 => 112 | 25 => 129 | 27 => 131 | 26 => 130 | 28 => 152 | 29 => 65 | 30 => 87 | 31 => 88 | 32 => 89 | 33 => 90 | 35 => 91 | 34 => 113 | 36 => 114 | 37 => 115 | 38 => 116 | 39 => 132 | 40 => 133 | n => n, fun | 9 => 9 | 3 => 3 | 22 => 36 | 24 => 76 | 25 => 77 | 4 => 4 | 34 => 124 | 5 => 5 | 36 => 35 | 37 => 108 | 0 => 0 | 39 => 126 | 21 => 21 | 44 => 142 | 47 => 157 | 50 => 160 | 48 => 158 | 2 => 2 | 52 => 106 | 55 => 109 | 59 => 130 | 60 => 34 | 20 => 20 | 61 => 131 | 65 => 161 | 66 => 162 | 67 => 91 | n => n, fun | 0 => 6 | 1 => 7 | 2 => 4 | 3 => 8 | 4 => 9 | n => n⟩
theorem Tryz.laysPu14 : Go.Proofs.LaysPu.n14 Tryz.prog Tryz.laysPu14_ren := {
  mixed := by kernel_rfl
  f14 := Tryz.func56.trans (congrArg some (by kernel_rfl))
  f16 := Tryz.func81.trans (congrArg some (by kernel_rfl))
  f17 := Tryz.func82.trans (congrArg some (by kernel_rfl))
  f19 := Tryz.func107.trans (congrArg some (by kernel_rfl))
  f20 := Tryz.func108.trans (congrArg some (by kernel_rfl))
  f21 := Tryz.func109.trans (congrArg some (by kernel_rfl))
  f22 := Tryz.func110.trans (congrArg some (by kernel_rfl))
  f23 := Tryz.func111.trans (congrArg some (by kernel_rfl))
  f24 := Tryz.func112.trans (congrArg some (by kernel_rfl))
  f25 := Tryz.func129.trans (congrArg some (by kernel_rfl))
  f26 := Tryz.func130.trans (congrArg some (by kernel_rfl))
  f27 := Tryz.func131.trans (congrArg some (by kernel_rfl))
  f28 := Tryz.func152.trans (congrArg some (by kernel_rfl))
  f29 := Tryz.func65.trans (congrArg some (by kernel_rfl))
  f30 := Tryz.func87.trans (congrArg some (by kernel_rfl))
  f31 := Tryz.func88.trans (congrArg some (by kernel_rfl))
  f32 := Tryz.func89.trans (congrArg some (by kernel_rfl))
  f33 := Tryz.func90.trans (congrArg some (by kernel_rfl))
  f34 := Tryz.func113.trans (congrArg some (by kernel_rfl))
  f35 := Tryz.func91.trans (congrArg some (by kernel_rfl))
  f36 := Tryz.func114.trans (congrArg some (by kernel_rfl))
  f37 := Tryz.func115.trans (congrArg some (by kernel_rfl))
  f38 := Tryz.func116.trans (congrArg some (by kernel_rfl))
  f39 := Tryz.func132.trans (congrArg some (by kernel_rfl))
  f40 := Tryz.func133.trans (congrArg some (by kernel_rfl))
  t0 := Tryz.underlying0
  a0 := Tryz.isAgg0
  z0 := Tryz.sizeOf0
  v0 := Tryz.zeroValue0
  i0 := by kernel_rfl
  t2 := Tryz.underlying2
  a2 := Tryz.isAgg2
  z2 := Tryz.sizeOf2
  v2 := Tryz.zeroValue2
  i2 := by kernel_rfl
  t3 := Tryz.underlying3
  a3 := Tryz.isAgg3
  z3 := Tryz.sizeOf3
  v3 := Tryz.zeroValue3
  i3 := by kernel_rfl
  t4 := Tryz.underlying4
  a4 := Tryz.isAgg4
  z4 := Tryz.sizeOf4
  v4 := Tryz.zeroValue4
  i4 := by kernel_rfl
  t5 := Tryz.underlying5
  a5 := Tryz.isAgg5
  z5 := Tryz.sizeOf5
  v5 := Tryz.zeroValue5
  i5 := by kernel_rfl
  t9 := Tryz.underlying9
  a9 := Tryz.isAgg9
  z9 := Tryz.sizeOf9
  v9 := Tryz.zeroValue9
  i9 := by kernel_rfl
  t20 := Tryz.underlying20
  a20 := Tryz.isAgg20
  z20 := Tryz.sizeOf20
  v20 := Tryz.zeroValue20
  i20 := by kernel_rfl
  t21 := Tryz.underlying21
  a21 := Tryz.isAgg21
  z21 := Tryz.sizeOf21
  v21 := Tryz.zeroValue21
  i21 := by kernel_rfl
  t22 := Tryz.underlying36
  a22 := Tryz.isAgg36
  z22 := Tryz.sizeOf36
  v22 := Tryz.zeroValue36
  i22 := by kernel_rfl
  t24 := Tryz.underlying76
  a24 := Tryz.isAgg76
  z24 := Tryz.sizeOf76
  v24 := Tryz.zeroValue76
  i24 := by kernel_rfl
  t25 := Tryz.underlying77
  a25 := Tryz.isAgg77
  z25 := Tryz.sizeOf77
  v25 := Tryz.zeroValue77
  i25 := by kernel_rfl
  t34 := Tryz.underlying124
  a34 := Tryz.isAgg124
  z34 := Tryz.sizeOf124
  v34 := Tryz.zeroValue124
  i34 := by kernel_rfl
  c34 := by kernel_rfl
  t36 := Tryz.underlying35
  a36 := Tryz.isAgg35
  z36 := Tryz.sizeOf35
  v36 := Tryz.zeroValue35
  i36 := by kernel_rfl
  t37 := Tryz.underlying108
  a37 := Tryz.isAgg108
  z37 := Tryz.sizeOf108
  v37 := Tryz.zeroValue108
  i37 := by kernel_rfl
  t39 := Tryz.underlying126
  a39 := Tryz.isAgg126
  z39 := Tryz.sizeOf126
  v39 := Tryz.zeroValue126
  i39 := by kernel_rfl
  t44 := Tryz.underlying142
  a44 := Tryz.isAgg142
  z44 := Tryz.sizeOf142
  v44 := Tryz.zeroValue142
  i44 := by kernel_rfl
  t47 := Tryz.underlying157
  a47 := Tryz.isAgg157
  z47 := Tryz.sizeOf157
  v47 := Tryz.zeroValue157
  i47 := by kernel_rfl
  t48 := Tryz.underlying158
  a48 := Tryz.isAgg158
  z48 := Tryz.sizeOf158
  v48 := Tryz.zeroValue158
  i48 := by kernel_rfl
  t50 := Tryz.underlying160
  a50 := Tryz.isAgg160
  z50 := Tryz.sizeOf160
  v50 := Tryz.zeroValue160
  i50 := by kernel_rfl
  t52 := Tryz.underlying106
  a52 := Tryz.isAgg106
  z52 := Tryz.sizeOf106
  v52 := Tryz.zeroValue106
  i52 := by kernel_rfl
  t55 := Tryz.underlying109
  a55 := Tryz.isAgg109
  z55 := Tryz.sizeOf109
  v55 := Tryz.zeroValue109
  i55 := by kernel_rfl
  t59 := Tryz.underlying130
  a59 := Tryz.isAgg130
  z59 := Tryz.sizeOf130
  v59 := Tryz.zeroValue130
  i59 := by kernel_rfl
  t60 := Tryz.underlying34
  a60 := Tryz.isAgg34
  z60 := Tryz.sizeOf34
  v60 := Tryz.zeroValue34
  i60 := by kernel_rfl
  t61 := Tryz.underlying131
  a61 := Tryz.isAgg131
  z61 := Tryz.sizeOf131
  t65 := Tryz.underlying161
  a65 := Tryz.isAgg161
  z65 := Tryz.sizeOf161
  v65 := Tryz.zeroValue161
  i65 := by kernel_rfl
  t66 := Tryz.underlying162
  a66 := Tryz.isAgg162
  z66 := Tryz.sizeOf162
  v66 := Tryz.zeroValue162
  i66 := by kernel_rfl
  t67 := Tryz.underlying91
  a67 := Tryz.isAgg91
  z67 := Tryz.sizeOf91
  v67 := Tryz.zeroValue91
  i67 := by kernel_rfl
  g0 := by kernel_rfl
  m0 := by kernel_rfl
  g1 := by kernel_rfl
  m1 := by kernel_rfl
  g2 := by kernel_rfl
  m2 := by kernel_rfl
  g3 := by kernel_rfl
  m3 := by kernel_rfl
  g4 := by kernel_rfl
  m4 := by kernel_rfl }
open Go.RowKit in
theorem Tryz.strconv_ParseUint_10_at64_ok (s : ByteArray) (hmax : s.size ≤ 9223372036854775806) (u : Nat) (h : Lib.parseUintB 64 s.data.toList = .ok u) (w : World) :
    Calls Tryz.prog 56 #[.string s, .int .i64 10, .int .i64 64] w fun e w' => e = .returned (.tuple #[.int .u64 u, .nilIface]) ∧ (w' = w ∨ w' = Lib.bytesWorld w 5 s) := Any.strconv_ParseUint_10_at64_ok Tryz.laysPu14 s hmax u h w
def Tryz.lays217_ren : Go.Shelf.Ren := ⟨fun | 217 => 121 | 266 => 147 | n => n, fun | 9 => 9 | 5 => 5 | 3 => 3 | n => n, fun | n => n⟩
theorem Tryz.lays217 : Go.Proofs.Lays.n217 Tryz.prog Tryz.lays217_ren := {
  mixed := by kernel_rfl
  f217 := Tryz.func121.trans (congrArg some (by kernel_rfl))
  f266 := Tryz.func147.trans (congrArg some (by kernel_rfl))
  t3 := Tryz.underlying3
  a3 := Tryz.isAgg3
  z3 := Tryz.sizeOf3
  v3 := Tryz.zeroValue3
  t5 := Tryz.underlying5
  a5 := Tryz.isAgg5
  z5 := Tryz.sizeOf5
  v5 := Tryz.zeroValue5
  t9 := Tryz.underlying9
  a9 := Tryz.isAgg9
  z9 := Tryz.sizeOf9
  v9 := Tryz.zeroValue9 }
open Go.RowKit Go.Lib in
theorem Tryz.stringslite_IndexByte (s : ByteArray) (c : Int) (w : World) :
    Calls Tryz.prog 121 #[.string s, .int .u8 c] w fun e w' => e = .returned (.int .i64 (Lib.indexByte s.data.toList c.toNat.toUInt8)) ∧ w' = w := Any.stringslite_IndexByte Tryz.lays217 s c w
def Tryz.lays207_ren : Go.Shelf.Ren := ⟨fun | 207 => 77 | n => n, fun | 9 => 9 | 4 => 4 | 3 => 3 | n => n, fun | n => n⟩
def Tryz.lays100_ren : Go.Shelf.Ren := ⟨fun | 100 => 52 | 207 => 77 | n => n, fun | 9 => 9 | 4 => 4 | 3 => 3 | n => n, fun | n => n⟩
theorem Tryz.lays100 : Go.Proofs.Lays.n100 Tryz.prog Tryz.lays100_ren := {
  mixed := by kernel_rfl
  f100 := Tryz.func52.trans (congrArg some (by kernel_rfl))
  f207 := Tryz.func77.trans (congrArg some (by kernel_rfl))
  t3 := Tryz.underlying3
  a3 := Tryz.isAgg3
  z3 := Tryz.sizeOf3
  v3 := Tryz.zeroValue3
  t4 := Tryz.underlying4
  a4 := Tryz.isAgg4
  z4 := Tryz.sizeOf4
  v4 := Tryz.zeroValue4
  t9 := Tryz.underlying9
  a9 := Tryz.isAgg9
  z9 := Tryz.sizeOf9
  v9 := Tryz.zeroValue9 }
open Go.RowKit Go.Lib in
theorem Tryz.strings_HasSuffix (s p : ByteArray) (w : World) (hs : s.size ≤ 9223372036854775807) :
    Calls Tryz.prog 52 #[.string s, .string p] w fun e w' => e = .returned (.bool (Lib.hasSuffix s.data.toList p.data.toList)) ∧ w' = w := Any.strings_HasSuffix Tryz.lays100 s p w hs
def Tryz.lays102_ren : Go.Shelf.Ren := ⟨fun | 102 => 53 | 209 => 78 | 207 => 77 | n => n, fun | 9 => 9 | 4 => 4 | 3 => 3 | n => n, fun | n => n⟩
theorem Tryz.lays102 : Go.Proofs.Lays.n102 Tryz.prog Tryz.lays102_ren := {
  mixed := by kernel_rfl
  f102 := Tryz.func53.trans (congrArg some (by kernel_rfl))
  f207 := Tryz.func77.trans (congrArg some (by kernel_rfl))
  f209 := Tryz.func78.trans (congrArg some (by kernel_rfl))
  t3 := Tryz.underlying3
  a3 := Tryz.isAgg3
  z3 := Tryz.sizeOf3
  v3 := Tryz.zeroValue3
  t4 := Tryz.underlying4
  a4 := Tryz.isAgg4
  z4 := Tryz.sizeOf4
  v4 := Tryz.zeroValue4
  t9 := Tryz.underlying9
  a9 := Tryz.isAgg9
  z9 := Tryz.sizeOf9
  v9 := Tryz.zeroValue9 }
open Go.RowKit Go.Lib in
theorem Tryz.strings_TrimSuffix (s p : ByteArray) (w : World) (hs : s.size ≤ 9223372036854775807) :
    Calls Tryz.prog 53 #[.string s, .string p] w fun e w' => e = .returned (.string ⟨(Lib.trimSuffix s.data.toList p.data.toList).toArray⟩) ∧ w' = w := Any.strings_TrimSuffix Tryz.lays102 s p w hs
def Tryz.lays221_ren : Go.Shelf.Ren := ⟨fun | 221 => 117 | 268 => 134 | 138 => 135 | 143 => 136 | 195 => 153 | 197 => 126 | 218 => 154 | 219 => 99 | 260 => 149 | 217 => 121 | 225 => 122 | 224 => 123 | 267 => 124 | 266 => 147 | 314 => 148 | n => n, fun | 9 => 9 | 3 => 3 | 31 => 30 | 4 => 4 | 0 => 0 | 105 => 137 | 21 => 21 | 5 => 5 | 46 => 35 | 119 => 170 | 139 => 173 | 138 => 172 | 146 => 154 | 51 => 34 | n => n, fun | 1 => 5 | 3 => 10 | 4 => 11 | n => n⟩
def Tryz.lays146_ren : Go.Shelf.Ren := ⟨fun | 146 => 93 | 221 => 117 | 268 => 134 | 138 => 135 | 143 => 136 | 195 => 153 | 197 => 126 | 218 => 154 | 219 => 99 | 260 => 149 | 217 => 121 | 225 => 122 | 224 => 123 | 267 => 124 | 266 => 147 | 314 => 148 | n => n, fun | 9 => 9 | 31 => 30 | 3 => 3 | 4 => 4 | 0 => 0 | 105 => 137 | 21 => 21 | 5 => 5 | 46 => 35 | 119 => 170 | 139 => 173 | 138 => 172 | 146 => 154 | 51 => 34 | n => n, fun | 1 => 5 | 3 => 10 | 4 => 11 | n => n⟩
theorem Tryz.lays146 : Go.Proofs.Lays.n146 Tryz.prog Tryz.lays146_ren := {
  mixed := by kernel_rfl
  f138 := Tryz.func135.trans (congrArg some (by kernel_rfl))
  f143 := Tryz.func136.trans (congrArg some (by kernel_rfl))
  f146 := Tryz.func93.trans (congrArg some (by kernel_rfl))
  f195 := Tryz.func153.trans (congrArg some (by kernel_rfl))
  f197 := Tryz.func126.trans (congrArg some (by kernel_rfl))
  f217 := Tryz.func121.trans (congrArg some (by kernel_rfl))
  f218 := Tryz.func154.trans (congrArg some (by kernel_rfl))
  f219 := Tryz.func99.trans (congrArg some (by kernel_rfl))
  f221 := Tryz.func117.trans (congrArg some (by kernel_rfl))
  f224 := Tryz.func123.trans (congrArg some (by kernel_rfl))
  f225 := Tryz.func122.trans (congrArg some (by kernel_rfl))
  f260 := Tryz.func149.trans (congrArg some (by kernel_rfl))
  f266 := Tryz.func147.trans (congrArg some (by kernel_rfl))
  f267 := Tryz.func124.trans (congrArg some (by kernel_rfl))
  f268 := Tryz.func134.trans (congrArg some (by kernel_rfl))
  f314 := Tryz.func148.trans (congrArg some (by kernel_rfl))
  t0 := Tryz.underlying0
  a0 := Tryz.isAgg0
  z0 := Tryz.sizeOf0
  v0 := Tryz.zeroValue0
  t3 := Tryz.underlying3
  a3 := Tryz.isAgg3
  z3 := Tryz.sizeOf3
  v3 := Tryz.zeroValue3
  t4 := Tryz.underlying4
  a4 := Tryz.isAgg4
  z4 := Tryz.sizeOf4
  v4 := Tryz.zeroValue4
  t5 := Tryz.underlying5
  a5 := Tryz.isAgg5
  z5 := Tryz.sizeOf5
  v5 := Tryz.zeroValue5
  t9 := Tryz.underlying9
  a9 := Tryz.isAgg9
  z9 := Tryz.sizeOf9
  v9 := Tryz.zeroValue9
  t21 := Tryz.underlying21
  a21 := Tryz.isAgg21
  z21 := Tryz.sizeOf21
  v21 := Tryz.zeroValue21
  t31 := Tryz.underlying30
  a31 := Tryz.isAgg30
  z31 := Tryz.sizeOf30
  v31 := Tryz.zeroValue30
  t46 := Tryz.underlying35
  a46 := Tryz.isAgg35
  z46 := Tryz.sizeOf35
  v46 := Tryz.zeroValue35
  t51 := Tryz.underlying34
  a51 := Tryz.isAgg34
  z51 := Tryz.sizeOf34
  v51 := Tryz.zeroValue34
  t105 := Tryz.underlying137
  a105 := Tryz.isAgg137
  z105 := Tryz.sizeOf137
  v105 := Tryz.zeroValue137
  t119 := Tryz.underlying170
  a119 := Tryz.isAgg170
  z119 := Tryz.sizeOf170
  t138 := Tryz.underlying172
  a138 := Tryz.isAgg172
  z138 := Tryz.sizeOf172
  v138 := Tryz.zeroValue172
  t139 := Tryz.underlying173
  a139 := Tryz.isAgg173
  z139 := Tryz.sizeOf173
  v139 := Tryz.zeroValue173
  t146 := Tryz.underlying154
  a146 := Tryz.isAgg154
  z146 := Tryz.sizeOf154
  v146 := Tryz.zeroValue154
  g1 := by kernel_rfl
  g3 := by kernel_rfl
  g4 := by kernel_rfl }
open Go.RowKit Go.Lib in
theorem Tryz.strings_Split (s sep : ByteArray) (m : Int) (w : World) (hs : s.size < 4294967281) (hm : w.cell? ⟨5, 0, none⟩ = some (.int .i64 m)) (h1 : 1 ≤ sep.size) :
    Calls Tryz.prog 93 #[.string s, .string sep] w fun e w' =>
      e = .returned (.slice (some ⟨w.heap.size, 0, none⟩) (Lib.countB s sep + 1) (Lib.countB s sep + 1)) ∧ w' = w.alloc (.cells ((Lib.splitB sep 0 (Lib.countB s sep) s).map Value.string).toArray 9) := Any.strings_Split Tryz.lays146 (by kernel_rfl) s sep m w hs hm h1
def Tryz.laysM146_ren : Go.Shelf.Ren := ⟨fun | 146 => 93 | 221 => 117 | 268 => 134 | 138 => 135 | 143 => 136 | 195 => 153 | 197 => 126 | 218 => 154 | 219 => 99 | 260 => 149 | 217 => 121 | 225 => 122 | 224 => 123 | 267 => 124 | 266 => 147 | 314 => 148 | n => n, fun | 9 => 9 | 31 => 30 | 3 => 3 | 4 => 4 | 0 => 0 | 105 => 137 | 21 => 21 | 5 => 5 | 46 => 35 | 119 => 170 | 139 => 173 | 138 => 172 | 146 => 154 | 51 => 34 | n => n, fun | 1 => 5 | 3 => 10 | 4 => 11 | n => n⟩
theorem Tryz.laysM146 : Go.Proofs.LaysM.n146 Tryz.prog Tryz.laysM146_ren := {
  mixed := by kernel_rfl
  f138 := Tryz.func135.trans (congrArg some (by kernel_rfl))
  f143 := Tryz.func136.trans (congrArg some (by kernel_rfl))
  f146 := Tryz.func93.trans (congrArg some (by kernel_rfl))
  f195 := Tryz.func153.trans (congrArg some (by kernel_rfl))
  f197 := Tryz.func126.trans (congrArg some (by kernel_rfl))
  f217 := Tryz.func121.trans (congrArg some (by kernel_rfl))
  f218 := Tryz.func154.trans (congrArg some (by kernel_rfl))
  f219 := Tryz.func99.trans (congrArg some (by kernel_rfl))
  f221 := Tryz.func117.trans (congrArg some (by kernel_rfl))
  f224 := Tryz.func123.trans (congrArg some (by kernel_rfl))
  f225 := Tryz.func122.trans (congrArg some (by kernel_rfl))
  f260 := Tryz.func149.trans (congrArg some (by kernel_rfl))
  f266 := Tryz.func147.trans (congrArg some (by kernel_rfl))
  f267 := Tryz.func124.trans (congrArg some (by kernel_rfl))
  f268 := Tryz.func134.trans (congrArg some (by kernel_rfl))
  f314 := Tryz.func148.trans (congrArg some (by kernel_rfl))
  t0 := Tryz.underlying0
  a0 := Tryz.isAgg0
  z0 := Tryz.sizeOf0
  v0 := Tryz.zeroValue0
  t3 := Tryz.underlying3
  a3 := Tryz.isAgg3
  z3 := Tryz.sizeOf3
  v3 := Tryz.zeroValue3
  t4 := Tryz.underlying4
  a4 := Tryz.isAgg4
  z4 := Tryz.sizeOf4
  v4 := Tryz.zeroValue4
  t5 := Tryz.underlying5
  a5 := Tryz.isAgg5
  z5 := Tryz.sizeOf5
  v5 := Tryz.zeroValue5
  t9 := Tryz.underlying9
  a9 := Tryz.isAgg9
  z9 := Tryz.sizeOf9
  v9 := Tryz.zeroValue9
  t21 := Tryz.underlying21
  a21 := Tryz.isAgg21
  z21 := Tryz.sizeOf21
  v21 := Tryz.zeroValue21
  t31 := Tryz.underlying30
  a31 := Tryz.isAgg30
  z31 := Tryz.sizeOf30
  v31 := Tryz.zeroValue30
  t46 := Tryz.underlying35
  a46 := Tryz.isAgg35
  z46 := Tryz.sizeOf35
  v46 := Tryz.zeroValue35
  t51 := Tryz.underlying34
  a51 := Tryz.isAgg34
  z51 := Tryz.sizeOf34
  v51 := Tryz.zeroValue34
  t105 := Tryz.underlying137
  a105 := Tryz.isAgg137
  z105 := Tryz.sizeOf137
  v105 := Tryz.zeroValue137
  t119 := Tryz.underlying170
  a119 := Tryz.isAgg170
  z119 := Tryz.sizeOf170
  t138 := Tryz.underlying172
  a138 := Tryz.isAgg172
  z138 := Tryz.sizeOf172
  v138 := Tryz.zeroValue172
  t139 := Tryz.underlying173
  a139 := Tryz.isAgg173
  z139 := Tryz.sizeOf173
  v139 := Tryz.zeroValue173
  t146 := Tryz.underlying154
  a146 := Tryz.isAgg154
  z146 := Tryz.sizeOf154
  v146 := Tryz.zeroValue154
  g1 := by kernel_rfl
  g3 := by kernel_rfl
  g4 := by kernel_rfl
  i0 := by kernel_rfl
  i3 := by kernel_rfl
  i4 := by kernel_rfl
  i5 := by kernel_rfl
  i9 := by kernel_rfl
  i21 := by kernel_rfl
  i31 := by kernel_rfl
  i46 := by kernel_rfl
  i51 := by kernel_rfl
  i105 := by kernel_rfl
  i138 := by kernel_rfl
  i139 := by kernel_rfl
  i146 := by kernel_rfl
  m1 := by kernel_rfl
  s1_3 := fun w h => Go.Proofs.cell_of_shapedOpen_int (zero := #[.int .i64 0]) (t := 3) h (of_decide_eq_true (by kernel_rfl)) (by kernel_rfl) rfl (by kernel_rfl) (by kernel_rfl) Tryz.underlying3
  m3 := by kernel_rfl
  m4 := by kernel_rfl }
def Tryz.lays264_ren : Go.Shelf.Ren := ⟨fun | 264 => 24 | n => n, fun | 53 => 36 | 46 => 35 | n => n, fun | n => n⟩
theorem Tryz.lays264 : Go.Proofs.Lays.n264 Tryz.prog Tryz.lays264_ren := {
  mixed := by kernel_rfl
  f264 := Tryz.func24.trans (congrArg some (by kernel_rfl))
  t46 := Tryz.underlying35
  a46 := Tryz.isAgg35
  z46 := Tryz.sizeOf35
  v46 := Tryz.zeroValue35
  t53 := Tryz.underlying36
  a53 := Tryz.isAgg36
  z53 := Tryz.sizeOf36
  v53 := Tryz.zeroValue36 }
open Go.RowKit Go.Lib in
theorem Tryz.bits_Mul64 (x y : Nat) (hx : x < 18446744073709551616) (hy : y < 18446744073709551616) (w : World) :
    Calls Tryz.prog 24 #[.int .u64 x, .int .u64 y] w fun e w' => e = .returned (.tuple #[.int .u64 ((x * y / 18446744073709551616 : Nat) : Int), .int .u64 ((x * y % 18446744073709551616 : Nat) : Int)]) ∧ w' = w := Any.bits_Mul64 Tryz.lays264 x y hx hy w
end Go.Proofs
namespace Go.Proofs.YtejgbdclhlolkaaGreatDoor.Q
open Go.RowKit Go.Proofs.YtejgbdclhlolkaaGreatDoorW.PrintWords Go.Proofs.YtejgbdclhlolkaaGreatDoorW.PrintLast
set_option linter.unusedVariables false
set_option linter.unusedSimpArgs false
def unitCells : List Value := [.string ⟨#[75, 105]⟩, .int .u64 1024000, .string ⟨#[77, 105]⟩, .int .u64 1048576000, .string ⟨#[71, 105]⟩, .int .u64 1073741824000, .string ⟨#[84, 105]⟩, .int .u64 1099511627776000, .string ⟨#[80, 105]⟩, .int .u64 1125899906842624000, .string ⟨#[107]⟩, .int .u64 1000000, .string ⟨#[77]⟩, .int .u64 1000000000, .string ⟨#[71]⟩, .int .u64 1000000000000, .string ⟨#[84]⟩, .int .u64 1000000000000000, .string ⟨#[80]⟩, .int .u64 1000000000000000000, .string ⟨#[109]⟩, .int .u64 1, .string ⟨#[]⟩, .int .u64 1000]
def unitsL : List S66 := [⟨⟨#[75, 105]⟩, 1024000⟩, ⟨⟨#[77, 105]⟩, 1048576000⟩, ⟨⟨#[71, 105]⟩, 1073741824000⟩, ⟨⟨#[84, 105]⟩, 1099511627776000⟩, ⟨⟨#[80, 105]⟩, 1125899906842624000⟩, ⟨⟨#[107]⟩, 1000000⟩, ⟨⟨#[77]⟩, 1000000000⟩, ⟨⟨#[71]⟩, 1000000000000⟩, ⟨⟨#[84]⟩, 1000000000000000⟩, ⟨⟨#[80]⟩, 1000000000000000000⟩, ⟨⟨#[109]⟩, 1⟩, ⟨⟨#[]⟩, 1000⟩]
structure Glob (w : World) : Prop where
  maxLen : ∃ m : Int, w.cell? ⟨5, 0, none⟩ = some (.int .i64 m)
  tab : Lib.TabIs Tryz.prog w "internal/strconv.uint64pow10" .u64 Lib.pow10Tab
  units : ∀ j x, unitCells[j]? = some x → w.cell? ⟨1, j, none⟩ = some x
structure GlobM (w : World) : Prop extends Glob w where
  mark0 : w.cell? ⟨0, 0, none⟩ = some (.string ⟨#[109, 97, 114, 107]⟩)
  mark1 : w.cell? ⟨0, 1, none⟩ = some (.int .i64 77)
theorem tab_below {w W : World} (h : Lib.TabIs Tryz.prog w "internal/strconv.uint64pow10" .u64 Lib.pow10Tab) (hb : Below w.heap.size w W) : Lib.TabIs Tryz.prog W "internal/strconv.uint64pow10" .u64 Lib.pow10Tab := by
  have hg : Tryz.prog.globalNamed "internal/strconv.uint64pow10" = some 4 := by kernel_rfl
  unfold Lib.TabIs World.var? at h ⊢
  rw [hg] at h ⊢
  simp only [Option.bind_some] at h ⊢
  have hlt : 4 < w.heap.size := by
    rcases Nat.lt_or_ge 4 w.heap.size with hl | hl
    · exact hl
    · rw [Array.getElem?_eq_none hl] at h; cases h
  rw [hb.block 4 hlt]
  exact h
theorem Glob.below {w W : World} (h : Glob w) (hb : Below w.heap.size w W) : Glob W := by
  obtain ⟨m, hm⟩ := h.maxLen
  exact ⟨⟨m, pw_cell_below hb hm⟩, tab_below h.tab hb, fun j x hx => pw_cell_below hb (h.units j x hx)⟩
theorem GlobM.below {w W : World} (h : GlobM w) (hb : Below w.heap.size w W) : GlobM W := ⟨Glob.below h.toGlob hb, pw_cell_below hb h.mark0, pw_cell_below hb h.mark1⟩
def strings_Split.f (a0 a1 : ByteArray) : Option (List ByteArray) :=
  if a0.size < 4294967281 ∧ 1 ≤ a1.size then some (Lib.splitB a1 0 (Lib.countB a0 a1) a0) else none
theorem strings_Split.calls (a0 : ByteArray) (a1 : ByteArray) (r : List ByteArray) (w : World) (h : strings_Split.f a0 a1 = some r) (hG : Glob w) :
    Calls Tryz.prog 93 #[.string a0, .string a1] w fun e w' => ∃ v0_ : Value, e = .returned (v0_) ∧ Kd.R Kd.string 9 w' w.heap.size (fun _ => True) v0_ r ∧ Below w.heap.size w w' := by
  unfold strings_Split.f at h
  split at h
  · rename_i hc
    obtain rfl := Option.some.inj h
    obtain ⟨m, hm⟩ := hG.maxLen
    refine (Tryz.strings_Split a0 a1 m w hc.1 hm hc.2).mono ?_
    rintro e w' ⟨rfl, rfl⟩
    have hl : (Lib.splitB a1 0 (Lib.countB a0 a1) a0).length = Lib.countB a0 a1 + 1 := Lib.splitB_all a1 hc.2 0 _ a0 rfl
    have hle := Lib.countB_le a1 hc.2 a0.size a0 (Nat.le_refl _)
    refine ⟨_, rfl, ?_, (Below.refl _ _).alloc (Nat.le_refl _) _⟩
    have ho := World.ownsRow_lit (base := w.heap.size) (e := 9) (size := 1) w ((Lib.splitB a1 0 (Lib.countB a0 a1) a0).map Value.string).toArray (Lib.countB a0 a1 + 1) (Nat.le_refl _) (by unfold maxLen; omega) (by simp [hl])
    refine Kd.R_of_own (h1 := fun _ => rfl) (ok := fun _ => True) ?_ (fun _ _ => trivial)
    rw [hl]
    exact ho
  · cases h
def bits_Mul64.f (a0 a1 : Int) : Option (Int × Int) :=
  if 0 ≤ a0 ∧ a0 < 18446744073709551616 ∧ 0 ≤ a1 ∧ a1 < 18446744073709551616 then some (a0 * a1 / 18446744073709551616, a0 * a1 % 18446744073709551616) else none
def bits_LeadingZeros64.f (a0 : Int) : Option Int := if 0 ≤ a0 ∧ a0 ≤ 18446744073709551615 then some (64 - (Lib.bitLen a0.toNat : Int)) else none
theorem bits_LeadingZeros64.calls (a0 : Int) (r : Int) (w : World) (h : bits_LeadingZeros64.f a0 = some r) :
    Calls Tryz.prog 67 #[.int .u64 a0] w fun e w' => e = .returned (.int .i64 r) ∧ Drawn0 w w' := by
  unfold bits_LeadingZeros64.f at h
  split at h
  · rename_i hc
    obtain rfl := Option.some.inj h
    refine (Tryz.bits_LeadingZeros64 a0 w hc.1 hc.2).mono ?_
    rintro e w' ⟨rfl, rfl⟩
    exact ⟨rfl, Drawn0.refl _⟩
  · cases h
end Go.Proofs.YtejgbdclhlolkaaGreatDoor.Q
namespace Go.Proofs.YtejgbdclhlolkaaGreatDoor.Q
open Go.RowKit Go.Proofs.YtejgbdclhlolkaaGreatDoorW.PrintWords Go.Proofs.YtejgbdclhlolkaaGreatDoorW.PrintLast Go.Proofs.YtejgbdclhlolkaaGreatDoorW.PrintMore
attribute [local go_sem] max2_int min2_int max_two min_two max_three min_three max_four min_four   -- for this text's walks alone
set_option linter.unusedVariables false
set_option linter.unusedSimpArgs false
mutual
def bits_Div64.j2 : Nat → Int → Int → Int → Int → Int → Int → Int → Int → Option (Int × Int)
|0,_,_,_,_,_,_,_,_ => none
|k + 1,x2,x8,x9,x10,x11,x13,x14,x15 => if x9 = 0 then (none) else (bits_Div64.l1 k x2 x8 x9 x10 x14 x15 (IntKind.u64.wrap ((IntKind.u64.wrap ((IntKind.u64.wrap ((IntKind.u64.wrap (x11 * 4294967296)) + x13)) - (IntKind.u64.wrap (x15 * x2)))) - (IntKind.u64.wrap ((IntKind.u64.wrap (Int.tdiv (IntKind.u64.wrap ((IntKind.u64.wrap ((IntKind.u64.wrap (x11 * 4294967296)) + x13)) - (IntKind.u64.wrap (x15 * x2)))) x9)) * x9)))) (IntKind.u64.wrap ((IntKind.u64.wrap ((IntKind.u64.wrap (x11 * 4294967296)) + x13)) - (IntKind.u64.wrap (x15 * x2)))) (IntKind.u64.wrap (Int.tdiv (IntKind.u64.wrap ((IntKind.u64.wrap ((IntKind.u64.wrap (x11 * 4294967296)) + x13)) - (IntKind.u64.wrap (x15 * x2)))) x9)))
def bits_Div64.l1 : Nat → Int → Int → Int → Int → Int → Int → Int → Int → Int → Option (Int × Int)
|0,_,_,_,_,_,_,_,_,_ => none
|k + 1,x2,x8,x9,x10,x14,x15,x16,x17,x18 => if x18 ≥ 4294967296 then (bits_Div64.j4 k x2 x8 x9 x10 x14 x15 x16 x17 x18 true) else (bits_Div64.j4 k x2 x8 x9 x10 x14 x15 x16 x17 x18 (decide ((IntKind.u64.wrap (x18 * x10)) > (IntKind.u64.wrap ((IntKind.u64.wrap (4294967296 * x16)) + x14)))))
def bits_Div64.j4 : Nat → Int → Int → Int → Int → Int → Int → Int → Int → Int → Bool → Option (Int × Int)
|0,_,_,_,_,_,_,_,_,_,_ => none
|k + 1,x2,x8,x9,x10,x14,x15,x16,x17,x18,x113 => if x113 = true then (if (IntKind.u64.wrap (x16 + x9)) ≥ 4294967296 then (if 0 ≤ x8 then (some (IntKind.u64.wrap ((IntKind.u64.wrap (x15 * 4294967296)) + (IntKind.u64.wrap (x18 - 1))),shr .u64 (IntKind.u64.wrap ((IntKind.u64.wrap ((IntKind.u64.wrap (x17 * 4294967296)) + x14)) - (IntKind.u64.wrap ((IntKind.u64.wrap (x18 - 1)) * x2)))) x8)) else (none)) else (bits_Div64.l1 k x2 x8 x9 x10 x14 x15 (IntKind.u64.wrap (x16 + x9)) x17 (IntKind.u64.wrap (x18 - 1)))) else (if 0 ≤ x8 then (some (IntKind.u64.wrap ((IntKind.u64.wrap (x15 * 4294967296)) + x18),shr .u64 (IntKind.u64.wrap ((IntKind.u64.wrap ((IntKind.u64.wrap (x17 * 4294967296)) + x14)) - (IntKind.u64.wrap (x18 * x2)))) x8)) else (none))
def bits_Div64.l0 : Nat → Int → Int → Int → Int → Int → Int → Int → Int → Int → Option (Int × Int)
|0,_,_,_,_,_,_,_,_,_ => none
|k + 1,x2,x8,x9,x10,x11,x13,x14,x15,x16 => if x15 ≥ 4294967296 then (bits_Div64.j1 k x2 x8 x9 x10 x11 x13 x14 x15 x16 true) else (bits_Div64.j1 k x2 x8 x9 x10 x11 x13 x14 x15 x16 (decide ((IntKind.u64.wrap (x15 * x10)) > (IntKind.u64.wrap ((IntKind.u64.wrap (4294967296 * x16)) + x13)))))
def bits_Div64.j1 : Nat → Int → Int → Int → Int → Int → Int → Int → Int → Int → Bool → Option (Int × Int)
|0,_,_,_,_,_,_,_,_,_,_ => none
|k + 1,x2,x8,x9,x10,x11,x13,x14,x15,x16,x78 => if x78 = true then (if (IntKind.u64.wrap (x16 + x9)) ≥ 4294967296 then (bits_Div64.j2 k x2 x8 x9 x10 x11 x13 x14 (IntKind.u64.wrap (x15 - 1))) else (bits_Div64.l0 k x2 x8 x9 x10 x11 x13 x14 (IntKind.u64.wrap (x15 - 1)) (IntKind.u64.wrap (x16 + x9)))) else (bits_Div64.j2 k x2 x8 x9 x10 x11 x13 x14 x15)
end
def bits_Div64.f (k : Nat) (a0 : Int) (a1 : Int) (a2 : Int) : Option (Int × Int) := if a2 = 0 then (none) else (if a2 ≤ a0 then (none) else (if a0 = 0 then (some (IntKind.u64.wrap (Int.tdiv a1 a2), Int.tmod a1 a2)) else ((bits_LeadingZeros64.f a2).bind fun t365 => (if 0 ≤ (IntKind.u64.wrap (t365)) then (if 0 ≤ (IntKind.u64.wrap (64 - (IntKind.u64.wrap (t365)))) then (if ((shl .u64 a2 (IntKind.u64.wrap (t365))) / 4294967296) = 0 then (none) else (bits_Div64.l0 k (shl .u64 a2 (IntKind.u64.wrap (t365))) (IntKind.u64.wrap (t365)) ((shl .u64 a2 (IntKind.u64.wrap (t365))) / 4294967296) (Go.bits .and .u64 (shl .u64 a2 (IntKind.u64.wrap (t365))) 4294967295) (Go.bits .or .u64 (shl .u64 a0 (IntKind.u64.wrap (t365))) (shr .u64 a1 (IntKind.u64.wrap (64 - (IntKind.u64.wrap (t365)))))) ((shl .u64 a1 (IntKind.u64.wrap (t365))) / 4294967296) (Go.bits .and .u64 (shl .u64 a1 (IntKind.u64.wrap (t365))) 4294967295) (IntKind.u64.wrap (Int.tdiv (Go.bits .or .u64 (shl .u64 a0 (IntKind.u64.wrap (t365))) (shr .u64 a1 (IntKind.u64.wrap (64 - (IntKind.u64.wrap (t365)))))) ((shl .u64 a2 (IntKind.u64.wrap (t365))) / 4294967296))) (IntKind.u64.wrap ((Go.bits .or .u64 (shl .u64 a0 (IntKind.u64.wrap (t365))) (shr .u64 a1 (IntKind.u64.wrap (64 - (IntKind.u64.wrap (t365)))))) - (IntKind.u64.wrap ((IntKind.u64.wrap (Int.tdiv (Go.bits .or .u64 (shl .u64 a0 (IntKind.u64.wrap (t365))) (shr .u64 a1 (IntKind.u64.wrap (64 - (IntKind.u64.wrap (t365)))))) ((shl .u64 a2 (IntKind.u64.wrap (t365))) / 4294967296))) * ((shl .u64 a2 (IntKind.u64.wrap (t365))) / 4294967296))))))) else (none)) else (none)))))
theorem bits_Div64.mono_l : ∀ k, (∀ y0 y1 y2 y3 y4 y5 y6 y7, LeO (bits_Div64.j2 k y0 y1 y2 y3 y4 y5 y6 y7) (bits_Div64.j2 (k + 1) y0 y1 y2 y3 y4 y5 y6 y7)) ∧ (∀ y0 y1 y2 y3 y4 y5 y6 y7 y8, LeO (bits_Div64.l1 k y0 y1 y2 y3 y4 y5 y6 y7 y8) (bits_Div64.l1 (k + 1) y0 y1 y2 y3 y4 y5 y6 y7 y8)) ∧ (∀ y0 y1 y2 y3 y4 y5 y6 y7 y8 y9, LeO (bits_Div64.j4 k y0 y1 y2 y3 y4 y5 y6 y7 y8 y9) (bits_Div64.j4 (k + 1) y0 y1 y2 y3 y4 y5 y6 y7 y8 y9)) ∧ (∀ y0 y1 y2 y3 y4 y5 y6 y7 y8, LeO (bits_Div64.l0 k y0 y1 y2 y3 y4 y5 y6 y7 y8) (bits_Div64.l0 (k + 1) y0 y1 y2 y3 y4 y5 y6 y7 y8)) ∧ (∀ y0 y1 y2 y3 y4 y5 y6 y7 y8 y9, LeO (bits_Div64.j1 k y0 y1 y2 y3 y4 y5 y6 y7 y8 y9) (bits_Div64.j1 (k + 1) y0 y1 y2 y3 y4 y5 y6 y7 y8 y9))
|0 => ⟨fun _ _ _ _ _ _ _ _ r h => by simp [bits_Div64.j2] at h,fun _ _ _ _ _ _ _ _ _ r h => by simp [bits_Div64.l1] at h,fun _ _ _ _ _ _ _ _ _ _ r h => by simp [bits_Div64.j4] at h,fun _ _ _ _ _ _ _ _ _ r h => by simp [bits_Div64.l0] at h,fun _ _ _ _ _ _ _ _ _ _ r h => by simp [bits_Div64.j1] at h⟩
|k + 1 => by
  obtain ⟨ih0,ih1,ih2,ih3,ih4⟩:=bits_Div64.mono_l k
  refine ⟨?_,?_,?_,?_,?_⟩
  ·intro y0 y1 y2 y3 y4 y5 y6 y7
   unfold bits_Div64.j2
   repeat' first
  |(with_reducible exact ih0 _ _ _ _ _ _ _ _)
  |(with_reducible exact ih1 _ _ _ _ _ _ _ _ _)
  |(with_reducible exact ih2 _ _ _ _ _ _ _ _ _ _)
  |(with_reducible exact ih3 _ _ _ _ _ _ _ _ _)
  |(with_reducible exact ih4 _ _ _ _ _ _ _ _ _ _)
  |(with_reducible exact LeO.refl _)
  |(with_reducible exact LeO.none _)
  |(with_reducible refine LeO.ite ?_ ?_)
  |(with_reducible refine LeO.bind ?_ (fun _ => ?_))
  |exact ih0 _ _ _ _ _ _ _ _
  |exact ih1 _ _ _ _ _ _ _ _ _
  |exact ih2 _ _ _ _ _ _ _ _ _ _
  |exact ih3 _ _ _ _ _ _ _ _ _
  |exact ih4 _ _ _ _ _ _ _ _ _ _
  |exact LeO.none _
  |refine LeO.ite ?_ ?_
  |refine LeO.bind ?_ (fun _ => ?_)
  ·intro y0 y1 y2 y3 y4 y5 y6 y7 y8
   unfold bits_Div64.l1
   repeat' first
  |(with_reducible exact ih0 _ _ _ _ _ _ _ _)
  |(with_reducible exact ih1 _ _ _ _ _ _ _ _ _)
  |(with_reducible exact ih2 _ _ _ _ _ _ _ _ _ _)
  |(with_reducible exact ih3 _ _ _ _ _ _ _ _ _)
  |(with_reducible exact ih4 _ _ _ _ _ _ _ _ _ _)
  |(with_reducible exact LeO.refl _)
  |(with_reducible exact LeO.none _)
  |(with_reducible refine LeO.ite ?_ ?_)
  |(with_reducible refine LeO.bind ?_ (fun _ => ?_))
  |exact ih0 _ _ _ _ _ _ _ _
  |exact ih1 _ _ _ _ _ _ _ _ _
  |exact ih2 _ _ _ _ _ _ _ _ _ _
  |exact ih3 _ _ _ _ _ _ _ _ _
  |exact ih4 _ _ _ _ _ _ _ _ _ _
  |exact LeO.none _
  |refine LeO.ite ?_ ?_
  |refine LeO.bind ?_ (fun _ => ?_)
  ·intro y0 y1 y2 y3 y4 y5 y6 y7 y8 y9
   unfold bits_Div64.j4
   repeat' first
  |(with_reducible exact ih0 _ _ _ _ _ _ _ _)
  |(with_reducible exact ih1 _ _ _ _ _ _ _ _ _)
  |(with_reducible exact ih2 _ _ _ _ _ _ _ _ _ _)
  |(with_reducible exact ih3 _ _ _ _ _ _ _ _ _)
  |(with_reducible exact ih4 _ _ _ _ _ _ _ _ _ _)
  |(with_reducible exact LeO.refl _)
  |(with_reducible exact LeO.none _)
  |(with_reducible refine LeO.ite ?_ ?_)
  |(with_reducible refine LeO.bind ?_ (fun _ => ?_))
  |exact ih0 _ _ _ _ _ _ _ _
  |exact ih1 _ _ _ _ _ _ _ _ _
  |exact ih2 _ _ _ _ _ _ _ _ _ _
  |exact ih3 _ _ _ _ _ _ _ _ _
  |exact ih4 _ _ _ _ _ _ _ _ _ _
  |exact LeO.none _
  |refine LeO.ite ?_ ?_
  |refine LeO.bind ?_ (fun _ => ?_)
  ·intro y0 y1 y2 y3 y4 y5 y6 y7 y8
   unfold bits_Div64.l0
   repeat' first
  |(with_reducible exact ih0 _ _ _ _ _ _ _ _)
  |(with_reducible exact ih1 _ _ _ _ _ _ _ _ _)
  |(with_reducible exact ih2 _ _ _ _ _ _ _ _ _ _)
  |(with_reducible exact ih3 _ _ _ _ _ _ _ _ _)
  |(with_reducible exact ih4 _ _ _ _ _ _ _ _ _ _)
  |(with_reducible exact LeO.refl _)
  |(with_reducible exact LeO.none _)
  |(with_reducible refine LeO.ite ?_ ?_)
  |(with_reducible refine LeO.bind ?_ (fun _ => ?_))
  |exact ih0 _ _ _ _ _ _ _ _
  |exact ih1 _ _ _ _ _ _ _ _ _
  |exact ih2 _ _ _ _ _ _ _ _ _ _
  |exact ih3 _ _ _ _ _ _ _ _ _
  |exact ih4 _ _ _ _ _ _ _ _ _ _
  |exact LeO.none _
  |refine LeO.ite ?_ ?_
  |refine LeO.bind ?_ (fun _ => ?_)
  ·intro y0 y1 y2 y3 y4 y5 y6 y7 y8 y9
   unfold bits_Div64.j1
   repeat' first
  |(with_reducible exact ih0 _ _ _ _ _ _ _ _)
  |(with_reducible exact ih1 _ _ _ _ _ _ _ _ _)
  |(with_reducible exact ih2 _ _ _ _ _ _ _ _ _ _)
  |(with_reducible exact ih3 _ _ _ _ _ _ _ _ _)
  |(with_reducible exact ih4 _ _ _ _ _ _ _ _ _ _)
  |(with_reducible exact LeO.refl _)
  |(with_reducible exact LeO.none _)
  |(with_reducible refine LeO.ite ?_ ?_)
  |(with_reducible refine LeO.bind ?_ (fun _ => ?_))
  |exact ih0 _ _ _ _ _ _ _ _
  |exact ih1 _ _ _ _ _ _ _ _ _
  |exact ih2 _ _ _ _ _ _ _ _ _ _
  |exact ih3 _ _ _ _ _ _ _ _ _
  |exact ih4 _ _ _ _ _ _ _ _ _ _
  |exact LeO.none _
  |refine LeO.ite ?_ ?_
  |refine LeO.bind ?_ (fun _ => ?_)
theorem bits_Div64.mono : ∀ a0 a1 a2 k, LeO (bits_Div64.f k a0 a1 a2) (bits_Div64.f (k + 1) a0 a1 a2) := by
 intro a0 a1 a2 k
 obtain ⟨ih0,ih1,ih2,ih3,ih4⟩:=bits_Div64.mono_l k
 unfold bits_Div64.f
 repeat' first
  |(with_reducible exact ih0 _ _ _ _ _ _ _ _)
  |(with_reducible exact ih1 _ _ _ _ _ _ _ _ _)
  |(with_reducible exact ih2 _ _ _ _ _ _ _ _ _ _)
  |(with_reducible exact ih3 _ _ _ _ _ _ _ _ _)
  |(with_reducible exact ih4 _ _ _ _ _ _ _ _ _ _)
  |(with_reducible exact LeO.refl _)
  |(with_reducible exact LeO.none _)
  |(with_reducible refine LeO.ite ?_ ?_)
  |(with_reducible refine LeO.bind ?_ (fun _ => ?_))
  |exact ih0 _ _ _ _ _ _ _ _
  |exact ih1 _ _ _ _ _ _ _ _ _
  |exact ih2 _ _ _ _ _ _ _ _ _ _
  |exact ih3 _ _ _ _ _ _ _ _ _
  |exact ih4 _ _ _ _ _ _ _ _ _ _
  |exact LeO.none _
  |refine LeO.ite ?_ ?_
  |refine LeO.bind ?_ (fun _ => ?_)
set_option maxHeartbeats 8000000 in
set_option maxRecDepth 100000 in
theorem bits_Div64.calls (k : Nat) (a0 : Int) (a1 : Int) (a2 : Int) (r1 : Int) (r2 : Int) (w : World) (h : bits_Div64.f k a0 a1 a2 = some (r1, r2)) :
  Calls Tryz.prog 25 #[.int .u64 a0,.int .u64 a1,.int .u64 a2] w fun e w' => e = .returned (.tuple #[.int .u64 r1,.int .u64 r2]) ∧ Drawn0 w w':=by
 have H : (if a2 = 0 then (none) else (if a2 ≤ a0 then (none) else (if a0 = 0 then (some (IntKind.u64.wrap (Int.tdiv a1 a2),Int.tmod a1 a2)) else ((bits_LeadingZeros64.f a2).bind fun t365 => (if 0 ≤ (IntKind.u64.wrap (t365)) then (if 0 ≤ (IntKind.u64.wrap (64 - (IntKind.u64.wrap (t365)))) then (if ((shl .u64 a2 (IntKind.u64.wrap (t365))) / 4294967296) = 0 then (none) else (bits_Div64.l0 k (shl .u64 a2 (IntKind.u64.wrap (t365))) (IntKind.u64.wrap (t365)) ((shl .u64 a2 (IntKind.u64.wrap (t365))) / 4294967296) (Go.bits .and .u64 (shl .u64 a2 (IntKind.u64.wrap (t365))) 4294967295) (Go.bits .or .u64 (shl .u64 a0 (IntKind.u64.wrap (t365))) (shr .u64 a1 (IntKind.u64.wrap (64 - (IntKind.u64.wrap (t365)))))) ((shl .u64 a1 (IntKind.u64.wrap (t365))) / 4294967296) (Go.bits .and .u64 (shl .u64 a1 (IntKind.u64.wrap (t365))) 4294967295) (IntKind.u64.wrap (Int.tdiv (Go.bits .or .u64 (shl .u64 a0 (IntKind.u64.wrap (t365))) (shr .u64 a1 (IntKind.u64.wrap (64 - (IntKind.u64.wrap (t365)))))) ((shl .u64 a2 (IntKind.u64.wrap (t365))) / 4294967296))) (IntKind.u64.wrap ((Go.bits .or .u64 (shl .u64 a0 (IntKind.u64.wrap (t365))) (shr .u64 a1 (IntKind.u64.wrap (64 - (IntKind.u64.wrap (t365)))))) - (IntKind.u64.wrap ((IntKind.u64.wrap (Int.tdiv (Go.bits .or .u64 (shl .u64 a0 (IntKind.u64.wrap (t365))) (shr .u64 a1 (IntKind.u64.wrap (64 - (IntKind.u64.wrap (t365)))))) ((shl .u64 a2 (IntKind.u64.wrap (t365))) / 4294967296))) * ((shl .u64 a2 (IntKind.u64.wrap (t365))) / 4294967296))))))) else (none)) else (none)))))) = some (r1,r2):=h
 clear h
 by_cases c4 : a2 = 0
 ·rw [if_pos c4] at H
  exact absurd H (by simp)
 rw [if_neg c4] at H
 have c4b0 : (a2 == 0) = false:=beq_eq_false_iff_ne.mpr c4
 have c4b1 : (a2 != 0) = true:=bne_iff_ne.mpr c4
 by_cases c5 : a2 ≤ a0
 ·rw [if_pos c5] at H
  exact absurd H (by simp)
 rw [if_neg c5] at H
 have c5b0 : decide (a2 ≤ a0) = false:=decide_eq_false c5
 clear c5
 by_cases c6 : a0 = 0
 ·rw [if_pos c6] at H
  have c6b0 : (a0 == 0) = true:=beq_iff_eq.mpr c6
  have c6b1 : (a0 != 0) = false:=bne_eq_false_iff_eq.mpr c6
  clear c6
  simp only [Option.some.injEq,Prod.mk.injEq] at H
  obtain ⟨rfl,rfl⟩:=H
  go_enter Tryz.func25,Tryz.ntmps25
  go_wp2
  repeat (go_quiet (fail);try go_wp2)
  go_ret2
  exact ⟨by first|rfl|(simp;done)|(simp [*];done),by repeat (first|exact Drawn0.refl _|apply Drawn0.step)⟩
 rw [if_neg c6] at H
 have c6b0 : (a0 == 0) = false:=beq_eq_false_iff_ne.mpr c6
 have c6b1 : (a0 != 0) = true:=bne_iff_ne.mpr c6
 replace H:=Option.bind_eq_some_iff.mp H
 obtain ⟨t365,A70,H⟩:=H
 replace H : (if 0 ≤ (IntKind.u64.wrap (t365)) then (if 0 ≤ (IntKind.u64.wrap (64 - (IntKind.u64.wrap (t365)))) then (if ((shl .u64 a2 (IntKind.u64.wrap (t365))) / 4294967296) = 0 then (none) else (bits_Div64.l0 k (shl .u64 a2 (IntKind.u64.wrap (t365))) (IntKind.u64.wrap (t365)) ((shl .u64 a2 (IntKind.u64.wrap (t365))) / 4294967296) (Go.bits .and .u64 (shl .u64 a2 (IntKind.u64.wrap (t365))) 4294967295) (Go.bits .or .u64 (shl .u64 a0 (IntKind.u64.wrap (t365))) (shr .u64 a1 (IntKind.u64.wrap (64 - (IntKind.u64.wrap (t365)))))) ((shl .u64 a1 (IntKind.u64.wrap (t365))) / 4294967296) (Go.bits .and .u64 (shl .u64 a1 (IntKind.u64.wrap (t365))) 4294967295) (IntKind.u64.wrap (Int.tdiv (Go.bits .or .u64 (shl .u64 a0 (IntKind.u64.wrap (t365))) (shr .u64 a1 (IntKind.u64.wrap (64 - (IntKind.u64.wrap (t365)))))) ((shl .u64 a2 (IntKind.u64.wrap (t365))) / 4294967296))) (IntKind.u64.wrap ((Go.bits .or .u64 (shl .u64 a0 (IntKind.u64.wrap (t365))) (shr .u64 a1 (IntKind.u64.wrap (64 - (IntKind.u64.wrap (t365)))))) - (IntKind.u64.wrap ((IntKind.u64.wrap (Int.tdiv (Go.bits .or .u64 (shl .u64 a0 (IntKind.u64.wrap (t365))) (shr .u64 a1 (IntKind.u64.wrap (64 - (IntKind.u64.wrap (t365)))))) ((shl .u64 a2 (IntKind.u64.wrap (t365))) / 4294967296))) * ((shl .u64 a2 (IntKind.u64.wrap (t365))) / 4294967296))))))) else (none)) else (none)) = some (r1,r2):=H
 have A7:=Aside0.mk A70
 clear A70
 obtain ⟨ji8,hji8⟩ : ∃ j_ : Int,(IntKind.u64.wrap (t365)) = j_:=⟨_,rfl⟩
 replace H : (if 0 ≤ (ji8) then (if 0 ≤ (IntKind.u64.wrap (64 - (ji8))) then (if ((shl .u64 a2 (ji8)) / 4294967296) = 0 then (none) else (bits_Div64.l0 k (shl .u64 a2 (ji8)) ji8 ((shl .u64 a2 (ji8)) / 4294967296) (Go.bits .and .u64 (shl .u64 a2 (ji8)) 4294967295) (Go.bits .or .u64 (shl .u64 a0 (ji8)) (shr .u64 a1 (IntKind.u64.wrap (64 - (ji8))))) ((shl .u64 a1 (ji8)) / 4294967296) (Go.bits .and .u64 (shl .u64 a1 (ji8)) 4294967295) (IntKind.u64.wrap (Int.tdiv (Go.bits .or .u64 (shl .u64 a0 (ji8)) (shr .u64 a1 (IntKind.u64.wrap (64 - (ji8))))) ((shl .u64 a2 (ji8)) / 4294967296))) (IntKind.u64.wrap ((Go.bits .or .u64 (shl .u64 a0 (ji8)) (shr .u64 a1 (IntKind.u64.wrap (64 - (ji8))))) - (IntKind.u64.wrap ((IntKind.u64.wrap (Int.tdiv (Go.bits .or .u64 (shl .u64 a0 (ji8)) (shr .u64 a1 (IntKind.u64.wrap (64 - (ji8))))) ((shl .u64 a2 (ji8)) / 4294967296))) * ((shl .u64 a2 (ji8)) / 4294967296))))))) else (none)) else (none)) = some (r1,r2):=by first|(rw [hji8] at H;exact H)|(simp only [hji8] at H ⊢;exact H)
 (try rw [hji8] at A7)
 by_cases c9 : 0 ≤ (ji8)
 rotate_left
 ·rw [if_neg c9] at H
  exact absurd H (by simp)
 rw [if_pos c9] at H
 have c9b0:=eq_true c9
 have c9b1 : decide (0 ≤ (ji8)) = true:=decide_eq_true c9
 clear c9
 obtain ⟨ji10,hji10⟩ : ∃ j_ : Int,(shl .u64 a2 (ji8)) = j_:=⟨_,rfl⟩
 replace H : (if 0 ≤ (IntKind.u64.wrap (64 - (ji8))) then (if ((ji10) / 4294967296) = 0 then (none) else (bits_Div64.l0 k ji10 ji8 ((ji10) / 4294967296) (Go.bits .and .u64 (ji10) 4294967295) (Go.bits .or .u64 (shl .u64 a0 (ji8)) (shr .u64 a1 (IntKind.u64.wrap (64 - (ji8))))) ((shl .u64 a1 (ji8)) / 4294967296) (Go.bits .and .u64 (shl .u64 a1 (ji8)) 4294967295) (IntKind.u64.wrap (Int.tdiv (Go.bits .or .u64 (shl .u64 a0 (ji8)) (shr .u64 a1 (IntKind.u64.wrap (64 - (ji8))))) ((ji10) / 4294967296))) (IntKind.u64.wrap ((Go.bits .or .u64 (shl .u64 a0 (ji8)) (shr .u64 a1 (IntKind.u64.wrap (64 - (ji8))))) - (IntKind.u64.wrap ((IntKind.u64.wrap (Int.tdiv (Go.bits .or .u64 (shl .u64 a0 (ji8)) (shr .u64 a1 (IntKind.u64.wrap (64 - (ji8))))) ((ji10) / 4294967296))) * ((ji10) / 4294967296))))))) else (none)) = some (r1,r2):=by first|(rw [hji10] at H;exact H)|(simp only [hji10] at H ⊢;exact H)
 (try rw [hji10] at A7)
 have hji10_ : (IntKind.u64.wrap (a2 * 2 ^ min (ji8).toNat 64)) = ji10:=hji10
 have hji10z : (ji8) ≤ 64 → (IntKind.u64.wrap (a2 * 2 ^ (ji8).toNat)) = ji10:=shl_small hji10
 have c11b0:=eq_true (of_decide_eq_true (by first|(with_reducible assumption)|assumption) : 0 ≤ (ji8))
 obtain ⟨ji12,hji12⟩ : ∃ j_ : Int,(shl .u64 a0 (ji8)) = j_:=⟨_,rfl⟩
 replace H : (if 0 ≤ (IntKind.u64.wrap (64 - (ji8))) then (if ((ji10) / 4294967296) = 0 then (none) else (bits_Div64.l0 k ji10 ji8 ((ji10) / 4294967296) (Go.bits .and .u64 (ji10) 4294967295) (Go.bits .or .u64 (ji12) (shr .u64 a1 (IntKind.u64.wrap (64 - (ji8))))) ((shl .u64 a1 (ji8)) / 4294967296) (Go.bits .and .u64 (shl .u64 a1 (ji8)) 4294967295) (IntKind.u64.wrap (Int.tdiv (Go.bits .or .u64 (ji12) (shr .u64 a1 (IntKind.u64.wrap (64 - (ji8))))) ((ji10) / 4294967296))) (IntKind.u64.wrap ((Go.bits .or .u64 (ji12) (shr .u64 a1 (IntKind.u64.wrap (64 - (ji8))))) - (IntKind.u64.wrap ((IntKind.u64.wrap (Int.tdiv (Go.bits .or .u64 (ji12) (shr .u64 a1 (IntKind.u64.wrap (64 - (ji8))))) ((ji10) / 4294967296))) * ((ji10) / 4294967296))))))) else (none)) = some (r1,r2):=by first|(rw [hji12] at H;exact H)|(simp only [hji12] at H ⊢;exact H)
 (try rw [hji12] at A7)
 have hji12_ : (IntKind.u64.wrap (a0 * 2 ^ min (ji8).toNat 64)) = ji12:=hji12
 have hji12z : (ji8) ≤ 64 → (IntKind.u64.wrap (a0 * 2 ^ (ji8).toNat)) = ji12:=shl_small hji12
 obtain ⟨ji13,hji13⟩ : ∃ j_ : Int,(IntKind.u64.wrap (64 - (ji8))) = j_:=⟨_,rfl⟩
 replace H : (if 0 ≤ (ji13) then (if ((ji10) / 4294967296) = 0 then (none) else (bits_Div64.l0 k ji10 ji8 ((ji10) / 4294967296) (Go.bits .and .u64 (ji10) 4294967295) (Go.bits .or .u64 (ji12) (shr .u64 a1 (ji13))) ((shl .u64 a1 (ji8)) / 4294967296) (Go.bits .and .u64 (shl .u64 a1 (ji8)) 4294967295) (IntKind.u64.wrap (Int.tdiv (Go.bits .or .u64 (ji12) (shr .u64 a1 (ji13))) ((ji10) / 4294967296))) (IntKind.u64.wrap ((Go.bits .or .u64 (ji12) (shr .u64 a1 (ji13))) - (IntKind.u64.wrap ((IntKind.u64.wrap (Int.tdiv (Go.bits .or .u64 (ji12) (shr .u64 a1 (ji13))) ((ji10) / 4294967296))) * ((ji10) / 4294967296))))))) else (none)) = some (r1,r2):=by first|(rw [hji13] at H;exact H)|(simp only [hji13] at H ⊢;exact H)
 (try rw [hji13] at A7)
 by_cases c14 : 0 ≤ (ji13)
 rotate_left
 ·rw [if_neg c14] at H
  exact absurd H (by simp)
 rw [if_pos c14] at H
 have c14b0:=eq_true c14
 have c14b1 : decide (0 ≤ (ji13)) = true:=decide_eq_true c14
 clear c14
 obtain ⟨ji15,hji15⟩ : ∃ j_ : Int,(shr .u64 a1 (ji13)) = j_:=⟨_,rfl⟩
 replace H : (if ((ji10) / 4294967296) = 0 then (none) else (bits_Div64.l0 k ji10 ji8 ((ji10) / 4294967296) (Go.bits .and .u64 (ji10) 4294967295) (Go.bits .or .u64 (ji12) (ji15)) ((shl .u64 a1 (ji8)) / 4294967296) (Go.bits .and .u64 (shl .u64 a1 (ji8)) 4294967295) (IntKind.u64.wrap (Int.tdiv (Go.bits .or .u64 (ji12) (ji15)) ((ji10) / 4294967296))) (IntKind.u64.wrap ((Go.bits .or .u64 (ji12) (ji15)) - (IntKind.u64.wrap ((IntKind.u64.wrap (Int.tdiv (Go.bits .or .u64 (ji12) (ji15)) ((ji10) / 4294967296))) * ((ji10) / 4294967296))))))) = some (r1,r2):=by first|(rw [hji15] at H;exact H)|(simp only [hji15] at H ⊢;exact H)
 (try rw [hji15] at A7)
 have hji15_ : (a1 / 2 ^ min (ji13).toNat 64) = ji15:=hji15
 have hji15z : (ji13) ≤ 64 → (a1 / 2 ^ (ji13).toNat) = ji15:=shr_small hji15
 have c16b0:=eq_true (of_decide_eq_true (by first|(with_reducible assumption)|assumption) : 0 ≤ (ji8))
 obtain ⟨ji17,hji17⟩ : ∃ j_ : Int,(shl .u64 a1 (ji8)) = j_:=⟨_,rfl⟩
 replace H : (if ((ji10) / 4294967296) = 0 then (none) else (bits_Div64.l0 k ji10 ji8 ((ji10) / 4294967296) (Go.bits .and .u64 (ji10) 4294967295) (Go.bits .or .u64 (ji12) (ji15)) ((ji17) / 4294967296) (Go.bits .and .u64 (ji17) 4294967295) (IntKind.u64.wrap (Int.tdiv (Go.bits .or .u64 (ji12) (ji15)) ((ji10) / 4294967296))) (IntKind.u64.wrap ((Go.bits .or .u64 (ji12) (ji15)) - (IntKind.u64.wrap ((IntKind.u64.wrap (Int.tdiv (Go.bits .or .u64 (ji12) (ji15)) ((ji10) / 4294967296))) * ((ji10) / 4294967296))))))) = some (r1,r2):=by first|(rw [hji17] at H;exact H)|(simp only [hji17] at H ⊢;exact H)
 (try rw [hji17] at A7)
 have hji17_ : (IntKind.u64.wrap (a1 * 2 ^ min (ji8).toNat 64)) = ji17:=hji17
 have hji17z : (ji8) ≤ 64 → (IntKind.u64.wrap (a1 * 2 ^ (ji8).toNat)) = ji17:=shl_small hji17
 by_cases c18 : ((ji10) / 4294967296) = 0
 ·rw [if_pos c18] at H
  exact absurd H (by simp)
 rw [if_neg c18] at H
 have c18b0 : (((ji10) / 4294967296) == 0) = false:=beq_eq_false_iff_ne.mpr c18
 have c18b1 : (((ji10) / 4294967296) != 0) = true:=bne_iff_ne.mpr c18
 have HC19:=Aside0.mk H
 clear H
 go_enter Tryz.func25,Tryz.ntmps25
 go_upto_block 0 with (first|(go_at_call 67;(with_reducible refine (bits_LeadingZeros64.calls a2 t365 _ A7.out).mono ?_);rintro e w' ⟨rfl,⟨nd,rfl⟩⟩;(try first|exact ⟨rfl,_,World.drewN_drewN _ _ _⟩|exact ⟨rfl,_,Eq.trans (World.drewN_drewN _ _ _) (congrArg (World.drewN _) (Nat.add_assoc _ _ _))⟩)))
 repeat (go_quiet (first|(go_at_call 67;(with_reducible refine (bits_LeadingZeros64.calls a2 t365 _ A7.out).mono ?_);rintro e w' ⟨rfl,⟨nd,rfl⟩⟩;(try first|exact ⟨rfl,_,World.drewN_drewN _ _ _⟩|exact ⟨rfl,_,Eq.trans (World.drewN_drewN _ _ _) (congrArg (World.drewN _) (Nat.add_assoc _ _ _))⟩)));go_upto_block 0 with (first|(go_at_call 67;(with_reducible refine (bits_LeadingZeros64.calls a2 t365 _ A7.out).mono ?_);rintro e w' ⟨rfl,⟨nd,rfl⟩⟩;(try first|exact ⟨rfl,_,World.drewN_drewN _ _ _⟩|exact ⟨rfl,_,Eq.trans (World.drewN_drewN _ _ _) (congrArg (World.drewN _) (Nat.add_assoc _ _ _))⟩))))
 (try simp only [Act.put,List.setIfInBounds_toArray,List.set_cons_zero,List.set_cons_succ])
 go_cut [15] (fun v15 wc => ∃ (kq : Nat) (x15_18 : Int),v15 = .int .u64 x15_18 ∧ Aside0 (bits_Div64.j2 kq ji10 ji8 ((ji10) / 4294967296) (Go.bits .and .u64 (ji10) 4294967295) (Go.bits .or .u64 (ji12) (ji15)) ((ji17) / 4294967296) (Go.bits .and .u64 (ji17) 4294967295) x15_18 = some (r1,r2)) ∧ Aside0 (kq ≤ k) ∧ Drawn0 w wc)
 case first =>
  have H:=HC19.out
  clear HC19
  have H':=Aside0.mk H
  clear H
  go_wp2
  repeat (go_quiet (fail);try go_wp2)
  go_loopg [15,16] k (fun kq v15 v16 w' => ∃ (x15_1 : Int) (x16_1 : Int),v15 = .int .u64 x15_1 ∧ v16 = .int .u64 x16_1 ∧ Aside0 (bits_Div64.l0 kq ji10 ji8 ((ji10) / 4294967296) (Go.bits .and .u64 (ji10) 4294967295) (Go.bits .or .u64 (ji12) (ji15)) ((ji17) / 4294967296) (Go.bits .and .u64 (ji17) 4294967295) x15_1 x16_1 = some (r1,r2)) ∧ Aside0 (kq ≤ k) ∧ Drawn0 w w')
  case atStart => exact ⟨(IntKind.u64.wrap (Int.tdiv (Go.bits .or .u64 (ji12) (ji15)) ((ji10) / 4294967296))),(IntKind.u64.wrap ((Go.bits .or .u64 (ji12) (ji15)) - (IntKind.u64.wrap ((IntKind.u64.wrap (Int.tdiv (Go.bits .or .u64 (ji12) (ji15)) ((ji10) / 4294967296))) * ((ji10) / 4294967296))))),(by first|rfl|(simp;done)|(simp only [← hji10,← hji12,← hji15] <;> (first|rfl|simp))|(simp [*];done)),(by first|rfl|(simp;done)|(simp only [← hji10,← hji12,← hji15] <;> (first|rfl|simp))|(simp [*];done)),H',⟨Nat.le_refl _⟩,by repeat (first|exact Drawn0.refl _|apply Drawn0.step)⟩
  case round =>
   clear H';(try clear c1);(try clear c2);(try clear p2);(try clear c4);(try clear c4b0);(try clear c4b1);(try clear c5);(try clear c5b0);(try clear c6);(try clear c6b0);(try clear c6b1);(try clear c9);(try clear c9b0);(try clear c9b1);(try clear c11);(try clear c11b0);(try clear c14);(try clear c14b0);(try clear c14b1);(try clear c16);(try clear c16b0);(try clear c18);(try clear c18b0);(try clear c18b1)
   obtain ⟨x15_1,x16_1,rfl,rfl,HA,HK1,⟨m1,rfl⟩⟩:=hrel
   cases gk with
  |zero => exact absurd HA.out (by simp [bits_Div64.l0])
  |succ k1 =>
    have H:=HA.out
    clear HA
    simp only [bits_Div64.l0] at H
    have HC20:=Aside0.mk H
    clear H
    go_upto_region 17 with (fail)
    repeat (go_quiet (fail);go_upto_region 17 with (fail))
    go_cut [78] (fun v78 wc => ∃ (kq : Nat) (x78_19 : Bool),v78 = .bool x78_19 ∧ Aside0 (bits_Div64.j1 kq ji10 ji8 ((ji10) / 4294967296) (Go.bits .and .u64 (ji10) 4294967295) (Go.bits .or .u64 (ji12) (ji15)) ((ji17) / 4294967296) (Go.bits .and .u64 (ji17) 4294967295) x15_1 x16_1 x78_19 = some (r1,r2)) ∧ Aside0 (kq ≤ k1) ∧ Drawn0 w wc)
    case first =>
     have H:=HC20.out
     clear HC20
     by_cases c21 : x15_1 ≥ 4294967296
     ·rw [if_pos c21] at H
      have c21b0 : decide (4294967296 ≤ x15_1) = true:=decide_eq_true c21
      clear c21
      (first|rw [c21b0]|(simp only [i64_w,i32_w];rw [c21b0])|skip)
      have H':=Aside0.mk H
      clear H
      go_wp2
      repeat (go_quiet (fail);try go_wp2)
      go_meet
      case rel => exact ⟨_,(true),(by first|rfl|(simp;done)|(simp [*];done)|(simp;rw [Bool.eq_iff_iff];simp;done)|(rw [Bool.eq_iff_iff];simp;done)),H',⟨by have:=HK1.out;first|omega|exact Nat.le_refl _⟩,by repeat (first|exact Drawn0.refl _|apply Drawn0.step)⟩
     rw [if_neg c21] at H
     have c21b0 : decide (4294967296 ≤ x15_1) = false:=decide_eq_false c21
     clear c21
     (first|rw [c21b0]|(simp only [i64_w,i32_w];rw [c21b0])|skip)
     have H':=Aside0.mk H
     clear H
     go_wp2
     repeat (go_quiet (fail);try go_wp2)
     go_meet
     case rel => exact ⟨_,(decide ((IntKind.u64.wrap (x15_1 * (Go.bits .and .u64 (ji10) 4294967295))) > (IntKind.u64.wrap ((IntKind.u64.wrap (4294967296 * x16_1)) + ((ji17) / 4294967296))))),(by first|rfl|(simp;done)|(simp only [← hji10,← hji17] <;> (first|rfl|simp))|(simp [*];done)),H',⟨by have:=HK1.out;first|omega|exact Nat.le_refl _⟩,by repeat (first|exact Drawn0.refl _|apply Drawn0.step)⟩
    case rest =>
     clear HC20;(try clear c1);(try clear c2);(try clear p2);(try clear c4);(try clear c4b0);(try clear c4b1);(try clear c5);(try clear c5b0);(try clear c6);(try clear c6b0);(try clear c6b1);(try clear c9);(try clear c9b0);(try clear c9b1);(try clear c11);(try clear c11b0);(try clear c14);(try clear c14b0);(try clear c14b1);(try clear c16);(try clear c16b0);(try clear c18);(try clear c18b0);(try clear c18b1);(try clear c21);(try clear c21b0);(try clear p2)
     obtain ⟨kq,x78_19,rfl,HA,HJ19,⟨mc19,rfl⟩⟩:=hcut
     cases kq with
    |zero => exact absurd HA.out (by simp [bits_Div64.j1])
    |succ kj19 =>
      have H:=HA.out
      clear HA
      simp only [bits_Div64.j1] at H
      by_cases c22 : x78_19 = true
      rotate_left
      ·replace c22:=Bool.eq_false_iff.mpr c22
       subst c22
       have H1 : (bits_Div64.j2 kj19 ji10 ji8 ((ji10) / 4294967296) (Go.bits .and .u64 (ji10) 4294967295) (Go.bits .or .u64 (ji12) (ji15)) ((ji17) / 4294967296) (Go.bits .and .u64 (ji17) 4294967295) x15_1) = some (r1,r2):=by rw [if_neg (show ¬ (false = true) by decide)] at H;exact H
       clear H;have H:=H1;clear H1
       have H':=Aside0.mk H
       clear H
       go_wp2
       repeat (go_quiet (fail);try go_wp2)
       go_meet
       case rel => exact ⟨_,(x15_1),(by first|rfl|(simp;done)|(simp [*];done)|(simp;rw [Bool.eq_iff_iff];simp;done)|(rw [Bool.eq_iff_iff];simp;done)),H',⟨by have:=HK1.out;have:=HJ19.out;first|omega|exact Nat.le_refl _⟩,by repeat (first|exact Drawn0.refl _|apply Drawn0.step)⟩
      subst c22
      have H1 : (if (IntKind.u64.wrap (x16_1 + ((ji10) / 4294967296))) ≥ 4294967296 then (bits_Div64.j2 kj19 ji10 ji8 ((ji10) / 4294967296) (Go.bits .and .u64 (ji10) 4294967295) (Go.bits .or .u64 (ji12) (ji15)) ((ji17) / 4294967296) (Go.bits .and .u64 (ji17) 4294967295) (IntKind.u64.wrap (x15_1 - 1))) else (bits_Div64.l0 kj19 ji10 ji8 ((ji10) / 4294967296) (Go.bits .and .u64 (ji10) 4294967295) (Go.bits .or .u64 (ji12) (ji15)) ((ji17) / 4294967296) (Go.bits .and .u64 (ji17) 4294967295) (IntKind.u64.wrap (x15_1 - 1)) (IntKind.u64.wrap (x16_1 + ((ji10) / 4294967296))))) = some (r1,r2):=by rw [if_pos rfl] at H;exact H
      clear H;have H:=H1;clear H1
      by_cases c23 : (IntKind.u64.wrap (x16_1 + ((ji10) / 4294967296))) ≥ 4294967296
      ·rw [if_pos c23] at H
       have c23b0 : decide (4294967296 ≤ (IntKind.u64.wrap (x16_1 + ((ji10) / 4294967296)))) = true:=decide_eq_true c23
       clear c23
       have H':=Aside0.mk H
       clear H
       go_wp2
       repeat (go_quiet (fail);try go_wp2)
       go_meet
       case rel => exact ⟨_,(IntKind.u64.wrap (x15_1 - 1)),(by first|rfl|(simp;done)|(simp [*];done)|(simp;rw [Bool.eq_iff_iff];simp;done)|(rw [Bool.eq_iff_iff];simp;done)),H',⟨by have:=HK1.out;have:=HJ19.out;first|omega|exact Nat.le_refl _⟩,by repeat (first|exact Drawn0.refl _|apply Drawn0.step)⟩
      rw [if_neg c23] at H
      have c23b0 : decide (4294967296 ≤ (IntKind.u64.wrap (x16_1 + ((ji10) / 4294967296)))) = false:=decide_eq_false c23
      clear c23
      have H':=Aside0.mk H
      clear H
      go_wp2
      repeat (go_quiet (fail);try go_wp2)
      go_roundg kj19
      case measure => have:=HK1.out;have:=HJ19.out;omega
      case rel => exact ⟨(IntKind.u64.wrap (x15_1 - 1)),(IntKind.u64.wrap (x16_1 + ((ji10) / 4294967296))),(by first|rfl|(simp;done)|(simp [*];done)|(simp;rw [Bool.eq_iff_iff];simp;done)|(rw [Bool.eq_iff_iff];simp;done)),(by first|rfl|(simp;done)|(simp only [← hji10] <;> (first|rfl|simp))|(simp [*];done)),H',⟨by have:=HK1.out;have:=HJ19.out;omega⟩,by repeat (first|exact Drawn0.refl _|apply Drawn0.step)⟩
 case rest =>
  clear HC19;(try clear c1);(try clear c2);(try clear p2);(try clear c4);(try clear c4b0);(try clear c4b1);(try clear c5);(try clear c5b0);(try clear c6);(try clear c6b0);(try clear c6b1);(try clear c9);(try clear c9b0);(try clear c9b1);(try clear c11);(try clear c11b0);(try clear c14);(try clear c14b0);(try clear c14b1);(try clear c16);(try clear c16b0);(try clear c18);(try clear c18b0);(try clear c18b1);(try clear c19);(try clear c21);(try clear c21b0);(try clear c22);(try clear c23);(try clear c23b0);(try clear p2)
  obtain ⟨kq,x15_18,rfl,HA,HJ18,⟨mc18,rfl⟩⟩:=hcut
  cases kq with
 |zero => exact absurd HA.out (by simp [bits_Div64.j2])
 |succ kj18 =>
   have H:=HA.out
   clear HA
   simp only [bits_Div64.j2] at H
   by_cases c24 : ((ji10) / 4294967296) = 0
   ·rw [if_pos c24] at H
    exact absurd H (by simp)
   rw [if_neg c24] at H
   have c24b0 : (((ji10) / 4294967296) == 0) = false:=beq_eq_false_iff_ne.mpr c24
   have c24b1 : (((ji10) / 4294967296) != 0) = true:=bne_iff_ne.mpr c24
   have H':=Aside0.mk H
   clear H
   go_wp2
   repeat (go_quiet (fail);try go_wp2)
   go_loopg [16,18] kj18 (fun kq v16 v18 w' => ∃ (x16_2 : Int) (x18_2 : Int),v16 = .int .u64 x16_2 ∧ v18 = .int .u64 x18_2 ∧ Aside0 (bits_Div64.l1 kq ji10 ji8 ((ji10) / 4294967296) (Go.bits .and .u64 (ji10) 4294967295) (Go.bits .and .u64 (ji17) 4294967295) x15_18 x16_2 (IntKind.u64.wrap ((IntKind.u64.wrap ((IntKind.u64.wrap ((Go.bits .or .u64 (ji12) (ji15)) * 4294967296)) + ((ji17) / 4294967296))) - (IntKind.u64.wrap (x15_18 * ji10)))) x18_2 = some (r1,r2)) ∧ Aside0 (kq ≤ kj18) ∧ Drawn0 w w')
   case atStart => exact ⟨(IntKind.u64.wrap ((IntKind.u64.wrap ((IntKind.u64.wrap ((IntKind.u64.wrap ((Go.bits .or .u64 (ji12) (ji15)) * 4294967296)) + ((ji17) / 4294967296))) - (IntKind.u64.wrap (x15_18 * ji10)))) - (IntKind.u64.wrap ((IntKind.u64.wrap (Int.tdiv (IntKind.u64.wrap ((IntKind.u64.wrap ((IntKind.u64.wrap ((Go.bits .or .u64 (ji12) (ji15)) * 4294967296)) + ((ji17) / 4294967296))) - (IntKind.u64.wrap (x15_18 * ji10)))) ((ji10) / 4294967296))) * ((ji10) / 4294967296))))),(IntKind.u64.wrap (Int.tdiv (IntKind.u64.wrap ((IntKind.u64.wrap ((IntKind.u64.wrap ((Go.bits .or .u64 (ji12) (ji15)) * 4294967296)) + ((ji17) / 4294967296))) - (IntKind.u64.wrap (x15_18 * ji10)))) ((ji10) / 4294967296))),(by first|rfl|(simp;done)|(simp only [← hji10,← hji12,← hji15,← hji17] <;> (first|rfl|simp))|(simp [*];done)),(by first|rfl|(simp;done)|(simp only [← hji10,← hji12,← hji15,← hji17] <;> (first|rfl|simp))|(simp [*];done)),H',⟨Nat.le_refl _⟩,by repeat (first|exact Drawn0.refl _|apply Drawn0.step)⟩
   case round =>
    clear H';(try clear c1);(try clear c2);(try clear p2);(try clear c4);(try clear c4b0);(try clear c4b1);(try clear c5);(try clear c5b0);(try clear c6);(try clear c6b0);(try clear c6b1);(try clear c9);(try clear c9b0);(try clear c9b1);(try clear c11);(try clear c11b0);(try clear c14);(try clear c14b0);(try clear c14b1);(try clear c16);(try clear c16b0);(try clear c18);(try clear c18b0);(try clear c18b1);(try clear c19);(try clear c21);(try clear c21b0);(try clear c22);(try clear c23);(try clear c23b0);(try clear c24);(try clear c24b0);(try clear c24b1);(try clear p2)
    obtain ⟨x16_2,x18_2,rfl,rfl,HA,HK2,⟨m2,rfl⟩⟩:=hrel
    cases gk with
   |zero => exact absurd HA.out (by simp [bits_Div64.l1])
   |succ k2 =>
     have H:=HA.out
     clear HA
     simp only [bits_Div64.l1] at H
     have HC25:=Aside0.mk H
     clear H
     go_upto_region 24 with (fail)
     repeat (go_quiet (fail);go_upto_region 24 with (fail))
     go_cut [113] (fun v113 wc => ∃ (kq : Nat) (x113_24 : Bool),v113 = .bool x113_24 ∧ Aside0 (bits_Div64.j4 kq ji10 ji8 ((ji10) / 4294967296) (Go.bits .and .u64 (ji10) 4294967295) (Go.bits .and .u64 (ji17) 4294967295) x15_18 x16_2 (IntKind.u64.wrap ((IntKind.u64.wrap ((IntKind.u64.wrap ((Go.bits .or .u64 (ji12) (ji15)) * 4294967296)) + ((ji17) / 4294967296))) - (IntKind.u64.wrap (x15_18 * ji10)))) x18_2 x113_24 = some (r1,r2)) ∧ Aside0 (kq ≤ k2) ∧ Drawn0 w wc)
     case first =>
      have H:=HC25.out
      clear HC25
      by_cases c26 : x18_2 ≥ 4294967296
      ·rw [if_pos c26] at H
       have c26b0 : decide (4294967296 ≤ x18_2) = true:=decide_eq_true c26
       clear c26
       (first|rw [c26b0]|(simp only [i64_w,i32_w];rw [c26b0])|skip)
       have H':=Aside0.mk H
       clear H
       go_wp2
       repeat (go_quiet (fail);try go_wp2)
       go_meet
       case rel => exact ⟨_,(true),(by first|rfl|(simp;done)|(simp [*];done)|(simp;rw [Bool.eq_iff_iff];simp;done)|(rw [Bool.eq_iff_iff];simp;done)),H',⟨by have:=HJ18.out;have:=HK2.out;first|omega|exact Nat.le_refl _⟩,by repeat (first|exact Drawn0.refl _|apply Drawn0.step)⟩
      rw [if_neg c26] at H
      have c26b0 : decide (4294967296 ≤ x18_2) = false:=decide_eq_false c26
      clear c26
      (first|rw [c26b0]|(simp only [i64_w,i32_w];rw [c26b0])|skip)
      have H':=Aside0.mk H
      clear H
      go_wp2
      repeat (go_quiet (fail);try go_wp2)
      go_meet
      case rel => exact ⟨_,(decide ((IntKind.u64.wrap (x18_2 * (Go.bits .and .u64 (ji10) 4294967295))) > (IntKind.u64.wrap ((IntKind.u64.wrap (4294967296 * x16_2)) + (Go.bits .and .u64 (ji17) 4294967295))))),(by first|rfl|(simp;done)|(simp only [← hji10,← hji17] <;> (first|rfl|simp))|(simp [*];done)),H',⟨by have:=HJ18.out;have:=HK2.out;first|omega|exact Nat.le_refl _⟩,by repeat (first|exact Drawn0.refl _|apply Drawn0.step)⟩
     case rest =>
      clear HC25;(try clear c1);(try clear c2);(try clear p2);(try clear c4);(try clear c4b0);(try clear c4b1);(try clear c5);(try clear c5b0);(try clear c6);(try clear c6b0);(try clear c6b1);(try clear c9);(try clear c9b0);(try clear c9b1);(try clear c11);(try clear c11b0);(try clear c14);(try clear c14b0);(try clear c14b1);(try clear c16);(try clear c16b0);(try clear c18);(try clear c18b0);(try clear c18b1);(try clear c19);(try clear c21);(try clear c21b0);(try clear c22);(try clear c23);(try clear c23b0);(try clear c24);(try clear c24b0);(try clear c24b1);(try clear c25);(try clear c26);(try clear c26b0);(try clear p2)
      obtain ⟨kq,x113_24,rfl,HA,HJ24,⟨mc24,rfl⟩⟩:=hcut
      cases kq with
     |zero => exact absurd HA.out (by simp [bits_Div64.j4])
     |succ kj24 =>
       have H:=HA.out
       clear HA
       simp only [bits_Div64.j4] at H
       by_cases c27 : x113_24 = true
       rotate_left
       ·replace c27:=Bool.eq_false_iff.mpr c27
        subst c27
        have H1 : (if 0 ≤ ji8 then (some (IntKind.u64.wrap ((IntKind.u64.wrap (x15_18 * 4294967296)) + x18_2),shr .u64 (IntKind.u64.wrap ((IntKind.u64.wrap ((IntKind.u64.wrap ((IntKind.u64.wrap ((IntKind.u64.wrap ((IntKind.u64.wrap ((Go.bits .or .u64 (ji12) (ji15)) * 4294967296)) + ((ji17) / 4294967296))) - (IntKind.u64.wrap (x15_18 * ji10)))) * 4294967296)) + (Go.bits .and .u64 (ji17) 4294967295))) - (IntKind.u64.wrap (x18_2 * ji10)))) ji8)) else (none)) = some (r1,r2):=by rw [if_neg (show ¬ (false = true) by decide)] at H;exact H
        clear H;have H:=H1;clear H1
        by_cases c31 : 0 ≤ ji8
        rotate_left
        ·rw [if_neg c31] at H
         exact absurd H (by simp)
        rw [if_pos c31] at H
        have c31b0:=eq_true c31
        have c31b1 : decide (0 ≤ ji8) = true:=decide_eq_true c31
        clear c31
        obtain ⟨ji32,hji32⟩ : ∃ j_ : Int,(shr .u64 (IntKind.u64.wrap ((IntKind.u64.wrap ((IntKind.u64.wrap ((IntKind.u64.wrap ((IntKind.u64.wrap ((IntKind.u64.wrap ((Go.bits .or .u64 (ji12) (ji15)) * 4294967296)) + ((ji17) / 4294967296))) - (IntKind.u64.wrap (x15_18 * ji10)))) * 4294967296)) + (Go.bits .and .u64 (ji17) 4294967295))) - (IntKind.u64.wrap (x18_2 * ji10)))) ji8) = j_:=⟨_,rfl⟩
        replace H : (some (IntKind.u64.wrap ((IntKind.u64.wrap (x15_18 * 4294967296)) + x18_2),ji32)) = some (r1,r2):=by first|(rw [hji32] at H;exact H)|(simp only [hji32] at H ⊢;exact H)
        have hji32_ : ((IntKind.u64.wrap ((IntKind.u64.wrap ((IntKind.u64.wrap ((IntKind.u64.wrap ((IntKind.u64.wrap ((IntKind.u64.wrap ((Go.bits .or .u64 (ji12) (ji15)) * 4294967296)) + ((ji17) / 4294967296))) - (IntKind.u64.wrap (x15_18 * ji10)))) * 4294967296)) + (Go.bits .and .u64 (ji17) 4294967295))) - (IntKind.u64.wrap (x18_2 * ji10)))) / 2 ^ min ji8.toNat 64) = ji32:=hji32
        have hji32z : ji8 ≤ 64 → ((IntKind.u64.wrap ((IntKind.u64.wrap ((IntKind.u64.wrap ((IntKind.u64.wrap ((IntKind.u64.wrap ((IntKind.u64.wrap ((Go.bits .or .u64 (ji12) (ji15)) * 4294967296)) + ((ji17) / 4294967296))) - (IntKind.u64.wrap (x15_18 * ji10)))) * 4294967296)) + (Go.bits .and .u64 (ji17) 4294967295))) - (IntKind.u64.wrap (x18_2 * ji10)))) / 2 ^ ji8.toNat) = ji32:=shr_small hji32
        simp only [Option.some.injEq,Prod.mk.injEq] at H
        obtain ⟨rfl,rfl⟩:=H
        go_wp2
        repeat (go_quiet (fail);try go_wp2)
        go_ret2
        exact ⟨by first|rfl|(simp;done)|(simp only [← hji8,← hji10,← hji12,← hji13,← hji15,← hji17,← hji32] <;> (first|rfl|simp))|(simp [*];done),by repeat (first|exact Drawn0.refl _|apply Drawn0.step)⟩
       subst c27
       have H1 : (if (IntKind.u64.wrap (x16_2 + ((ji10) / 4294967296))) ≥ 4294967296 then (if 0 ≤ ji8 then (some (IntKind.u64.wrap ((IntKind.u64.wrap (x15_18 * 4294967296)) + (IntKind.u64.wrap (x18_2 - 1))),shr .u64 (IntKind.u64.wrap ((IntKind.u64.wrap ((IntKind.u64.wrap ((IntKind.u64.wrap ((IntKind.u64.wrap ((IntKind.u64.wrap ((Go.bits .or .u64 (ji12) (ji15)) * 4294967296)) + ((ji17) / 4294967296))) - (IntKind.u64.wrap (x15_18 * ji10)))) * 4294967296)) + (Go.bits .and .u64 (ji17) 4294967295))) - (IntKind.u64.wrap ((IntKind.u64.wrap (x18_2 - 1)) * ji10)))) ji8)) else (none)) else (bits_Div64.l1 kj24 ji10 ji8 ((ji10) / 4294967296) (Go.bits .and .u64 (ji10) 4294967295) (Go.bits .and .u64 (ji17) 4294967295) x15_18 (IntKind.u64.wrap (x16_2 + ((ji10) / 4294967296))) (IntKind.u64.wrap ((IntKind.u64.wrap ((IntKind.u64.wrap ((Go.bits .or .u64 (ji12) (ji15)) * 4294967296)) + ((ji17) / 4294967296))) - (IntKind.u64.wrap (x15_18 * ji10)))) (IntKind.u64.wrap (x18_2 - 1)))) = some (r1,r2):=by rw [if_pos rfl] at H;exact H
       clear H;have H:=H1;clear H1
       by_cases c28 : (IntKind.u64.wrap (x16_2 + ((ji10) / 4294967296))) ≥ 4294967296
       rotate_left
       ·rw [if_neg c28] at H
        have c28b0 : decide (4294967296 ≤ (IntKind.u64.wrap (x16_2 + ((ji10) / 4294967296)))) = false:=decide_eq_false c28
        clear c28
        have H':=Aside0.mk H
        clear H
        go_wp2
        repeat (go_quiet (fail);try go_wp2)
        go_roundg kj24
        case measure => have:=HJ18.out;have:=HK2.out;have:=HJ24.out;omega
        case rel => exact ⟨(IntKind.u64.wrap (x16_2 + ((ji10) / 4294967296))),(IntKind.u64.wrap (x18_2 - 1)),(by first|rfl|(simp;done)|(simp only [← hji10] <;> (first|rfl|simp))|(simp [*];done)),(by first|rfl|(simp;done)|(simp [*];done)|(simp;rw [Bool.eq_iff_iff];simp;done)|(rw [Bool.eq_iff_iff];simp;done)),H',⟨by have:=HJ18.out;have:=HK2.out;have:=HJ24.out;omega⟩,by repeat (first|exact Drawn0.refl _|apply Drawn0.step)⟩
       rw [if_pos c28] at H
       have c28b0 : decide (4294967296 ≤ (IntKind.u64.wrap (x16_2 + ((ji10) / 4294967296)))) = true:=decide_eq_true c28
       clear c28
       by_cases c29 : 0 ≤ ji8
       rotate_left
       ·rw [if_neg c29] at H
        exact absurd H (by simp)
       rw [if_pos c29] at H
       have c29b0:=eq_true c29
       have c29b1 : decide (0 ≤ ji8) = true:=decide_eq_true c29
       clear c29
       obtain ⟨ji30,hji30⟩ : ∃ j_ : Int,(shr .u64 (IntKind.u64.wrap ((IntKind.u64.wrap ((IntKind.u64.wrap ((IntKind.u64.wrap ((IntKind.u64.wrap ((IntKind.u64.wrap ((Go.bits .or .u64 (ji12) (ji15)) * 4294967296)) + ((ji17) / 4294967296))) - (IntKind.u64.wrap (x15_18 * ji10)))) * 4294967296)) + (Go.bits .and .u64 (ji17) 4294967295))) - (IntKind.u64.wrap ((IntKind.u64.wrap (x18_2 - 1)) * ji10)))) ji8) = j_:=⟨_,rfl⟩
       replace H : (some (IntKind.u64.wrap ((IntKind.u64.wrap (x15_18 * 4294967296)) + (IntKind.u64.wrap (x18_2 - 1))),ji30)) = some (r1,r2):=by first|(rw [hji30] at H;exact H)|(simp only [hji30] at H ⊢;exact H)
       have hji30_ : ((IntKind.u64.wrap ((IntKind.u64.wrap ((IntKind.u64.wrap ((IntKind.u64.wrap ((IntKind.u64.wrap ((IntKind.u64.wrap ((Go.bits .or .u64 (ji12) (ji15)) * 4294967296)) + ((ji17) / 4294967296))) - (IntKind.u64.wrap (x15_18 * ji10)))) * 4294967296)) + (Go.bits .and .u64 (ji17) 4294967295))) - (IntKind.u64.wrap ((IntKind.u64.wrap (x18_2 - 1)) * ji10)))) / 2 ^ min ji8.toNat 64) = ji30:=hji30
       have hji30z : ji8 ≤ 64 → ((IntKind.u64.wrap ((IntKind.u64.wrap ((IntKind.u64.wrap ((IntKind.u64.wrap ((IntKind.u64.wrap ((IntKind.u64.wrap ((Go.bits .or .u64 (ji12) (ji15)) * 4294967296)) + ((ji17) / 4294967296))) - (IntKind.u64.wrap (x15_18 * ji10)))) * 4294967296)) + (Go.bits .and .u64 (ji17) 4294967295))) - (IntKind.u64.wrap ((IntKind.u64.wrap (x18_2 - 1)) * ji10)))) / 2 ^ ji8.toNat) = ji30:=shr_small hji30
       simp only [Option.some.injEq,Prod.mk.injEq] at H
       obtain ⟨rfl,rfl⟩:=H
       go_wp2
       repeat (go_quiet (fail);try go_wp2)
       go_ret2
       exact ⟨by first|rfl|(simp;done)|(simp only [← hji8,← hji10,← hji12,← hji13,← hji15,← hji17,← hji30] <;> (first|rfl|simp))|(simp [*];done),by repeat (first|exact Drawn0.refl _|apply Drawn0.step)⟩
end Go.Proofs.YtejgbdclhlolkaaGreatDoor.Q
namespace Go.Proofs.YtejgbdclhlolkaaGreatDoor.Q
open Go.RowKit Go.Proofs.YtejgbdclhlolkaaGreatDoorW.PrintWords Go.Proofs.YtejgbdclhlolkaaGreatDoorW.PrintLast Go.Proofs.YtejgbdclhlolkaaGreatDoorW.PrintMore
attribute [local go_sem] max2_int min2_int max_two min_two max_three min_three max_four min_four   -- for this text's walks alone
set_option linter.unusedVariables false
set_option linter.unusedSimpArgs false
def quant_over.f (k : Nat) (a0 : Int) (a1 : Int) (a2 : Int) : Option (Int × Int) := if a0 ≥ a2 then (some (0, 7)) else ((bits_Div64.f k a0 a1 a2).bind fun bt396 => (if bt396.2 > 0 then (if (IntKind.u64.wrap (bt396.1 + 1)) = 0 then (some (0, 7)) else (if (IntKind.u64.wrap (bt396.1 + 1)) > 9223372036854775807 then (some (0, 7)) else (some (wrap64 (IntKind.u64.wrap (bt396.1 + 1)), 0)))) else (if bt396.1 > 9223372036854775807 then (some (0, 7)) else (some (wrap64 (bt396.1), 0)))))
theorem quant_over.mono : ∀ a0 a1 a2 k, LeO (quant_over.f k a0 a1 a2) (quant_over.f (k + 1) a0 a1 a2) := by
 intro a0 a1 a2 k
 unfold quant_over.f
 repeat' first
  |(with_reducible exact bits_Div64.mono _ _ _ _)
  |(with_reducible exact LeO.refl _)
  |(with_reducible exact LeO.none _)
  |(with_reducible refine LeO.ite ?_ ?_)
  |(with_reducible refine LeO.bind ?_ (fun _ => ?_))
  |exact bits_Div64.mono _ _ _ _
  |exact LeO.none _
  |refine LeO.ite ?_ ?_
  |refine LeO.bind ?_ (fun _ => ?_)
set_option maxHeartbeats 8000000 in
set_option maxRecDepth 100000 in
theorem quant_over.calls (k : Nat) (a0 : Int) (a1 : Int) (a2 : Int) (r1 : Int) (r2 : Int) (w : World) (h : quant_over.f k a0 a1 a2 = some (r1, r2)) :
  Calls Tryz.prog 57 #[.int .u64 a0,.int .u64 a1,.int .u64 a2] w fun e w' => e = .returned (.tuple #[.int .i64 r1,.int .i64 r2]) ∧ Drawn0 w w':=by
 have H : (if a0 ≥ a2 then (some (0,7)) else ((bits_Div64.f k a0 a1 a2).bind fun bt396 => (if bt396.2 > 0 then (if (IntKind.u64.wrap (bt396.1 + 1)) = 0 then (some (0,7)) else (if (IntKind.u64.wrap (bt396.1 + 1)) > 9223372036854775807 then (some (0,7)) else (some (wrap64 (IntKind.u64.wrap (bt396.1 + 1)),0)))) else (if bt396.1 > 9223372036854775807 then (some (0,7)) else (some (wrap64 (bt396.1),0)))))) = some (r1,r2):=h
 clear h
 by_cases c4 : a0 ≥ a2
 ·rw [if_pos c4] at H
  have c4b0 : decide (a2 ≤ a0) = true:=decide_eq_true c4
  clear c4
  simp only [Option.some.injEq,Prod.mk.injEq] at H
  obtain ⟨rfl,rfl⟩:=H
  go_enter Tryz.func57,Tryz.ntmps57
  go_wp2
  go_ret2
  exact ⟨by first|rfl|(simp;done)|(simp [*];done),by repeat (first|exact Drawn0.refl _|apply Drawn0.step)⟩
 rw [if_neg c4] at H
 have c4b0 : decide (a2 ≤ a0) = false:=decide_eq_false c4
 clear c4
 replace H:=Option.bind_eq_some_iff.mp H
 obtain ⟨⟨t396,t397⟩,A50,H⟩:=H
 replace H : (if t397 > 0 then (if (IntKind.u64.wrap (t396 + 1)) = 0 then (some (0,7)) else (if (IntKind.u64.wrap (t396 + 1)) > 9223372036854775807 then (some (0,7)) else (some (wrap64 (IntKind.u64.wrap (t396 + 1)),0)))) else (if t396 > 9223372036854775807 then (some (0,7)) else (some (wrap64 (t396),0)))) = some (r1,r2):=H
 have A5:=Aside0.mk A50
 clear A50
 by_cases c6 : t397 > 0
 rotate_left
 ·rw [if_neg c6] at H
  have c6b0 : decide (0 < t397) = false:=decide_eq_false c6
  clear c6
  by_cases c9 : t396 > 9223372036854775807
  ·rw [if_pos c9] at H
   have c9b0 : decide (9223372036854775807 < t396) = true:=decide_eq_true c9
   clear c9
   simp only [Option.some.injEq,Prod.mk.injEq] at H
   obtain ⟨rfl,rfl⟩:=H
   go_enter Tryz.func57,Tryz.ntmps57
   go_wp2_with (first|((with_reducible refine gate_callee (f:=25) rfl ?_);refine goesL_ (some 17) rfl rfl Tryz.func25 (by kernel_rfl) rfl #[.int .u64 a0,.int .u64 a1,.int .u64 a2] rfl (by (try simp only [List.map_toArray,List.map_cons,List.map_nil]);first|done|rfl|(simp only [List.length_drop,List.length_take];rfl)) ?_;(with_reducible refine (bits_Div64.calls k a0 a1 a2 t396 t397 _ A5.out).mono ?_);rintro e w' ⟨rfl,⟨nd,rfl⟩⟩;refine ⟨_,rfl,?_⟩))
   go_ret2
   exact ⟨by first|rfl|(simp;done)|(simp [*];done),by repeat (first|exact Drawn0.refl _|apply Drawn0.step)⟩
  rw [if_neg c9] at H
  have c9b0 : decide (9223372036854775807 < t396) = false:=decide_eq_false c9
  clear c9
  simp only [Option.some.injEq,Prod.mk.injEq] at H
  obtain ⟨rfl,rfl⟩:=H
  go_enter Tryz.func57,Tryz.ntmps57
  go_wp2_with (first|((with_reducible refine gate_callee (f:=25) rfl ?_);refine goesL_ (some 17) rfl rfl Tryz.func25 (by kernel_rfl) rfl #[.int .u64 a0,.int .u64 a1,.int .u64 a2] rfl (by (try simp only [List.map_toArray,List.map_cons,List.map_nil]);first|done|rfl|(simp only [List.length_drop,List.length_take];rfl)) ?_;(with_reducible refine (bits_Div64.calls k a0 a1 a2 t396 t397 _ A5.out).mono ?_);rintro e w' ⟨rfl,⟨nd,rfl⟩⟩;refine ⟨_,rfl,?_⟩))
  go_ret2
  exact ⟨by first|rfl|(simp;done)|(simp [*];done),by repeat (first|exact Drawn0.refl _|apply Drawn0.step)⟩
 rw [if_pos c6] at H
 have c6b0 : decide (0 < t397) = true:=decide_eq_true c6
 clear c6
 by_cases c7 : (IntKind.u64.wrap (t396 + 1)) = 0
 ·rw [if_pos c7] at H
  have c7b0 : ((IntKind.u64.wrap (t396 + 1)) == 0) = true:=beq_iff_eq.mpr c7
  have c7b1 : ((IntKind.u64.wrap (t396 + 1)) != 0) = false:=bne_eq_false_iff_eq.mpr c7
  clear c7
  simp only [Option.some.injEq,Prod.mk.injEq] at H
  obtain ⟨rfl,rfl⟩:=H
  go_enter Tryz.func57,Tryz.ntmps57
  go_wp2_with (first|((with_reducible refine gate_callee (f:=25) rfl ?_);refine goesL_ (some 17) rfl rfl Tryz.func25 (by kernel_rfl) rfl #[.int .u64 a0,.int .u64 a1,.int .u64 a2] rfl (by (try simp only [List.map_toArray,List.map_cons,List.map_nil]);first|done|rfl|(simp only [List.length_drop,List.length_take];rfl)) ?_;(with_reducible refine (bits_Div64.calls k a0 a1 a2 t396 t397 _ A5.out).mono ?_);rintro e w' ⟨rfl,⟨nd,rfl⟩⟩;refine ⟨_,rfl,?_⟩))
  go_ret2
  exact ⟨by first|rfl|(simp;done)|(simp [*];done),by repeat (first|exact Drawn0.refl _|apply Drawn0.step)⟩
 rw [if_neg c7] at H
 have c7b0 : ((IntKind.u64.wrap (t396 + 1)) == 0) = false:=beq_eq_false_iff_ne.mpr c7
 have c7b1 : ((IntKind.u64.wrap (t396 + 1)) != 0) = true:=bne_iff_ne.mpr c7
 by_cases c8 : (IntKind.u64.wrap (t396 + 1)) > 9223372036854775807
 ·rw [if_pos c8] at H
  have c8b0 : decide (9223372036854775807 < (IntKind.u64.wrap (t396 + 1))) = true:=decide_eq_true c8
  clear c8
  simp only [Option.some.injEq,Prod.mk.injEq] at H
  obtain ⟨rfl,rfl⟩:=H
  go_enter Tryz.func57,Tryz.ntmps57
  go_wp2_with (first|((with_reducible refine gate_callee (f:=25) rfl ?_);refine goesL_ (some 17) rfl rfl Tryz.func25 (by kernel_rfl) rfl #[.int .u64 a0,.int .u64 a1,.int .u64 a2] rfl (by (try simp only [List.map_toArray,List.map_cons,List.map_nil]);first|done|rfl|(simp only [List.length_drop,List.length_take];rfl)) ?_;(with_reducible refine (bits_Div64.calls k a0 a1 a2 t396 t397 _ A5.out).mono ?_);rintro e w' ⟨rfl,⟨nd,rfl⟩⟩;refine ⟨_,rfl,?_⟩))
  go_ret2
  exact ⟨by first|rfl|(simp;done)|(simp [*];done),by repeat (first|exact Drawn0.refl _|apply Drawn0.step)⟩
 rw [if_neg c8] at H
 have c8b0 : decide (9223372036854775807 < (IntKind.u64.wrap (t396 + 1))) = false:=decide_eq_false c8
 clear c8
 simp only [Option.some.injEq,Prod.mk.injEq] at H
 obtain ⟨rfl,rfl⟩:=H
 go_enter Tryz.func57,Tryz.ntmps57
 go_wp2_with (first|((with_reducible refine gate_callee (f:=25) rfl ?_);refine goesL_ (some 17) rfl rfl Tryz.func25 (by kernel_rfl) rfl #[.int .u64 a0,.int .u64 a1,.int .u64 a2] rfl (by (try simp only [List.map_toArray,List.map_cons,List.map_nil]);first|done|rfl|(simp only [List.length_drop,List.length_take];rfl)) ?_;(with_reducible refine (bits_Div64.calls k a0 a1 a2 t396 t397 _ A5.out).mono ?_);rintro e w' ⟨rfl,⟨nd,rfl⟩⟩;refine ⟨_,rfl,?_⟩))
 go_ret2
 exact ⟨by first|rfl|(simp;done)|(simp [*];done),by repeat (first|exact Drawn0.refl _|apply Drawn0.step)⟩
end Go.Proofs.YtejgbdclhlolkaaGreatDoor.Q
namespace Go.Proofs.YtejgbdclhlolkaaGreatDoor.Q
open Go.RowKit Go.Sort Go.Lib Go.Proofs.YtejgbdclhlolkaaGreatDoorW.PrintWords Go.Proofs.YtejgbdclhlolkaaGreatDoorW.PrintLast
set_option linter.unusedVariables false
set_option linter.unusedSimpArgs false
def numeral (u : Nat) : ByteArray := ⟨(Lib.decDigits u).toArray⟩
theorem holds_zero0 (w : World) (T : TypeId) (nd : Nat) (hs : nd ≤ 24) : Holds (fun (b : UInt8) => Value.int .u8 (b.toNat : Int)) (w.alloc (.cells Lib.zeros24 T)) w.heap.size 0 (Array.replicate nd (0 : UInt8)) := fun j hj => by
  have hj' : j < nd := by simpa using hj
  refine ⟨?_, World.frozen?_alloc_new _ _ _ _⟩
  rw [World.cell?_alloc_new, Lib.zeros24_at _ (by omega), getElem!_pos _ j hj]
  simp
theorem fin_new (w : World) (o : Obj) (dk : Array UInt8) (k : Nat) : ∃ os, (putRow (fun (b : UInt8) => Value.int .u8 (b.toNat : Int)) (w.alloc o) w.heap.size 0 dk).drewN k = grow (w.drewN k) os := by
  rw [alloc_eq_grow]
  obtain ⟨os', _, e⟩ := putRow_grow_new (fun (b : UInt8) => Value.int .u8 (b.toNat : Int)) w #[o] w.heap.size 0 dk (Nat.le_refl _)
  exact ⟨os', by rw [e]; rfl⟩
set_option maxHeartbeats 4000000 in
set_option maxRecDepth 100000 in
theorem formatUint_in (u : Nat) (hu64 : u < 18446744073709551616) (w : World) (htab : Lib.TabIs Tryz.prog w "internal/strconv.uint64pow10" .u64 Lib.pow10Tab) :
    Calls Tryz.prog 66 #[.int .u64 u, .int .i64 10] w fun e w' => e = .returned (.string (numeral u)) ∧ Below w.heap.size w w' := by
  by_cases hs : u < 100
  · have h1 : decide ((u : Int) < 100) = true := decide_eq_true (by omega)
    have h2 : IntKind.i64.wrap (u : Int) = u := by rw [IntKind.wrap_i64]; omega
    go_enter Tryz.func66, Tryz.ntmps66
    go_wp2_with (go_at_call 87; refine (Tryz.internal_strconv_small u hs _).mono ?_; rintro e w' ⟨rfl, rfl⟩)
    go_ret
    exact ⟨rfl, Below.refl _ _⟩
  · have hu1 : 1 ≤ u := by omega
    have h1 : decide ((u : Int) < 100) = false := decide_eq_false (by omega)
    have hnd20 : Lib.nDigits u ≤ 20 := by have := Lib.numDigits_eq u hu1 hu64; split at this <;> omega
    have hal : Tryz.prog.arrayLen 106 = 24 := by kernel_rfl
    have hsl : ∀ W, (Instr.sliceAt 106 (.pointer (some ⟨w.heap.size, 0, none⟩)) none (some (.int .i64 (Lib.nDigits u : Int))) none).run Tryz.prog W = .ok (.slice (some ⟨w.heap.size, 0, none⟩) (Lib.nDigits u) 24) W := fun W => by
      rw [run_sliceAt_array_h W 106 ⟨w.heap.size, 0, none⟩ (by kernel_rfl) .i64 (Lib.nDigits u : Int) (by omega) (by rw [hal]; omega)]
      go_simp
    have hH0 := holds_zero0 w 106 (Lib.nDigits u) (by omega)
    have hfmt := Tryz.internal_strconv_formatBase10 w.heap.size 0 24 u (Array.replicate (Lib.nDigits u) 0) (w.alloc (.cells Lib.zeros24 106)) hH0 (by rw [Array.size_replicate]; exact Lib.lt_pow_nDigits u) hu64 (by rw [Array.size_replicate]; omega)
    rw [Array.size_replicate] at hfmt
    have HH0 := Lib.hid hH0
    clear hH0 hal
    go_enter Tryz.func66, Tryz.ntmps66
    go_wp2_with (first
      | (go_at_call 88; refine (Tryz.internal_strconv_numDigits u hu1 hu64 _ (Lib.tabIs_alloc htab _)).mono ?_; rintro e w' ⟨rfl, rfl⟩))
    go_at_call 89
    refine hfmt.mono ?_
    rintro e w' ⟨rfl, k, v', dk, rfl, hF⟩
    have hcv : (convert 108 9 (.slice (some ⟨w.heap.size, 0, none⟩) (Lib.nDigits u) 24)).run Tryz.prog ((putRow (fun (b : UInt8) => Value.int .u8 (b.toNat : Int)) (w.alloc (.cells Lib.zeros24 106)) w.heap.size 0 dk).drewN k) = .ok (.string (numeral u)) ((putRow (fun (b : UInt8) => Value.int .u8 (b.toNat : Int)) (w.alloc (.cells Lib.zeros24 106)) w.heap.size 0 dk).drewN k) := by
      have h := run_convert_bytes_back (P := Tryz.prog) ((putRow (fun (b : UInt8) => Value.int .u8 (b.toNat : Int)) (w.alloc (.cells Lib.zeros24 106)) w.heap.size 0 dk).drewN k) 108 9 5 ⟨w.heap.size, 0, none⟩ 24 (Lib.decDigits u) Tryz.underlying108 Tryz.underlying5 Tryz.underlying9 (fun j hj => by
        rw [Lib.row_is_numeral hF j hj, Lib.add_plain, World.cell?_drewN]
        exact cell?_putRow (fun (b : UInt8) => Value.int .u8 (b.toNat : Int)) _ w.heap.size 0 _ dk HH0.out (by rw [hF.size, Array.size_replicate]) j (by rw [hF.size]; rw [Lib.decDigits_length] at hj; exact hj))
      rw [Lib.decDigits_length] at h
      exact h
    go_wp2
    go_ret
    obtain ⟨os, eo⟩ := fin_new w (.cells Lib.zeros24 106) dk k
    exact ⟨rfl, by rw [eo]; exact below_grow _ w (Nat.le_refl _) k os⟩
def strconv_FormatUint.f (a0 a1 : Int) : Option ByteArray := if 0 ≤ a0 ∧ a0 < 18446744073709551616 ∧ a1 = 10 then some (numeral a0.toNat) else none
theorem strconv_FormatUint.calls (a0 a1 : Int) (r : ByteArray) (w : World) (h : strconv_FormatUint.f a0 a1 = some r) (hG : Glob w) :
    Calls Tryz.prog 23 #[.int .u64 a0, .int .i64 a1] w fun e w' => e = .returned (.string r) ∧ Below w.heap.size w w' := by
  unfold strconv_FormatUint.f at h
  split at h
  · rename_i hc
    obtain rfl := Option.some.inj h
    obtain ⟨u, rfl⟩ : ∃ u : Nat, a0 = u := ⟨a0.toNat, by omega⟩
    obtain ⟨_, h64, rfl⟩ := hc
    have ht := hG.tab
    go_enter Tryz.func23, Tryz.ntmps23
    go_wp2_with (go_at_call 66; refine (formatUint_in u (by omega) _ ht).mono ?_; rintro e w' ⟨rfl, hb⟩)
    go_ret
    exact ⟨rfl, hb⟩
  · cases h
def itoaB (n : Int) : ByteArray := ⟨(Lib.itoa n).toArray⟩
def strconv_FormatInt.f (a0 a1 : Int) : Option ByteArray := if -9223372036854775808 ≤ a0 ∧ a0 ≤ 9223372036854775807 ∧ a1 = 10 then some (itoaB a0) else none
theorem strconv_FormatInt.calls (a0 a1 : Int) (r : ByteArray) (w : World) (h : strconv_FormatInt.f a0 a1 = some r) (hG : Glob w) :
    Calls Tryz.prog 21 #[.int .i64 a0, .int .i64 a1] w fun e w' => e = .returned (.string r) ∧ Below w.heap.size w w' := by
  unfold strconv_FormatInt.f at h
  split at h
  · rename_i hc
    obtain rfl := Option.some.inj h
    obtain ⟨h0, h1, rfl⟩ := hc
    refine (Tryz.strconv_FormatInt_10 a0 h0 h1 w hG.tab).mono ?_
    rintro e w' ⟨rfl, k, os, rfl⟩
    exact ⟨rfl, below_grow _ w (Nat.le_refl _) k os⟩
  · cases h
def digitsB : ByteArray := ⟨#[48, 49, 50, 51, 52, 53, 54, 55, 56, 57]⟩
def strings_Trim.f (a0 a1 : ByteArray) : Option ByteArray := if a0.size ≤ 9223372036854775807 ∧ a1 = digitsB then some ⟨(Lib.trimS a0.data.toList digitsB.data.toList).toArray⟩ else none
theorem strings_Trim.calls (a0 a1 : ByteArray) (r : ByteArray) (w : World) (h : strings_Trim.f a0 a1 = some r) :
    Calls Tryz.prog 80 #[.string a0, .string a1] w fun e w' => e = .returned (.string r) ∧ Below w.heap.size w w' := by
  unfold strings_Trim.f at h
  split at h
  · rename_i hc
    obtain rfl := Option.some.inj h
    obtain ⟨h1, rfl⟩ := hc
    exact Any.strings_Trim_laid Tryz.lays160 (by kernel_rfl) a0 digitsB w h1 (by decide) (Go.Proofs.ascii_of_all (by decide))
  · cases h
end Go.Proofs.YtejgbdclhlolkaaGreatDoor.Q
namespace Go.Proofs.YtejgbdclhlolkaaGreatDoor.Q
open Go.RowKit Go.Proofs.YtejgbdclhlolkaaGreatDoorW.PrintWords Go.Proofs.YtejgbdclhlolkaaGreatDoorW.PrintLast Go.Proofs.YtejgbdclhlolkaaGreatDoorW.PrintMore
attribute [local go_sem] max2_int min2_int max_two min_two max_three min_three max_four min_four   -- for this text's walks alone
set_option linter.unusedVariables false
set_option linter.unusedSimpArgs false
def quant_all.f (a0 : ByteArray) : Option (Bool) := if a0.toList = ([] : List UInt8) then (some false) else ((strings_Trim.f a0 (⟨#[48, 49, 50, 51, 52, 53, 54, 55, 56, 57]⟩ : ByteArray)).bind fun t879 => (some (t879.toList == ([] : List UInt8))))
set_option maxHeartbeats 8000000 in
set_option maxRecDepth 100000 in
theorem quant_all.calls (a0 : ByteArray) (r : Bool) (w : World) (h : quant_all.f a0 = some r) :
  Calls Tryz.prog 55 #[.string a0] w fun e w' => e = .returned (.bool r) ∧ Below w.heap.size w w':=by
 have HB:=Aside0.mk (Below.refl w.heap.size w)
 have H : (if a0.toList = ([] : List UInt8) then (some false) else ((strings_Trim.f a0 (⟨#[48,49,50,51,52,53,54,55,56,57]⟩ : ByteArray)).bind fun t879 => (some (t879.toList == ([] : List UInt8))))) = some r:=h
 clear h
 by_cases c2 : a0.toList = ([] : List UInt8)
 ·rw [if_pos c2] at H
  have c2b0 : (a0.toList == ([] : List UInt8)) = true:=beq_iff_eq.mpr c2
  have c2b1 : (a0.toList != ([] : List UInt8)) = false:=bne_eq_false_iff_eq.mpr c2
  clear c2
  obtain rfl:=Option.some.inj H
  go_enter Tryz.func55,Tryz.ntmps55
  go_wp2
  go_ret
  exact ⟨by first|rfl|(simp [errW_none,errW_some] <;> rfl)|(simp [*,errW_none,errW_some] <;> rfl),by repeat (first|(with_reducible first|exact HB.out|apply below_alloc|apply pw_below_drewN|apply below_drew1)|exact HB.out)⟩
 ·rw [if_neg c2] at H
  have c2b0 : (a0.toList == ([] : List UInt8)) = false:=beq_eq_false_iff_ne.mpr c2
  have c2b1 : (a0.toList != ([] : List UInt8)) = true:=bne_iff_ne.mpr c2
  replace H:=Option.bind_eq_some_iff.mp H
  obtain ⟨t879,A30,H⟩:=H
  replace H : (some (t879.toList == ([] : List UInt8))) = some r:=H
  have A3:=Aside0.mk A30
  clear A30
  obtain rfl:=Option.some.inj H
  go_enter Tryz.func55,Tryz.ntmps55
  go_wp2_with (first|(go_at_call 80;(with_reducible refine (strings_Trim.calls a0 (⟨#[48,49,50,51,52,53,54,55,56,57]⟩ : ByteArray) t879 _ A3.out).mono ?_);rintro e w4 ⟨rfl,hb⟩;have n0_:=Aside0.mk (below_step (by repeat (first|(with_reducible first|exact HB.out|apply below_alloc|apply pw_below_drewN|apply below_drew1)|exact HB.out)) hb);clear HB;have HB:=n0_;clear n0_;(try clear hb);(try clear hb2);(try clear hk);(try clear hi)))
  go_ret
  exact ⟨by first|rfl|(simp [errW_none,errW_some] <;> rfl)|(simp [*,errW_none,errW_some] <;> rfl),by repeat (first|(with_reducible first|exact HB.out|apply below_alloc|apply pw_below_drewN|apply below_drew1)|exact HB.out)⟩
end Go.Proofs.YtejgbdclhlolkaaGreatDoor.Q
namespace Go.Proofs.YtejgbdclhlolkaaGreatDoor.Q
open Go.RowKit Go.Proofs.YtejgbdclhlolkaaGreatDoorW.PrintWords Go.Proofs.YtejgbdclhlolkaaGreatDoorW.PrintLast Go.Proofs.YtejgbdclhlolkaaGreatDoorW.PrintMore
attribute [local go_sem] max2_int min2_int max_two min_two max_three min_three max_four min_four   -- for this text's walks alone
set_option linter.unusedVariables false
set_option linter.unusedSimpArgs false
def quant_form.l0 : Nat → Int → ByteArray → List (S66) → Int → Int → Option (ByteArray)
|0,_,_,_,_,_ => none
|k + 1,x0,x5,x8,x9,x10 => if x10 < x9 then (if 0 ≤ x10 then (if x10 < (x8.length : Int) then (if ((rd_T66 x8 x10).f1) = 0 then (none) else (if (Int.tmod x0 ((rd_T66 x8 x10).f1)) = 0 then ((strconv_FormatUint.f (IntKind.u64.wrap (Int.tdiv x0 ((rd_T66 x8 x10).f1))) 10).bind fun t878 => (if t878.size + ((rd_T66 x8 x10).f0).size ≤ 9223372036854775807 then (quant_form.l0 k x0 (t878 ++ ((rd_T66 x8 x10).f0)) x8 x9 (wrap64 (x10 + 1))) else (none))) else (quant_form.l0 k x0 x5 x8 x9 (wrap64 (x10 + 1))))) else (none)) else (none)) else (some x5)
def quant_form.f (k : Nat) (a0 : Int) (l1 : List (S66)) : Option (ByteArray) := quant_form.l0 k a0 (⟨#[]⟩ : ByteArray) l1 (l1.length : Int) 0
theorem quant_form.mono_l : ∀ k, (∀ y0 y1 y2 y3 y4, LeO (quant_form.l0 k y0 y1 y2 y3 y4) (quant_form.l0 (k + 1) y0 y1 y2 y3 y4))
|0 => fun _ _ _ _ _ r h => by simp [quant_form.l0] at h
|k + 1 => by
  have ih0:=quant_form.mono_l k
  ·intro y0 y1 y2 y3 y4
   unfold quant_form.l0
   repeat' first
  |(with_reducible exact ih0 _ _ _ _ _)
  |(with_reducible exact LeO.refl _)
  |(with_reducible exact LeO.none _)
  |(with_reducible refine LeO.ite ?_ ?_)
  |(with_reducible refine LeO.bind ?_ (fun _ => ?_))
  |exact ih0 _ _ _ _ _
  |exact LeO.none _
  |refine LeO.ite ?_ ?_
  |refine LeO.bind ?_ (fun _ => ?_)
theorem quant_form.mono : ∀ a0 a1 k, LeO (quant_form.f k a0 a1) (quant_form.f (k + 1) a0 a1) := by
 intro a0 a1 k
 have ih0:=quant_form.mono_l k
 unfold quant_form.f
 repeat' first
  |(with_reducible exact ih0 _ _ _ _ _)
  |(with_reducible exact LeO.refl _)
  |(with_reducible exact LeO.none _)
  |(with_reducible refine LeO.ite ?_ ?_)
  |(with_reducible refine LeO.bind ?_ (fun _ => ?_))
  |exact ih0 _ _ _ _ _
  |exact LeO.none _
  |refine LeO.ite ?_ ?_
  |refine LeO.bind ?_ (fun _ => ?_)
def quant_form.T6 : Bool × List (List Nat × List Nat) := (true, [([], []), ([], []), ([1], [1]), ([0, 2], [0, 2]), ([3], [3]), ([], []), ([5], [5]), ([4, 6], [4, 6]), ([7, 4, 0, 1, 2, 3, 4, 5, 6, 7], [7])])
def quant_form.B6 : List Nat := [0, 0, 2, 7, 15, 0, 32, 127, 255]
theorem quant_form.tab6 : rtab .any (opsOf Tryz.f61 6) = quant_form.T6 := by kernel_rfl
theorem quant_form.bits6 : waitsOk quant_form.T6.2 quant_form.B6 = true := by kernel_rfl
set_option maxHeartbeats 8000000 in
set_option maxRecDepth 100000 in
theorem quant_form.calls (k : Nat) (a0 : Int) (A1 : Option Addr) (c1 : Nat) (l1 : List (S66)) (r : ByteArray) (w : World) (hr1 : Kd.C k66 w A1 l1.length l1) (hc1 : l1.length ≤ c1) (h : quant_form.f k a0 l1 = some r) (hG : Glob w) :
  Calls Tryz.prog 61 #[.int .u64 a0,.slice A1 l1.length c1] w fun e w' => e = .returned (.string r) ∧ Below w.heap.size w w':=by
 have hu66:=Tryz.underlying66
 have HR1:=Aside0.mk hr1
 have HC1:=Aside0.mk hc1
 clear hr1 hc1
 have HB:=Aside0.mk (Below.refl w.heap.size w)
 have H : (quant_form.l0 k a0 (⟨#[]⟩ : ByteArray) l1 (l1.length : Int) 0) = some r:=h
 clear h
 have H':=Aside0.mk H
 clear H
 go_enter Tryz.func61,Tryz.ntmps61
 go_wp2
 go_loopg [5,10] k (fun kq v5 v10 w' => ∃ (x5_1 : ByteArray) (x10_1 : Int),v5 = .string x5_1 ∧ v10 = .int .i64 x10_1 ∧ Aside0 (quant_form.l0 kq a0 x5_1 l1 (l1.length : Int) x10_1 = some r) ∧ Aside0 (kq ≤ k) ∧ Aside0 (Below w.heap.size w w'))
 case atStart => exact ⟨((⟨#[]⟩ : ByteArray)),(0),(by first|rfl|(simp;done)|(simp [*];done)|(simp;rw [Bool.eq_iff_iff];simp;done)|(rw [Bool.eq_iff_iff];simp;done)),(by first|rfl|(simp;done)|(simp [*];done)|(simp;rw [Bool.eq_iff_iff];simp;done)|(rw [Bool.eq_iff_iff];simp;done)),H',⟨Nat.le_refl _⟩,⟨by repeat (first|(with_reducible first|exact HB.out|apply below_alloc|apply pw_below_drewN|apply below_drew1)|exact HB.out)⟩⟩
 case round =>
  clear H';(try clear c1);(try clear p2)
  obtain ⟨x5_1,x10_1,rfl,rfl,HA,HK1,HB⟩:=hrel
  cases gk with
 |zero => exact absurd HA.out (by simp [quant_form.l0])
 |succ k1 =>
   have H:=HA.out
   clear HA
   simp only [quant_form.l0] at H
   by_cases c3 : x10_1 < (l1.length : Int)
   rotate_left
   ·rw [if_neg c3] at H
    have c3b0 : decide (x10_1 < (l1.length : Int)) = false:=decide_eq_false c3
    clear c3
    obtain rfl:=Option.some.inj H
    go_wp2
    go_ret
    exact ⟨by first|rfl|(simp [errW_none,errW_some] <;> rfl)|(simp [*,errW_none,errW_some] <;> rfl),by repeat (first|(with_reducible first|exact HB.out|apply below_alloc|apply pw_below_drewN|apply below_drew1)|exact HB.out)⟩
   rw [if_pos c3] at H
   have c3b0 : decide (x10_1 < (l1.length : Int)) = true:=decide_eq_true c3
   clear c3
   by_cases c4 : 0 ≤ x10_1
   rotate_left
   ·rw [if_neg c4] at H
    exact absurd H (by simp)
   rw [if_pos c4] at H
   have c4b0 : decide (0 ≤ x10_1) = true:=decide_eq_true c4
   clear c4
   by_cases c5 : x10_1 < (l1.length : Int)
   rotate_left
   ·rw [if_neg c5] at H
    exact absurd H (by simp)
   rw [if_pos c5] at H
   have c5b0 : decide (x10_1 < (l1.length : Int)) = true:=decide_eq_true c5
   clear c5
   by_cases c6 : ((rd_T66 l1 x10_1).f1) = 0
   ·rw [if_pos c6] at H
    exact absurd H (by simp)
   rw [if_neg c6] at H
   have c6b0 : (((rd_T66 l1 x10_1).f1) == 0) = false:=beq_eq_false_iff_ne.mpr c6
   have c6b1 : (((rd_T66 l1 x10_1).f1) != 0) = true:=bne_iff_ne.mpr c6
   by_cases c7 : (Int.tmod a0 ((rd_T66 l1 x10_1).f1)) = 0
   rotate_left
   ·rw [if_neg c7] at H
    have c7b0 : ((Int.tmod a0 ((rd_T66 l1 x10_1).f1)) == 0) = false:=beq_eq_false_iff_ne.mpr c7
    have c7b1 : ((Int.tmod a0 ((rd_T66 l1 x10_1).f1)) != 0) = true:=bne_iff_ne.mpr c7
    have H':=Aside0.mk H
    clear H
    have p876 : 0 ≤ (x10_1 : Int):=of_decide_eq_true (by first|(with_reducible assumption)|assumption)
    have q876 : x10_1 < (l1.length : Int):=of_decide_eq_true (by first|(with_reducible assumption)|assumption)
    obtain ⟨ad876,e876,hx876_0,hx876_1⟩:=at_T66 HR1.out x10_1 p876 q876
    cases e876
    replace hx876_0:=(HB.out.cell (World.block_lt_of_cell? w _ hx876_0)).trans hx876_0
    replace hx876_1:=(HB.out.cell (World.block_lt_of_cell? w _ hx876_1)).trans hx876_1
    replace p876:=eq_true p876
    replace q876:=eq_true q876
    go_wp2_with (first|((with_reducible refine gate_dst (N:=7) rfl ?_);refine box_event ?hg (N:=7) ?hd (cs:=#[.string (⟨#[]⟩ : ByteArray),.int .u64 0]) (t:=66) ?hr ?_;(case hd => rfl);(case hg => rfl);(case hr => first|(go_simp;done)|(go_simp;rfl));intro gb877 hg w15 hbox hb;have n0_:=Aside0.mk (below_step (by repeat (first|(with_reducible first|exact HB.out|apply below_alloc|apply pw_below_drewN|apply below_drew1)|exact HB.out)) hb);have n1_:=Aside0.mk (hbox);have n2_:=Aside0.mk ((by rw [hg];exact (below_size (by repeat (first|(with_reducible first|exact HB.out|apply below_alloc|apply pw_below_drewN|apply below_drew1)|exact HB.out))) : w.heap.size ≤ gb877));have n3_:=Aside0.mk ((by rw [hg];exact (below_size (by repeat (first|(with_reducible first|exact HB.out|apply below_alloc|apply pw_below_drewN|apply below_drew1)|exact HB.out))) : w.heap.size ≤ gb877));clear HB;have HB:=n0_;have BK877:=n1_;have GW877:=n2_;have GE877:=n3_;clear n0_ n1_ n2_ n3_;clear hb hbox hg;have hcz16_0 : w15.cell? ⟨gb877,0,none⟩ = some (.string (⟨#[]⟩ : ByteArray)):=(blk_cell BK877.out 0).trans rfl;have hcz16_1 : w15.cell? ⟨gb877,1,none⟩ = some (.int .u64 0):=(blk_cell BK877.out 1).trans rfl;have hfz16_0:=blk_frozen BK877.out 0;have hfz16_1:=blk_frozen BK877.out 1))
    go_roundg k1
    case measure => have:=HK1.out;omega
    case rel => exact ⟨(x5_1),(wrap64 (x10_1 + 1)),(by first|rfl|(simp;done)|(simp [*];done)|(simp;rw [Bool.eq_iff_iff];simp;done)|(rw [Bool.eq_iff_iff];simp;done)),(by first|rfl|(simp;done)|(simp [*];done)|(simp;rw [Bool.eq_iff_iff];simp;done)|(rw [Bool.eq_iff_iff];simp;done)),H',⟨by have:=HK1.out;omega⟩,⟨by repeat (first|(with_reducible first|exact HB.out|apply below_alloc|apply pw_below_drewN|apply below_drew1|refine below_set ?_ GE877.out)|exact HB.out)⟩⟩
   rw [if_pos c7] at H
   have c7b0 : ((Int.tmod a0 ((rd_T66 l1 x10_1).f1)) == 0) = true:=beq_iff_eq.mpr c7
   have c7b1 : ((Int.tmod a0 ((rd_T66 l1 x10_1).f1)) != 0) = false:=bne_eq_false_iff_eq.mpr c7
   clear c7
   replace H:=Option.bind_eq_some_iff.mp H
   obtain ⟨t878,A80,H⟩:=H
   replace H : (if t878.size + ((rd_T66 l1 x10_1).f0).size ≤ 9223372036854775807 then (quant_form.l0 k1 a0 (t878 ++ ((rd_T66 l1 x10_1).f0)) l1 (l1.length : Int) (wrap64 (x10_1 + 1))) else (none)) = some r:=H
   have A8:=Aside0.mk A80
   clear A80
   by_cases c9 : t878.size + ((rd_T66 l1 x10_1).f0).size ≤ 9223372036854775807
   rotate_left
   ·rw [if_neg c9] at H
    exact absurd H (by simp)
   rw [if_pos c9] at H
   have c9b0:=eq_true c9
   have c9b1 : decide (t878.size + ((rd_T66 l1 x10_1).f0).size ≤ 9223372036854775807) = true:=decide_eq_true c9
   try have c9b2 : (9223372036854775807 < t878.size + ((rd_T66 l1 x10_1).f0).size) = False:=eq_false (Nat.not_lt.2 c9)
   have H':=Aside0.mk H
   clear H
   have p876 : 0 ≤ (x10_1 : Int):=of_decide_eq_true (by first|(with_reducible assumption)|assumption)
   have q876 : x10_1 < (l1.length : Int):=of_decide_eq_true (by first|(with_reducible assumption)|assumption)
   obtain ⟨ad876,e876,hx876_0,hx876_1⟩:=at_T66 HR1.out x10_1 p876 q876
   cases e876
   replace hx876_0:=(HB.out.cell (World.block_lt_of_cell? w _ hx876_0)).trans hx876_0
   replace hx876_1:=(HB.out.cell (World.block_lt_of_cell? w _ hx876_1)).trans hx876_1
   replace p876:=eq_true p876
   replace q876:=eq_true q876
   try go_wp2_with (first|((with_reducible refine gate_dst (N:=7) rfl ?_);refine box_event ?hg (N:=7) ?hd (cs:=#[.string (⟨#[]⟩ : ByteArray),.int .u64 0]) (t:=66) ?hr ?_;(case hd => rfl);(case hg => rfl);(case hr => first|(go_simp;done)|(go_simp;rfl));intro gb877 hg w10 hbox hb;have n0_:=Aside0.mk (below_step (by repeat (first|(with_reducible first|exact HB.out|apply below_alloc|apply pw_below_drewN|apply below_drew1)|exact HB.out)) hb);have n1_:=Aside0.mk (hbox);have n2_:=Aside0.mk ((by rw [hg];exact (below_size (by repeat (first|(with_reducible first|exact HB.out|apply below_alloc|apply pw_below_drewN|apply below_drew1)|exact HB.out))) : w.heap.size ≤ gb877));have n3_:=Aside0.mk ((by rw [hg];exact (below_size (by repeat (first|(with_reducible first|exact HB.out|apply below_alloc|apply pw_below_drewN|apply below_drew1)|exact HB.out))) : w.heap.size ≤ gb877));clear HB;have HB:=n0_;have BK877:=n1_;have GW877:=n2_;have GE877:=n3_;clear n0_ n1_ n2_ n3_;clear hb hbox hg;have hcz11_0 : w10.cell? ⟨gb877,0,none⟩ = some (.string (⟨#[]⟩ : ByteArray)):=(blk_cell BK877.out 0).trans rfl;have hcz11_1 : w10.cell? ⟨gb877,1,none⟩ = some (.int .u64 0):=(blk_cell BK877.out 1).trans rfl;have hfz11_0:=blk_frozen BK877.out 0;have hfz11_1:=blk_frozen BK877.out 1))
   have n0_ : Aside0 (((w10.setCell ⟨gb877,0,none⟩ (.string ((rd_T66 l1 x10_1).f0))).setCell ⟨gb877,1,none⟩ (.int .u64 ((rd_T66 l1 x10_1).f1))).heap[gb877]? = some (.cells #[.string ((rd_T66 l1 x10_1).f0),.int .u64 ((rd_T66 l1 x10_1).f1)] 66 (0,0))):=⟨by (with_reducible repeat (first|refine blk_drewN ?_ _|refine blk_drew ?_|refine blk_alloc ?_ _));refine blk_put (cs:=#[.string ((rd_T66 l1 x10_1).f0),.int .u64 0]) ?_ 1 _ rfl;(with_reducible repeat (first|refine blk_drewN ?_ _|refine blk_drew ?_|refine blk_alloc ?_ _));refine blk_put (cs:=#[.string (⟨#[]⟩ : ByteArray),.int .u64 0]) ?_ 0 _ rfl;(with_reducible repeat (first|refine blk_drewN ?_ _|refine blk_drew ?_|refine blk_alloc ?_ _));exact BK877.out⟩
   have n1_ : Aside0 (Below w.heap.size w ((w10.setCell ⟨gb877,0,none⟩ (.string ((rd_T66 l1 x10_1).f0))).setCell ⟨gb877,1,none⟩ (.int .u64 ((rd_T66 l1 x10_1).f1)))):=⟨by repeat (first|(with_reducible first|exact HB.out|apply below_alloc|apply pw_below_drewN|apply below_drew1|refine below_set ?_ GE877.out)|exact HB.out)⟩
   (try clear BK877);(try clear HB)
   generalize ((w10.setCell ⟨gb877,0,none⟩ (.string ((rd_T66 l1 x10_1).f0))).setCell ⟨gb877,1,none⟩ (.int .u64 ((rd_T66 l1 x10_1).f1))) = w12 at n0_ n1_ ⊢
   have BK877:=n0_;have HB:=n1_;clear n0_ n1_
   have n0_:=Aside0.mk (blk_drew BK877.out)
   have n1_:=Aside0.mk (below_drew1 HB.out)
   clear BK877;clear HB;have BK877:=n0_;have HB:=n1_;clear n0_ n1_
   refine start_ (n:=9) (S:=fun w' => w'.cell? ⟨gb877,0,none⟩ = some (.string ((rd_T66 l1 x10_1).f0)) ∧ w'.cell? ⟨gb877,1,none⟩ = some (.int .u64 ((rd_T66 l1 x10_1).f1))) (ds:=[]) #[false,false,false,false,false,false,false,false,false] (by kernel_rfl) rfl rfl ⟨(blk_cell BK877.out 0).trans rfl,(blk_cell BK877.out 1).trans rfl⟩ (fun hHeld => ?_);refine with_tabW quant_form.tab6 quant_form.bits6 (fun HT_ HW_ => ?_)
   generalize w12.drew = w13 at BK877 HB hHeld ⊢
   refine pure_ (i:=0) (N:=some 19) (v:=?_) (a':=?_) #[true,false,false,false,false,false,false,false,false] rfl rfl (any_of HT_.out (by kernel_rfl)) (fun _ _ _ h => h) (Or.inl ⟨by rfl,?_⟩) ?_ ?_
   rotate_left;·intro w';go_simp;with_reducible rfl
   rotate_left;·simp only [pu_];rfl
   refine pure_ (i:=1) (N:=some 20) (v:=?_) (a':=?_) #[true,true,false,false,false,false,false,false,false] rfl rfl (any_of HT_.out (by kernel_rfl)) (fun _ _ _ h => h) (Or.inl ⟨by rfl,?_⟩) ?_ ?_
   rotate_left;·intro w';go_simp;with_reducible rfl
   rotate_left;·simp only [pu_];rfl
   refine pure_ (i:=5) (N:=some 24) (v:=?_) (a':=?_) #[true,true,false,false,false,true,false,false,false] rfl rfl (any_of HT_.out (by kernel_rfl)) (fun _ _ _ h => h) (Or.inl ⟨by rfl,?_⟩) ?_ ?_
   rotate_left;·intro w';go_simp;with_reducible rfl
   rotate_left;·simp only [pu_];rfl
   refine take_ (i:=2) (N:=some 21) (v:=?_) (a':=?_) #[true,true,true,false,false,true,false,false,false] rfl rfl (take_ofW HT_.out HW_.out (by kernel_rfl)) (fun _ _ _ h => h) (Or.inl ⟨by rfl,?_⟩) hHeld ?_ ?_
   rotate_left
   ·rintro w' ⟨s0,s1⟩
    go_simp
    with_reducible rfl
   rotate_left
   ·simp only [pu_]
    rfl
   refine pure_ (i:=3) (N:=some 22) (v:=?_) (a':=?_) #[true,true,true,true,false,true,false,false,false] rfl rfl (any_of HT_.out (by kernel_rfl)) (fun _ _ _ h => h) (Or.inl ⟨by rfl,?_⟩) ?_ ?_
   rotate_left;·intro w';go_simp;with_reducible rfl
   rotate_left;·simp only [pu_];rfl
   refine take_ (i:=6) (N:=some 25) (v:=?_) (a':=?_) #[true,true,true,true,false,true,true,false,false] rfl rfl (take_ofW HT_.out HW_.out (by kernel_rfl)) (fun _ _ _ h => h) (Or.inl ⟨by rfl,?_⟩) hHeld ?_ ?_
   rotate_left
   ·rintro w' ⟨s0,s1⟩
    go_simp
    with_reducible rfl
   rotate_left
   ·simp only [pu_]
    rfl
   refine one_ (i:=4) (N:=some 23) #[true,true,true,true,true,true,true,false,false] rfl rfl (one_of HT_.out (by kernel_rfl)) (by decide) (fun K hK => ?_)
   refine goes_ Tryz.func23 (by kernel_rfl) rfl #[.int .u64 (IntKind.u64.wrap (Int.tdiv a0 ((rd_T66 l1 x10_1).f1))),.int .i64 10] (by rfl) rfl rfl (by (try simp only [List.map_toArray,List.map_cons,List.map_nil]);first|done|rfl|(simp only [List.length_drop,List.length_take];rfl)) ?_
   with_reducible refine (strconv_FormatUint.calls (IntKind.u64.wrap (Int.tdiv a0 ((rd_T66 l1 x10_1).f1))) 10 t878 _ A8.out (Glob.below hG (by repeat (first|(with_reducible first|exact HB.out|apply below_alloc|apply pw_below_drewN|apply below_drew1)|exact HB.out)))).mono ?_
   rintro e w14 ⟨rfl,hb⟩
   refine ⟨_,rfl,?_⟩
   have n0_:=Aside0.mk (blk_below (g:=gb877) (o:=.cells #[.string ((rd_T66 l1 x10_1).f0),.int .u64 ((rd_T66 l1 x10_1).f1)] 66 (0,0)) (by (with_reducible repeat (first|refine blk_drewN ?_ _|refine blk_drew ?_|refine blk_alloc ?_ _));exact BK877.out) hb)
   have n1_:=Aside0.mk (below_step (by repeat (first|(with_reducible first|exact HB.out|apply below_alloc|apply pw_below_drewN|apply below_drew1|refine below_set ?_ GE877.out)|exact HB.out)) hb)
   clear BK877;clear HB;have BK877:=n0_;have HB:=n1_;clear n0_ n1_;(try clear hb);(try clear hb2);(try clear hk);(try clear hi)
   refine hK.out _ _ ⟨(blk_cell BK877.out 0).trans rfl,(blk_cell BK877.out 1).trans rfl⟩ (fun hHeld => ?_)
   clear hK K
   refine norm_ (a':=?_) ?_ ?_
   rotate_left
   ·show Act.put _ (some 23) _ = _
    simp only [pu_]
    rfl
   refine pure_ (i:=7) (N:=some 26) (v:=?_) (a':=?_) #[true,true,true,true,true,true,true,true,false] rfl rfl (any_of HT_.out (by kernel_rfl)) (fun _ _ _ h => h) (Or.inl ⟨by rfl,?_⟩) ?_ ?_
   rotate_left;·intro w';go_simp;with_reducible rfl
   rotate_left;·simp only [pu_];rfl
   refine pure_ (i:=8) (N:=some 5) (v:=?_) (a':=?_) #[true,true,true,true,true,true,true,true,true] rfl rfl (any_of HT_.out (by kernel_rfl)) (fun _ _ _ h => h) (Or.inl ⟨by rfl,?_⟩) ?_ ?_
   rotate_left;·intro w';go_simp;with_reducible rfl
   rotate_left;·simp only [pu_];rfl
   refine done_ (done_of HT_.out (by kernel_rfl)) ?_
   try go_wp2
   go_roundg k1
   case measure => have:=HK1.out;omega
   case rel => exact ⟨(t878 ++ ((rd_T66 l1 x10_1).f0)),(wrap64 (x10_1 + 1)),(by first|rfl|(simp;done)|(simp [*];done)|(simp;rw [Bool.eq_iff_iff];simp;done)|(rw [Bool.eq_iff_iff];simp;done)),(by first|rfl|(simp;done)|(simp [*];done)|(simp;rw [Bool.eq_iff_iff];simp;done)|(rw [Bool.eq_iff_iff];simp;done)),H',⟨by have:=HK1.out;omega⟩,⟨by repeat (first|(with_reducible first|exact HB.out|apply below_alloc|apply pw_below_drewN|apply below_drew1|refine below_set ?_ GE877.out)|exact HB.out)⟩⟩
end Go.Proofs.YtejgbdclhlolkaaGreatDoor.Q
namespace Go.Proofs.YtejgbdclhlolkaaGreatDoor.Q
open Go.RowKit Go.Proofs.YtejgbdclhlolkaaGreatDoorW.PrintWords Go.Proofs.YtejgbdclhlolkaaGreatDoorW.PrintLast
set_option linter.unusedVariables false
set_option linter.unusedSimpArgs false
theorem unit_cells (j : Nat) (hj : j < 12) : unitCells[j * 2]? = some (.string (unitsL[j]'hj).f0) ∧ unitCells[j * 2 + 1]? = some (.int .u64 (unitsL[j]'hj).f1) := by
  obtain rfl | rfl | rfl | rfl | rfl | rfl | rfl | rfl | rfl | rfl | rfl | rfl : j = 0 ∨ j = 1 ∨ j = 2 ∨ j = 3 ∨ j = 4 ∨ j = 5 ∨ j = 6 ∨ j = 7 ∨ j = 8 ∨ j = 9 ∨ j = 10 ∨ j = 11 := by omega
  all_goals exact ⟨rfl, rfl⟩
theorem units_C (w : World) (hG : Glob w) (lo n : Nat) (h : lo + n ≤ 12) : Kd.C k66 w (some ⟨1, lo * 2, none⟩) ((unitsL.drop lo).take n).length ((unitsL.drop lo).take n) := by
  have hl : ((unitsL.drop lo).take n).length = n := by rw [List.length_take, List.length_drop, show unitsL.length = 12 from rfl]; omega
  refine ⟨rfl, by rw [hl]; omega, fun _ => ⟨_, rfl, fun j p hj => ?_⟩⟩
  obtain ⟨hjl, rfl⟩ := List.getElem?_eq_some_iff.1 hj
  have hjn : j < n := by rw [hl] at hjl; exact hjl
  have e : ((unitsL.drop lo).take n)[j]'hjl = unitsL[lo + j]'(by show lo + j < 12; omega) := by simp
  rw [e]
  have hc := unit_cells (lo + j) (by omega)
  refine ⟨[.string (unitsL[lo + j]'(by show lo + j < 12; omega)).f0, .int .u64 (unitsL[lo + j]'(by show lo + j < 12; omega)).f1], rfl, k66_mk w _, fun i u hi => ?_⟩
  have ha : (⟨1, lo * 2, none⟩ : Addr).add (j * 2 + i) = ⟨1, lo * 2 + (j * 2 + i), none⟩ := by unfold Addr.add; simp
  rw [show j * k66.sz + i = j * 2 + i from rfl, ha]
  cases i with
  | zero =>
    obtain rfl := Option.some.inj hi
    have := hG.units _ _ hc.1
    rw [show (lo + j) * 2 = lo * 2 + (j * 2 + 0) by omega] at this
    exact this
  | succ i =>
    cases i with
    | zero =>
      obtain rfl := Option.some.inj hi
      have := hG.units _ _ hc.2
      rw [show (lo + j) * 2 + 1 = lo * 2 + (j * 2 + (0 + 1)) by omega] at this
      exact this
    | succ i => simp at hi
def tensL : List S66 := (unitsL.drop 5).take 5
def twosL : List S66 := (unitsL.drop 0).take 5
theorem tens_C (w : World) (hG : Glob w) : Kd.C k66 w (some ⟨1, 10, none⟩) tensL.length tensL := units_C w hG 5 5 (by omega)
theorem twos_C (w : World) (hG : Glob w) : Kd.C k66 w (some ⟨1, 0, none⟩) twosL.length twosL := units_C w hG 0 5 (by omega)
theorem form_tens (k : Nat) (a0 : Int) (t : ByteArray) (h : quant_form.f k a0 tensL = some t) (w : World) (hG : Glob w) :
    Calls Tryz.prog 61 #[.int .u64 a0, .slice (some ⟨1, 10, none⟩) 5 7] w fun e w' => e = .returned (.string t) ∧ Below w.heap.size w w' :=
  quant_form.calls k a0 (some ⟨1, 10, none⟩) 7 tensL t w (tens_C w hG) (by decide) h hG
theorem form_twos (k : Nat) (a0 : Int) (t : ByteArray) (h : quant_form.f k a0 twosL = some t) (w : World) (hG : Glob w) :
    Calls Tryz.prog 61 #[.int .u64 a0, .slice (some ⟨1, 0, none⟩) 5 12] w fun e w' => e = .returned (.string t) ∧ Below w.heap.size w w' :=
  quant_form.calls k a0 (some ⟨1, 0, none⟩) 12 twosL t w (twos_C w hG) (by decide) h hG
def tensOf (a0 : Int) (t : ByteArray) : ByteArray := if t.toList = ([] : List UInt8) then numeral (a0 / 1000).toNat else t
def quant_Print.f (k : Nat) (a0 : Int) : Option ByteArray :=
  if a0 < 0 then some ⟨#[]⟩ else if 9223372036854775807 < a0 then none else if Int.tmod a0 1000 ≠ 0 then (if (itoaB a0).size < 1000 then some (itoaB a0 ++ (⟨#[109]⟩ : ByteArray)) else none) else if a0 = 0 then some ⟨#[48]⟩ else
  ((quant_form.f k a0 tensL).bind fun t => ((quant_form.f k a0 twosL).bind fun u =>
    if u.toList = ([] : List UInt8) then some (tensOf a0 t) else if u.size < (tensOf a0 t).size then some u else some (tensOf a0 t)))
theorem quant_Print.mono : ∀ a0 k, LeO (quant_Print.f k a0) (quant_Print.f (k + 1) a0) := by
  intro a0 k
  unfold quant_Print.f
  repeat' first
    | exact LeO.refl _
    | refine LeO.ite ?_ ?_
    | (refine LeO.bind (quant_form.mono _ _ _) (fun _ => ?_))
set_option maxHeartbeats 8000000 in
set_option maxRecDepth 100000 in
theorem quant_Print.calls (k : Nat) (a0 : Int) (r : ByteArray) (w : World) (h : quant_Print.f k a0 = some r) (hG : Glob w) :
    Calls Tryz.prog 19 #[.int .i64 a0] w fun e w' => e = .returned (.string r) ∧ Below w.heap.size w w' := by
  unfold quant_Print.f at h
  have hs1 : ∀ W, (Instr.sliceAt 67 (.pointer (some ⟨1, 0, none⟩)) (some (.int .i64 5)) (some (.int .i64 10)) none).run Tryz.prog W = .ok (.slice (some ⟨1, 10, none⟩) 5 7) W := fun W => by kernel_rfl
  have hs2 : ∀ W, (Instr.sliceAt 67 (.pointer (some ⟨1, 0, none⟩)) none (some (.int .i64 5)) none).run Tryz.prog W = .ok (.slice (some ⟨1, 0, none⟩) 5 12) W := fun W => by kernel_rfl
  by_cases c1 : a0 < 0
  · rw [if_pos c1] at h
    obtain rfl := Option.some.inj h
    have d1 : decide (a0 < 0) = true := decide_eq_true c1
    go_enter Tryz.func19, Tryz.ntmps19
    go_wp2
    go_ret
    exact ⟨rfl, Below.refl _ _⟩
  rw [if_neg c1] at h
  have d1 : decide (a0 < 0) = false := decide_eq_false c1
  by_cases c0 : 9223372036854775807 < a0
  · rw [if_pos c0] at h; cases h
  rw [if_neg c0] at h
  have hwu : IntKind.u64.wrap a0 = a0 := by rw [IntKind.wrap_u64]; omega
  by_cases c2 : Int.tmod a0 1000 ≠ 0
  · rw [if_pos c2] at h
    have d2 : (Int.tmod a0 1000 != 0) = true := bne_iff_ne.2 c2
    by_cases c3 : (itoaB a0).size < 1000
    rotate_left
    · rw [if_neg c3] at h; cases h
    rw [if_pos c3] at h
    obtain rfl := Option.some.inj h
    have d3 : (9223372036854775807 < (itoaB a0).size + 1) = False := eq_false (by omega)
    have hf : strconv_FormatInt.f a0 10 = some (itoaB a0) := by unfold strconv_FormatInt.f; rw [if_pos ⟨by omega, by omega, rfl⟩]
    have HF := Lib.hid hf
    clear hf h c1 c0 c2 c3
    go_enter Tryz.func19, Tryz.ntmps19
    go_wp2_with (go_at_call 21; refine (strconv_FormatInt.calls a0 10 _ _ HF.out hG).mono ?_; rintro e w1 ⟨rfl, hb⟩)
    go_ret
    exact ⟨rfl, hb⟩
  rw [if_neg c2] at h
  have d2 : (Int.tmod a0 1000 != 0) = false := by rw [bne_eq_false_iff_eq]; exact Decidable.not_not.1 c2
  by_cases c3 : a0 = 0
  · rw [if_pos c3] at h
    obtain rfl := Option.some.inj h
    subst c3
    clear c1 c0 c2
    go_enter Tryz.func19, Tryz.ntmps19
    go_wp2
    go_ret
    exact ⟨rfl, Below.refl _ _⟩
  rw [if_neg c3] at h
  have d3 : (a0 == 0) = false := beq_eq_false_iff_ne.2 c3
  obtain ⟨t, ht, h⟩ := Option.bind_eq_some_iff.mp h
  obtain ⟨u, hu, h⟩ := Option.bind_eq_some_iff.mp h
  have HT := Lib.hid ht
  have HU := Lib.hid hu
  obtain ⟨q, hq0⟩ : ∃ q : Nat, a0 / 1000 = (q : Int) := ⟨(a0 / 1000).toNat, by omega⟩
  have hq : IntKind.u64.wrap (Int.tdiv a0 1000) = (q : Int) := by rw [IntKind.wrap_u64, Int.tdiv_eq_ediv_of_nonneg (by omega)]; omega
  have hqn : numeral (a0 / 1000).toNat = numeral q := by rw [hq0]; rfl
  have hff : strconv_FormatUint.f (q : Int) 10 = some (numeral q) := by unfold strconv_FormatUint.f; rw [if_pos ⟨by omega, by omega, rfl⟩]; rfl
  have HFF := Lib.hid hff
  have HQN := Lib.hid hqn
  have HH := Lib.hid h
  clear ht hu hff h c1 c0 c2 c3 hq0 hqn
  by_cases c4 : t.toList = ([] : List UInt8)
  · have htens := Lib.hid (show tensOf a0 t = numeral q by unfold tensOf; rw [if_pos c4]; exact HQN.out)
    have d4 : t.toList.isEmpty = true := by rw [c4]; rfl
    have d4' : (t.toList == ([] : List UInt8)) = true := by rw [c4]; rfl
    have h := HH.out
    rw [htens.out] at h
    by_cases c5 : u.toList = ([] : List UInt8)
    · rw [if_pos c5] at h
      have hr := Lib.hid (Option.some.inj h)
      have d5 : u.toList.isEmpty = true := by rw [c5]; rfl
      have d5' : (u.toList != ([] : List UInt8)) = false := by rw [c5]; rfl
      clear h c4 c5
      go_enter Tryz.func19, Tryz.ntmps19
      go_wp2_with (first | (go_at_call 61; (with_reducible refine (form_tens k a0 t HT.out _ hG).mono ?_); rintro e w1 ⟨rfl, hb1⟩) | (go_at_call 23; refine (strconv_FormatUint.calls _ 10 _ _ HFF.out (Glob.below hG hb1)).mono ?_; rintro e w2 ⟨rfl, hb2⟩; have hb3 := below_step hb1 hb2; clear hb2) | (go_at_call 61; (with_reducible refine (form_twos k a0 u HU.out _ (Glob.below hG hb3)).mono ?_); rintro e w4 ⟨rfl, hb4⟩; have hb5 := below_step hb3 hb4; clear hb4))
      go_ret
      exact ⟨by rw [← hr.out]; rfl, hb5⟩
    · rw [if_neg c5] at h
      have d5 : u.toList.isEmpty = false := List.isEmpty_eq_false_iff.2 c5
      have d5' : (u.toList != ([] : List UInt8)) = true := bne_iff_ne.2 c5
      by_cases c6 : u.size < (numeral q).size
      · rw [if_pos c6] at h
        have hr := Lib.hid (Option.some.inj h)
        have d6 : decide ((u.size : Int) < ((numeral q).size : Int)) = true := decide_eq_true (by omega)
        have d6' : decide (u.size < (numeral q).size) = true := decide_eq_true c6
        clear h c4 c5 c6
        go_enter Tryz.func19, Tryz.ntmps19
        go_wp2_with (first | (go_at_call 61; (with_reducible refine (form_tens k a0 t HT.out _ hG).mono ?_); rintro e w1 ⟨rfl, hb1⟩) | (go_at_call 23; refine (strconv_FormatUint.calls _ 10 _ _ HFF.out (Glob.below hG hb1)).mono ?_; rintro e w2 ⟨rfl, hb2⟩; have hb3 := below_step hb1 hb2; clear hb2) | (go_at_call 61; (with_reducible refine (form_twos k a0 u HU.out _ (Glob.below hG hb3)).mono ?_); rintro e w4 ⟨rfl, hb4⟩; have hb5 := below_step hb3 hb4; clear hb4))
        go_ret
        exact ⟨by rw [← hr.out]; rfl, hb5⟩
      · rw [if_neg c6] at h
        have hr := Lib.hid (Option.some.inj h)
        have d6 : decide ((u.size : Int) < ((numeral q).size : Int)) = false := decide_eq_false (by omega)
        have d6' : decide (u.size < (numeral q).size) = false := decide_eq_false c6
        clear h c4 c5 c6
        go_enter Tryz.func19, Tryz.ntmps19
        go_wp2_with (first | (go_at_call 61; (with_reducible refine (form_tens k a0 t HT.out _ hG).mono ?_); rintro e w1 ⟨rfl, hb1⟩) | (go_at_call 23; refine (strconv_FormatUint.calls _ 10 _ _ HFF.out (Glob.below hG hb1)).mono ?_; rintro e w2 ⟨rfl, hb2⟩; have hb3 := below_step hb1 hb2; clear hb2) | (go_at_call 61; (with_reducible refine (form_twos k a0 u HU.out _ (Glob.below hG hb3)).mono ?_); rintro e w4 ⟨rfl, hb4⟩; have hb5 := below_step hb3 hb4; clear hb4))
        go_ret
        exact ⟨by rw [← hr.out]; rfl, hb5⟩
  · have htens := Lib.hid (show tensOf a0 t = t by unfold tensOf; rw [if_neg c4])
    have d4 : t.toList.isEmpty = false := List.isEmpty_eq_false_iff.2 c4
    have d4' : (t.toList == ([] : List UInt8)) = false := beq_eq_false_iff_ne.2 c4
    have h := HH.out
    rw [htens.out] at h
    by_cases c5 : u.toList = ([] : List UInt8)
    · rw [if_pos c5] at h
      have hr := Lib.hid (Option.some.inj h)
      have d5 : u.toList.isEmpty = true := by rw [c5]; rfl
      have d5' : (u.toList != ([] : List UInt8)) = false := by rw [c5]; rfl
      clear h c4 c5
      go_enter Tryz.func19, Tryz.ntmps19
      go_wp2_with (first | (go_at_call 61; (with_reducible refine (form_tens k a0 t HT.out _ hG).mono ?_); rintro e w1 ⟨rfl, hb1⟩) | (go_at_call 61; (with_reducible refine (form_twos k a0 u HU.out _ (Glob.below hG hb1)).mono ?_); rintro e w4 ⟨rfl, hb4⟩; have hb5 := below_step hb1 hb4; clear hb4))
      go_ret
      exact ⟨by rw [← hr.out]; rfl, hb5⟩
    · rw [if_neg c5] at h
      have d5 : u.toList.isEmpty = false := List.isEmpty_eq_false_iff.2 c5
      have d5' : (u.toList != ([] : List UInt8)) = true := bne_iff_ne.2 c5
      by_cases c6 : u.size < t.size
      · rw [if_pos c6] at h
        have hr := Lib.hid (Option.some.inj h)
        have d6 : decide ((u.size : Int) < (t.size : Int)) = true := decide_eq_true (by omega)
        have d6' : decide (u.size < t.size) = true := decide_eq_true c6
        clear h c4 c5 c6
        go_enter Tryz.func19, Tryz.ntmps19
        go_wp2_with (first | (go_at_call 61; (with_reducible refine (form_tens k a0 t HT.out _ hG).mono ?_); rintro e w1 ⟨rfl, hb1⟩) | (go_at_call 61; (with_reducible refine (form_twos k a0 u HU.out _ (Glob.below hG hb1)).mono ?_); rintro e w4 ⟨rfl, hb4⟩; have hb5 := below_step hb1 hb4; clear hb4))
        go_ret
        exact ⟨by rw [← hr.out]; rfl, hb5⟩
      · rw [if_neg c6] at h
        have hr := Lib.hid (Option.some.inj h)
        have d6 : decide ((u.size : Int) < (t.size : Int)) = false := decide_eq_false (by omega)
        have d6' : decide (u.size < t.size) = false := decide_eq_false c6
        clear h c4 c5 c6
        go_enter Tryz.func19, Tryz.ntmps19
        go_wp2_with (first | (go_at_call 61; (with_reducible refine (form_tens k a0 t HT.out _ hG).mono ?_); rintro e w1 ⟨rfl, hb1⟩) | (go_at_call 61; (with_reducible refine (form_twos k a0 u HU.out _ (Glob.below hG hb1)).mono ?_); rintro e w4 ⟨rfl, hb4⟩; have hb5 := below_step hb1 hb4; clear hb4))
        go_ret
        exact ⟨by rw [← hr.out]; rfl, hb5⟩
end Go.Proofs.YtejgbdclhlolkaaGreatDoor.Q
namespace Go.Proofs.YtejgbdclhlolkaaGreatDoor.Q
open Go.RowKit Go.Proofs.YtejgbdclhlolkaaGreatDoorW.PrintWords Go.Proofs.YtejgbdclhlolkaaGreatDoorW.PrintLast
set_option linter.unusedVariables false
set_option linter.unusedSimpArgs false
def sfxB (text s : ByteArray) : Bool := Lib.hasSuffix text.data.toList s.data.toList
def unitIx (text : ByteArray) : Nat := unitsL.findIdx (fun u => sfxB text u.f0)
theorem sfx_none (text : ByteArray) : sfxB text ⟨#[]⟩ = true := by
  unfold sfxB Lib.hasSuffix
  simp
theorem unitIx_lt (text : ByteArray) : unitIx text < 12 := by
  have : unitsL.findIdx (fun u => sfxB text u.f0) < unitsL.length := List.findIdx_lt_length_of_exists ⟨⟨⟨#[]⟩, 1000⟩, by simp [unitsL], sfx_none text⟩
  exact this
theorem unitIx_eq (text : ByteArray) (i : Nat) (hi : i < 12) (hc : sfxB text (unitsL[i]'hi).f0 = true) (hno : ∀ j, (hj : j < 12) → j < i → sfxB text (unitsL[j]'hj).f0 = false) : unitIx text = i :=
  (List.findIdx_eq (show i < unitsL.length from hi)).2 ⟨hc, fun j hj => hno j (by omega) hj⟩
theorem unit_at {w : World} (hG : Glob w) (i : Nat) (hi : i < 12) : w.cell? ⟨1, i * 2, none⟩ = some (.string (unitsL[i]'hi).f0) ∧ w.cell? ⟨1, i * 2 + 1, none⟩ = some (.int .u64 (unitsL[i]'hi).f1) :=
  ⟨hG.units _ _ (unit_cells i hi).1, hG.units _ _ (unit_cells i hi).2⟩
set_option maxHeartbeats 4000000 in
set_option maxRecDepth 100000 in
theorem ends_calls (text s : ByteArray) (v : Int) (B : Nat) (w : World) (hb : w.cell? ⟨B, 0, none⟩ = some (.string text)) (hs : text.size ≤ 9223372036854775807) :
    Calls Tryz.prog 51 #[.agg #[.string s, .int .u64 v], .pointer (some ⟨B, 0, none⟩)] w fun e w' => e = .returned (.bool (sfxB text s)) ∧ Below w.heap.size w w' := by
  have hu66 := Tryz.underlying66
  have hb1 := pw_cell_below ((Below.refl w.heap.size w).alloc (Nat.le_refl _) (.cells #[.string s, .int .u64 v] 66)) hb
  go_enter Tryz.func51, Tryz.ntmps51
  go_wp2_with (go_at_call 52; refine (Tryz.strings_HasSuffix text s _ hs).mono ?_; rintro e w' ⟨rfl, rfl⟩)
  go_ret
  exact ⟨rfl, (Below.refl _ _).alloc (Nat.le_refl _) _⟩
set_option maxHeartbeats 4000000 in
set_option maxRecDepth 100000 in
theorem unit_index (text : ByteArray) (B : Nat) (w : World) (hb : w.cell? ⟨B, 0, none⟩ = some (.string text)) (hs : text.size ≤ 9223372036854775807) (hG : Glob w) :
    Calls Tryz.prog 50 #[.slice (some ⟨1, 0, none⟩) 12 12, .func (.func 51) #[] #[.pointer (some ⟨B, 0, none⟩)]] w fun e w' => e = .returned (.int .i64 (unitIx text : Int)) ∧ Below w.heap.size w w' := by
  have hu66 := Tryz.underlying66
  have HB := Aside0.mk hb
  clear hb
  go_enter Tryz.func50, Tryz.ntmps50
  go_wp2
  go_loopg [5, 8] 12 (fun g v5 v8 wr => ∃ i : Nat, v8 = .int .i64 i ∧ i ≤ 12 ∧ 12 ≤ i + g ∧ Aside0 (∀ j, (hj : j < 12) → j < i → sfxB text (unitsL[j]'hj).f0 = false) ∧ Aside0 (Below w.heap.size w wr))
  case atStart => exact ⟨0, rfl, by omega, by omega, ⟨fun j hj h => by omega⟩, ⟨Below.refl _ _⟩⟩
  case round =>
    obtain ⟨i, rfl, hin, hig, hno, hbw⟩ := hrel
    by_cases hlt : i < 12
    · cases gk with
      | zero => omega
      | succ g =>
        have hu := unit_at (Glob.below hG hbw.out) i hlt
        have hx0 := hu.1
        have hx1 := hu.2
        have hbx := pw_cell_below hbw.out HB.out
        have HBX := Aside0.mk hbx
        have HNO := Lib.hid hno
        clear hu hbx hno
        cases hc : sfxB text (unitsL[i]'hlt).f0 with
        | true =>
          have HC := Lib.hid hc
          have HIX := Lib.hid (show unitIx text = i from unitIx_eq text i hlt hc HNO.out.out)
          clear hc
          generalize (unitsL[i]'hlt).f0 = s at *
          generalize (unitsL[i]'hlt).f1 = v at *
          go_wp2_with (go_at_call 51; refine (ends_calls text s v B _ HBX.out hs).mono ?_; rintro e w1 ⟨rfl, hb1⟩; rw [HC.out]; have hb2 := below_step hbw.out hb1; clear hb1)
          go_ret
          exact ⟨by rw [HIX.out]; rfl, hb2⟩
        | false =>
          have HC := Lib.hid hc
          have HNX := Aside0.mk (show ∀ j, (hj : j < 12) → j < i + 1 → sfxB text (unitsL[j]'hj).f0 = false from fun j hj h => by
            by_cases e : j = i
            · subst e; exact hc
            · exact HNO.out.out j hj (by omega))
          clear hc
          generalize hs' : (unitsL[i]'hlt).f0 = s at hx0 HC
          generalize hv' : (unitsL[i]'hlt).f1 = v at hx1
          clear hs' hv'
          go_wp2_with (go_at_call 51; refine (ends_calls text s v B _ HBX.out hs).mono ?_; rintro e w1 ⟨rfl, hb1⟩; rw [HC.out]; have hb2 := Aside0.mk (below_step hbw.out hb1); clear hb1)
          go_roundg g
          case measure => omega
          case rel => exact ⟨i + 1, by go_num, by omega, by omega, HNX, hb2⟩
    · obtain rfl : i = 12 := by omega
      exfalso
      have := hno.out 11 (by omega) (by omega)
      have h2 : sfxB text ⟨#[]⟩ = false := this
      rw [sfx_none] at h2
      cases h2
end Go.Proofs.YtejgbdclhlolkaaGreatDoor.Q
namespace Go.Proofs.YtejgbdclhlolkaaGreatDoor.Q
open Go.RowKit Go.Proofs.YtejgbdclhlolkaaGreatDoorW.PrintWords Go.Proofs.YtejgbdclhlolkaaGreatDoorW.PrintLast
set_option linter.unusedVariables false
set_option linter.unusedSimpArgs false
def numOf (text s : ByteArray) : ByteArray := ⟨(Lib.trimSuffix text.data.toList s.data.toList).toArray⟩
def dotSep : ByteArray := ⟨#[46]⟩
def wholeB (n : ByteArray) : ByteArray := ⟨(Lib.cut n.data.toList dotSep.data.toList).1.toArray⟩
def partB (n : ByteArray) : ByteArray := ⟨(Lib.cut n.data.toList dotSep.data.toList).2.1.toArray⟩
def dotB (n : ByteArray) : Bool := (Lib.cut n.data.toList dotSep.data.toList).2.2
def allD (s : ByteArray) : Bool := !s.toList.isEmpty && (Lib.trimS s.data.toList digitsB.data.toList).isEmpty
theorem all_some (s : ByteArray) (h : s.size ≤ 9223372036854775807) : quant_all.f s = some (allD s) := by
  unfold quant_all.f allD
  by_cases e : s.toList = ([] : List UInt8)
  · rw [if_pos e, e]; rfl
  · rw [if_neg e]
    have ht : strings_Trim.f s ⟨#[48, 49, 50, 51, 52, 53, 54, 55, 56, 57]⟩ = some ⟨(Lib.trimS s.data.toList digitsB.data.toList).toArray⟩ := by unfold strings_Trim.f; exact if_pos ⟨h, rfl⟩
    rw [ht, Option.bind_some, List.isEmpty_eq_false_iff.2 e]
    congr 1
    rw [ByteArray.toList_eq]
    show (Lib.trimS s.data.toList digitsB.data.toList == []) = _
    cases Lib.trimS s.data.toList digitsB.data.toList <;> rfl
theorem all_at (s : ByteArray) (b : Bool) (hb : allD s = b) (h : s.size ≤ 9223372036854775807) (w : World) : Calls Tryz.prog 55 #[.string s] w fun e w' => e = .returned (.bool b) ∧ Below w.heap.size w w' :=
  quant_all.calls s b w (by rw [all_some s h, hb])
theorem trim_at (text s : ByteArray) (h : text.size ≤ 9223372036854775807) (w : World) : Calls Tryz.prog 53 #[.string text, .string s] w fun e w' => e = .returned (.string (numOf text s)) ∧ w' = w := Tryz.strings_TrimSuffix text s w h
theorem index_dot (s : ByteArray) (w : World) : Calls Tryz.prog 99 #[.string s, .string ⟨#[46]⟩] w fun e w' => e = .returned (.int .i64 (Lib.index s.data.toList [46])) ∧ w' = w := by
  go_enter Tryz.func99, Tryz.ntmps99
  go_wp2_with (go_at_call 121; refine (Tryz.stringslite_IndexByte s 46 _).mono ?_; rintro e w' ⟨rfl, rfl⟩)
  · rename_i h
    have h0 : Lib.index s.data.toList [46] = 0 := by rw [← ByteArray.toList_eq, ← beq_iff_eq.1 h, Lib.index_self]
    rw [h0]
    go_ret
    exact ⟨rfl, rfl⟩
  · rw [Lib.index_one]
    go_ret
    exact ⟨rfl, rfl⟩
set_option maxHeartbeats 2000000 in
set_option maxRecDepth 100000 in
theorem lite_cut_dot (s : ByteArray) (hs : s.size ≤ 9223372036854775807) (w : World) :
    Calls Tryz.prog 79 #[.string s, .string ⟨#[46]⟩] w fun e w' => e = .returned (.tuple #[.string (wholeB s), .string (partB s), .bool (dotB s)]) ∧ ∃ n, w' = w.drewN n := by
  unfold wholeB partB dotB
  rcases Lib.indexB_cases s dotSep with hix | ⟨i, hix, hroom⟩
  · obtain ⟨e1, e2, e3⟩ := Lib.cutB_miss s dotSep hix
    rw [e1, e2, e3]
    go_enter Tryz.func79, Tryz.ntmps79
    go_wp2_with (go_at_call 99; refine (index_dot _ _).mono ?_; rintro e w' ⟨rfl, rfl⟩; rw [show Lib.index s.data.toList [46] = _ from hix])
    go_ret3
    exact ⟨rfl, 0, rfl⟩
  · obtain ⟨e1, e2, e3⟩ := Lib.cutB_hit s dotSep i hix
    rw [e1, e2, e3]
    have mixed : Tryz.prog.follows Departure.mixedOrders = true := by kernel_rfl
    have hz : dotSep.size = 1 := rfl
    have c1 : (0 : Int) ≤ ↑i := by omega
    have c2 : (↑i : Int) ≤ ↑s.size := by omega
    have c3 : (0 : Int) ≤ ↑i + 1 := by omega
    have c4 : (↑i + 1 : Int) ≤ ↑s.size := by omega
    go_enter Tryz.func79, Tryz.ntmps79
    go_wp2_with (go_at_call 99; refine (index_dot _ _).mono ?_; rintro e w' ⟨rfl, rfl⟩; rw [show Lib.index s.data.toList [46] = _ from hix])
    go_region_o
    go_wp2
    go_ret3
    exact ⟨rfl, 1, rfl⟩
theorem cut_at (n : ByteArray) (h : n.size < 4611686018427387904) (w : World) (hG : Glob w) : Calls Tryz.prog 54 #[.string n, .string ⟨#[46]⟩] w fun e w' => e = .returned (.tuple #[.string (wholeB n), .string (partB n), .bool (dotB n)]) ∧ Below w.heap.size w w' := by
  go_enter Tryz.func54, Tryz.ntmps54
  go_wp2_with (go_at_call 79; refine (lite_cut_dot n (by omega) _).mono ?_; rintro e w' ⟨rfl, m, rfl⟩)
  go_ret3
  exact ⟨rfl, pw_below_drewN (Below.refl _ _) m⟩
theorem parse_at (s : ByteArray) (h : s.size ≤ 1000) (u : Nat) (hu : Lib.parseUintB 64 s.data.toList = .ok u) (w : World) : Calls Tryz.prog 56 #[.string s, .int .i64 10, .int .i64 64] w fun e w' => e = .returned (.tuple #[.int .u64 u, .nilIface]) ∧ Below w.heap.size w w' := by
  refine (Tryz.strconv_ParseUint_10_at64_ok s (by omega) u hu w).mono ?_
  rintro e w' ⟨rfl, h | h⟩
  · subst h; exact ⟨rfl, Below.refl _ _⟩
  · subst h; exact ⟨rfl, Lib.bytesWorld_below w 5 s⟩
theorem mul_at (x y hi lo : Nat) (hx : x < 18446744073709551616) (hy : y < 18446744073709551616) (h1 : hi = x * y / 18446744073709551616) (h2 : lo = x * y % 18446744073709551616) (w : World) :
    Calls Tryz.prog 24 #[.int .u64 x, .int .u64 y] w fun e w' => e = .returned (.tuple #[.int .u64 (hi : Int), .int .u64 (lo : Int)]) ∧ w' = w := by
  subst h1; subst h2
  exact Tryz.bits_Mul64 x y hx hy w
theorem worth_ok (i : Nat) (hi : i < 12) : 0 ≤ (unitsL[i]'hi).f1 ∧ (unitsL[i]'hi).f1 < 18446744073709551616 := by
  have h : ∀ j : Fin 12, 0 ≤ (unitsL[j.1]'j.2).f1 ∧ (unitsL[j.1]'j.2).f1 < 18446744073709551616 := by decide
  exact h ⟨i, hi⟩
theorem ten_step (i : Nat) (hi : i < 19) : IntKind.u64.wrap (((10 ^ i : Nat) : Int) * 10) = ((10 ^ (i + 1) : Nat) : Int) := by
  have h : ∀ j : Fin 19, IntKind.u64.wrap (((10 ^ j.1 : Nat) : Int) * 10) = ((10 ^ (j.1 + 1) : Nat) : Int) := by decide
  exact h ⟨i, hi⟩
def goodB (n : ByteArray) : Bool := allD (wholeB n) && (!dotB n || allD (partB n)) && decide ((wholeB n).size + (partB n).size ≤ 19)
def quant_Parse.f (k : Nat) (text : ByteArray) : Option (Int × Int) :=
  if text.size < 4611686018427387904 ∧ (numOf text (unitsL[unitIx text]'(unitIx_lt text)).f0).size ≤ text.size ∧ (wholeB (numOf text (unitsL[unitIx text]'(unitIx_lt text)).f0)).size ≤ text.size ∧ (partB (numOf text (unitsL[unitIx text]'(unitIx_lt text)).f0)).size ≤ text.size then
    (if goodB (numOf text (unitsL[unitIx text]'(unitIx_lt text)).f0) = true then
      (match Lib.parseUintB 64 (wholeB (numOf text (unitsL[unitIx text]'(unitIx_lt text)).f0) ++ partB (numOf text (unitsL[unitIx text]'(unitIx_lt text)).f0)).data.toList with
        | .ok u => if u < 18446744073709551616 then quant_over.f k ((u : Int) * (unitsL[unitIx text]'(unitIx_lt text)).f1 / 18446744073709551616) ((u : Int) * (unitsL[unitIx text]'(unitIx_lt text)).f1 % 18446744073709551616) ((10 ^ (partB (numOf text (unitsL[unitIx text]'(unitIx_lt text)).f0)).size : Nat) : Int) else none
        | _ => none)
    else some (0, 30)) else none
theorem quant_Parse.mono : ∀ a0 k, LeO (quant_Parse.f k a0) (quant_Parse.f (k + 1) a0) := by
  intro a0 k
  unfold quant_Parse.f
  refine LeO.ite (LeO.ite ?_ (LeO.refl _)) (LeO.refl _)
  split
  · exact LeO.ite (quant_over.mono _ _ _ _) (LeO.refl _)
  · exact LeO.refl _
set_option maxHeartbeats 16000000 in
set_option maxRecDepth 100000 in
theorem quant_Parse.calls (k : Nat) (text : ByteArray) (r1 r2 : Int) (w : World) (h : quant_Parse.f k text = some (r1, r2)) (hG : Glob w) :
    Calls Tryz.prog 17 #[.string text] w fun e w' => e = .returned (.tuple #[.int .i64 r1, .int .i64 r2]) ∧ Below w.heap.size w w' := by
  unfold quant_Parse.f at h
  by_cases c1 : text.size < 4611686018427387904 ∧ ((numOf text (unitsL[unitIx text]'(unitIx_lt text)).f0)).size ≤ text.size ∧ (wholeB (numOf text (unitsL[unitIx text]'(unitIx_lt text)).f0)).size ≤ text.size ∧ (partB (numOf text (unitsL[unitIx text]'(unitIx_lt text)).f0)).size ≤ text.size
  rotate_left
  · rw [if_neg c1] at h; cases h
  rw [if_pos c1] at h
  have hu66 := Tryz.underlying66
  have hal : ∀ W, (Instr.sliceAt 67 (.pointer (some ⟨1, 0, none⟩)) none none none).run Tryz.prog W = .ok (.slice (some ⟨1, 0, none⟩) 12 12) W := fun W => by kernel_rfl
  have hix := unitIx_lt text
  have hw := worth_ok (unitIx text) hix
  have hU := fun (W : World) (g : Glob W) => unit_at g (unitIx text) hix
  have HIX := Lib.hid (unit_index text)
  obtain ⟨ix, hixe⟩ : ∃ ix, ix = unitIx text := ⟨_, rfl⟩
  have hsz := c1.1
  have hnum := c1.2.1
  have hwh := c1.2.2.1
  have hpt := c1.2.2.2
  clear c1
  generalize (unitsL[unitIx text]'(unitIx_lt text)).f0 = s at *
  generalize (unitsL[unitIx text]'(unitIx_lt text)).f1 = wv at *
  rw [← hixe] at hix hU HIX
  clear hixe
  generalize hn : numOf text s = n at *
  have HN := Lib.hid hn
  clear hn
  have hs63 : text.size ≤ 9223372036854775807 := by omega
  have HU := Lib.hid hU
  have HH := Lib.hid h
  clear hU h
  go_enter Tryz.func17, Tryz.ntmps17
  have HB0 := Aside0.mk ((Below.refl w.heap.size w).alloc (Nat.le_refl _) (.cells #[.string text] 9))
  have HX0 := Aside0.mk (show (w.alloc (.cells #[.string text] 9)).cell? ⟨w.heap.size, 0, none⟩ = some (.string text) by rw [World.cell?_alloc_new]; rfl)
  go_upto_region 4 with (first
    | (go_at_call 50; refine (HIX.out w.heap.size _ HX0.out hs63 (Glob.below hG HB0.out)).mono ?_; rintro e w1 ⟨rfl, hb1⟩; have HB1 := Aside0.mk (below_step HB0.out hb1); have hx1 := pw_cell_below hb1 HX0.out; have hc0 := (HU.out _ (Glob.below hG HB1.out)).1; have hc1 := (HU.out _ (Glob.below hG HB1.out)).2; have hx2 := pw_cell_below ((Below.refl w1.heap.size w1).alloc (Nat.le_refl _) (.cells #[.string s, .int .u64 wv] 66)) hx1; clear hb1)
    | (go_at_call 53; refine (trim_at text s hs63 _).mono ?_; rintro e w' ⟨rfl, rfl⟩; rw [HN.out])
    | (go_at_call 54; refine (cut_at n (by omega) _ (Glob.below hG (HB1.out.alloc HB1.out.size _))).mono ?_; rintro e w3 ⟨rfl, hb3⟩; have BK := Aside0.mk (blk_below (blk_new w1 (.cells #[.string s, .int .u64 wv] 66)) hb3); have HB3 := Aside0.mk (below_step (HB1.out.alloc HB1.out.size _) hb3); clear hb3))
  clear hc0 hc1 hx1 hx2 HX0
  have hc1 := (blk_cell BK.out 1).trans rfl
  obtain ⟨gb, hgb⟩ : ∃ gb, gb = w1.heap.size := ⟨_, rfl⟩
  rw [← hgb] at BK hc1
  rw [← hgb]
  clear hgb
  have h := HH.out
  cases hw1 : allD (wholeB n) with
  | false =>
    have HW := Lib.hid hw1
    rw [if_neg (by unfold goodB; rw [hw1]; simp)] at h
    simp only [Option.some.injEq, Prod.mk.injEq] at h
    obtain ⟨rfl, rfl⟩ := h
    clear hw1
    go_wp2_with (go_at_call 55; refine (all_at (wholeB n) false HW.out (by omega) _).mono ?_; rintro e w4 ⟨rfl, hb4⟩; have HB4 := Aside0.mk (below_step HB3.out hb4); clear hb4)
    go_ret2
    exact ⟨rfl, HB4.out⟩
  | true =>
    have HW := Lib.hid hw1
    cases hd : dotB n with
    | false =>
      have hwr : IntKind.i64.wrap (((wholeB n).size : Int) + ((partB n).size : Int)) = ((wholeB n).size : Int) + ((partB n).size : Int) := by rw [IntKind.wrap_i64]; omega
      have hwr2 : wrap64 (((wholeB n).size : Int) + ((partB n).size : Int)) = ((wholeB n).size : Int) + ((partB n).size : Int) := by unfold wrap64; omega
      by_cases h19 : (wholeB n).size + (partB n).size ≤ 19
      rotate_left
      · rw [if_neg (by unfold goodB; rw [hw1, hd, decide_eq_false h19]; simp)] at h
        simp only [Option.some.injEq, Prod.mk.injEq] at h
        obtain ⟨rfl, rfl⟩ := h
        have d19 : decide ((19 : Int) < ((wholeB n).size : Int) + ((partB n).size : Int)) = true := decide_eq_true (by omega)
        clear hw1 hd h19
        go_wp2_with (first | (go_at_call 55; (with_reducible refine (all_at (wholeB n) true HW.out (by omega) _).mono ?_); rintro e w4 ⟨rfl, hb4⟩; have HB4 := Aside0.mk (below_step HB3.out hb4); have BK4 := Aside0.mk (blk_below BK.out hb4); clear hb4))
        go_ret2
        exact ⟨rfl, HB4.out⟩
      · rw [if_pos (by unfold goodB; rw [hw1, hd, decide_eq_true h19]; rfl)] at h
        have d19 : decide ((19 : Int) < ((wholeB n).size : Int) + ((partB n).size : Int)) = false := decide_eq_false (by omega)
        have dcat : (9223372036854775807 < (wholeB n).size + (partB n).size) = False := eq_false (by omega)
        have hcs : (wholeB n ++ partB n).size ≤ 1000 := by rw [ByteArray.size_append]; omega
        have hp19 : (partB n).size ≤ 19 := by omega
        cases hpu : Lib.parseUintB 64 (wholeB n ++ partB n).data.toList with
        | ok u =>
          rw [hpu] at h
          dsimp only at h
          by_cases hu64 : u < 18446744073709551616
          rotate_left
          · rw [if_neg hu64] at h; cases h
          rw [if_pos hu64] at h
          have HPU := Lib.hid hpu
          have HH2 := Lib.hid h
          clear hpu h hw1 hd h19
          go_wp2_with (first | (go_at_call 55; (with_reducible refine (all_at (wholeB n) true HW.out (by omega) _).mono ?_); rintro e w4 ⟨rfl, hb4⟩; have HB4 := Aside0.mk (below_step HB3.out hb4); have BK4 := Aside0.mk (blk_below BK.out hb4); clear hb4) | (go_at_call 56; refine (parse_at (wholeB n ++ partB n) hcs u HPU.out _).mono ?_; rintro e w6 ⟨rfl, hb6⟩; have HB6 := Aside0.mk (below_step HB4.out hb6); have BK6 := Aside0.mk (blk_below BK4.out hb6); clear hb6))
          go_loopg [11, 59] (partB n).size (fun g v11 v59 wr => ∃ (i dv : Nat), v59 = .int .i64 i ∧ v11 = .int .u64 (dv : Int) ∧ i ≤ (partB n).size ∧ (partB n).size ≤ i + g ∧ Aside0 (dv = 10 ^ i) ∧ Aside0 (wr.heap[gb]? = some (.cells #[.string s, .int .u64 wv] 66)) ∧ Aside0 (Below w.heap.size w wr))
          case atStart => exact ⟨0, 1, rfl, rfl, by omega, by omega, ⟨rfl⟩, BK6, HB6⟩
          case round =>
            clear BK6 HB6
            obtain ⟨i, dv, rfl, rfl, hin, hig, hdv, BK7, HB7⟩ := hrel
            by_cases hlt : i < (partB n).size
            · cases gk with
              | zero => omega
              | succ g =>
                have hten : IntKind.u64.wrap ((dv : Int) * 10) = ((10 ^ (i + 1) : Nat) : Int) := by rw [hdv.out]; exact ten_step i (by omega)
                obtain ⟨dw, hdw⟩ : ∃ dw : Nat, dw = 10 ^ (i + 1) := ⟨_, rfl⟩
                rw [← hdw] at hten
                have HDW := Lib.hid hdw
                clear hdw
                go_wp2
                go_roundg g
                case measure => omega
                case rel => exact ⟨i + 1, dw, by go_num, rfl, by omega, by omega, ⟨HDW.out⟩, BK7, HB7⟩
            · obtain rfl : i = (partB n).size := by omega
              obtain ⟨wn, hwn⟩ : ∃ wn : Nat, wv = wn := ⟨wv.toNat, by omega⟩
              have hc2 := (blk_cell BK7.out 1).trans rfl
              have HOV0 := HH2.out
              rw [hwn] at hc2 HOV0 hw
              have hwn64 : wn < 18446744073709551616 := by omega
              obtain ⟨hi, hhi⟩ : ∃ hi : Nat, hi = u * wn / 18446744073709551616 := ⟨_, rfl⟩
              obtain ⟨lo, hlo⟩ : ∃ lo : Nat, lo = u * wn % 18446744073709551616 := ⟨_, rfl⟩
              have HOV := Lib.hid (show quant_over.f k (hi : Int) (lo : Int) (dv : Int) = some (r1, r2) by rw [hhi, hlo, hdv.out, Int.natCast_ediv, Int.natCast_emod, Int.natCast_mul]; exact HOV0)
              have HHI := Lib.hid hhi
              have HLO := Lib.hid hlo
              clear hhi hlo HOV0 hwn hc1
              go_wp2_with (first | (go_at_call 24; refine (mul_at u wn hi lo hu64 hwn64 HHI.out HLO.out _).mono ?_; rintro e w' ⟨rfl, rfl⟩) | (go_at_call 57; refine (quant_over.calls k (hi : Int) (lo : Int) (dv : Int) r1 r2 _ HOV.out).mono ?_; rintro e w8 ⟨rfl, hd8⟩; have hb8 := below_step HB7.out hd8.below; clear hd8))
              go_ret2
              exact ⟨rfl, hb8⟩
        | _ => rw [hpu] at h; cases h
    | true =>
      cases hp1 : allD (partB n) with
      | false =>
        have HP := Lib.hid hp1
        rw [if_neg (by unfold goodB; rw [hw1, hd, hp1]; simp)] at h
        simp only [Option.some.injEq, Prod.mk.injEq] at h
        obtain ⟨rfl, rfl⟩ := h
        clear hw1 hd hp1
        go_wp2_with (first | (go_at_call 55; (with_reducible refine (all_at (wholeB n) true HW.out (by omega) _).mono ?_); rintro e w4 ⟨rfl, hb4⟩; have HB4 := Aside0.mk (below_step HB3.out hb4); have BK4 := Aside0.mk (blk_below BK.out hb4); clear hb4) | (go_at_call 55; (with_reducible refine (all_at (partB n) false HP.out (by omega) _).mono ?_); rintro e w5 ⟨rfl, hb5⟩; have HB5 := Aside0.mk (below_step HB4.out hb5); have BK5 := Aside0.mk (blk_below BK4.out hb5); clear hb5))
        go_ret2
        exact ⟨rfl, HB5.out⟩
      | true =>
        have HP := Lib.hid hp1
        have hwr : IntKind.i64.wrap (((wholeB n).size : Int) + ((partB n).size : Int)) = ((wholeB n).size : Int) + ((partB n).size : Int) := by rw [IntKind.wrap_i64]; omega
        have hwr2 : wrap64 (((wholeB n).size : Int) + ((partB n).size : Int)) = ((wholeB n).size : Int) + ((partB n).size : Int) := by unfold wrap64; omega
        by_cases h19 : (wholeB n).size + (partB n).size ≤ 19
        rotate_left
        · rw [if_neg (by unfold goodB; rw [hw1, hd, hp1, decide_eq_false h19]; simp)] at h
          simp only [Option.some.injEq, Prod.mk.injEq] at h
          obtain ⟨rfl, rfl⟩ := h
          have d19 : decide ((19 : Int) < ((wholeB n).size : Int) + ((partB n).size : Int)) = true := decide_eq_true (by omega)
          clear hw1 hd h19 hp1
          go_wp2_with (first | (go_at_call 55; (with_reducible refine (all_at (wholeB n) true HW.out (by omega) _).mono ?_); rintro e w4 ⟨rfl, hb4⟩; have HB4 := Aside0.mk (below_step HB3.out hb4); have BK4 := Aside0.mk (blk_below BK.out hb4); clear hb4) | (go_at_call 55; (with_reducible refine (all_at (partB n) true HP.out (by omega) _).mono ?_); rintro e w5 ⟨rfl, hb5⟩; have HB5 := Aside0.mk (below_step HB4.out hb5); have BK5 := Aside0.mk (blk_below BK4.out hb5); clear hb5))
          go_ret2
          exact ⟨rfl, HB5.out⟩
        · rw [if_pos (by unfold goodB; rw [hw1, hd, hp1, decide_eq_true h19]; rfl)] at h
          have d19 : decide ((19 : Int) < ((wholeB n).size : Int) + ((partB n).size : Int)) = false := decide_eq_false (by omega)
          have dcat : (9223372036854775807 < (wholeB n).size + (partB n).size) = False := eq_false (by omega)
          have hcs : (wholeB n ++ partB n).size ≤ 1000 := by rw [ByteArray.size_append]; omega
          have hp19 : (partB n).size ≤ 19 := by omega
          cases hpu : Lib.parseUintB 64 (wholeB n ++ partB n).data.toList with
          | ok u =>
            rw [hpu] at h
            dsimp only at h
            by_cases hu64 : u < 18446744073709551616
            rotate_left
            · rw [if_neg hu64] at h; cases h
            rw [if_pos hu64] at h
            have HPU := Lib.hid hpu
            have HH2 := Lib.hid h
            clear hpu h hw1 hd h19 hp1
            go_wp2_with (first | (go_at_call 55; (with_reducible refine (all_at (wholeB n) true HW.out (by omega) _).mono ?_); rintro e w4 ⟨rfl, hb4⟩; have HB4 := Aside0.mk (below_step HB3.out hb4); have BK4 := Aside0.mk (blk_below BK.out hb4); clear hb4) | (go_at_call 55; (with_reducible refine (all_at (partB n) true HP.out (by omega) _).mono ?_); rintro e w5 ⟨rfl, hb5⟩; have HB5 := Aside0.mk (below_step HB4.out hb5); have BK5 := Aside0.mk (blk_below BK4.out hb5); clear hb5) | (go_at_call 56; refine (parse_at (wholeB n ++ partB n) hcs u HPU.out _).mono ?_; rintro e w6 ⟨rfl, hb6⟩; have HB6 := Aside0.mk (below_step HB5.out hb6); have BK6 := Aside0.mk (blk_below BK5.out hb6); clear hb6))
            go_loopg [11, 59] (partB n).size (fun g v11 v59 wr => ∃ (i dv : Nat), v59 = .int .i64 i ∧ v11 = .int .u64 (dv : Int) ∧ i ≤ (partB n).size ∧ (partB n).size ≤ i + g ∧ Aside0 (dv = 10 ^ i) ∧ Aside0 (wr.heap[gb]? = some (.cells #[.string s, .int .u64 wv] 66)) ∧ Aside0 (Below w.heap.size w wr))
            case atStart => exact ⟨0, 1, rfl, rfl, by omega, by omega, ⟨rfl⟩, BK6, HB6⟩
            case round =>
              clear BK6 HB6
              obtain ⟨i, dv, rfl, rfl, hin, hig, hdv, BK7, HB7⟩ := hrel
              by_cases hlt : i < (partB n).size
              · cases gk with
                | zero => omega
                | succ g =>
                  have hten : IntKind.u64.wrap ((dv : Int) * 10) = ((10 ^ (i + 1) : Nat) : Int) := by rw [hdv.out]; exact ten_step i (by omega)
                  obtain ⟨dw, hdw⟩ : ∃ dw : Nat, dw = 10 ^ (i + 1) := ⟨_, rfl⟩
                  rw [← hdw] at hten
                  have HDW := Lib.hid hdw
                  clear hdw
                  go_wp2
                  go_roundg g
                  case measure => omega
                  case rel => exact ⟨i + 1, dw, by go_num, rfl, by omega, by omega, ⟨HDW.out⟩, BK7, HB7⟩
              · obtain rfl : i = (partB n).size := by omega
                obtain ⟨wn, hwn⟩ : ∃ wn : Nat, wv = wn := ⟨wv.toNat, by omega⟩
                have hc2 := (blk_cell BK7.out 1).trans rfl
                have HOV0 := HH2.out
                rw [hwn] at hc2 HOV0 hw
                have hwn64 : wn < 18446744073709551616 := by omega
                obtain ⟨hi, hhi⟩ : ∃ hi : Nat, hi = u * wn / 18446744073709551616 := ⟨_, rfl⟩
                obtain ⟨lo, hlo⟩ : ∃ lo : Nat, lo = u * wn % 18446744073709551616 := ⟨_, rfl⟩
                have HOV := Lib.hid (show quant_over.f k (hi : Int) (lo : Int) (dv : Int) = some (r1, r2) by rw [hhi, hlo, hdv.out, Int.natCast_ediv, Int.natCast_emod, Int.natCast_mul]; exact HOV0)
                have HHI := Lib.hid hhi
                have HLO := Lib.hid hlo
                clear hhi hlo HOV0 hwn hc1
                go_wp2_with (first | (go_at_call 24; refine (mul_at u wn hi lo hu64 hwn64 HHI.out HLO.out _).mono ?_; rintro e w' ⟨rfl, rfl⟩) | (go_at_call 57; refine (quant_over.calls k (hi : Int) (lo : Int) (dv : Int) r1 r2 _ HOV.out).mono ?_; rintro e w8 ⟨rfl, hd8⟩; have hb8 := below_step HB7.out hd8.below; clear hd8))
                go_ret2
                exact ⟨rfl, hb8⟩
          | _ => rw [hpu] at h; cases h
end Go.Proofs.YtejgbdclhlolkaaGreatDoor.Q
namespace Go.Proofs.YtejgbdclhlolkaaGreatDoor.Q
open Go.RowKit Go.Proofs.YtejgbdclhlolkaaGreatDoorW.PrintWords Go.Proofs.YtejgbdclhlolkaaGreatDoorW.PrintLast Go.Proofs.YtejgbdclhlolkaaGreatDoorW.PrintMore
attribute [local go_sem] max2_int min2_int max_two min_two max_three min_three max_four min_four   -- for this text's walks alone
set_option linter.unusedVariables false
set_option linter.unusedSimpArgs false
def quant_edge.f (a0 : Int) : Option (Bool) := if a0 ≥ 97 then (if a0 ≤ 122 then (some true) else (if a0 ≥ 48 then (some (decide (a0 ≤ 57))) else (some false))) else (if a0 ≥ 48 then (some (decide (a0 ≤ 57))) else (some false))
set_option maxHeartbeats 8000000 in
set_option maxRecDepth 100000 in
theorem quant_edge.calls (a0 : Int) (r : Bool) (w : World) (h : quant_edge.f a0 = some r) :
  Calls Tryz.prog 94 #[.int .u8 a0] w fun e w' => e = .returned (.bool r) ∧ Drawn0 w w':=by
 have H : (if a0 ≥ 97 then (if a0 ≤ 122 then (some true) else (if a0 ≥ 48 then (some (decide (a0 ≤ 57))) else (some false))) else (if a0 ≥ 48 then (some (decide (a0 ≤ 57))) else (some false))) = some r:=h
 clear h
 by_cases c2 : a0 ≥ 97
 rotate_left
 ·rw [if_neg c2] at H
  have c2b0 : decide (97 ≤ a0) = false:=decide_eq_false c2
  clear c2
  by_cases c5 : a0 ≥ 48
  ·rw [if_pos c5] at H
   have c5b0 : decide (48 ≤ a0) = true:=decide_eq_true c5
   clear c5
   obtain rfl:=Option.some.inj H
   go_enter Tryz.func94,Tryz.ntmps94
   go_wp2
   go_ret
   exact ⟨by first|rfl|(simp;done)|(simp [*];done),by repeat (first|exact Drawn0.refl _|apply Drawn0.step)⟩
  rw [if_neg c5] at H
  have c5b0 : decide (48 ≤ a0) = false:=decide_eq_false c5
  clear c5
  obtain rfl:=Option.some.inj H
  go_enter Tryz.func94,Tryz.ntmps94
  go_wp2
  go_ret
  exact ⟨by first|rfl|(simp;done)|(simp [*];done),by repeat (first|exact Drawn0.refl _|apply Drawn0.step)⟩
 rw [if_pos c2] at H
 have c2b0 : decide (97 ≤ a0) = true:=decide_eq_true c2
 clear c2
 by_cases c3 : a0 ≤ 122
 ·rw [if_pos c3] at H
  have c3b0 : decide (a0 ≤ 122) = true:=decide_eq_true c3
  clear c3
  obtain rfl:=Option.some.inj H
  go_enter Tryz.func94,Tryz.ntmps94
  go_wp2
  go_ret
  exact ⟨by first|rfl|(simp;done)|(simp [*];done),by repeat (first|exact Drawn0.refl _|apply Drawn0.step)⟩
 rw [if_neg c3] at H
 have c3b0 : decide (a0 ≤ 122) = false:=decide_eq_false c3
 clear c3
 by_cases c4 : a0 ≥ 48
 ·rw [if_pos c4] at H
  have c4b0 : decide (48 ≤ a0) = true:=decide_eq_true c4
  clear c4
  obtain rfl:=Option.some.inj H
  go_enter Tryz.func94,Tryz.ntmps94
  go_wp2
  go_ret
  exact ⟨by first|rfl|(simp;done)|(simp [*];done),by repeat (first|exact Drawn0.refl _|apply Drawn0.step)⟩
 rw [if_neg c4] at H
 have c4b0 : decide (48 ≤ a0) = false:=decide_eq_false c4
 clear c4
 obtain rfl:=Option.some.inj H
 go_enter Tryz.func94,Tryz.ntmps94
 go_wp2
 go_ret
 exact ⟨by first|rfl|(simp;done)|(simp [*];done),by repeat (first|exact Drawn0.refl _|apply Drawn0.step)⟩
end Go.Proofs.YtejgbdclhlolkaaGreatDoor.Q
namespace Go.Proofs.YtejgbdclhlolkaaGreatDoor.Q
open Go.RowKit Go.Proofs.YtejgbdclhlolkaaGreatDoorW.PrintWords Go.Proofs.YtejgbdclhlolkaaGreatDoorW.PrintLast Go.Proofs.YtejgbdclhlolkaaGreatDoorW.PrintMore
attribute [local go_sem] max2_int min2_int max_two min_two max_three min_three max_four min_four   -- for this text's walks alone
set_option linter.unusedVariables false
set_option linter.unusedSimpArgs false
mutual
def quant_resource.l0 : Nat → List ByteArray → Int → Int → Option (Bool)
|0,_,_,_ => none
|k + 1,x10,x11,x12 => if x12 < x11 then (if 0 ≤ x12 then (if x12 < (x10.length : Int) then (if (rdOf ByteArray.empty x10 x12).toList = ([] : List UInt8) then (quant_resource.j1 k (rdOf ByteArray.empty x10 x12) x10 x11 x12 true) else (if 0 < ((rdOf ByteArray.empty x10 x12).size : Int) then ((quant_edge.f (bt (rdOf ByteArray.empty x10 x12) 0)).bind fun t508 => (if t508 = true then (if 0 ≤ (wrap64 (((rdOf ByteArray.empty x10 x12).size : Int) - 1)) then (if (wrap64 (((rdOf ByteArray.empty x10 x12).size : Int) - 1)) < ((rdOf ByteArray.empty x10 x12).size : Int) then ((quant_edge.f (bt (rdOf ByteArray.empty x10 x12) (wrap64 (((rdOf ByteArray.empty x10 x12).size : Int) - 1)))).bind fun t509 => (quant_resource.j1 k (rdOf ByteArray.empty x10 x12) x10 x11 x12 (!t509))) else (none)) else (none)) else (quant_resource.j1 k (rdOf ByteArray.empty x10 x12) x10 x11 x12 true))) else (none))) else (none)) else (none)) else (some true)
def quant_resource.j1 : Nat → ByteArray → List ByteArray → Int → Int → Bool → Option (Bool)
|0,_,_,_,_,_ => none
|k + 1,x4,x10,x11,x12,x32 => if x32 = true then (some false) else (quant_resource.l1 k x4 x10 x11 x12 (x4.size : Int) 0)
def quant_resource.l1 : Nat → ByteArray → List ByteArray → Int → Int → Int → Int → Option (Bool)
|0,_,_,_,_,_,_ => none
|k + 1,x4,x10,x11,x12,x34,x35 => if x35 < x34 then (if 0 ≤ x35 then (if x35 < (x4.size : Int) then ((quant_edge.f (bt x4 x35)).bind fun t510 => (if t510 = true then (quant_resource.l1 k x4 x10 x11 x12 x34 (wrap64 (x35 + 1))) else (if (bt x4 x35) = 45 then (quant_resource.l1 k x4 x10 x11 x12 x34 (wrap64 (x35 + 1))) else (some false)))) else (none)) else (none)) else (quant_resource.l0 k x10 x11 (wrap64 (x12 + 1)))
end
def quant_resource.f (k : Nat) (a0 : ByteArray) : Option (Bool) := if (a0.size : Int) > 48 then (some false) else ((strings_Split.f a0 (⟨#[46]⟩ : ByteArray)).bind fun t504 => (quant_resource.l0 k t504 (t504.length : Int) 0))
theorem quant_resource.mono_l : ∀ k, (∀ y0 y1 y2, LeO (quant_resource.l0 k y0 y1 y2) (quant_resource.l0 (k + 1) y0 y1 y2)) ∧ (∀ y0 y1 y2 y3 y4, LeO (quant_resource.j1 k y0 y1 y2 y3 y4) (quant_resource.j1 (k + 1) y0 y1 y2 y3 y4)) ∧ (∀ y0 y1 y2 y3 y4 y5, LeO (quant_resource.l1 k y0 y1 y2 y3 y4 y5) (quant_resource.l1 (k + 1) y0 y1 y2 y3 y4 y5))
|0 => ⟨fun _ _ _ r h => by simp [quant_resource.l0] at h,fun _ _ _ _ _ r h => by simp [quant_resource.j1] at h,fun _ _ _ _ _ _ r h => by simp [quant_resource.l1] at h⟩
|k + 1 => by
  obtain ⟨ih0,ih1,ih2⟩:=quant_resource.mono_l k
  refine ⟨?_,?_,?_⟩
  ·intro y0 y1 y2
   unfold quant_resource.l0
   repeat' first
  |(with_reducible exact ih0 _ _ _)
  |(with_reducible exact ih1 _ _ _ _ _)
  |(with_reducible exact ih2 _ _ _ _ _ _)
  |(with_reducible exact LeO.refl _)
  |(with_reducible exact LeO.none _)
  |(with_reducible refine LeO.ite ?_ ?_)
  |(with_reducible refine LeO.bind ?_ (fun _ => ?_))
  |exact ih0 _ _ _
  |exact ih1 _ _ _ _ _
  |exact ih2 _ _ _ _ _ _
  |exact LeO.none _
  |refine LeO.ite ?_ ?_
  |refine LeO.bind ?_ (fun _ => ?_)
  ·intro y0 y1 y2 y3 y4
   unfold quant_resource.j1
   repeat' first
  |(with_reducible exact ih0 _ _ _)
  |(with_reducible exact ih1 _ _ _ _ _)
  |(with_reducible exact ih2 _ _ _ _ _ _)
  |(with_reducible exact LeO.refl _)
  |(with_reducible exact LeO.none _)
  |(with_reducible refine LeO.ite ?_ ?_)
  |(with_reducible refine LeO.bind ?_ (fun _ => ?_))
  |exact ih0 _ _ _
  |exact ih1 _ _ _ _ _
  |exact ih2 _ _ _ _ _ _
  |exact LeO.none _
  |refine LeO.ite ?_ ?_
  |refine LeO.bind ?_ (fun _ => ?_)
  ·intro y0 y1 y2 y3 y4 y5
   unfold quant_resource.l1
   repeat' first
  |(with_reducible exact ih0 _ _ _)
  |(with_reducible exact ih1 _ _ _ _ _)
  |(with_reducible exact ih2 _ _ _ _ _ _)
  |(with_reducible exact LeO.refl _)
  |(with_reducible exact LeO.none _)
  |(with_reducible refine LeO.ite ?_ ?_)
  |(with_reducible refine LeO.bind ?_ (fun _ => ?_))
  |exact ih0 _ _ _
  |exact ih1 _ _ _ _ _
  |exact ih2 _ _ _ _ _ _
  |exact LeO.none _
  |refine LeO.ite ?_ ?_
  |refine LeO.bind ?_ (fun _ => ?_)
theorem quant_resource.mono : ∀ a0 k, LeO (quant_resource.f k a0) (quant_resource.f (k + 1) a0) := by
 intro a0 k
 obtain ⟨ih0,ih1,ih2⟩:=quant_resource.mono_l k
 unfold quant_resource.f
 repeat' first
  |(with_reducible exact ih0 _ _ _)
  |(with_reducible exact ih1 _ _ _ _ _)
  |(with_reducible exact ih2 _ _ _ _ _ _)
  |(with_reducible exact LeO.refl _)
  |(with_reducible exact LeO.none _)
  |(with_reducible refine LeO.ite ?_ ?_)
  |(with_reducible refine LeO.bind ?_ (fun _ => ?_))
  |exact ih0 _ _ _
  |exact ih1 _ _ _ _ _
  |exact ih2 _ _ _ _ _ _
  |exact LeO.none _
  |refine LeO.ite ?_ ?_
  |refine LeO.bind ?_ (fun _ => ?_)
set_option maxHeartbeats 8000000 in
set_option maxRecDepth 100000 in
theorem quant_resource.calls (k : Nat) (a0 : ByteArray) (r : Bool) (w : World) (h : quant_resource.f k a0 = some r) (hG : Glob w) :
  Calls Tryz.prog 71 #[.string a0] w fun e w' => e = .returned (.bool r) ∧ Below w.heap.size w w':=by
 have HB:=Aside0.mk (Below.refl w.heap.size w)
 have H : (if (a0.size : Int) > 48 then (some false) else ((strings_Split.f a0 (⟨#[46]⟩ : ByteArray)).bind fun t504 => (quant_resource.l0 k t504 (t504.length : Int) 0))) = some r:=h
 clear h
 by_cases c2 : (a0.size : Int) > 48
 ·rw [if_pos c2] at H
  have c2b0 : decide (48 < (a0.size : Int)) = true:=decide_eq_true c2
  have c2b1 : decide (48 < a0.size) = true:=decide_eq_true (by omega)
  clear c2
  obtain rfl:=Option.some.inj H
  go_enter Tryz.func71,Tryz.ntmps71
  go_wp2
  go_ret
  exact ⟨by first|rfl|(simp [errW_none,errW_some] <;> rfl)|(simp [*,errW_none,errW_some] <;> rfl),by repeat (first|(with_reducible first|exact HB.out|apply below_alloc|apply pw_below_drewN|apply below_drew1)|exact HB.out)⟩
 rw [if_neg c2] at H
 have c2b0 : decide (48 < (a0.size : Int)) = false:=decide_eq_false c2
 have c2b1 : decide (48 < a0.size) = false:=decide_eq_false (by omega)
 clear c2
 replace H:=Option.bind_eq_some_iff.mp H
 obtain ⟨t504,A30,H⟩:=H
 replace H : (quant_resource.l0 k t504 (t504.length : Int) 0) = some r:=H
 have A3:=Aside0.mk A30
 clear A30
 have H':=Aside0.mk H
 clear H
 go_enter Tryz.func71,Tryz.ntmps71
 go_wp2_with (first|((with_reducible refine gate_callee (f:=93) rfl ?_);refine goesL_ (some 10) rfl rfl Tryz.func93 (by kernel_rfl) rfl #[.string a0,.string (⟨#[46]⟩ : ByteArray)] rfl (by (try simp only [List.map_toArray,List.map_cons,List.map_nil]);first|done|rfl|(simp only [List.length_drop,List.length_take];rfl)) ?_;(with_reducible refine (strings_Split.calls a0 (⟨#[46]⟩ : ByteArray) t504 _ A3.out (Glob.below hG (by repeat (first|(with_reducible first|exact HB.out|apply below_alloc|apply pw_below_drewN|apply below_drew1)|exact HB.out)))).mono ?_);rintro e w4 ⟨v505,rfl,ho0,hb⟩;refine ⟨_,rfl,?_⟩;have n0_:=Aside0.mk (Kd.R_lower ho0 (below_size (by repeat (first|(with_reducible first|exact HB.out|apply below_alloc|apply pw_below_drewN|apply below_drew1)|exact HB.out))));have n1_:=Aside0.mk (below_step (by repeat (first|(with_reducible first|exact HB.out|apply below_alloc|apply pw_below_drewN|apply below_drew1)|exact HB.out)) hb);clear HB;have HO506:=n0_;have HB:=n1_;clear n0_ n1_;(try clear hb);(try clear hb2);(try clear hk);(try clear hi);(try clear ho0);obtain ⟨Ao5,co5,eo5⟩:=Kd.R_slice HO506.out;subst eo5))
 go_loopg [12] k (fun kq v12 w' => ∃ (x12_1 : Int),v12 = .int .i64 x12_1 ∧ Aside0 (quant_resource.l0 kq t504 (t504.length : Int) x12_1 = some r) ∧ Aside0 (kq ≤ k) ∧ Aside0 (Kd.R Kd.string 9 w' w.heap.size (fun _ => True) (.slice Ao5 t504.length co5) t504) ∧ Aside0 (Below w.heap.size w w'))
 case atStart => exact ⟨(0),(by first|rfl|(simp;done)|(simp [*];done)|(simp;rw [Bool.eq_iff_iff];simp;done)|(rw [Bool.eq_iff_iff];simp;done)),H',⟨Nat.le_refl _⟩,⟨by (with_reducible repeat (first|apply Kd.R_alloc|apply Kd.R_drewN|apply Kd.R_drew));exact HO506.out⟩,⟨by repeat (first|(with_reducible first|exact HB.out|apply below_alloc|apply pw_below_drewN|apply below_drew1)|exact HB.out)⟩⟩
 case round =>
  clear H';(try clear c2);(try clear c2b0);(try clear c2b1);(try clear p2)
  obtain ⟨x12_1,rfl,HA,HK1,HO_10,HB⟩:=hrel
  cases gk with
 |zero => exact absurd HA.out (by simp [quant_resource.l0])
 |succ k1 =>
   have H:=HA.out
   clear HA
   simp only [quant_resource.l0] at H
   by_cases c6 : x12_1 < (t504.length : Int)
   rotate_left
   ·rw [if_neg c6] at H
    have c6b0 : decide (x12_1 < (t504.length : Int)) = false:=decide_eq_false c6
    clear c6
    obtain rfl:=Option.some.inj H
    go_wp2
    go_ret
    exact ⟨by first|rfl|(simp [errW_none,errW_some] <;> rfl)|(simp [*,errW_none,errW_some] <;> rfl),by repeat (first|(with_reducible first|exact HB.out|apply below_alloc|apply pw_below_drewN|apply below_drew1)|exact HB.out)⟩
   rw [if_pos c6] at H
   have c6b0 : decide (x12_1 < (t504.length : Int)) = true:=decide_eq_true c6
   clear c6
   by_cases c7 : 0 ≤ x12_1
   rotate_left
   ·rw [if_neg c7] at H
    exact absurd H (by simp)
   rw [if_pos c7] at H
   have c7b0 : decide (0 ≤ x12_1) = true:=decide_eq_true c7
   clear c7
   by_cases c8 : x12_1 < (t504.length : Int)
   rotate_left
   ·rw [if_neg c8] at H
    exact absurd H (by simp)
   rw [if_pos c8] at H
   have c8b0 : decide (x12_1 < (t504.length : Int)) = true:=decide_eq_true c8
   clear c8
   have HC9:=Aside0.mk H
   clear H
   have p507 : 0 ≤ (x12_1 : Int):=of_decide_eq_true (by first|(with_reducible assumption)|assumption)
   have q507 : x12_1 < (t504.length : Int):=of_decide_eq_true (by first|(with_reducible assumption)|assumption)
   obtain ⟨ad507,e507,hx507_0⟩:=Kd.at_string (Kd.R_reads' HO_10.out).2.2 x12_1 p507 q507
   cases e507
   replace p507:=eq_true p507
   replace q507:=eq_true q507
   go_upto_region 6 with (fail)
   go_cut [32] (fun v32 wc => ∃ (kq : Nat) (x32_8 : Bool),v32 = .bool x32_8 ∧ Aside0 (quant_resource.j1 kq (rdOf ByteArray.empty t504 x12_1) t504 (t504.length : Int) x12_1 x32_8 = some r) ∧ Aside0 (kq ≤ k1) ∧ Aside0 (Kd.R Kd.string 9 wc w.heap.size (fun _ => True) (.slice (some ad507) t504.length co5) t504) ∧ Aside0 (Below w.heap.size w wc))
   case first =>
    have H:=HC9.out
    clear HC9
    by_cases c10 : (rdOf ByteArray.empty t504 x12_1).toList = ([] : List UInt8)
    ·rw [if_pos c10] at H
     have c10b0 : ((rdOf ByteArray.empty t504 x12_1).toList == ([] : List UInt8)) = true:=beq_iff_eq.mpr c10
     have c10b1 : ((rdOf ByteArray.empty t504 x12_1).toList != ([] : List UInt8)) = false:=bne_eq_false_iff_eq.mpr c10
     clear c10
     (first|rw [c10b0]|(simp only [i64_w,i32_w];rw [c10b0])|skip)
     have H':=Aside0.mk H
     clear H
     go_wp2
     go_meet
     case rel => exact ⟨_,(true),(by first|rfl|(simp;done)|(simp [*];done)|(simp;rw [Bool.eq_iff_iff];simp;done)|(rw [Bool.eq_iff_iff];simp;done)),H',⟨by have:=HK1.out;first|omega|exact Nat.le_refl _⟩,⟨by (with_reducible repeat (first|apply Kd.R_alloc|apply Kd.R_drewN|apply Kd.R_drew));exact HO_10.out⟩,⟨by repeat (first|(with_reducible first|exact HB.out|apply below_alloc|apply pw_below_drewN|apply below_drew1)|exact HB.out)⟩⟩
    rw [if_neg c10] at H
    have c10b0 : ((rdOf ByteArray.empty t504 x12_1).toList == ([] : List UInt8)) = false:=beq_eq_false_iff_ne.mpr c10
    have c10b1 : ((rdOf ByteArray.empty t504 x12_1).toList != ([] : List UInt8)) = true:=bne_iff_ne.mpr c10
    (first|rw [c10b0]|(simp only [i64_w,i32_w];rw [c10b0])|skip)
    by_cases c11 : 0 < ((rdOf ByteArray.empty t504 x12_1).size : Int)
    rotate_left
    ·rw [if_neg c11] at H
     exact absurd H (by simp)
    rw [if_pos c11] at H
    have c11b0 : decide (0 < ((rdOf ByteArray.empty t504 x12_1).size : Int)) = true:=decide_eq_true c11
    have c11b1 : decide (0 < (rdOf ByteArray.empty t504 x12_1).size) = true:=decide_eq_true (by omega)
    clear c11
    replace H:=Option.bind_eq_some_iff.mp H
    obtain ⟨t508,A130,H⟩:=H
    replace H : (if t508 = true then (if 0 ≤ (wrap64 (((rdOf ByteArray.empty t504 x12_1).size : Int) - 1)) then (if (wrap64 (((rdOf ByteArray.empty t504 x12_1).size : Int) - 1)) < ((rdOf ByteArray.empty t504 x12_1).size : Int) then ((quant_edge.f (bt (rdOf ByteArray.empty t504 x12_1) (wrap64 (((rdOf ByteArray.empty t504 x12_1).size : Int) - 1)))).bind fun t509 => (quant_resource.j1 k1 (rdOf ByteArray.empty t504 x12_1) t504 (t504.length : Int) x12_1 (!t509))) else (none)) else (none)) else (quant_resource.j1 k1 (rdOf ByteArray.empty t504 x12_1) t504 (t504.length : Int) x12_1 true)) = some r:=H
    have A13:=Aside0.mk A130
    clear A130
    by_cases c14 : t508 = true
    rotate_left
    ·replace c14:=Bool.eq_false_iff.mpr c14
     subst c14
     have H1 : (quant_resource.j1 k1 (rdOf ByteArray.empty t504 x12_1) t504 (t504.length : Int) x12_1 true) = some r:=by rw [if_neg (show ¬ (false = true) by decide)] at H;exact H
     clear H;have H:=H1;clear H1
     have H':=Aside0.mk H
     clear H
     have p12 : 0 ≤ (0 : Int):=(by omega)
     have q12 : 0 < (rdOf ByteArray.empty t504 x12_1).size:=(by have : (0 : Int) < ((rdOf ByteArray.empty t504 x12_1).size : Int):=of_decide_eq_true (by first|(with_reducible assumption)|assumption);omega)
     have hx12 : ∀ h : 0 < (rdOf ByteArray.empty t504 x12_1).size,(((rdOf ByteArray.empty t504 x12_1)[0]'h).toNat : Int) = bt (rdOf ByteArray.empty t504 x12_1) 0:=bt_at (rdOf ByteArray.empty t504 x12_1) 0
     clear p12
     have qi12 : (0 < ((rdOf ByteArray.empty t504 x12_1).size : Int)) = True:=eq_true (of_decide_eq_true (by first|(with_reducible assumption)|assumption))
     replace q12:=eq_true q12
     go_wp2_with (first|(go_at_call 94;(with_reducible refine (quant_edge.calls (bt (rdOf ByteArray.empty t504 x12_1) 0) false _ A13.out).mono ?_);rintro e w' ⟨rfl,⟨nd,rfl⟩⟩))
     go_meet
     case rel => exact ⟨_,(true),(by first|rfl|(simp;done)|(simp [*];done)|(simp;rw [Bool.eq_iff_iff];simp;done)|(rw [Bool.eq_iff_iff];simp;done)),H',⟨by have:=HK1.out;first|omega|exact Nat.le_refl _⟩,⟨by (with_reducible repeat (first|apply Kd.R_alloc|apply Kd.R_drewN|apply Kd.R_drew));exact HO_10.out⟩,⟨by repeat (first|(with_reducible first|exact HB.out|apply below_alloc|apply pw_below_drewN|apply below_drew1)|exact HB.out)⟩⟩
    subst c14
    have H1 : (if 0 ≤ (wrap64 (((rdOf ByteArray.empty t504 x12_1).size : Int) - 1)) then (if (wrap64 (((rdOf ByteArray.empty t504 x12_1).size : Int) - 1)) < ((rdOf ByteArray.empty t504 x12_1).size : Int) then ((quant_edge.f (bt (rdOf ByteArray.empty t504 x12_1) (wrap64 (((rdOf ByteArray.empty t504 x12_1).size : Int) - 1)))).bind fun t509 => (quant_resource.j1 k1 (rdOf ByteArray.empty t504 x12_1) t504 (t504.length : Int) x12_1 (!t509))) else (none)) else (none)) = some r:=by rw [if_pos rfl] at H;exact H
    clear H;have H:=H1;clear H1
    obtain ⟨ji15,hji15⟩ : ∃ j_ : Int,(wrap64 (((rdOf ByteArray.empty t504 x12_1).size : Int) - 1)) = j_:=⟨_,rfl⟩
    replace H : (if 0 ≤ (ji15) then (if (ji15) < ((rdOf ByteArray.empty t504 x12_1).size : Int) then ((quant_edge.f (bt (rdOf ByteArray.empty t504 x12_1) (ji15))).bind fun t509 => (quant_resource.j1 k1 (rdOf ByteArray.empty t504 x12_1) t504 (t504.length : Int) x12_1 (!t509))) else (none)) else (none)) = some r:=by first|(rw [hji15] at H;exact H)|(simp only [hji15] at H ⊢;exact H)
    (try rw [hji15] at A13)
    have hji15w : (IntKind.i64.wrap (((rdOf ByteArray.empty t504 x12_1).size : Int) - 1)) = ji15:=(i64_w _).trans hji15
    by_cases c16 : 0 ≤ (ji15)
    rotate_left
    ·rw [if_neg c16] at H
     exact absurd H (by simp)
    rw [if_pos c16] at H
    have c16b0 : decide (0 ≤ (ji15)) = true:=decide_eq_true c16
    clear c16
    by_cases c17 : (ji15) < ((rdOf ByteArray.empty t504 x12_1).size : Int)
    rotate_left
    ·rw [if_neg c17] at H
     exact absurd H (by simp)
    rw [if_pos c17] at H
    have c17b0 : decide ((ji15) < ((rdOf ByteArray.empty t504 x12_1).size : Int)) = true:=decide_eq_true c17
    clear c17
    replace H:=Option.bind_eq_some_iff.mp H
    obtain ⟨t509,A190,H⟩:=H
    replace H : (quant_resource.j1 k1 (rdOf ByteArray.empty t504 x12_1) t504 (t504.length : Int) x12_1 (!t509)) = some r:=H
    have A19:=Aside0.mk A190
    clear A190
    have H':=Aside0.mk H
    clear H
    have p12 : 0 ≤ (0 : Int):=(by omega)
    have q12 : 0 < (rdOf ByteArray.empty t504 x12_1).size:=(by have : (0 : Int) < ((rdOf ByteArray.empty t504 x12_1).size : Int):=of_decide_eq_true (by first|(with_reducible assumption)|assumption);omega)
    have hx12 : ∀ h : 0 < (rdOf ByteArray.empty t504 x12_1).size,(((rdOf ByteArray.empty t504 x12_1)[0]'h).toNat : Int) = bt (rdOf ByteArray.empty t504 x12_1) 0:=bt_at (rdOf ByteArray.empty t504 x12_1) 0
    clear p12
    have qi12 : (0 < ((rdOf ByteArray.empty t504 x12_1).size : Int)) = True:=eq_true (of_decide_eq_true (by first|(with_reducible assumption)|assumption))
    replace q12:=eq_true q12
    go_wp2_with (first|(go_at_call 94;(with_reducible refine (quant_edge.calls (bt (rdOf ByteArray.empty t504 x12_1) 0) true _ A13.out).mono ?_);rintro e w' ⟨rfl,⟨nd,rfl⟩⟩;have p18 : 0 ≤ ((ji15) : Int):=of_decide_eq_true (by first|(with_reducible assumption)|assumption);have q18 : (ji15) < ((rdOf ByteArray.empty t504 x12_1).size : Int):=of_decide_eq_true (by first|(with_reducible assumption)|assumption);have hx18:=bt_at (rdOf ByteArray.empty t504 x12_1) (ji15);replace p18:=eq_true p18;replace q18:=eq_true q18)|(go_at_call 94;(with_reducible refine (quant_edge.calls (bt (rdOf ByteArray.empty t504 x12_1) (ji15)) t509 _ A19.out).mono ?_);rintro e w' ⟨rfl,⟨nd,rfl⟩⟩))
    go_meet
    case rel => exact ⟨_,(!t509),(by first|rfl|(simp;done)|(simp [*];done)|(simp;rw [Bool.eq_iff_iff];simp;done)|(rw [Bool.eq_iff_iff];simp;done)),H',⟨by have:=HK1.out;first|omega|exact Nat.le_refl _⟩,⟨by (with_reducible repeat (first|apply Kd.R_alloc|apply Kd.R_drewN|apply Kd.R_drew));exact HO_10.out⟩,⟨by repeat (first|(with_reducible first|exact HB.out|apply below_alloc|apply pw_below_drewN|apply below_drew1)|exact HB.out)⟩⟩
   case rest =>
    clear HC9;(try clear c1);(try clear p1);(try clear q1);(try clear hx1);(try clear qi1);(try clear c2);(try clear c2b0);(try clear c2b1);(try clear p2);(try clear p5);(try clear q5);(try clear hx5);(try clear c6);(try clear c6b0);(try clear p6);(try clear c7);(try clear c7b0);(try clear c8);(try clear c8b0);(try clear c9);(try clear c10);(try clear c10b0);(try clear c10b1);(try clear c11);(try clear c11b0);(try clear c11b1);(try clear p12);(try clear q12);(try clear hx12);(try clear qi12);(try clear c14);(try clear c16);(try clear c16b0);(try clear c17);(try clear c17b0);(try clear p18);(try clear q18);(try clear hx18);(try clear hx507_0);(try clear p12);(try clear p18);(try clear p2);(try clear p507);(try clear q12);(try clear q18);(try clear q507)
    obtain ⟨kq,x32_8,rfl,HA,HJ8,HO_10,HB⟩:=hcut
    cases kq with
   |zero => exact absurd HA.out (by simp [quant_resource.j1])
   |succ kj8 =>
     have H:=HA.out
     clear HA
     simp only [quant_resource.j1] at H
     by_cases c20 : x32_8 = true
     ·subst c20
      have H1 : (some false) = some r:=by rw [if_pos rfl] at H;exact H
      clear H;have H:=H1;clear H1
      obtain rfl:=Option.some.inj H
      go_wp2
      go_ret
      exact ⟨by first|rfl|(simp [errW_none,errW_some] <;> rfl)|(simp [*,errW_none,errW_some] <;> rfl),by repeat (first|(with_reducible first|exact HB.out|apply below_alloc|apply pw_below_drewN|apply below_drew1)|exact HB.out)⟩
     replace c20:=Bool.eq_false_iff.mpr c20
     subst c20
     have H1 : (quant_resource.l1 kj8 (rdOf ByteArray.empty t504 x12_1) t504 (t504.length : Int) x12_1 ((rdOf ByteArray.empty t504 x12_1).size : Int) 0) = some r:=by rw [if_neg (show ¬ (false = true) by decide)] at H;exact H
     clear H;have H:=H1;clear H1
     have H':=Aside0.mk H
     clear H
     go_wp2
     go_loopg [35] kj8 (fun kq v35 w' => ∃ (x35_3 : Int),v35 = .int .i64 x35_3 ∧ Aside0 (quant_resource.l1 kq (rdOf ByteArray.empty t504 x12_1) t504 (t504.length : Int) x12_1 ((rdOf ByteArray.empty t504 x12_1).size : Int) x35_3 = some r) ∧ Aside0 (kq ≤ kj8) ∧ Aside0 (Kd.R Kd.string 9 w' w.heap.size (fun _ => True) (.slice (some ad507) t504.length co5) t504) ∧ Aside0 (Below w.heap.size w w'))
     case atStart => exact ⟨(0),(by first|rfl|(simp;done)|(simp [*];done)|(simp;rw [Bool.eq_iff_iff];simp;done)|(rw [Bool.eq_iff_iff];simp;done)),H',⟨Nat.le_refl _⟩,⟨by (with_reducible repeat (first|apply Kd.R_alloc|apply Kd.R_drewN|apply Kd.R_drew));exact HO_10.out⟩,⟨by repeat (first|(with_reducible first|exact HB.out|apply below_alloc|apply pw_below_drewN|apply below_drew1)|exact HB.out)⟩⟩
     case round =>
      clear H';(try clear c1);(try clear p1);(try clear q1);(try clear hx1);(try clear qi1);(try clear c2);(try clear c2b0);(try clear c2b1);(try clear p2);(try clear p5);(try clear q5);(try clear hx5);(try clear c6);(try clear c6b0);(try clear p6);(try clear c7);(try clear c7b0);(try clear c8);(try clear c8b0);(try clear c9);(try clear c10);(try clear c10b0);(try clear c10b1);(try clear c11);(try clear c11b0);(try clear c11b1);(try clear p12);(try clear q12);(try clear hx12);(try clear qi12);(try clear c14);(try clear c16);(try clear c16b0);(try clear c17);(try clear c17b0);(try clear p18);(try clear q18);(try clear hx18);(try clear c20);(try clear hx507_0);(try clear p1);(try clear p12);(try clear p18);(try clear p2);(try clear p5);(try clear p507);(try clear p6);(try clear q1);(try clear q12);(try clear q18);(try clear q5);(try clear q507)
      obtain ⟨x35_3,rfl,HA,HK3,HO_10,HB⟩:=hrel
      cases gk with
     |zero => exact absurd HA.out (by simp [quant_resource.l1])
     |succ k3 =>
       have H:=HA.out
       clear HA
       simp only [quant_resource.l1] at H
       by_cases c21 : x35_3 < ((rdOf ByteArray.empty t504 x12_1).size : Int)
       rotate_left
       ·rw [if_neg c21] at H
        have c21b0 : decide (x35_3 < ((rdOf ByteArray.empty t504 x12_1).size : Int)) = false:=decide_eq_false c21
        clear c21
        have H':=Aside0.mk H
        clear H
        go_wp2
        go_roundg k3
        case measure => have:=HK1.out;have:=HJ8.out;have:=HK3.out;omega
        case rel => exact ⟨(wrap64 (x12_1 + 1)),(by first|rfl|(simp;done)|(simp [*];done)|(simp;rw [Bool.eq_iff_iff];simp;done)|(rw [Bool.eq_iff_iff];simp;done)),H',⟨by have:=HK1.out;have:=HJ8.out;have:=HK3.out;omega⟩,⟨by (with_reducible repeat (first|apply Kd.R_alloc|apply Kd.R_drewN|apply Kd.R_drew));exact HO_10.out⟩,⟨by repeat (first|(with_reducible first|exact HB.out|apply below_alloc|apply pw_below_drewN|apply below_drew1)|exact HB.out)⟩⟩
       rw [if_pos c21] at H
       have c21b0 : decide (x35_3 < ((rdOf ByteArray.empty t504 x12_1).size : Int)) = true:=decide_eq_true c21
       clear c21
       by_cases c22 : 0 ≤ x35_3
       rotate_left
       ·rw [if_neg c22] at H
        exact absurd H (by simp)
       rw [if_pos c22] at H
       have c22b0 : decide (0 ≤ x35_3) = true:=decide_eq_true c22
       clear c22
       by_cases c23 : x35_3 < ((rdOf ByteArray.empty t504 x12_1).size : Int)
       rotate_left
       ·rw [if_neg c23] at H
        exact absurd H (by simp)
       rw [if_pos c23] at H
       have c23b0 : decide (x35_3 < ((rdOf ByteArray.empty t504 x12_1).size : Int)) = true:=decide_eq_true c23
       clear c23
       replace H:=Option.bind_eq_some_iff.mp H
       obtain ⟨t510,A250,H⟩:=H
       replace H : (if t510 = true then (quant_resource.l1 k3 (rdOf ByteArray.empty t504 x12_1) t504 (t504.length : Int) x12_1 ((rdOf ByteArray.empty t504 x12_1).size : Int) (wrap64 (x35_3 + 1))) else (if (bt (rdOf ByteArray.empty t504 x12_1) x35_3) = 45 then (quant_resource.l1 k3 (rdOf ByteArray.empty t504 x12_1) t504 (t504.length : Int) x12_1 ((rdOf ByteArray.empty t504 x12_1).size : Int) (wrap64 (x35_3 + 1))) else (some false))) = some r:=H
       have A25:=Aside0.mk A250
       clear A250
       by_cases c26 : t510 = true
       ·subst c26
        have H1 : (quant_resource.l1 k3 (rdOf ByteArray.empty t504 x12_1) t504 (t504.length : Int) x12_1 ((rdOf ByteArray.empty t504 x12_1).size : Int) (wrap64 (x35_3 + 1))) = some r:=by rw [if_pos rfl] at H;exact H
        clear H;have H:=H1;clear H1
        have H':=Aside0.mk H
        clear H
        have p24 : 0 ≤ (x35_3 : Int):=of_decide_eq_true (by first|(with_reducible assumption)|assumption)
        have q24 : x35_3 < ((rdOf ByteArray.empty t504 x12_1).size : Int):=of_decide_eq_true (by first|(with_reducible assumption)|assumption)
        have hx24:=bt_at (rdOf ByteArray.empty t504 x12_1) x35_3
        replace p24:=eq_true p24
        replace q24:=eq_true q24
        go_wp2_with (first|((with_reducible refine gate_callee (f:=94) rfl ?_);refine goesL_ (some 41) rfl rfl Tryz.func94 (by kernel_rfl) rfl #[.int .u8 (bt (rdOf ByteArray.empty t504 x12_1) x35_3)] rfl (by (try simp only [List.map_toArray,List.map_cons,List.map_nil]);first|done|rfl|(simp only [List.length_drop,List.length_take];rfl)) ?_;(with_reducible refine (quant_edge.calls (bt (rdOf ByteArray.empty t504 x12_1) x35_3) true _ A25.out).mono ?_);rintro e w' ⟨rfl,⟨nd,rfl⟩⟩;refine ⟨_,rfl,?_⟩))
        go_roundg k3
        case measure => have:=HK1.out;have:=HJ8.out;have:=HK3.out;omega
        case rel => exact ⟨(wrap64 (x35_3 + 1)),(by first|rfl|(simp;done)|(simp [*];done)|(simp;rw [Bool.eq_iff_iff];simp;done)|(rw [Bool.eq_iff_iff];simp;done)),H',⟨by have:=HK1.out;have:=HJ8.out;have:=HK3.out;omega⟩,⟨by (with_reducible repeat (first|apply Kd.R_alloc|apply Kd.R_drewN|apply Kd.R_drew));exact HO_10.out⟩,⟨by repeat (first|(with_reducible first|exact HB.out|apply below_alloc|apply pw_below_drewN|apply below_drew1)|exact HB.out)⟩⟩
       replace c26:=Bool.eq_false_iff.mpr c26
       subst c26
       have H1 : (if (bt (rdOf ByteArray.empty t504 x12_1) x35_3) = 45 then (quant_resource.l1 k3 (rdOf ByteArray.empty t504 x12_1) t504 (t504.length : Int) x12_1 ((rdOf ByteArray.empty t504 x12_1).size : Int) (wrap64 (x35_3 + 1))) else (some false)) = some r:=by rw [if_neg (show ¬ (false = true) by decide)] at H;exact H
       clear H;have H:=H1;clear H1
       by_cases c28 : (bt (rdOf ByteArray.empty t504 x12_1) x35_3) = 45
       rotate_left
       ·rw [if_neg c28] at H
        have c28b0 : ((bt (rdOf ByteArray.empty t504 x12_1) x35_3) == 45) = false:=beq_eq_false_iff_ne.mpr c28
        have c28b1 : ((bt (rdOf ByteArray.empty t504 x12_1) x35_3) != 45) = true:=bne_iff_ne.mpr c28
        obtain rfl:=Option.some.inj H
        have p24 : 0 ≤ (x35_3 : Int):=of_decide_eq_true (by first|(with_reducible assumption)|assumption)
        have q24 : x35_3 < ((rdOf ByteArray.empty t504 x12_1).size : Int):=of_decide_eq_true (by first|(with_reducible assumption)|assumption)
        have hx24:=bt_at (rdOf ByteArray.empty t504 x12_1) x35_3
        replace p24:=eq_true p24
        replace q24:=eq_true q24
        go_wp2_with (first|((with_reducible refine gate_callee (f:=94) rfl ?_);refine goesL_ (some 41) rfl rfl Tryz.func94 (by kernel_rfl) rfl #[.int .u8 (bt (rdOf ByteArray.empty t504 x12_1) x35_3)] rfl (by (try simp only [List.map_toArray,List.map_cons,List.map_nil]);first|done|rfl|(simp only [List.length_drop,List.length_take];rfl)) ?_;(with_reducible refine (quant_edge.calls (bt (rdOf ByteArray.empty t504 x12_1) x35_3) false _ A25.out).mono ?_);rintro e w' ⟨rfl,⟨nd,rfl⟩⟩;refine ⟨_,rfl,?_⟩;have p27 : 0 ≤ (x35_3 : Int):=of_decide_eq_true (by first|(with_reducible assumption)|assumption);have q27 : x35_3 < ((rdOf ByteArray.empty t504 x12_1).size : Int):=of_decide_eq_true (by first|(with_reducible assumption)|assumption);have hx27:=bt_at (rdOf ByteArray.empty t504 x12_1) x35_3;replace p27:=eq_true p27;replace q27:=eq_true q27))
        go_ret
        exact ⟨by first|rfl|(simp [errW_none,errW_some] <;> rfl)|(simp [*,errW_none,errW_some] <;> rfl),by repeat (first|(with_reducible first|exact HB.out|apply below_alloc|apply pw_below_drewN|apply below_drew1)|exact HB.out)⟩
       rw [if_pos c28] at H
       have c28b0 : ((bt (rdOf ByteArray.empty t504 x12_1) x35_3) == 45) = true:=beq_iff_eq.mpr c28
       have c28b1 : ((bt (rdOf ByteArray.empty t504 x12_1) x35_3) != 45) = false:=bne_eq_false_iff_eq.mpr c28
       clear c28
       have H':=Aside0.mk H
       clear H
       have p24 : 0 ≤ (x35_3 : Int):=of_decide_eq_true (by first|(with_reducible assumption)|assumption)
       have q24 : x35_3 < ((rdOf ByteArray.empty t504 x12_1).size : Int):=of_decide_eq_true (by first|(with_reducible assumption)|assumption)
       have hx24:=bt_at (rdOf ByteArray.empty t504 x12_1) x35_3
       replace p24:=eq_true p24
       replace q24:=eq_true q24
       go_wp2_with (first|((with_reducible refine gate_callee (f:=94) rfl ?_);refine goesL_ (some 41) rfl rfl Tryz.func94 (by kernel_rfl) rfl #[.int .u8 (bt (rdOf ByteArray.empty t504 x12_1) x35_3)] rfl (by (try simp only [List.map_toArray,List.map_cons,List.map_nil]);first|done|rfl|(simp only [List.length_drop,List.length_take];rfl)) ?_;(with_reducible refine (quant_edge.calls (bt (rdOf ByteArray.empty t504 x12_1) x35_3) false _ A25.out).mono ?_);rintro e w' ⟨rfl,⟨nd,rfl⟩⟩;refine ⟨_,rfl,?_⟩;have p27 : 0 ≤ (x35_3 : Int):=of_decide_eq_true (by first|(with_reducible assumption)|assumption);have q27 : x35_3 < ((rdOf ByteArray.empty t504 x12_1).size : Int):=of_decide_eq_true (by first|(with_reducible assumption)|assumption);have hx27:=bt_at (rdOf ByteArray.empty t504 x12_1) x35_3;replace p27:=eq_true p27;replace q27:=eq_true q27))
       go_roundg k3
       case measure => have:=HK1.out;have:=HJ8.out;have:=HK3.out;omega
       case rel => exact ⟨(wrap64 (x35_3 + 1)),(by first|rfl|(simp;done)|(simp [*];done)|(simp;rw [Bool.eq_iff_iff];simp;done)|(rw [Bool.eq_iff_iff];simp;done)),H',⟨by have:=HK1.out;have:=HJ8.out;have:=HK3.out;omega⟩,⟨by (with_reducible repeat (first|apply Kd.R_alloc|apply Kd.R_drewN|apply Kd.R_drew));exact HO_10.out⟩,⟨by repeat (first|(with_reducible first|exact HB.out|apply below_alloc|apply pw_below_drewN|apply below_drew1)|exact HB.out)⟩⟩
end Go.Proofs.YtejgbdclhlolkaaGreatDoor.Q
namespace Go.Proofs.YtejgbdclhlolkaaGreatDoor.Q
def bl (n m : Nat) : Array Bool := (List.replicate n true ++ List.replicate m false).toArray
end Go.Proofs.YtejgbdclhlolkaaGreatDoor.Q
namespace Go.Proofs.YtejgbdclhlolkaaGreatDoor.Q
open Go.RowKit Go.Proofs.YtejgbdclhlolkaaGreatDoorW.PrintWords Go.Proofs.YtejgbdclhlolkaaGreatDoorW.PrintLast
set_option linter.unusedVariables false
set_option linter.unusedSimpArgs false
theorem less_trans : ∀ x y z : List UInt8, Op.bytesLess x y = true → Op.bytesLess y z = true → Op.bytesLess x z = true
  | _, [], _, h, _ => by simp [Op.bytesLess] at h
  | _, _ :: _, [], _, h => by simp [Op.bytesLess] at h
  | [], _ :: _, _ :: _, _, _ => rfl
  | a :: x, b :: y, c :: z, h, k => by
    simp only [Op.bytesLess, Bool.or_eq_true, Bool.and_eq_true, decide_eq_true_eq, beq_iff_eq] at h k ⊢
    rcases h with h | ⟨rfl, h⟩
    · rcases k with k | ⟨rfl, k⟩
      · exact .inl (UInt8.lt_trans h k)
      · exact .inl h
    · rcases k with k | ⟨rfl, k⟩
      · exact .inl k
      · exact .inr ⟨rfl, less_trans x y z h k⟩
theorem less_irrefl : ∀ x : List UInt8, Op.bytesLess x x = false
  | [] => rfl
  | a :: x => by
    simp only [Op.bytesLess, less_irrefl x, Bool.and_false, Bool.or_false, decide_eq_false_iff_not]
    exact UInt8.lt_irrefl a
theorem less_total : ∀ x y : List UInt8, (Op.bytesLess x y || x == y) = !Op.bytesLess y x
  | [], [] => rfl
  | [], _ :: _ => rfl
  | _ :: _, [] => rfl
  | a :: x, b :: y => by
    have ih := less_total x y
    simp only [Op.bytesLess]
    rcases Nat.lt_trichotomy a.toNat b.toNat with h | h | h
    · have h1 : decide (a < b) = true := decide_eq_true (UInt8.lt_iff_toNat_lt.2 h)
      have h2 : decide (b < a) = false := decide_eq_false (fun e => by have := UInt8.lt_iff_toNat_lt.1 e; omega)
      have h3 : (b == a) = false := beq_eq_false_iff_ne.2 (fun e => by rw [e] at h; omega)
      rw [h1, h2, h3]; rfl
    · have e : a = b := UInt8.toNat_inj.1 h
      subst e
      have h1 : decide (a < a) = false := decide_eq_false (UInt8.lt_irrefl a)
      rw [h1, beq_self_eq_true, Bool.false_or, Bool.true_and, Bool.false_or, Bool.true_and, ← ih]
      congr 1
      show (a == a && x == y) = _
      rw [beq_self_eq_true, Bool.true_and]
    · have h1 : decide (a < b) = false := decide_eq_false (fun e => by have := UInt8.lt_iff_toNat_lt.1 e; omega)
      have h2 : decide (b < a) = true := decide_eq_true (UInt8.lt_iff_toNat_lt.2 h)
      have h3 : (a == b) = false := beq_eq_false_iff_ne.2 (fun e => by rw [e] at h; omega)
      have h4 : ((a :: x) == (b :: y)) = false := by show (a == b && x == y) = false; rw [h3]; rfl
      rw [h1, h2, h3, h4]; rfl
theorem binOp_leq_ (t : TypeId) (a b : ByteArray) : binOp .leq t (.string a) (.string b) = pure (.bool (!Op.bytesLess b.toList a.toList)) := by
  rw [← less_total]; simp [binOp, Op.stringOp]
theorem binOp_gtr_ (t : TypeId) (a b : ByteArray) : binOp .gtr t (.string a) (.string b) = pure (.bool (Op.bytesLess b.toList a.toList)) := by
  have h := less_total a.toList b.toList
  have e : Op.bytesLess b.toList a.toList = !(Op.bytesLess a.toList b.toList || a.toList == b.toList) := by rw [h, Bool.not_not]
  rw [e]; simp [binOp, Op.stringOp]
theorem binOp_geq_ (t : TypeId) (a b : ByteArray) : binOp .geq t (.string a) (.string b) = pure (.bool (!Op.bytesLess a.toList b.toList)) := by simp [binOp, Op.stringOp]
end Go.Proofs.YtejgbdclhlolkaaGreatDoor.Q
namespace Go.Proofs.YtejgbdclhlolkaaGreatDoor.Q
open Go.RowKit Go.Proofs.YtejgbdclhlolkaaGreatDoorW.PrintWords Go.Proofs.YtejgbdclhlolkaaGreatDoorW.PrintLast Go.Proofs.YtejgbdclhlolkaaGreatDoorW.PrintMore
attribute [local go_sem] binOp_leq_ binOp_gtr_ binOp_geq_ max2_int min2_int max_two min_two max_three min_three max_four min_four   -- for this text's walks alone
set_option linter.unusedVariables false
set_option linter.unusedSimpArgs false
def quant_Valid.l0 : Nat → List (S57) → List (S57) → Int → Int → Option (Int)
|0,_,_,_,_ => none
|k + 1,x0,x8,x9,x10 => if x10 < x9 then (if 0 ≤ x10 then (if x10 < (x8.length : Int) then ((quant_resource.f k ((rd_T57 x8 x10).f0)).bind fun t513 => (if t513 = true then (if ((rd_T57 x8 x10).f1) < 0 then (some 31) else (if x10 > 0 then (if 0 ≤ (wrap64 (x10 - 1)) then (if (wrap64 (x10 - 1)) < (x0.length : Int) then (if ((Op.bytesLess (((rd_T57 x0 (wrap64 (x10 - 1))).f0).toList) (((rd_T57 x8 x10).f0).toList)) = true) then (quant_Valid.l0 k x0 x8 x9 (wrap64 (x10 + 1))) else (some 31)) else (none)) else (none)) else (quant_Valid.l0 k x0 x8 x9 (wrap64 (x10 + 1))))) else (some 31))) else (none)) else (none)) else (some 0)
def quant_Valid.f (k : Nat) (l0 : List (S57)) : Option (Int) := if (l0.length : Int) > 16 then (some 23) else (quant_Valid.l0 k l0 l0 (l0.length : Int) 0)
theorem quant_Valid.mono_l : ∀ k, (∀ y0 y1 y2 y3, LeO (quant_Valid.l0 k y0 y1 y2 y3) (quant_Valid.l0 (k + 1) y0 y1 y2 y3))
|0 => fun _ _ _ _ r h => by simp [quant_Valid.l0] at h
|k + 1 => by
  have ih0:=quant_Valid.mono_l k
  ·intro y0 y1 y2 y3
   unfold quant_Valid.l0
   repeat' first
  |(with_reducible exact ih0 _ _ _ _)
  |(with_reducible exact quant_resource.mono _ _)
  |(with_reducible exact LeO.refl _)
  |(with_reducible exact LeO.none _)
  |(with_reducible refine LeO.ite ?_ ?_)
  |(with_reducible refine LeO.bind ?_ (fun _ => ?_))
  |exact ih0 _ _ _ _
  |exact quant_resource.mono _ _
  |exact LeO.none _
  |refine LeO.ite ?_ ?_
  |refine LeO.bind ?_ (fun _ => ?_)
theorem quant_Valid.mono : ∀ a0 k, LeO (quant_Valid.f k a0) (quant_Valid.f (k + 1) a0) := by
 intro a0 k
 have ih0:=quant_Valid.mono_l k
 unfold quant_Valid.f
 repeat' first
  |(with_reducible exact ih0 _ _ _ _)
  |(with_reducible exact quant_resource.mono _ _)
  |(with_reducible exact LeO.refl _)
  |(with_reducible exact LeO.none _)
  |(with_reducible refine LeO.ite ?_ ?_)
  |(with_reducible refine LeO.bind ?_ (fun _ => ?_))
  |exact ih0 _ _ _ _
  |exact quant_resource.mono _ _
  |exact LeO.none _
  |refine LeO.ite ?_ ?_
  |refine LeO.bind ?_ (fun _ => ?_)
def quant_Valid.T6 : Bool × List (List Nat × List Nat) := (true, [([], []), ([0], [0]), ([1], [1]), ([2], [2]), ([3, 2], [3]), ([4], [4]), ([5, 4], [4, 5]), ([6, 4], [4, 6]), ([4, 7], [4, 7]), ([8, 4], [8]), ([9], [9]), ([10, 9], [9, 10]), ([11, 9, 9], [9, 11]), ([12], [12]), ([13, 12], [12, 13]), ([12], [12]), ([12], [12]), ([16, 12], [12, 16]), ([15, 17, 12], [12, 15, 17]), ([18, 12], [12, 18]), ([19, 12], [12, 19]), ([14, 20, 12], [12, 14, 20]), ([12, 21, 9], [9, 12, 21]), ([9, 22], [9, 22])])
def quant_Valid.B6 : List Nat := [0, 1, 3, 7, 15, 31, 63, 127, 255, 511, 1023, 2047, 4095, 8191, 16383, 8191, 8191, 73727, 237567, 499711, 1023999, 2097151, 4194303, 8388607]
theorem quant_Valid.tab6 : rtab .any (opsOf Tryz.f40 6) = quant_Valid.T6 := by kernel_rfl
theorem quant_Valid.bits6 : waitsOk quant_Valid.T6.2 quant_Valid.B6 = true := by kernel_rfl
set_option maxHeartbeats 8000000 in
set_option maxRecDepth 100000 in
theorem quant_Valid.calls (k : Nat) (A0 : Option Addr) (c0 : Nat) (l0 : List (S57)) (r : Int) (w : World) (hr0 : Kd.C k57 w A0 l0.length l0) (hc0 : l0.length ≤ c0) (h : quant_Valid.f k l0 = some r) (hG : Glob w) :
  Calls Tryz.prog 40 #[.slice A0 l0.length c0] w fun e w' => e = .returned (.int .i64 r) ∧ Below w.heap.size w w':=by
 have hu57:=Tryz.underlying57
 have HR0:=Aside0.mk hr0
 have HC0:=Aside0.mk hc0
 clear hr0 hc0
 have HB:=Aside0.mk (Below.refl w.heap.size w)
 have H : (if (l0.length : Int) > 16 then (some 23) else (quant_Valid.l0 k l0 l0 (l0.length : Int) 0)) = some r:=h
 clear h
 by_cases c2 : (l0.length : Int) > 16
 ·rw [if_pos c2] at H
  have c2b0 : decide (16 < (l0.length : Int)) = true:=decide_eq_true c2
  have c2b1 : decide (16 < l0.length) = true:=decide_eq_true (by omega)
  clear c2
  obtain rfl:=Option.some.inj H
  go_enter Tryz.func40,Tryz.ntmps40
  go_wp2
  go_ret
  exact ⟨by first|rfl|(simp [errW_none,errW_some] <;> rfl)|(simp [*,errW_none,errW_some] <;> rfl),by repeat (first|(with_reducible first|exact HB.out|apply below_alloc|apply pw_below_drewN|apply below_drew1)|exact HB.out)⟩
 rw [if_neg c2] at H
 have c2b0 : decide (16 < (l0.length : Int)) = false:=decide_eq_false c2
 have c2b1 : decide (16 < l0.length) = false:=decide_eq_false (by omega)
 clear c2
 have H':=Aside0.mk H
 clear H
 go_enter Tryz.func40,Tryz.ntmps40
 go_wp2
 go_loopg [10] k (fun kq v10 w' => ∃ (x10_1 : Int),v10 = .int .i64 x10_1 ∧ Aside0 (quant_Valid.l0 kq l0 l0 (l0.length : Int) x10_1 = some r) ∧ Aside0 (kq ≤ k) ∧ Aside0 (Below w.heap.size w w'))
 case atStart => exact ⟨(0),(by first|rfl|(simp;done)|(simp [*];done)|(simp;rw [Bool.eq_iff_iff];simp;done)|(rw [Bool.eq_iff_iff];simp;done)),H',⟨Nat.le_refl _⟩,⟨by repeat (first|(with_reducible first|exact HB.out|apply below_alloc|apply pw_below_drewN|apply below_drew1)|exact HB.out)⟩⟩
 case round =>
  clear H';(try clear c2);(try clear c2b0);(try clear c2b1);(try clear p2)
  obtain ⟨x10_1,rfl,HA,HK1,HB⟩:=hrel
  cases gk with
 |zero => exact absurd HA.out (by simp [quant_Valid.l0])
 |succ k1 =>
   have H:=HA.out
   clear HA
   simp only [quant_Valid.l0] at H
   by_cases c3 : x10_1 < (l0.length : Int)
   rotate_left
   ·rw [if_neg c3] at H
    have c3b0 : decide (x10_1 < (l0.length : Int)) = false:=decide_eq_false c3
    clear c3
    obtain rfl:=Option.some.inj H
    go_wp2
    go_ret
    exact ⟨by first|rfl|(simp [errW_none,errW_some] <;> rfl)|(simp [*,errW_none,errW_some] <;> rfl),by repeat (first|(with_reducible first|exact HB.out|apply below_alloc|apply pw_below_drewN|apply below_drew1)|exact HB.out)⟩
   rw [if_pos c3] at H
   have c3b0 : decide (x10_1 < (l0.length : Int)) = true:=decide_eq_true c3
   clear c3
   by_cases c4 : 0 ≤ x10_1
   rotate_left
   ·rw [if_neg c4] at H
    exact absurd H (by simp)
   rw [if_pos c4] at H
   have c4b0 : decide (0 ≤ x10_1) = true:=decide_eq_true c4
   clear c4
   by_cases c5 : x10_1 < (l0.length : Int)
   rotate_left
   ·rw [if_neg c5] at H
    exact absurd H (by simp)
   rw [if_pos c5] at H
   have c5b0 : decide (x10_1 < (l0.length : Int)) = true:=decide_eq_true c5
   clear c5
   replace H:=Option.bind_eq_some_iff.mp H
   obtain ⟨t513,A60,H⟩:=H
   replace H : (if t513 = true then (if ((rd_T57 l0 x10_1).f1) < 0 then (some 31) else (if x10_1 > 0 then (if 0 ≤ (wrap64 (x10_1 - 1)) then (if (wrap64 (x10_1 - 1)) < (l0.length : Int) then (if ((Op.bytesLess (((rd_T57 l0 (wrap64 (x10_1 - 1))).f0).toList) (((rd_T57 l0 x10_1).f0).toList)) = true) then (quant_Valid.l0 k1 l0 l0 (l0.length : Int) (wrap64 (x10_1 + 1))) else (some 31)) else (none)) else (none)) else (quant_Valid.l0 k1 l0 l0 (l0.length : Int) (wrap64 (x10_1 + 1))))) else (some 31)) = some r:=H
   have A6:=Aside0.mk A60
   clear A60
   by_cases c7 : t513 = true
   rotate_left
   ·replace c7:=Bool.eq_false_iff.mpr c7
    subst c7
    have H1 : (some 31) = some r:=by rw [if_neg (show ¬ (false = true) by decide)] at H;exact H
    clear H;have H:=H1;clear H1
    obtain rfl:=Option.some.inj H
    have p511 : 0 ≤ (x10_1 : Int):=of_decide_eq_true (by first|(with_reducible assumption)|assumption)
    have q511 : x10_1 < (l0.length : Int):=of_decide_eq_true (by first|(with_reducible assumption)|assumption)
    obtain ⟨ad511,e511,hx511_0,hx511_1⟩:=at_T57 HR0.out x10_1 p511 q511
    cases e511
    replace hx511_0:=(HB.out.cell (World.block_lt_of_cell? w _ hx511_0)).trans hx511_0
    replace hx511_1:=(HB.out.cell (World.block_lt_of_cell? w _ hx511_1)).trans hx511_1
    replace p511:=eq_true p511
    replace q511:=eq_true q511
    try go_wp2_with (first|((with_reducible refine gate_dst (N:=4) rfl ?_);refine box_event ?hg (N:=4) ?hd (cs:=#[.string (⟨#[]⟩ : ByteArray),.int .i64 0]) (t:=57) ?hr ?_;(case hd => rfl);(case hg => rfl);(case hr => first|(go_simp;done)|(go_simp;rfl));intro gb512 hg w34 hbox hb;have n0_:=Aside0.mk (below_step (by repeat (first|(with_reducible first|exact HB.out|apply below_alloc|apply pw_below_drewN|apply below_drew1)|exact HB.out)) hb);have n1_:=Aside0.mk (hbox);have n2_:=Aside0.mk ((by rw [hg];exact (below_size (by repeat (first|(with_reducible first|exact HB.out|apply below_alloc|apply pw_below_drewN|apply below_drew1)|exact HB.out))) : w.heap.size ≤ gb512));have n3_:=Aside0.mk ((by rw [hg];exact (below_size (by repeat (first|(with_reducible first|exact HB.out|apply below_alloc|apply pw_below_drewN|apply below_drew1)|exact HB.out))) : w.heap.size ≤ gb512));clear HB;have HB:=n0_;have BK512:=n1_;have GW512:=n2_;have GE512:=n3_;clear n0_ n1_ n2_ n3_;clear hb hbox hg;have hcz35_0 : w34.cell? ⟨gb512,0,none⟩ = some (.string (⟨#[]⟩ : ByteArray)):=(blk_cell BK512.out 0).trans rfl;have hcz35_1 : w34.cell? ⟨gb512,1,none⟩ = some (.int .i64 0):=(blk_cell BK512.out 1).trans rfl;have hfz35_0:=blk_frozen BK512.out 0;have hfz35_1:=blk_frozen BK512.out 1))
    have n0_ : Aside0 (((w34.setCell ⟨gb512,0,none⟩ (.string ((rd_T57 l0 x10_1).f0))).setCell ⟨gb512,1,none⟩ (.int .i64 ((rd_T57 l0 x10_1).f1))).heap[gb512]? = some (.cells #[.string ((rd_T57 l0 x10_1).f0),.int .i64 ((rd_T57 l0 x10_1).f1)] 57 (0,0))):=⟨by (with_reducible repeat (first|refine blk_drewN ?_ _|refine blk_drew ?_|refine blk_alloc ?_ _));refine blk_put (cs:=#[.string ((rd_T57 l0 x10_1).f0),.int .i64 0]) ?_ 1 _ rfl;(with_reducible repeat (first|refine blk_drewN ?_ _|refine blk_drew ?_|refine blk_alloc ?_ _));refine blk_put (cs:=#[.string (⟨#[]⟩ : ByteArray),.int .i64 0]) ?_ 0 _ rfl;(with_reducible repeat (first|refine blk_drewN ?_ _|refine blk_drew ?_|refine blk_alloc ?_ _));exact BK512.out⟩
    have n1_ : Aside0 (Below w.heap.size w ((w34.setCell ⟨gb512,0,none⟩ (.string ((rd_T57 l0 x10_1).f0))).setCell ⟨gb512,1,none⟩ (.int .i64 ((rd_T57 l0 x10_1).f1)))):=⟨by repeat (first|(with_reducible first|exact HB.out|apply below_alloc|apply pw_below_drewN|apply below_drew1|refine below_set ?_ GE512.out)|exact HB.out)⟩
    (try clear BK512);(try clear HB)
    generalize ((w34.setCell ⟨gb512,0,none⟩ (.string ((rd_T57 l0 x10_1).f0))).setCell ⟨gb512,1,none⟩ (.int .i64 ((rd_T57 l0 x10_1).f1))) = w36 at n0_ n1_ ⊢
    have BK512:=n0_;have HB:=n1_;clear n0_ n1_
    have n0_:=Aside0.mk (blk_drew BK512.out)
    have n1_:=Aside0.mk (below_drew1 HB.out)
    clear BK512;clear HB;have BK512:=n0_;have HB:=n1_;clear n0_ n1_
    refine start_ (n:=24) (S:=fun w' => w'.cell? ⟨gb512,0,none⟩ = some (.string ((rd_T57 l0 x10_1).f0)) ∧ w'.cell? ⟨gb512,1,none⟩ = some (.int .i64 ((rd_T57 l0 x10_1).f1))) (ds:=[]) (bl 0 24) (by kernel_rfl) rfl rfl ⟨(blk_cell BK512.out 0).trans rfl,(blk_cell BK512.out 1).trans rfl⟩ (fun hHeld => ?_);refine with_tabW quant_Valid.tab6 quant_Valid.bits6 (fun HT_ HW_ => ?_)
    generalize w36.drew = w37 at BK512 HB hHeld ⊢
    refine pure_ (i:=0) (N:=some 15) (v:=?_) (a':=?_) (bl 1 23) rfl rfl (any_of HT_.out (by kernel_rfl)) (fun _ _ _ h => h) (Or.inl ⟨by rfl,?_⟩) ?_ ?_
    rotate_left;·intro w';go_simp;with_reducible rfl
    rotate_left;·simp only [pu_];rfl
    refine take_ (i:=1) (N:=some 16) (v:=?_) (a':=?_) (bl 2 22) rfl rfl (take_ofW HT_.out HW_.out (by kernel_rfl)) (fun _ _ _ h => h) (Or.inl ⟨by rfl,?_⟩) hHeld ?_ ?_
    rotate_left
    ·rintro w' ⟨s0,s1⟩
     go_simp
     with_reducible rfl
    rotate_left
    ·simp only [pu_]
     rfl
    refine one_ (i:=2) (N:=some 17) (bl 3 21) rfl rfl (one_of HT_.out (by kernel_rfl)) (by decide) (fun K hK => ?_)
    refine goes_ Tryz.func71 (by kernel_rfl) rfl #[.string ((rd_T57 l0 x10_1).f0)] (by rfl) rfl rfl (by (try simp only [List.map_toArray,List.map_cons,List.map_nil]);first|done|rfl|(simp only [List.length_drop,List.length_take];rfl)) ?_
    with_reducible refine (quant_resource.calls k1 ((rd_T57 l0 x10_1).f0) false _ A6.out (Glob.below hG (by repeat (first|(with_reducible first|exact HB.out|apply below_alloc|apply pw_below_drewN|apply below_drew1)|exact HB.out)))).mono ?_
    rintro e w38 ⟨rfl,hb⟩
    refine ⟨_,rfl,?_⟩
    have n0_:=Aside0.mk (blk_below (g:=gb512) (o:=.cells #[.string ((rd_T57 l0 x10_1).f0),.int .i64 ((rd_T57 l0 x10_1).f1)] 57 (0,0)) (by (with_reducible repeat (first|refine blk_drewN ?_ _|refine blk_drew ?_|refine blk_alloc ?_ _));exact BK512.out) hb)
    have n1_:=Aside0.mk (below_step (by repeat (first|(with_reducible first|exact HB.out|apply below_alloc|apply pw_below_drewN|apply below_drew1|refine below_set ?_ GE512.out)|exact HB.out)) hb)
    clear BK512;clear HB;have BK512:=n0_;have HB:=n1_;clear n0_ n1_;(try clear hb);(try clear hb2);(try clear hk);(try clear hi)
    refine hK.out _ _ ⟨(blk_cell BK512.out 0).trans rfl,(blk_cell BK512.out 1).trans rfl⟩ (fun hHeld => ?_)
    clear hK K
    refine norm_ (a':=?_) ?_ ?_
    rotate_left
    ·show Act.put _ (some 17) _ = _
     simp only [pu_]
     rfl
    refine pure_ (i:=3) (N:=some 18) (v:=?_) (a':=?_) (bl 4 20) rfl rfl (any_of HT_.out (by kernel_rfl)) (fun _ _ _ h => h) (Or.inl ⟨by rfl,?_⟩) ?_ ?_
    rotate_left;·intro w';go_simp;with_reducible rfl
    rotate_left;·simp only [pu_];rfl
    refine pure_ (i:=4) (N:=some 19) (v:=?_) (a':=?_) (bl 5 19) rfl rfl (any_of HT_.out (by kernel_rfl)) (fun _ _ _ h => h) (Or.inl ⟨by rfl,?_⟩) ?_ ?_
    rotate_left;·intro w';go_simp;with_reducible rfl
    rotate_left;·simp only [pu_];rfl
    refine pure_ (i:=5) (N:=some 20) (v:=undef) (a':=?_) (bl 6 18) rfl rfl (any_of HT_.out (by kernel_rfl)) (fun _ _ _ h => h) (Or.inr ⟨by rfl,rfl⟩) ?_ ?_
    rotate_left
    ·simp only [pu_]
     rfl
    refine pure_ (i:=6) (N:=some 21) (v:=undef) (a':=?_) (bl 7 17) rfl rfl (any_of HT_.out (by kernel_rfl)) (fun _ _ _ h => h) (Or.inr ⟨by rfl,rfl⟩) ?_ ?_
    rotate_left
    ·simp only [pu_]
     rfl
    refine pure_ (i:=7) (N:=some 22) (v:=undef) (a':=?_) (bl 8 16) rfl rfl (any_of HT_.out (by kernel_rfl)) (fun _ _ _ h => h) (Or.inr ⟨by rfl,rfl⟩) ?_ ?_
    rotate_left
    ·simp only [pu_]
     rfl
    refine pure_ (i:=8) (N:=some 23) (v:=?_) (a':=?_) (bl 9 15) rfl rfl (any_of HT_.out (by kernel_rfl)) (fun _ _ _ h => h) (Or.inl ⟨by rfl,?_⟩) ?_ ?_
    rotate_left;·intro w';go_simp;with_reducible rfl
    rotate_left;·simp only [pu_];rfl
    refine pure_ (i:=9) (N:=some 24) (v:=?_) (a':=?_) (bl 10 14) rfl rfl (any_of HT_.out (by kernel_rfl)) (fun _ _ _ h => h) (Or.inl ⟨by rfl,?_⟩) ?_ ?_
    rotate_left;·intro w';go_simp;with_reducible rfl
    rotate_left;·simp only [pu_];rfl
    refine pure_ (i:=10) (N:=some 25) (v:=undef) (a':=?_) (bl 11 13) rfl rfl (any_of HT_.out (by kernel_rfl)) (fun _ _ _ h => h) (Or.inr ⟨by rfl,rfl⟩) ?_ ?_
    rotate_left
    ·simp only [pu_]
     rfl
    refine pure_ (i:=11) (N:=some 26) (v:=undef) (a':=?_) (bl 12 12) rfl rfl (any_of HT_.out (by kernel_rfl)) (fun _ _ _ h => h) (Or.inr ⟨by rfl,rfl⟩) ?_ ?_
    rotate_left
    ·simp only [pu_]
     rfl
    refine pure_ (i:=12) (N:=some 27) (v:=undef) (a':=?_) (bl 13 11) rfl rfl (any_of HT_.out (by kernel_rfl)) (fun _ _ _ h => h) (Or.inr ⟨by rfl,rfl⟩) ?_ ?_
    rotate_left
    ·simp only [pu_]
     rfl
    refine pure_ (i:=13) (N:=some 28) (v:=undef) (a':=?_) (bl 14 10) rfl rfl (any_of HT_.out (by kernel_rfl)) (fun _ _ _ h => h) (Or.inr ⟨by rfl,rfl⟩) ?_ ?_
    rotate_left
    ·simp only [pu_]
     rfl
    refine pure_ (i:=14) (N:=some 29) (v:=undef) (a':=?_) (bl 15 9) rfl rfl (any_of HT_.out (by kernel_rfl)) (fun _ _ _ h => h) (Or.inr ⟨by rfl,rfl⟩) ?_ ?_
    rotate_left
    ·simp only [pu_]
     rfl
    refine pure_ (i:=15) (N:=some 30) (v:=undef) (a':=?_) (bl 16 8) rfl rfl (any_of HT_.out (by kernel_rfl)) (fun _ _ _ h => h) (Or.inr ⟨by rfl,rfl⟩) ?_ ?_
    rotate_left
    ·simp only [pu_]
     rfl
    refine pure_ (i:=16) (N:=some 31) (v:=undef) (a':=?_) (bl 17 7) rfl rfl (any_of HT_.out (by kernel_rfl)) (fun _ _ _ h => h) (Or.inr ⟨by rfl,rfl⟩) ?_ ?_
    rotate_left
    ·simp only [pu_]
     rfl
    refine pure_ (i:=17) (N:=some 32) (v:=undef) (a':=?_) (bl 18 6) rfl rfl (any_of HT_.out (by kernel_rfl)) (fun _ _ _ h => h) (Or.inr ⟨by rfl,rfl⟩) ?_ ?_
    rotate_left
    ·simp only [pu_]
     rfl
    refine pure_ (i:=18) (N:=some 33) (v:=undef) (a':=?_) (bl 19 5) rfl rfl (any_of HT_.out (by kernel_rfl)) (fun _ _ _ h => h) (Or.inr ⟨by rfl,rfl⟩) ?_ ?_
    rotate_left
    ·simp only [pu_]
     rfl
    refine pure_ (i:=19) (N:=some 34) (v:=undef) (a':=?_) (bl 20 4) rfl rfl (any_of HT_.out (by kernel_rfl)) (fun _ _ _ h => h) (Or.inr ⟨by rfl,rfl⟩) ?_ ?_
    rotate_left
    ·simp only [pu_]
     rfl
    refine pure_ (i:=20) (N:=some 35) (v:=undef) (a':=?_) (bl 21 3) rfl rfl (any_of HT_.out (by kernel_rfl)) (fun _ _ _ h => h) (Or.inr ⟨by rfl,rfl⟩) ?_ ?_
    rotate_left
    ·simp only [pu_]
     rfl
    refine pure_ (i:=21) (N:=some 36) (v:=undef) (a':=?_) (bl 22 2) rfl rfl (any_of HT_.out (by kernel_rfl)) (fun _ _ _ h => h) (Or.inr ⟨by rfl,rfl⟩) ?_ ?_
    rotate_left
    ·simp only [pu_]
     rfl
    refine pure_ (i:=22) (N:=some 37) (v:=undef) (a':=?_) (bl 23 1) rfl rfl (any_of HT_.out (by kernel_rfl)) (fun _ _ _ h => h) (Or.inr ⟨by rfl,rfl⟩) ?_ ?_
    rotate_left
    ·simp only [pu_]
     rfl
    refine pure_ (i:=23) (N:=some 38) (v:=?_) (a':=?_) (bl 24 0) rfl rfl (any_of HT_.out (by kernel_rfl)) (fun _ _ _ h => h) (Or.inl ⟨by rfl,?_⟩) ?_ ?_
    rotate_left;·intro w';go_simp;with_reducible rfl
    rotate_left;·simp only [pu_];rfl
    refine done_ (done_of HT_.out (by kernel_rfl)) ?_
    try go_wp2
    go_ret
    exact ⟨by first|rfl|(simp [errW_none,errW_some] <;> rfl)|(simp [*,errW_none,errW_some] <;> rfl),by repeat (first|(with_reducible first|exact HB.out|apply below_alloc|apply pw_below_drewN|apply below_drew1|refine below_set ?_ GE512.out)|exact HB.out)⟩
   subst c7
   have H1 : (if ((rd_T57 l0 x10_1).f1) < 0 then (some 31) else (if x10_1 > 0 then (if 0 ≤ (wrap64 (x10_1 - 1)) then (if (wrap64 (x10_1 - 1)) < (l0.length : Int) then (if ((Op.bytesLess (((rd_T57 l0 (wrap64 (x10_1 - 1))).f0).toList) (((rd_T57 l0 x10_1).f0).toList)) = true) then (quant_Valid.l0 k1 l0 l0 (l0.length : Int) (wrap64 (x10_1 + 1))) else (some 31)) else (none)) else (none)) else (quant_Valid.l0 k1 l0 l0 (l0.length : Int) (wrap64 (x10_1 + 1))))) = some r:=by rw [if_pos rfl] at H;exact H
   clear H;have H:=H1;clear H1
   by_cases c8 : ((rd_T57 l0 x10_1).f1) < 0
   ·rw [if_pos c8] at H
    have c8b0 : decide (((rd_T57 l0 x10_1).f1) < 0) = true:=decide_eq_true c8
    clear c8
    obtain rfl:=Option.some.inj H
    have p511 : 0 ≤ (x10_1 : Int):=of_decide_eq_true (by first|(with_reducible assumption)|assumption)
    have q511 : x10_1 < (l0.length : Int):=of_decide_eq_true (by first|(with_reducible assumption)|assumption)
    obtain ⟨ad511,e511,hx511_0,hx511_1⟩:=at_T57 HR0.out x10_1 p511 q511
    cases e511
    replace hx511_0:=(HB.out.cell (World.block_lt_of_cell? w _ hx511_0)).trans hx511_0
    replace hx511_1:=(HB.out.cell (World.block_lt_of_cell? w _ hx511_1)).trans hx511_1
    replace p511:=eq_true p511
    replace q511:=eq_true q511
    try go_wp2_with (first|((with_reducible refine gate_dst (N:=4) rfl ?_);refine box_event ?hg (N:=4) ?hd (cs:=#[.string (⟨#[]⟩ : ByteArray),.int .i64 0]) (t:=57) ?hr ?_;(case hd => rfl);(case hg => rfl);(case hr => first|(go_simp;done)|(go_simp;rfl));intro gb512 hg w9 hbox hb;have n0_:=Aside0.mk (below_step (by repeat (first|(with_reducible first|exact HB.out|apply below_alloc|apply pw_below_drewN|apply below_drew1)|exact HB.out)) hb);have n1_:=Aside0.mk (hbox);have n2_:=Aside0.mk ((by rw [hg];exact (below_size (by repeat (first|(with_reducible first|exact HB.out|apply below_alloc|apply pw_below_drewN|apply below_drew1)|exact HB.out))) : w.heap.size ≤ gb512));have n3_:=Aside0.mk ((by rw [hg];exact (below_size (by repeat (first|(with_reducible first|exact HB.out|apply below_alloc|apply pw_below_drewN|apply below_drew1)|exact HB.out))) : w.heap.size ≤ gb512));clear HB;have HB:=n0_;have BK512:=n1_;have GW512:=n2_;have GE512:=n3_;clear n0_ n1_ n2_ n3_;clear hb hbox hg;have hcz10_0 : w9.cell? ⟨gb512,0,none⟩ = some (.string (⟨#[]⟩ : ByteArray)):=(blk_cell BK512.out 0).trans rfl;have hcz10_1 : w9.cell? ⟨gb512,1,none⟩ = some (.int .i64 0):=(blk_cell BK512.out 1).trans rfl;have hfz10_0:=blk_frozen BK512.out 0;have hfz10_1:=blk_frozen BK512.out 1))
    have n0_ : Aside0 (((w9.setCell ⟨gb512,0,none⟩ (.string ((rd_T57 l0 x10_1).f0))).setCell ⟨gb512,1,none⟩ (.int .i64 ((rd_T57 l0 x10_1).f1))).heap[gb512]? = some (.cells #[.string ((rd_T57 l0 x10_1).f0),.int .i64 ((rd_T57 l0 x10_1).f1)] 57 (0,0))):=⟨by (with_reducible repeat (first|refine blk_drewN ?_ _|refine blk_drew ?_|refine blk_alloc ?_ _));refine blk_put (cs:=#[.string ((rd_T57 l0 x10_1).f0),.int .i64 0]) ?_ 1 _ rfl;(with_reducible repeat (first|refine blk_drewN ?_ _|refine blk_drew ?_|refine blk_alloc ?_ _));refine blk_put (cs:=#[.string (⟨#[]⟩ : ByteArray),.int .i64 0]) ?_ 0 _ rfl;(with_reducible repeat (first|refine blk_drewN ?_ _|refine blk_drew ?_|refine blk_alloc ?_ _));exact BK512.out⟩
    have n1_ : Aside0 (Below w.heap.size w ((w9.setCell ⟨gb512,0,none⟩ (.string ((rd_T57 l0 x10_1).f0))).setCell ⟨gb512,1,none⟩ (.int .i64 ((rd_T57 l0 x10_1).f1)))):=⟨by repeat (first|(with_reducible first|exact HB.out|apply below_alloc|apply pw_below_drewN|apply below_drew1|refine below_set ?_ GE512.out)|exact HB.out)⟩
    (try clear BK512);(try clear HB)
    generalize ((w9.setCell ⟨gb512,0,none⟩ (.string ((rd_T57 l0 x10_1).f0))).setCell ⟨gb512,1,none⟩ (.int .i64 ((rd_T57 l0 x10_1).f1))) = w11 at n0_ n1_ ⊢
    have BK512:=n0_;have HB:=n1_;clear n0_ n1_
    have n0_:=Aside0.mk (blk_drew BK512.out)
    have n1_:=Aside0.mk (below_drew1 HB.out)
    clear BK512;clear HB;have BK512:=n0_;have HB:=n1_;clear n0_ n1_
    refine start_ (n:=24) (S:=fun w' => w'.cell? ⟨gb512,0,none⟩ = some (.string ((rd_T57 l0 x10_1).f0)) ∧ w'.cell? ⟨gb512,1,none⟩ = some (.int .i64 ((rd_T57 l0 x10_1).f1))) (ds:=[]) (bl 0 24) (by kernel_rfl) rfl rfl ⟨(blk_cell BK512.out 0).trans rfl,(blk_cell BK512.out 1).trans rfl⟩ (fun hHeld => ?_);refine with_tabW quant_Valid.tab6 quant_Valid.bits6 (fun HT_ HW_ => ?_)
    generalize w11.drew = w12 at BK512 HB hHeld ⊢
    refine pure_ (i:=0) (N:=some 15) (v:=?_) (a':=?_) (bl 1 23) rfl rfl (any_of HT_.out (by kernel_rfl)) (fun _ _ _ h => h) (Or.inl ⟨by rfl,?_⟩) ?_ ?_
    rotate_left;·intro w';go_simp;with_reducible rfl
    rotate_left;·simp only [pu_];rfl
    refine take_ (i:=1) (N:=some 16) (v:=?_) (a':=?_) (bl 2 22) rfl rfl (take_ofW HT_.out HW_.out (by kernel_rfl)) (fun _ _ _ h => h) (Or.inl ⟨by rfl,?_⟩) hHeld ?_ ?_
    rotate_left
    ·rintro w' ⟨s0,s1⟩
     go_simp
     with_reducible rfl
    rotate_left
    ·simp only [pu_]
     rfl
    refine one_ (i:=2) (N:=some 17) (bl 3 21) rfl rfl (one_of HT_.out (by kernel_rfl)) (by decide) (fun K hK => ?_)
    refine goes_ Tryz.func71 (by kernel_rfl) rfl #[.string ((rd_T57 l0 x10_1).f0)] (by rfl) rfl rfl (by (try simp only [List.map_toArray,List.map_cons,List.map_nil]);first|done|rfl|(simp only [List.length_drop,List.length_take];rfl)) ?_
    with_reducible refine (quant_resource.calls k1 ((rd_T57 l0 x10_1).f0) true _ A6.out (Glob.below hG (by repeat (first|(with_reducible first|exact HB.out|apply below_alloc|apply pw_below_drewN|apply below_drew1)|exact HB.out)))).mono ?_
    rintro e w13 ⟨rfl,hb⟩
    refine ⟨_,rfl,?_⟩
    have n0_:=Aside0.mk (blk_below (g:=gb512) (o:=.cells #[.string ((rd_T57 l0 x10_1).f0),.int .i64 ((rd_T57 l0 x10_1).f1)] 57 (0,0)) (by (with_reducible repeat (first|refine blk_drewN ?_ _|refine blk_drew ?_|refine blk_alloc ?_ _));exact BK512.out) hb)
    have n1_:=Aside0.mk (below_step (by repeat (first|(with_reducible first|exact HB.out|apply below_alloc|apply pw_below_drewN|apply below_drew1|refine below_set ?_ GE512.out)|exact HB.out)) hb)
    clear BK512;clear HB;have BK512:=n0_;have HB:=n1_;clear n0_ n1_;(try clear hb);(try clear hb2);(try clear hk);(try clear hi)
    refine hK.out _ _ ⟨(blk_cell BK512.out 0).trans rfl,(blk_cell BK512.out 1).trans rfl⟩ (fun hHeld => ?_)
    clear hK K
    refine norm_ (a':=?_) ?_ ?_
    rotate_left
    ·show Act.put _ (some 17) _ = _
     simp only [pu_]
     rfl
    refine pure_ (i:=3) (N:=some 18) (v:=?_) (a':=?_) (bl 4 20) rfl rfl (any_of HT_.out (by kernel_rfl)) (fun _ _ _ h => h) (Or.inl ⟨by rfl,?_⟩) ?_ ?_
    rotate_left;·intro w';go_simp;with_reducible rfl
    rotate_left;·simp only [pu_];rfl
    refine pure_ (i:=4) (N:=some 19) (v:=?_) (a':=?_) (bl 5 19) rfl rfl (any_of HT_.out (by kernel_rfl)) (fun _ _ _ h => h) (Or.inl ⟨by rfl,?_⟩) ?_ ?_
    rotate_left;·intro w';go_simp;with_reducible rfl
    rotate_left;·simp only [pu_];rfl
    refine pure_ (i:=5) (N:=some 20) (v:=?_) (a':=?_) (bl 6 18) rfl rfl (any_of HT_.out (by kernel_rfl)) (fun _ _ _ h => h) (Or.inl ⟨by rfl,?_⟩) ?_ ?_
    rotate_left;·intro w';go_simp;with_reducible rfl
    rotate_left;·simp only [pu_];rfl
    refine take_ (i:=6) (N:=some 21) (v:=?_) (a':=?_) (bl 7 17) rfl rfl (take_ofW HT_.out HW_.out (by kernel_rfl)) (fun _ _ _ h => h) (Or.inl ⟨by rfl,?_⟩) hHeld ?_ ?_
    rotate_left
    ·rintro w' ⟨s0,s1⟩
     go_simp
     with_reducible rfl
    rotate_left
    ·simp only [pu_]
     rfl
    refine pure_ (i:=7) (N:=some 22) (v:=?_) (a':=?_) (bl 8 16) rfl rfl (any_of HT_.out (by kernel_rfl)) (fun _ _ _ h => h) (Or.inl ⟨by rfl,?_⟩) ?_ ?_
    rotate_left;·intro w';go_simp;with_reducible rfl
    rotate_left;·simp only [pu_];rfl
    refine pure_ (i:=8) (N:=some 23) (v:=?_) (a':=?_) (bl 9 15) rfl rfl (any_of HT_.out (by kernel_rfl)) (fun _ _ _ h => h) (Or.inl ⟨by rfl,?_⟩) ?_ ?_
    rotate_left;·intro w';go_simp;with_reducible rfl
    rotate_left;·simp only [pu_];rfl
    refine pure_ (i:=9) (N:=some 24) (v:=?_) (a':=?_) (bl 10 14) rfl rfl (any_of HT_.out (by kernel_rfl)) (fun _ _ _ h => h) (Or.inl ⟨by rfl,?_⟩) ?_ ?_
    rotate_left;·intro w';go_simp;with_reducible rfl
    rotate_left;·simp only [pu_];rfl
    refine pure_ (i:=10) (N:=some 25) (v:=undef) (a':=?_) (bl 11 13) rfl rfl (any_of HT_.out (by kernel_rfl)) (fun _ _ _ h => h) (Or.inr ⟨by rfl,rfl⟩) ?_ ?_
    rotate_left
    ·simp only [pu_]
     rfl
    refine pure_ (i:=11) (N:=some 26) (v:=undef) (a':=?_) (bl 12 12) rfl rfl (any_of HT_.out (by kernel_rfl)) (fun _ _ _ h => h) (Or.inr ⟨by rfl,rfl⟩) ?_ ?_
    rotate_left
    ·simp only [pu_]
     rfl
    refine pure_ (i:=12) (N:=some 27) (v:=undef) (a':=?_) (bl 13 11) rfl rfl (any_of HT_.out (by kernel_rfl)) (fun _ _ _ h => h) (Or.inr ⟨by rfl,rfl⟩) ?_ ?_
    rotate_left
    ·simp only [pu_]
     rfl
    refine pure_ (i:=13) (N:=some 28) (v:=undef) (a':=?_) (bl 14 10) rfl rfl (any_of HT_.out (by kernel_rfl)) (fun _ _ _ h => h) (Or.inr ⟨by rfl,rfl⟩) ?_ ?_
    rotate_left
    ·simp only [pu_]
     rfl
    refine pure_ (i:=14) (N:=some 29) (v:=undef) (a':=?_) (bl 15 9) rfl rfl (any_of HT_.out (by kernel_rfl)) (fun _ _ _ h => h) (Or.inr ⟨by rfl,rfl⟩) ?_ ?_
    rotate_left
    ·simp only [pu_]
     rfl
    refine pure_ (i:=15) (N:=some 30) (v:=undef) (a':=?_) (bl 16 8) rfl rfl (any_of HT_.out (by kernel_rfl)) (fun _ _ _ h => h) (Or.inr ⟨by rfl,rfl⟩) ?_ ?_
    rotate_left
    ·simp only [pu_]
     rfl
    refine pure_ (i:=16) (N:=some 31) (v:=undef) (a':=?_) (bl 17 7) rfl rfl (any_of HT_.out (by kernel_rfl)) (fun _ _ _ h => h) (Or.inr ⟨by rfl,rfl⟩) ?_ ?_
    rotate_left
    ·simp only [pu_]
     rfl
    refine pure_ (i:=17) (N:=some 32) (v:=undef) (a':=?_) (bl 18 6) rfl rfl (any_of HT_.out (by kernel_rfl)) (fun _ _ _ h => h) (Or.inr ⟨by rfl,rfl⟩) ?_ ?_
    rotate_left
    ·simp only [pu_]
     rfl
    refine pure_ (i:=18) (N:=some 33) (v:=undef) (a':=?_) (bl 19 5) rfl rfl (any_of HT_.out (by kernel_rfl)) (fun _ _ _ h => h) (Or.inr ⟨by rfl,rfl⟩) ?_ ?_
    rotate_left
    ·simp only [pu_]
     rfl
    refine pure_ (i:=19) (N:=some 34) (v:=undef) (a':=?_) (bl 20 4) rfl rfl (any_of HT_.out (by kernel_rfl)) (fun _ _ _ h => h) (Or.inr ⟨by rfl,rfl⟩) ?_ ?_
    rotate_left
    ·simp only [pu_]
     rfl
    refine pure_ (i:=20) (N:=some 35) (v:=undef) (a':=?_) (bl 21 3) rfl rfl (any_of HT_.out (by kernel_rfl)) (fun _ _ _ h => h) (Or.inr ⟨by rfl,rfl⟩) ?_ ?_
    rotate_left
    ·simp only [pu_]
     rfl
    refine pure_ (i:=21) (N:=some 36) (v:=undef) (a':=?_) (bl 22 2) rfl rfl (any_of HT_.out (by kernel_rfl)) (fun _ _ _ h => h) (Or.inr ⟨by rfl,rfl⟩) ?_ ?_
    rotate_left
    ·simp only [pu_]
     rfl
    refine pure_ (i:=22) (N:=some 37) (v:=undef) (a':=?_) (bl 23 1) rfl rfl (any_of HT_.out (by kernel_rfl)) (fun _ _ _ h => h) (Or.inr ⟨by rfl,rfl⟩) ?_ ?_
    rotate_left
    ·simp only [pu_]
     rfl
    refine pure_ (i:=23) (N:=some 38) (v:=?_) (a':=?_) (bl 24 0) rfl rfl (any_of HT_.out (by kernel_rfl)) (fun _ _ _ h => h) (Or.inl ⟨by rfl,?_⟩) ?_ ?_
    rotate_left;·intro w';go_simp;with_reducible rfl
    rotate_left;·simp only [pu_];rfl
    refine done_ (done_of HT_.out (by kernel_rfl)) ?_
    try go_wp2
    go_ret
    exact ⟨by first|rfl|(simp [errW_none,errW_some] <;> rfl)|(simp [*,errW_none,errW_some] <;> rfl),by repeat (first|(with_reducible first|exact HB.out|apply below_alloc|apply pw_below_drewN|apply below_drew1|refine below_set ?_ GE512.out)|exact HB.out)⟩
   rw [if_neg c8] at H
   have c8b0 : decide (((rd_T57 l0 x10_1).f1) < 0) = false:=decide_eq_false c8
   clear c8
   by_cases c14 : x10_1 > 0
   rotate_left
   ·rw [if_neg c14] at H
    have c14b0 : decide (0 < x10_1) = false:=decide_eq_false c14
    clear c14
    have H':=Aside0.mk H
    clear H
    have p511 : 0 ≤ (x10_1 : Int):=of_decide_eq_true (by first|(with_reducible assumption)|assumption)
    have q511 : x10_1 < (l0.length : Int):=of_decide_eq_true (by first|(with_reducible assumption)|assumption)
    obtain ⟨ad511,e511,hx511_0,hx511_1⟩:=at_T57 HR0.out x10_1 p511 q511
    cases e511
    replace hx511_0:=(HB.out.cell (World.block_lt_of_cell? w _ hx511_0)).trans hx511_0
    replace hx511_1:=(HB.out.cell (World.block_lt_of_cell? w _ hx511_1)).trans hx511_1
    replace p511:=eq_true p511
    replace q511:=eq_true q511
    try go_wp2_with (first|((with_reducible refine gate_dst (N:=4) rfl ?_);refine box_event ?hg (N:=4) ?hd (cs:=#[.string (⟨#[]⟩ : ByteArray),.int .i64 0]) (t:=57) ?hr ?_;(case hd => rfl);(case hg => rfl);(case hr => first|(go_simp;done)|(go_simp;rfl));intro gb512 hg w29 hbox hb;have n0_:=Aside0.mk (below_step (by repeat (first|(with_reducible first|exact HB.out|apply below_alloc|apply pw_below_drewN|apply below_drew1)|exact HB.out)) hb);have n1_:=Aside0.mk (hbox);have n2_:=Aside0.mk ((by rw [hg];exact (below_size (by repeat (first|(with_reducible first|exact HB.out|apply below_alloc|apply pw_below_drewN|apply below_drew1)|exact HB.out))) : w.heap.size ≤ gb512));have n3_:=Aside0.mk ((by rw [hg];exact (below_size (by repeat (first|(with_reducible first|exact HB.out|apply below_alloc|apply pw_below_drewN|apply below_drew1)|exact HB.out))) : w.heap.size ≤ gb512));clear HB;have HB:=n0_;have BK512:=n1_;have GW512:=n2_;have GE512:=n3_;clear n0_ n1_ n2_ n3_;clear hb hbox hg;have hcz30_0 : w29.cell? ⟨gb512,0,none⟩ = some (.string (⟨#[]⟩ : ByteArray)):=(blk_cell BK512.out 0).trans rfl;have hcz30_1 : w29.cell? ⟨gb512,1,none⟩ = some (.int .i64 0):=(blk_cell BK512.out 1).trans rfl;have hfz30_0:=blk_frozen BK512.out 0;have hfz30_1:=blk_frozen BK512.out 1))
    have n0_ : Aside0 (((w29.setCell ⟨gb512,0,none⟩ (.string ((rd_T57 l0 x10_1).f0))).setCell ⟨gb512,1,none⟩ (.int .i64 ((rd_T57 l0 x10_1).f1))).heap[gb512]? = some (.cells #[.string ((rd_T57 l0 x10_1).f0),.int .i64 ((rd_T57 l0 x10_1).f1)] 57 (0,0))):=⟨by (with_reducible repeat (first|refine blk_drewN ?_ _|refine blk_drew ?_|refine blk_alloc ?_ _));refine blk_put (cs:=#[.string ((rd_T57 l0 x10_1).f0),.int .i64 0]) ?_ 1 _ rfl;(with_reducible repeat (first|refine blk_drewN ?_ _|refine blk_drew ?_|refine blk_alloc ?_ _));refine blk_put (cs:=#[.string (⟨#[]⟩ : ByteArray),.int .i64 0]) ?_ 0 _ rfl;(with_reducible repeat (first|refine blk_drewN ?_ _|refine blk_drew ?_|refine blk_alloc ?_ _));exact BK512.out⟩
    have n1_ : Aside0 (Below w.heap.size w ((w29.setCell ⟨gb512,0,none⟩ (.string ((rd_T57 l0 x10_1).f0))).setCell ⟨gb512,1,none⟩ (.int .i64 ((rd_T57 l0 x10_1).f1)))):=⟨by repeat (first|(with_reducible first|exact HB.out|apply below_alloc|apply pw_below_drewN|apply below_drew1|refine below_set ?_ GE512.out)|exact HB.out)⟩
    (try clear BK512);(try clear HB)
    generalize ((w29.setCell ⟨gb512,0,none⟩ (.string ((rd_T57 l0 x10_1).f0))).setCell ⟨gb512,1,none⟩ (.int .i64 ((rd_T57 l0 x10_1).f1))) = w31 at n0_ n1_ ⊢
    have BK512:=n0_;have HB:=n1_;clear n0_ n1_
    have n0_:=Aside0.mk (blk_drew BK512.out)
    have n1_:=Aside0.mk (below_drew1 HB.out)
    clear BK512;clear HB;have BK512:=n0_;have HB:=n1_;clear n0_ n1_
    refine start_ (n:=24) (S:=fun w' => w'.cell? ⟨gb512,0,none⟩ = some (.string ((rd_T57 l0 x10_1).f0)) ∧ w'.cell? ⟨gb512,1,none⟩ = some (.int .i64 ((rd_T57 l0 x10_1).f1))) (ds:=[]) (bl 0 24) (by kernel_rfl) rfl rfl ⟨(blk_cell BK512.out 0).trans rfl,(blk_cell BK512.out 1).trans rfl⟩ (fun hHeld => ?_);refine with_tabW quant_Valid.tab6 quant_Valid.bits6 (fun HT_ HW_ => ?_)
    generalize w31.drew = w32 at BK512 HB hHeld ⊢
    refine pure_ (i:=0) (N:=some 15) (v:=?_) (a':=?_) (bl 1 23) rfl rfl (any_of HT_.out (by kernel_rfl)) (fun _ _ _ h => h) (Or.inl ⟨by rfl,?_⟩) ?_ ?_
    rotate_left;·intro w';go_simp;with_reducible rfl
    rotate_left;·simp only [pu_];rfl
    refine take_ (i:=1) (N:=some 16) (v:=?_) (a':=?_) (bl 2 22) rfl rfl (take_ofW HT_.out HW_.out (by kernel_rfl)) (fun _ _ _ h => h) (Or.inl ⟨by rfl,?_⟩) hHeld ?_ ?_
    rotate_left
    ·rintro w' ⟨s0,s1⟩
     go_simp
     with_reducible rfl
    rotate_left
    ·simp only [pu_]
     rfl
    refine one_ (i:=2) (N:=some 17) (bl 3 21) rfl rfl (one_of HT_.out (by kernel_rfl)) (by decide) (fun K hK => ?_)
    refine goes_ Tryz.func71 (by kernel_rfl) rfl #[.string ((rd_T57 l0 x10_1).f0)] (by rfl) rfl rfl (by (try simp only [List.map_toArray,List.map_cons,List.map_nil]);first|done|rfl|(simp only [List.length_drop,List.length_take];rfl)) ?_
    with_reducible refine (quant_resource.calls k1 ((rd_T57 l0 x10_1).f0) true _ A6.out (Glob.below hG (by repeat (first|(with_reducible first|exact HB.out|apply below_alloc|apply pw_below_drewN|apply below_drew1)|exact HB.out)))).mono ?_
    rintro e w33 ⟨rfl,hb⟩
    refine ⟨_,rfl,?_⟩
    have n0_:=Aside0.mk (blk_below (g:=gb512) (o:=.cells #[.string ((rd_T57 l0 x10_1).f0),.int .i64 ((rd_T57 l0 x10_1).f1)] 57 (0,0)) (by (with_reducible repeat (first|refine blk_drewN ?_ _|refine blk_drew ?_|refine blk_alloc ?_ _));exact BK512.out) hb)
    have n1_:=Aside0.mk (below_step (by repeat (first|(with_reducible first|exact HB.out|apply below_alloc|apply pw_below_drewN|apply below_drew1|refine below_set ?_ GE512.out)|exact HB.out)) hb)
    clear BK512;clear HB;have BK512:=n0_;have HB:=n1_;clear n0_ n1_;(try clear hb);(try clear hb2);(try clear hk);(try clear hi)
    refine hK.out _ _ ⟨(blk_cell BK512.out 0).trans rfl,(blk_cell BK512.out 1).trans rfl⟩ (fun hHeld => ?_)
    clear hK K
    refine norm_ (a':=?_) ?_ ?_
    rotate_left
    ·show Act.put _ (some 17) _ = _
     simp only [pu_]
     rfl
    refine pure_ (i:=3) (N:=some 18) (v:=?_) (a':=?_) (bl 4 20) rfl rfl (any_of HT_.out (by kernel_rfl)) (fun _ _ _ h => h) (Or.inl ⟨by rfl,?_⟩) ?_ ?_
    rotate_left;·intro w';go_simp;with_reducible rfl
    rotate_left;·simp only [pu_];rfl
    refine pure_ (i:=4) (N:=some 19) (v:=?_) (a':=?_) (bl 5 19) rfl rfl (any_of HT_.out (by kernel_rfl)) (fun _ _ _ h => h) (Or.inl ⟨by rfl,?_⟩) ?_ ?_
    rotate_left;·intro w';go_simp;with_reducible rfl
    rotate_left;·simp only [pu_];rfl
    refine pure_ (i:=5) (N:=some 20) (v:=?_) (a':=?_) (bl 6 18) rfl rfl (any_of HT_.out (by kernel_rfl)) (fun _ _ _ h => h) (Or.inl ⟨by rfl,?_⟩) ?_ ?_
    rotate_left;·intro w';go_simp;with_reducible rfl
    rotate_left;·simp only [pu_];rfl
    refine take_ (i:=6) (N:=some 21) (v:=?_) (a':=?_) (bl 7 17) rfl rfl (take_ofW HT_.out HW_.out (by kernel_rfl)) (fun _ _ _ h => h) (Or.inl ⟨by rfl,?_⟩) hHeld ?_ ?_
    rotate_left
    ·rintro w' ⟨s0,s1⟩
     go_simp
     with_reducible rfl
    rotate_left
    ·simp only [pu_]
     rfl
    refine pure_ (i:=7) (N:=some 22) (v:=?_) (a':=?_) (bl 8 16) rfl rfl (any_of HT_.out (by kernel_rfl)) (fun _ _ _ h => h) (Or.inl ⟨by rfl,?_⟩) ?_ ?_
    rotate_left;·intro w';go_simp;with_reducible rfl
    rotate_left;·simp only [pu_];rfl
    refine pure_ (i:=8) (N:=some 23) (v:=?_) (a':=?_) (bl 9 15) rfl rfl (any_of HT_.out (by kernel_rfl)) (fun _ _ _ h => h) (Or.inl ⟨by rfl,?_⟩) ?_ ?_
    rotate_left;·intro w';go_simp;with_reducible rfl
    rotate_left;·simp only [pu_];rfl
    refine pure_ (i:=9) (N:=some 24) (v:=?_) (a':=?_) (bl 10 14) rfl rfl (any_of HT_.out (by kernel_rfl)) (fun _ _ _ h => h) (Or.inl ⟨by rfl,?_⟩) ?_ ?_
    rotate_left;·intro w';go_simp;with_reducible rfl
    rotate_left;·simp only [pu_];rfl
    refine pure_ (i:=10) (N:=some 25) (v:=?_) (a':=?_) (bl 11 13) rfl rfl (any_of HT_.out (by kernel_rfl)) (fun _ _ _ h => h) (Or.inl ⟨by rfl,?_⟩) ?_ ?_
    rotate_left;·intro w';go_simp;with_reducible rfl
    rotate_left;·simp only [pu_];rfl
    refine pure_ (i:=11) (N:=some 26) (v:=?_) (a':=?_) (bl 12 12) rfl rfl (any_of HT_.out (by kernel_rfl)) (fun _ _ _ h => h) (Or.inl ⟨by rfl,?_⟩) ?_ ?_
    rotate_left;·intro w';go_simp;with_reducible rfl
    rotate_left;·simp only [pu_];rfl
    refine pure_ (i:=12) (N:=some 27) (v:=?_) (a':=?_) (bl 13 11) rfl rfl (any_of HT_.out (by kernel_rfl)) (fun _ _ _ h => h) (Or.inl ⟨by rfl,?_⟩) ?_ ?_
    rotate_left;·intro w';go_simp;with_reducible rfl
    rotate_left;·simp only [pu_];rfl
    refine pure_ (i:=13) (N:=some 28) (v:=undef) (a':=?_) (bl 14 10) rfl rfl (any_of HT_.out (by kernel_rfl)) (fun _ _ _ h => h) (Or.inr ⟨by rfl,rfl⟩) ?_ ?_
    rotate_left
    ·simp only [pu_]
     rfl
    refine pure_ (i:=14) (N:=some 29) (v:=undef) (a':=?_) (bl 15 9) rfl rfl (any_of HT_.out (by kernel_rfl)) (fun _ _ _ h => h) (Or.inr ⟨by rfl,rfl⟩) ?_ ?_
    rotate_left
    ·simp only [pu_]
     rfl
    refine pure_ (i:=15) (N:=some 30) (v:=undef) (a':=?_) (bl 16 8) rfl rfl (any_of HT_.out (by kernel_rfl)) (fun _ _ _ h => h) (Or.inr ⟨by rfl,rfl⟩) ?_ ?_
    rotate_left
    ·simp only [pu_]
     rfl
    refine pure_ (i:=16) (N:=some 31) (v:=undef) (a':=?_) (bl 17 7) rfl rfl (any_of HT_.out (by kernel_rfl)) (fun _ _ _ h => h) (Or.inr ⟨by rfl,rfl⟩) ?_ ?_
    rotate_left
    ·simp only [pu_]
     rfl
    refine pure_ (i:=17) (N:=some 32) (v:=undef) (a':=?_) (bl 18 6) rfl rfl (any_of HT_.out (by kernel_rfl)) (fun _ _ _ h => h) (Or.inr ⟨by rfl,rfl⟩) ?_ ?_
    rotate_left
    ·simp only [pu_]
     rfl
    refine pure_ (i:=18) (N:=some 33) (v:=undef) (a':=?_) (bl 19 5) rfl rfl (any_of HT_.out (by kernel_rfl)) (fun _ _ _ h => h) (Or.inr ⟨by rfl,rfl⟩) ?_ ?_
    rotate_left
    ·simp only [pu_]
     rfl
    refine pure_ (i:=19) (N:=some 34) (v:=undef) (a':=?_) (bl 20 4) rfl rfl (any_of HT_.out (by kernel_rfl)) (fun _ _ _ h => h) (Or.inr ⟨by rfl,rfl⟩) ?_ ?_
    rotate_left
    ·simp only [pu_]
     rfl
    refine pure_ (i:=20) (N:=some 35) (v:=undef) (a':=?_) (bl 21 3) rfl rfl (any_of HT_.out (by kernel_rfl)) (fun _ _ _ h => h) (Or.inr ⟨by rfl,rfl⟩) ?_ ?_
    rotate_left
    ·simp only [pu_]
     rfl
    refine pure_ (i:=21) (N:=some 36) (v:=undef) (a':=?_) (bl 22 2) rfl rfl (any_of HT_.out (by kernel_rfl)) (fun _ _ _ h => h) (Or.inr ⟨by rfl,rfl⟩) ?_ ?_
    rotate_left
    ·simp only [pu_]
     rfl
    refine pure_ (i:=22) (N:=some 37) (v:=?_) (a':=?_) (bl 23 1) rfl rfl (any_of HT_.out (by kernel_rfl)) (fun _ _ _ h => h) (Or.inl ⟨by rfl,?_⟩) ?_ ?_
    rotate_left;·intro w';go_simp;with_reducible rfl
    rotate_left;·simp only [pu_];rfl
    refine pure_ (i:=23) (N:=some 38) (v:=?_) (a':=?_) (bl 24 0) rfl rfl (any_of HT_.out (by kernel_rfl)) (fun _ _ _ h => h) (Or.inl ⟨by rfl,?_⟩) ?_ ?_
    rotate_left;·intro w';go_simp;with_reducible rfl
    rotate_left;·simp only [pu_];rfl
    refine done_ (done_of HT_.out (by kernel_rfl)) ?_
    try go_wp2
    go_roundg k1
    case measure => have:=HK1.out;omega
    case rel => exact ⟨(wrap64 (x10_1 + 1)),(by first|rfl|(simp;done)|(simp [*];done)|(simp;rw [Bool.eq_iff_iff];simp;done)|(rw [Bool.eq_iff_iff];simp;done)),H',⟨by have:=HK1.out;omega⟩,⟨by repeat (first|(with_reducible first|exact HB.out|apply below_alloc|apply pw_below_drewN|apply below_drew1|refine below_set ?_ GE512.out)|exact HB.out)⟩⟩
   rw [if_pos c14] at H
   have c14b0 : decide (0 < x10_1) = true:=decide_eq_true c14
   clear c14
   obtain ⟨ji15,hji15⟩ : ∃ j_ : Int,(wrap64 (x10_1 - 1)) = j_:=⟨_,rfl⟩
   replace H : (if 0 ≤ (ji15) then (if (ji15) < (l0.length : Int) then (if ((Op.bytesLess (((rd_T57 l0 (ji15)).f0).toList) (((rd_T57 l0 x10_1).f0).toList)) = true) then (quant_Valid.l0 k1 l0 l0 (l0.length : Int) (wrap64 (x10_1 + 1))) else (some 31)) else (none)) else (none)) = some r:=by first|(rw [hji15] at H;exact H)|(simp only [hji15] at H ⊢;exact H)
   (try rw [hji15] at A6)
   have hji15w : (IntKind.i64.wrap (x10_1 - 1)) = ji15:=(i64_w _).trans hji15
   by_cases c16 : 0 ≤ (ji15)
   rotate_left
   ·rw [if_neg c16] at H
    exact absurd H (by simp)
   rw [if_pos c16] at H
   have c16b0 : decide (0 ≤ (ji15)) = true:=decide_eq_true c16
   clear c16
   by_cases c17 : (ji15) < (l0.length : Int)
   rotate_left
   ·rw [if_neg c17] at H
    exact absurd H (by simp)
   rw [if_pos c17] at H
   have c17b0 : decide ((ji15) < (l0.length : Int)) = true:=decide_eq_true c17
   clear c17
   by_cases c18 : ((Op.bytesLess (((rd_T57 l0 (ji15)).f0).toList) (((rd_T57 l0 x10_1).f0).toList)) = true)
   rotate_left
   ·rw [if_neg c18] at H
    have c18b0 : (Op.bytesLess (((rd_T57 l0 (ji15)).f0).toList) (((rd_T57 l0 x10_1).f0).toList)) = false:=by simpa using c18
    clear c18
    obtain rfl:=Option.some.inj H
    have p511 : 0 ≤ (x10_1 : Int):=of_decide_eq_true (by first|(with_reducible assumption)|assumption)
    have q511 : x10_1 < (l0.length : Int):=of_decide_eq_true (by first|(with_reducible assumption)|assumption)
    obtain ⟨ad511,e511,hx511_0,hx511_1⟩:=at_T57 HR0.out x10_1 p511 q511
    cases e511
    replace hx511_0:=(HB.out.cell (World.block_lt_of_cell? w _ hx511_0)).trans hx511_0
    replace hx511_1:=(HB.out.cell (World.block_lt_of_cell? w _ hx511_1)).trans hx511_1
    replace p511:=eq_true p511
    replace q511:=eq_true q511
    try go_wp2_with (first|((with_reducible refine gate_dst (N:=4) rfl ?_);refine box_event ?hg (N:=4) ?hd (cs:=#[.string (⟨#[]⟩ : ByteArray),.int .i64 0]) (t:=57) ?hr ?_;(case hd => rfl);(case hg => rfl);(case hr => first|(go_simp;done)|(go_simp;rfl));intro gb512 hg w24 hbox hb;have n0_:=Aside0.mk (below_step (by repeat (first|(with_reducible first|exact HB.out|apply below_alloc|apply pw_below_drewN|apply below_drew1)|exact HB.out)) hb);have n1_:=Aside0.mk (hbox);have n2_:=Aside0.mk ((by rw [hg];exact (below_size (by repeat (first|(with_reducible first|exact HB.out|apply below_alloc|apply pw_below_drewN|apply below_drew1)|exact HB.out))) : w.heap.size ≤ gb512));have n3_:=Aside0.mk ((by rw [hg];exact (below_size (by repeat (first|(with_reducible first|exact HB.out|apply below_alloc|apply pw_below_drewN|apply below_drew1)|exact HB.out))) : w.heap.size ≤ gb512));clear HB;have HB:=n0_;have BK512:=n1_;have GW512:=n2_;have GE512:=n3_;clear n0_ n1_ n2_ n3_;clear hb hbox hg;have hcz25_0 : w24.cell? ⟨gb512,0,none⟩ = some (.string (⟨#[]⟩ : ByteArray)):=(blk_cell BK512.out 0).trans rfl;have hcz25_1 : w24.cell? ⟨gb512,1,none⟩ = some (.int .i64 0):=(blk_cell BK512.out 1).trans rfl;have hfz25_0:=blk_frozen BK512.out 0;have hfz25_1:=blk_frozen BK512.out 1))
    have n0_ : Aside0 (((w24.setCell ⟨gb512,0,none⟩ (.string ((rd_T57 l0 x10_1).f0))).setCell ⟨gb512,1,none⟩ (.int .i64 ((rd_T57 l0 x10_1).f1))).heap[gb512]? = some (.cells #[.string ((rd_T57 l0 x10_1).f0),.int .i64 ((rd_T57 l0 x10_1).f1)] 57 (0,0))):=⟨by (with_reducible repeat (first|refine blk_drewN ?_ _|refine blk_drew ?_|refine blk_alloc ?_ _));refine blk_put (cs:=#[.string ((rd_T57 l0 x10_1).f0),.int .i64 0]) ?_ 1 _ rfl;(with_reducible repeat (first|refine blk_drewN ?_ _|refine blk_drew ?_|refine blk_alloc ?_ _));refine blk_put (cs:=#[.string (⟨#[]⟩ : ByteArray),.int .i64 0]) ?_ 0 _ rfl;(with_reducible repeat (first|refine blk_drewN ?_ _|refine blk_drew ?_|refine blk_alloc ?_ _));exact BK512.out⟩
    have n1_ : Aside0 (Below w.heap.size w ((w24.setCell ⟨gb512,0,none⟩ (.string ((rd_T57 l0 x10_1).f0))).setCell ⟨gb512,1,none⟩ (.int .i64 ((rd_T57 l0 x10_1).f1)))):=⟨by repeat (first|(with_reducible first|exact HB.out|apply below_alloc|apply pw_below_drewN|apply below_drew1|refine below_set ?_ GE512.out)|exact HB.out)⟩
    (try clear BK512);(try clear HB)
    generalize ((w24.setCell ⟨gb512,0,none⟩ (.string ((rd_T57 l0 x10_1).f0))).setCell ⟨gb512,1,none⟩ (.int .i64 ((rd_T57 l0 x10_1).f1))) = w26 at n0_ n1_ ⊢
    have BK512:=n0_;have HB:=n1_;clear n0_ n1_
    have n0_:=Aside0.mk (blk_drew BK512.out)
    have n1_:=Aside0.mk (below_drew1 HB.out)
    clear BK512;clear HB;have BK512:=n0_;have HB:=n1_;clear n0_ n1_
    have p514 : 0 ≤ ((ji15) : Int):=of_decide_eq_true (by first|(with_reducible assumption)|assumption)
    have q514 : (ji15) < (l0.length : Int):=of_decide_eq_true (by first|(with_reducible assumption)|assumption)
    obtain ⟨ad514,e514,hx514_0,hx514_1⟩:=at_T57 HR0.out (ji15) p514 q514
    have hw514_1:=hx514_1;have hw514_0:=hx514_0
    obtain rfl : ad511 = ad514:=(by injection e514)
    replace hx514_0:=(HB.out.cell (World.block_lt_of_cell? w _ hx514_0)).trans hx514_0
    replace hx514_1:=(HB.out.cell (World.block_lt_of_cell? w _ hx514_1)).trans hx514_1
    replace p514:=eq_true p514
    replace q514:=eq_true q514
    refine start_ (n:=24) (S:=fun w' => w'.cell? ⟨gb512,0,none⟩ = some (.string ((rd_T57 l0 x10_1).f0)) ∧ w'.cell? ⟨gb512,1,none⟩ = some (.int .i64 ((rd_T57 l0 x10_1).f1)) ∧ w'.cell? (ad511.add (((ji15)).toNat * 2)) = some (.string ((rd_T57 l0 (ji15)).f0)) ∧ w'.cell? ⟨(ad511.add (((ji15)).toNat * 2)).block,(ad511.add (((ji15)).toNat * 2)).off + 1,none⟩ = some (.int .i64 ((rd_T57 l0 (ji15)).f1))) (ds:=[]) (bl 0 24) (by kernel_rfl) rfl rfl ⟨(blk_cell BK512.out 0).trans rfl,(blk_cell BK512.out 1).trans rfl,((HB.out.cell (World.block_lt_of_cell? w _ hw514_0)).trans hw514_0),((HB.out.cell (World.block_lt_of_cell? w _ hw514_1)).trans hw514_1)⟩ (fun hHeld => ?_);refine with_tabW quant_Valid.tab6 quant_Valid.bits6 (fun HT_ HW_ => ?_)
    generalize w26.drew = w27 at BK512 HB hx514_0 hx514_1 hHeld ⊢
    refine pure_ (i:=0) (N:=some 15) (v:=?_) (a':=?_) (bl 1 23) rfl rfl (any_of HT_.out (by kernel_rfl)) (fun _ _ _ h => h) (Or.inl ⟨by rfl,?_⟩) ?_ ?_
    rotate_left;·intro w';go_simp;with_reducible rfl
    rotate_left;·simp only [pu_];rfl
    refine take_ (i:=1) (N:=some 16) (v:=?_) (a':=?_) (bl 2 22) rfl rfl (take_ofW HT_.out HW_.out (by kernel_rfl)) (fun _ _ _ h => h) (Or.inl ⟨by rfl,?_⟩) hHeld ?_ ?_
    rotate_left
    ·rintro w' ⟨s0,s1,s2,s3⟩
     go_simp
     with_reducible rfl
    rotate_left
    ·simp only [pu_]
     rfl
    refine one_ (i:=2) (N:=some 17) (bl 3 21) rfl rfl (one_of HT_.out (by kernel_rfl)) (by decide) (fun K hK => ?_)
    refine goes_ Tryz.func71 (by kernel_rfl) rfl #[.string ((rd_T57 l0 x10_1).f0)] (by rfl) rfl rfl (by (try simp only [List.map_toArray,List.map_cons,List.map_nil]);first|done|rfl|(simp only [List.length_drop,List.length_take];rfl)) ?_
    with_reducible refine (quant_resource.calls k1 ((rd_T57 l0 x10_1).f0) true _ A6.out (Glob.below hG (by repeat (first|(with_reducible first|exact HB.out|apply below_alloc|apply pw_below_drewN|apply below_drew1)|exact HB.out)))).mono ?_
    rintro e w28 ⟨rfl,hb⟩
    refine ⟨_,rfl,?_⟩
    have n0_:=Aside0.mk (blk_below (g:=gb512) (o:=.cells #[.string ((rd_T57 l0 x10_1).f0),.int .i64 ((rd_T57 l0 x10_1).f1)] 57 (0,0)) (by (with_reducible repeat (first|refine blk_drewN ?_ _|refine blk_drew ?_|refine blk_alloc ?_ _));exact BK512.out) hb)
    have n1_:=Aside0.mk (below_step (by repeat (first|(with_reducible first|exact HB.out|apply below_alloc|apply pw_below_drewN|apply below_drew1|refine below_set ?_ GE512.out)|exact HB.out)) hb)
    clear BK512;clear HB;have BK512:=n0_;have HB:=n1_;clear n0_ n1_;(try clear hb);(try clear hb2);(try clear hk);(try clear hi)
    refine hK.out _ _ ⟨(blk_cell BK512.out 0).trans rfl,(blk_cell BK512.out 1).trans rfl,((HB.out.cell (World.block_lt_of_cell? w _ hw514_0)).trans hw514_0),((HB.out.cell (World.block_lt_of_cell? w _ hw514_1)).trans hw514_1)⟩ (fun hHeld => ?_)
    clear hK K
    refine norm_ (a':=?_) ?_ ?_
    rotate_left
    ·show Act.put _ (some 17) _ = _
     simp only [pu_]
     rfl
    refine pure_ (i:=3) (N:=some 18) (v:=?_) (a':=?_) (bl 4 20) rfl rfl (any_of HT_.out (by kernel_rfl)) (fun _ _ _ h => h) (Or.inl ⟨by rfl,?_⟩) ?_ ?_
    rotate_left;·intro w';go_simp;with_reducible rfl
    rotate_left;·simp only [pu_];rfl
    refine pure_ (i:=4) (N:=some 19) (v:=?_) (a':=?_) (bl 5 19) rfl rfl (any_of HT_.out (by kernel_rfl)) (fun _ _ _ h => h) (Or.inl ⟨by rfl,?_⟩) ?_ ?_
    rotate_left;·intro w';go_simp;with_reducible rfl
    rotate_left;·simp only [pu_];rfl
    refine pure_ (i:=5) (N:=some 20) (v:=?_) (a':=?_) (bl 6 18) rfl rfl (any_of HT_.out (by kernel_rfl)) (fun _ _ _ h => h) (Or.inl ⟨by rfl,?_⟩) ?_ ?_
    rotate_left;·intro w';go_simp;with_reducible rfl
    rotate_left;·simp only [pu_];rfl
    refine take_ (i:=6) (N:=some 21) (v:=?_) (a':=?_) (bl 7 17) rfl rfl (take_ofW HT_.out HW_.out (by kernel_rfl)) (fun _ _ _ h => h) (Or.inl ⟨by rfl,?_⟩) hHeld ?_ ?_
    rotate_left
    ·rintro w' ⟨s0,s1,s2,s3⟩
     go_simp
     with_reducible rfl
    rotate_left
    ·simp only [pu_]
     rfl
    refine pure_ (i:=7) (N:=some 22) (v:=?_) (a':=?_) (bl 8 16) rfl rfl (any_of HT_.out (by kernel_rfl)) (fun _ _ _ h => h) (Or.inl ⟨by rfl,?_⟩) ?_ ?_
    rotate_left;·intro w';go_simp;with_reducible rfl
    rotate_left;·simp only [pu_];rfl
    refine pure_ (i:=8) (N:=some 23) (v:=?_) (a':=?_) (bl 9 15) rfl rfl (any_of HT_.out (by kernel_rfl)) (fun _ _ _ h => h) (Or.inl ⟨by rfl,?_⟩) ?_ ?_
    rotate_left;·intro w';go_simp;with_reducible rfl
    rotate_left;·simp only [pu_];rfl
    refine pure_ (i:=9) (N:=some 24) (v:=?_) (a':=?_) (bl 10 14) rfl rfl (any_of HT_.out (by kernel_rfl)) (fun _ _ _ h => h) (Or.inl ⟨by rfl,?_⟩) ?_ ?_
    rotate_left;·intro w';go_simp;with_reducible rfl
    rotate_left;·simp only [pu_];rfl
    refine pure_ (i:=10) (N:=some 25) (v:=?_) (a':=?_) (bl 11 13) rfl rfl (any_of HT_.out (by kernel_rfl)) (fun _ _ _ h => h) (Or.inl ⟨by rfl,?_⟩) ?_ ?_
    rotate_left;·intro w';go_simp;with_reducible rfl
    rotate_left;·simp only [pu_];rfl
    refine pure_ (i:=11) (N:=some 26) (v:=?_) (a':=?_) (bl 12 12) rfl rfl (any_of HT_.out (by kernel_rfl)) (fun _ _ _ h => h) (Or.inl ⟨by rfl,?_⟩) ?_ ?_
    rotate_left;·intro w';go_simp;with_reducible rfl
    rotate_left;·simp only [pu_];rfl
    refine pure_ (i:=12) (N:=some 27) (v:=?_) (a':=?_) (bl 13 11) rfl rfl (any_of HT_.out (by kernel_rfl)) (fun _ _ _ h => h) (Or.inl ⟨by rfl,?_⟩) ?_ ?_
    rotate_left;·intro w';go_simp;with_reducible rfl
    rotate_left;·simp only [pu_];rfl
    refine pure_ (i:=13) (N:=some 28) (v:=?_) (a':=?_) (bl 14 10) rfl rfl (any_of HT_.out (by kernel_rfl)) (fun _ _ _ h => h) (Or.inl ⟨by rfl,?_⟩) ?_ ?_
    rotate_left;·intro w';go_simp;with_reducible rfl
    rotate_left;·simp only [pu_];rfl
    refine pure_ (i:=15) (N:=some 30) (v:=?_) (a':=?_) #[true,true,true,true,true,true,true,true,true,true,true,true,true,true,false,true,false,false,false,false,false,false,false,false] rfl rfl (any_of HT_.out (by kernel_rfl)) (fun _ _ _ h => h) (Or.inl ⟨by rfl,?_⟩) ?_ ?_
    rotate_left;·intro w';go_simp;with_reducible rfl
    rotate_left;·simp only [pu_];rfl
    refine pure_ (i:=16) (N:=some 31) (v:=?_) (a':=?_) #[true,true,true,true,true,true,true,true,true,true,true,true,true,true,false,true,true,false,false,false,false,false,false,false] rfl rfl (any_of HT_.out (by kernel_rfl)) (fun _ _ _ h => h) (Or.inl ⟨by rfl,?_⟩) ?_ ?_
    rotate_left;·intro w';go_simp;with_reducible rfl
    rotate_left;·simp only [pu_];rfl
    refine pure_ (i:=17) (N:=some 32) (v:=?_) (a':=?_) #[true,true,true,true,true,true,true,true,true,true,true,true,true,true,false,true,true,true,false,false,false,false,false,false] rfl rfl (any_of HT_.out (by kernel_rfl)) (fun _ _ _ h => h) (Or.inl ⟨by rfl,?_⟩) ?_ ?_
    rotate_left;·intro w';go_simp;with_reducible rfl
    rotate_left;·simp only [pu_];rfl
    refine pure_ (i:=18) (N:=some 33) (v:=?_) (a':=?_) #[true,true,true,true,true,true,true,true,true,true,true,true,true,true,false,true,true,true,true,false,false,false,false,false] rfl rfl (any_of HT_.out (by kernel_rfl)) (fun _ _ _ h => h) (Or.inl ⟨by rfl,?_⟩) ?_ ?_
    rotate_left;·intro w';go_simp;with_reducible rfl
    rotate_left;·simp only [pu_];rfl
    refine pure_ (i:=19) (N:=some 34) (v:=?_) (a':=?_) #[true,true,true,true,true,true,true,true,true,true,true,true,true,true,false,true,true,true,true,true,false,false,false,false] rfl rfl (any_of HT_.out (by kernel_rfl)) (fun _ _ _ h => h) (Or.inl ⟨by rfl,?_⟩) ?_ ?_
    rotate_left;·intro w';go_simp;with_reducible rfl
    rotate_left;·simp only [pu_];rfl
    refine take_ (i:=14) (N:=some 29) (v:=?_) (a':=?_) (bl 20 4) rfl rfl (take_ofW HT_.out HW_.out (by kernel_rfl)) (fun _ _ _ h => h) (Or.inl ⟨by rfl,?_⟩) hHeld ?_ ?_
    rotate_left
    ·rintro w' ⟨s0,s1,s2,s3⟩
     go_simp
     with_reducible rfl
    rotate_left
    ·simp only [pu_]
     rfl
    refine take_ (i:=20) (N:=some 35) (v:=?_) (a':=?_) (bl 21 3) rfl rfl (take_ofW HT_.out HW_.out (by kernel_rfl)) (fun _ _ _ h => h) (Or.inl ⟨by rfl,?_⟩) hHeld ?_ ?_
    rotate_left
    ·rintro w' ⟨s0,s1,s2,s3⟩
     go_simp
     with_reducible rfl
    rotate_left
    ·simp only [pu_]
     rfl
    refine pure_ (i:=21) (N:=some 36) (v:=?_) (a':=?_) (bl 22 2) rfl rfl (any_of HT_.out (by kernel_rfl)) (fun _ _ _ h => h) (Or.inl ⟨by rfl,?_⟩) ?_ ?_
    rotate_left;·intro w';go_simp;with_reducible rfl
    rotate_left;·simp only [pu_];rfl
    refine pure_ (i:=22) (N:=some 37) (v:=?_) (a':=?_) (bl 23 1) rfl rfl (any_of HT_.out (by kernel_rfl)) (fun _ _ _ h => h) (Or.inl ⟨by rfl,?_⟩) ?_ ?_
    rotate_left;·intro w';go_simp;with_reducible rfl
    rotate_left;·simp only [pu_];rfl
    refine pure_ (i:=23) (N:=some 38) (v:=?_) (a':=?_) (bl 24 0) rfl rfl (any_of HT_.out (by kernel_rfl)) (fun _ _ _ h => h) (Or.inl ⟨by rfl,?_⟩) ?_ ?_
    rotate_left;·intro w';go_simp;with_reducible rfl
    rotate_left;·simp only [pu_];rfl
    refine done_ (done_of HT_.out (by kernel_rfl)) ?_
    try go_wp2
    go_ret
    exact ⟨by first|rfl|(simp [errW_none,errW_some] <;> rfl)|(simp only [← hji15];first|rfl|(simp [errW_none,errW_some] <;> rfl))|(simp [*,errW_none,errW_some] <;> rfl),by repeat (first|(with_reducible first|exact HB.out|apply below_alloc|apply pw_below_drewN|apply below_drew1|refine below_set ?_ GE512.out)|exact HB.out)⟩
   rw [if_pos c18] at H
   have c18b0 : (Op.bytesLess (((rd_T57 l0 (ji15)).f0).toList) (((rd_T57 l0 x10_1).f0).toList)) = true:=c18
   clear c18
   have H':=Aside0.mk H
   clear H
   have p511 : 0 ≤ (x10_1 : Int):=of_decide_eq_true (by first|(with_reducible assumption)|assumption)
   have q511 : x10_1 < (l0.length : Int):=of_decide_eq_true (by first|(with_reducible assumption)|assumption)
   obtain ⟨ad511,e511,hx511_0,hx511_1⟩:=at_T57 HR0.out x10_1 p511 q511
   cases e511
   replace hx511_0:=(HB.out.cell (World.block_lt_of_cell? w _ hx511_0)).trans hx511_0
   replace hx511_1:=(HB.out.cell (World.block_lt_of_cell? w _ hx511_1)).trans hx511_1
   replace p511:=eq_true p511
   replace q511:=eq_true q511
   try go_wp2_with (first|((with_reducible refine gate_dst (N:=4) rfl ?_);refine box_event ?hg (N:=4) ?hd (cs:=#[.string (⟨#[]⟩ : ByteArray),.int .i64 0]) (t:=57) ?hr ?_;(case hd => rfl);(case hg => rfl);(case hr => first|(go_simp;done)|(go_simp;rfl));intro gb512 hg w19 hbox hb;have n0_:=Aside0.mk (below_step (by repeat (first|(with_reducible first|exact HB.out|apply below_alloc|apply pw_below_drewN|apply below_drew1)|exact HB.out)) hb);have n1_:=Aside0.mk (hbox);have n2_:=Aside0.mk ((by rw [hg];exact (below_size (by repeat (first|(with_reducible first|exact HB.out|apply below_alloc|apply pw_below_drewN|apply below_drew1)|exact HB.out))) : w.heap.size ≤ gb512));have n3_:=Aside0.mk ((by rw [hg];exact (below_size (by repeat (first|(with_reducible first|exact HB.out|apply below_alloc|apply pw_below_drewN|apply below_drew1)|exact HB.out))) : w.heap.size ≤ gb512));clear HB;have HB:=n0_;have BK512:=n1_;have GW512:=n2_;have GE512:=n3_;clear n0_ n1_ n2_ n3_;clear hb hbox hg;have hcz20_0 : w19.cell? ⟨gb512,0,none⟩ = some (.string (⟨#[]⟩ : ByteArray)):=(blk_cell BK512.out 0).trans rfl;have hcz20_1 : w19.cell? ⟨gb512,1,none⟩ = some (.int .i64 0):=(blk_cell BK512.out 1).trans rfl;have hfz20_0:=blk_frozen BK512.out 0;have hfz20_1:=blk_frozen BK512.out 1))
   have n0_ : Aside0 (((w19.setCell ⟨gb512,0,none⟩ (.string ((rd_T57 l0 x10_1).f0))).setCell ⟨gb512,1,none⟩ (.int .i64 ((rd_T57 l0 x10_1).f1))).heap[gb512]? = some (.cells #[.string ((rd_T57 l0 x10_1).f0),.int .i64 ((rd_T57 l0 x10_1).f1)] 57 (0,0))):=⟨by (with_reducible repeat (first|refine blk_drewN ?_ _|refine blk_drew ?_|refine blk_alloc ?_ _));refine blk_put (cs:=#[.string ((rd_T57 l0 x10_1).f0),.int .i64 0]) ?_ 1 _ rfl;(with_reducible repeat (first|refine blk_drewN ?_ _|refine blk_drew ?_|refine blk_alloc ?_ _));refine blk_put (cs:=#[.string (⟨#[]⟩ : ByteArray),.int .i64 0]) ?_ 0 _ rfl;(with_reducible repeat (first|refine blk_drewN ?_ _|refine blk_drew ?_|refine blk_alloc ?_ _));exact BK512.out⟩
   have n1_ : Aside0 (Below w.heap.size w ((w19.setCell ⟨gb512,0,none⟩ (.string ((rd_T57 l0 x10_1).f0))).setCell ⟨gb512,1,none⟩ (.int .i64 ((rd_T57 l0 x10_1).f1)))):=⟨by repeat (first|(with_reducible first|exact HB.out|apply below_alloc|apply pw_below_drewN|apply below_drew1|refine below_set ?_ GE512.out)|exact HB.out)⟩
   (try clear BK512);(try clear HB)
   generalize ((w19.setCell ⟨gb512,0,none⟩ (.string ((rd_T57 l0 x10_1).f0))).setCell ⟨gb512,1,none⟩ (.int .i64 ((rd_T57 l0 x10_1).f1))) = w21 at n0_ n1_ ⊢
   have BK512:=n0_;have HB:=n1_;clear n0_ n1_
   have n0_:=Aside0.mk (blk_drew BK512.out)
   have n1_:=Aside0.mk (below_drew1 HB.out)
   clear BK512;clear HB;have BK512:=n0_;have HB:=n1_;clear n0_ n1_
   have p514 : 0 ≤ ((ji15) : Int):=of_decide_eq_true (by first|(with_reducible assumption)|assumption)
   have q514 : (ji15) < (l0.length : Int):=of_decide_eq_true (by first|(with_reducible assumption)|assumption)
   obtain ⟨ad514,e514,hx514_0,hx514_1⟩:=at_T57 HR0.out (ji15) p514 q514
   have hw514_1:=hx514_1;have hw514_0:=hx514_0
   obtain rfl : ad511 = ad514:=(by injection e514)
   replace hx514_0:=(HB.out.cell (World.block_lt_of_cell? w _ hx514_0)).trans hx514_0
   replace hx514_1:=(HB.out.cell (World.block_lt_of_cell? w _ hx514_1)).trans hx514_1
   replace p514:=eq_true p514
   replace q514:=eq_true q514
   refine start_ (n:=24) (S:=fun w' => w'.cell? ⟨gb512,0,none⟩ = some (.string ((rd_T57 l0 x10_1).f0)) ∧ w'.cell? ⟨gb512,1,none⟩ = some (.int .i64 ((rd_T57 l0 x10_1).f1)) ∧ w'.cell? (ad511.add (((ji15)).toNat * 2)) = some (.string ((rd_T57 l0 (ji15)).f0)) ∧ w'.cell? ⟨(ad511.add (((ji15)).toNat * 2)).block,(ad511.add (((ji15)).toNat * 2)).off + 1,none⟩ = some (.int .i64 ((rd_T57 l0 (ji15)).f1))) (ds:=[]) (bl 0 24) (by kernel_rfl) rfl rfl ⟨(blk_cell BK512.out 0).trans rfl,(blk_cell BK512.out 1).trans rfl,((HB.out.cell (World.block_lt_of_cell? w _ hw514_0)).trans hw514_0),((HB.out.cell (World.block_lt_of_cell? w _ hw514_1)).trans hw514_1)⟩ (fun hHeld => ?_);refine with_tabW quant_Valid.tab6 quant_Valid.bits6 (fun HT_ HW_ => ?_)
   generalize w21.drew = w22 at BK512 HB hx514_0 hx514_1 hHeld ⊢
   refine pure_ (i:=0) (N:=some 15) (v:=?_) (a':=?_) (bl 1 23) rfl rfl (any_of HT_.out (by kernel_rfl)) (fun _ _ _ h => h) (Or.inl ⟨by rfl,?_⟩) ?_ ?_
   rotate_left;·intro w';go_simp;with_reducible rfl
   rotate_left;·simp only [pu_];rfl
   refine take_ (i:=1) (N:=some 16) (v:=?_) (a':=?_) (bl 2 22) rfl rfl (take_ofW HT_.out HW_.out (by kernel_rfl)) (fun _ _ _ h => h) (Or.inl ⟨by rfl,?_⟩) hHeld ?_ ?_
   rotate_left
   ·rintro w' ⟨s0,s1,s2,s3⟩
    go_simp
    with_reducible rfl
   rotate_left
   ·simp only [pu_]
    rfl
   refine one_ (i:=2) (N:=some 17) (bl 3 21) rfl rfl (one_of HT_.out (by kernel_rfl)) (by decide) (fun K hK => ?_)
   refine goes_ Tryz.func71 (by kernel_rfl) rfl #[.string ((rd_T57 l0 x10_1).f0)] (by rfl) rfl rfl (by (try simp only [List.map_toArray,List.map_cons,List.map_nil]);first|done|rfl|(simp only [List.length_drop,List.length_take];rfl)) ?_
   with_reducible refine (quant_resource.calls k1 ((rd_T57 l0 x10_1).f0) true _ A6.out (Glob.below hG (by repeat (first|(with_reducible first|exact HB.out|apply below_alloc|apply pw_below_drewN|apply below_drew1)|exact HB.out)))).mono ?_
   rintro e w23 ⟨rfl,hb⟩
   refine ⟨_,rfl,?_⟩
   have n0_:=Aside0.mk (blk_below (g:=gb512) (o:=.cells #[.string ((rd_T57 l0 x10_1).f0),.int .i64 ((rd_T57 l0 x10_1).f1)] 57 (0,0)) (by (with_reducible repeat (first|refine blk_drewN ?_ _|refine blk_drew ?_|refine blk_alloc ?_ _));exact BK512.out) hb)
   have n1_:=Aside0.mk (below_step (by repeat (first|(with_reducible first|exact HB.out|apply below_alloc|apply pw_below_drewN|apply below_drew1|refine below_set ?_ GE512.out)|exact HB.out)) hb)
   clear BK512;clear HB;have BK512:=n0_;have HB:=n1_;clear n0_ n1_;(try clear hb);(try clear hb2);(try clear hk);(try clear hi)
   refine hK.out _ _ ⟨(blk_cell BK512.out 0).trans rfl,(blk_cell BK512.out 1).trans rfl,((HB.out.cell (World.block_lt_of_cell? w _ hw514_0)).trans hw514_0),((HB.out.cell (World.block_lt_of_cell? w _ hw514_1)).trans hw514_1)⟩ (fun hHeld => ?_)
   clear hK K
   refine norm_ (a':=?_) ?_ ?_
   rotate_left
   ·show Act.put _ (some 17) _ = _
    simp only [pu_]
    rfl
   refine pure_ (i:=3) (N:=some 18) (v:=?_) (a':=?_) (bl 4 20) rfl rfl (any_of HT_.out (by kernel_rfl)) (fun _ _ _ h => h) (Or.inl ⟨by rfl,?_⟩) ?_ ?_
   rotate_left;·intro w';go_simp;with_reducible rfl
   rotate_left;·simp only [pu_];rfl
   refine pure_ (i:=4) (N:=some 19) (v:=?_) (a':=?_) (bl 5 19) rfl rfl (any_of HT_.out (by kernel_rfl)) (fun _ _ _ h => h) (Or.inl ⟨by rfl,?_⟩) ?_ ?_
   rotate_left;·intro w';go_simp;with_reducible rfl
   rotate_left;·simp only [pu_];rfl
   refine pure_ (i:=5) (N:=some 20) (v:=?_) (a':=?_) (bl 6 18) rfl rfl (any_of HT_.out (by kernel_rfl)) (fun _ _ _ h => h) (Or.inl ⟨by rfl,?_⟩) ?_ ?_
   rotate_left;·intro w';go_simp;with_reducible rfl
   rotate_left;·simp only [pu_];rfl
   refine take_ (i:=6) (N:=some 21) (v:=?_) (a':=?_) (bl 7 17) rfl rfl (take_ofW HT_.out HW_.out (by kernel_rfl)) (fun _ _ _ h => h) (Or.inl ⟨by rfl,?_⟩) hHeld ?_ ?_
   rotate_left
   ·rintro w' ⟨s0,s1,s2,s3⟩
    go_simp
    with_reducible rfl
   rotate_left
   ·simp only [pu_]
    rfl
   refine pure_ (i:=7) (N:=some 22) (v:=?_) (a':=?_) (bl 8 16) rfl rfl (any_of HT_.out (by kernel_rfl)) (fun _ _ _ h => h) (Or.inl ⟨by rfl,?_⟩) ?_ ?_
   rotate_left;·intro w';go_simp;with_reducible rfl
   rotate_left;·simp only [pu_];rfl
   refine pure_ (i:=8) (N:=some 23) (v:=?_) (a':=?_) (bl 9 15) rfl rfl (any_of HT_.out (by kernel_rfl)) (fun _ _ _ h => h) (Or.inl ⟨by rfl,?_⟩) ?_ ?_
   rotate_left;·intro w';go_simp;with_reducible rfl
   rotate_left;·simp only [pu_];rfl
   refine pure_ (i:=9) (N:=some 24) (v:=?_) (a':=?_) (bl 10 14) rfl rfl (any_of HT_.out (by kernel_rfl)) (fun _ _ _ h => h) (Or.inl ⟨by rfl,?_⟩) ?_ ?_
   rotate_left;·intro w';go_simp;with_reducible rfl
   rotate_left;·simp only [pu_];rfl
   refine pure_ (i:=10) (N:=some 25) (v:=?_) (a':=?_) (bl 11 13) rfl rfl (any_of HT_.out (by kernel_rfl)) (fun _ _ _ h => h) (Or.inl ⟨by rfl,?_⟩) ?_ ?_
   rotate_left;·intro w';go_simp;with_reducible rfl
   rotate_left;·simp only [pu_];rfl
   refine pure_ (i:=11) (N:=some 26) (v:=?_) (a':=?_) (bl 12 12) rfl rfl (any_of HT_.out (by kernel_rfl)) (fun _ _ _ h => h) (Or.inl ⟨by rfl,?_⟩) ?_ ?_
   rotate_left;·intro w';go_simp;with_reducible rfl
   rotate_left;·simp only [pu_];rfl
   refine pure_ (i:=12) (N:=some 27) (v:=?_) (a':=?_) (bl 13 11) rfl rfl (any_of HT_.out (by kernel_rfl)) (fun _ _ _ h => h) (Or.inl ⟨by rfl,?_⟩) ?_ ?_
   rotate_left;·intro w';go_simp;with_reducible rfl
   rotate_left;·simp only [pu_];rfl
   refine pure_ (i:=13) (N:=some 28) (v:=?_) (a':=?_) (bl 14 10) rfl rfl (any_of HT_.out (by kernel_rfl)) (fun _ _ _ h => h) (Or.inl ⟨by rfl,?_⟩) ?_ ?_
   rotate_left;·intro w';go_simp;with_reducible rfl
   rotate_left;·simp only [pu_];rfl
   refine pure_ (i:=15) (N:=some 30) (v:=?_) (a':=?_) #[true,true,true,true,true,true,true,true,true,true,true,true,true,true,false,true,false,false,false,false,false,false,false,false] rfl rfl (any_of HT_.out (by kernel_rfl)) (fun _ _ _ h => h) (Or.inl ⟨by rfl,?_⟩) ?_ ?_
   rotate_left;·intro w';go_simp;with_reducible rfl
   rotate_left;·simp only [pu_];rfl
   refine pure_ (i:=16) (N:=some 31) (v:=?_) (a':=?_) #[true,true,true,true,true,true,true,true,true,true,true,true,true,true,false,true,true,false,false,false,false,false,false,false] rfl rfl (any_of HT_.out (by kernel_rfl)) (fun _ _ _ h => h) (Or.inl ⟨by rfl,?_⟩) ?_ ?_
   rotate_left;·intro w';go_simp;with_reducible rfl
   rotate_left;·simp only [pu_];rfl
   refine pure_ (i:=17) (N:=some 32) (v:=?_) (a':=?_) #[true,true,true,true,true,true,true,true,true,true,true,true,true,true,false,true,true,true,false,false,false,false,false,false] rfl rfl (any_of HT_.out (by kernel_rfl)) (fun _ _ _ h => h) (Or.inl ⟨by rfl,?_⟩) ?_ ?_
   rotate_left;·intro w';go_simp;with_reducible rfl
   rotate_left;·simp only [pu_];rfl
   refine pure_ (i:=18) (N:=some 33) (v:=?_) (a':=?_) #[true,true,true,true,true,true,true,true,true,true,true,true,true,true,false,true,true,true,true,false,false,false,false,false] rfl rfl (any_of HT_.out (by kernel_rfl)) (fun _ _ _ h => h) (Or.inl ⟨by rfl,?_⟩) ?_ ?_
   rotate_left;·intro w';go_simp;with_reducible rfl
   rotate_left;·simp only [pu_];rfl
   refine pure_ (i:=19) (N:=some 34) (v:=?_) (a':=?_) #[true,true,true,true,true,true,true,true,true,true,true,true,true,true,false,true,true,true,true,true,false,false,false,false] rfl rfl (any_of HT_.out (by kernel_rfl)) (fun _ _ _ h => h) (Or.inl ⟨by rfl,?_⟩) ?_ ?_
   rotate_left;·intro w';go_simp;with_reducible rfl
   rotate_left;·simp only [pu_];rfl
   refine take_ (i:=14) (N:=some 29) (v:=?_) (a':=?_) (bl 20 4) rfl rfl (take_ofW HT_.out HW_.out (by kernel_rfl)) (fun _ _ _ h => h) (Or.inl ⟨by rfl,?_⟩) hHeld ?_ ?_
   rotate_left
   ·rintro w' ⟨s0,s1,s2,s3⟩
    go_simp
    with_reducible rfl
   rotate_left
   ·simp only [pu_]
    rfl
   refine take_ (i:=20) (N:=some 35) (v:=?_) (a':=?_) (bl 21 3) rfl rfl (take_ofW HT_.out HW_.out (by kernel_rfl)) (fun _ _ _ h => h) (Or.inl ⟨by rfl,?_⟩) hHeld ?_ ?_
   rotate_left
   ·rintro w' ⟨s0,s1,s2,s3⟩
    go_simp
    with_reducible rfl
   rotate_left
   ·simp only [pu_]
    rfl
   refine pure_ (i:=21) (N:=some 36) (v:=?_) (a':=?_) (bl 22 2) rfl rfl (any_of HT_.out (by kernel_rfl)) (fun _ _ _ h => h) (Or.inl ⟨by rfl,?_⟩) ?_ ?_
   rotate_left;·intro w';go_simp;with_reducible rfl
   rotate_left;·simp only [pu_];rfl
   refine pure_ (i:=22) (N:=some 37) (v:=?_) (a':=?_) (bl 23 1) rfl rfl (any_of HT_.out (by kernel_rfl)) (fun _ _ _ h => h) (Or.inl ⟨by rfl,?_⟩) ?_ ?_
   rotate_left;·intro w';go_simp;with_reducible rfl
   rotate_left;·simp only [pu_];rfl
   refine pure_ (i:=23) (N:=some 38) (v:=?_) (a':=?_) (bl 24 0) rfl rfl (any_of HT_.out (by kernel_rfl)) (fun _ _ _ h => h) (Or.inl ⟨by rfl,?_⟩) ?_ ?_
   rotate_left;·intro w';go_simp;with_reducible rfl
   rotate_left;·simp only [pu_];rfl
   refine done_ (done_of HT_.out (by kernel_rfl)) ?_
   try go_wp2
   go_roundg k1
   case measure => have:=HK1.out;omega
   case rel => exact ⟨(wrap64 (x10_1 + 1)),(by first|rfl|(simp;done)|(simp [*];done)|(simp;rw [Bool.eq_iff_iff];simp;done)|(rw [Bool.eq_iff_iff];simp;done)),H',⟨by have:=HK1.out;omega⟩,⟨by repeat (first|(with_reducible first|exact HB.out|apply below_alloc|apply pw_below_drewN|apply below_drew1|refine below_set ?_ GE512.out)|exact HB.out)⟩⟩
end Go.Proofs.YtejgbdclhlolkaaGreatDoor.Q
namespace Go.Proofs.YtejgbdclhlolkaaGreatDoor.Q
open Go.RowKit Go.Proofs.YtejgbdclhlolkaaGreatDoorW.PrintWords Go.Proofs.YtejgbdclhlolkaaGreatDoorW.PrintLast Go.Proofs.YtejgbdclhlolkaaGreatDoorW.PrintMore
attribute [local go_sem] max2_int min2_int max_two min_two max_three min_three max_four min_four   -- for this text's walks alone
set_option linter.unusedVariables false
set_option linter.unusedSimpArgs false
def quant_valid.f (k : Nat) (l0 : List (S57)) (l1 : List (S57)) : Option (Bool) := (quant_Valid.f k l0).bind fun t604 => (if t604 = 0 then ((quant_Valid.f k l1).bind fun t605 => (some (t605 == 0))) else (some false))
theorem quant_valid.mono : ∀ a0 a1 k, LeO (quant_valid.f k a0 a1) (quant_valid.f (k + 1) a0 a1) := by
 intro a0 a1 k
 unfold quant_valid.f
 repeat' first
  |(with_reducible exact quant_Valid.mono _ _)
  |(with_reducible exact LeO.refl _)
  |(with_reducible exact LeO.none _)
  |(with_reducible refine LeO.ite ?_ ?_)
  |(with_reducible refine LeO.bind ?_ (fun _ => ?_))
  |exact quant_Valid.mono _ _
  |exact LeO.none _
  |refine LeO.ite ?_ ?_
  |refine LeO.bind ?_ (fun _ => ?_)
set_option maxHeartbeats 8000000 in
set_option maxRecDepth 100000 in
theorem quant_valid.calls (k : Nat) (A0 : Option Addr) (c0 : Nat) (l0 : List (S57)) (A1 : Option Addr) (c1 : Nat) (l1 : List (S57)) (r : Bool) (w : World) (hr0 : Kd.C k57 w A0 l0.length l0) (hc0 : l0.length ≤ c0) (hr1 : Kd.C k57 w A1 l1.length l1) (hc1 : l1.length ≤ c1) (h : quant_valid.f k l0 l1 = some r) (hG : Glob w) :
  Calls Tryz.prog 73 #[.slice A0 l0.length c0,.slice A1 l1.length c1] w fun e w' => e = .returned (.bool r) ∧ Below w.heap.size w w':=by
 have HR0:=Aside0.mk hr0
 have HC0:=Aside0.mk hc0
 clear hr0 hc0
 have HR1:=Aside0.mk hr1
 have HC1:=Aside0.mk hc1
 clear hr1 hc1
 have HB:=Aside0.mk (Below.refl w.heap.size w)
 have H : ((quant_Valid.f k l0).bind fun t604 => (if t604 = 0 then ((quant_Valid.f k l1).bind fun t605 => (some (t605 == 0))) else (some false))) = some r:=h
 clear h
 replace H:=Option.bind_eq_some_iff.mp H
 obtain ⟨t604,A30,H⟩:=H
 replace H : (if t604 = 0 then ((quant_Valid.f k l1).bind fun t605 => (some (t605 == 0))) else (some false)) = some r:=H
 have A3:=Aside0.mk A30
 clear A30
 by_cases c4 : t604 = 0
 ·rw [if_pos c4] at H
  have c4b0 : (t604 == 0) = true:=beq_iff_eq.mpr c4
  have c4b1 : (t604 != 0) = false:=bne_eq_false_iff_eq.mpr c4
  clear c4
  replace H:=Option.bind_eq_some_iff.mp H
  obtain ⟨t605,A50,H⟩:=H
  replace H : (some (t605 == 0)) = some r:=H
  have A5:=Aside0.mk A50
  clear A50
  obtain rfl:=Option.some.inj H
  go_enter Tryz.func73,Tryz.ntmps73
  go_wp2_with (first|((with_reducible refine gate_callee (f:=40) rfl ?_);refine goesL_ (some 6) rfl rfl Tryz.func40 (by kernel_rfl) rfl #[.slice A0 l0.length c0] rfl (by (try simp only [List.map_toArray,List.map_cons,List.map_nil]);first|done|rfl|(simp only [List.length_drop,List.length_take];rfl)) ?_;(with_reducible refine (quant_Valid.calls k _ _ l0 t604 _ ?side1 ?side2 A3.out (Glob.below hG (by repeat (first|(with_reducible first|exact HB.out|apply below_alloc|apply pw_below_drewN|apply below_drew1)|exact HB.out)))).mono ?_);(case side1 => repeat (first|exact HR0.out|(with_reducible refine Kd.C_alloc ?_ _)|(with_reducible refine Kd.C_drewN ?_ _)|(with_reducible refine Kd.C_drew ?_)));(case side2 => exact HC0.out);rintro e w6 ⟨rfl,hb⟩;refine ⟨_,rfl,?_⟩;have n0_:=Aside0.mk (below_step (by repeat (first|(with_reducible first|exact HB.out|apply below_alloc|apply pw_below_drewN|apply below_drew1)|exact HB.out)) hb);clear HB;have HB:=n0_;clear n0_;(try clear hb);(try clear hb2);(try clear hk);(try clear hi))|(go_at_call 40;(with_reducible refine (quant_Valid.calls k _ _ l1 t605 _ ?side1 ?side2 A5.out (Glob.below hG (by repeat (first|(with_reducible first|exact HB.out|apply below_alloc|apply pw_below_drewN|apply below_drew1)|exact HB.out)))).mono ?_);(case side1 => repeat (first|exact (Kd.C_below HR1.out HB.out)|(with_reducible refine Kd.C_alloc ?_ _)|(with_reducible refine Kd.C_drewN ?_ _)|(with_reducible refine Kd.C_drew ?_)));(case side2 => exact HC1.out);rintro e w7 ⟨rfl,hb⟩;have n0_:=Aside0.mk (below_step (by repeat (first|(with_reducible first|exact HB.out|apply below_alloc|apply pw_below_drewN|apply below_drew1)|exact HB.out)) hb);clear HB;have HB:=n0_;clear n0_;(try clear hb);(try clear hb2);(try clear hk);(try clear hi)))
  go_ret
  exact ⟨by first|rfl|(simp [errW_none,errW_some] <;> rfl)|(simp [*,errW_none,errW_some] <;> rfl),by repeat (first|(with_reducible first|exact HB.out|apply below_alloc|apply pw_below_drewN|apply below_drew1)|exact HB.out)⟩
 ·rw [if_neg c4] at H
  have c4b0 : (t604 == 0) = false:=beq_eq_false_iff_ne.mpr c4
  have c4b1 : (t604 != 0) = true:=bne_iff_ne.mpr c4
  obtain rfl:=Option.some.inj H
  go_enter Tryz.func73,Tryz.ntmps73
  go_wp2_with (first|((with_reducible refine gate_callee (f:=40) rfl ?_);refine goesL_ (some 6) rfl rfl Tryz.func40 (by kernel_rfl) rfl #[.slice A0 l0.length c0] rfl (by (try simp only [List.map_toArray,List.map_cons,List.map_nil]);first|done|rfl|(simp only [List.length_drop,List.length_take];rfl)) ?_;(with_reducible refine (quant_Valid.calls k _ _ l0 t604 _ ?side1 ?side2 A3.out (Glob.below hG (by repeat (first|(with_reducible first|exact HB.out|apply below_alloc|apply pw_below_drewN|apply below_drew1)|exact HB.out)))).mono ?_);(case side1 => repeat (first|exact HR0.out|(with_reducible refine Kd.C_alloc ?_ _)|(with_reducible refine Kd.C_drewN ?_ _)|(with_reducible refine Kd.C_drew ?_)));(case side2 => exact HC0.out);rintro e w8 ⟨rfl,hb⟩;refine ⟨_,rfl,?_⟩;have n0_:=Aside0.mk (below_step (by repeat (first|(with_reducible first|exact HB.out|apply below_alloc|apply pw_below_drewN|apply below_drew1)|exact HB.out)) hb);clear HB;have HB:=n0_;clear n0_;(try clear hb);(try clear hb2);(try clear hk);(try clear hi)))
  go_ret
  exact ⟨by first|rfl|(simp [errW_none,errW_some] <;> rfl)|(simp [*,errW_none,errW_some] <;> rfl),by repeat (first|(with_reducible first|exact HB.out|apply below_alloc|apply pw_below_drewN|apply below_drew1)|exact HB.out)⟩
end Go.Proofs.YtejgbdclhlolkaaGreatDoor.Q
namespace Go.Proofs.YtejgbdclhlolkaaGreatDoor.Q
open Go.RowKit Go.Proofs.YtejgbdclhlolkaaGreatDoorW.PrintWords Go.Proofs.YtejgbdclhlolkaaGreatDoorW.PrintLast Go.Proofs.YtejgbdclhlolkaaGreatDoorW.PrintMore
attribute [local go_sem] max2_int min2_int max_two min_two max_three min_three max_four min_four   -- for this text's walks alone
set_option linter.unusedVariables false
set_option linter.unusedSimpArgs false
def quant_Add.j0 : Nat → Int → Int → Bool → Option (Int × Int)
|0,_,_,_ => none
|k + 1,x0,x1,x11 => if x11 = true then (some (0,1)) else (if x0 > (wrap64 (9223372036854775807 - x1)) then (some (0,7)) else (some (wrap64 (x0 + x1),0)))
def quant_Add.f (k : Nat) (a0 : Int) (a1 : Int) : Option (Int × Int) := if a0 < 0 then (quant_Add.j0 k a0 a1 true) else (quant_Add.j0 k a0 a1 (decide (a1 < 0)))
theorem quant_Add.mono_l : ∀ k, (∀ y0 y1 y2, LeO (quant_Add.j0 k y0 y1 y2) (quant_Add.j0 (k + 1) y0 y1 y2))
|0 => fun _ _ _ r h => by simp [quant_Add.j0] at h
|k + 1 => by
  have ih0:=quant_Add.mono_l k
  ·intro y0 y1 y2
   unfold quant_Add.j0
   repeat' first
  |(with_reducible exact ih0 _ _ _)
  |(with_reducible exact LeO.refl _)
  |(with_reducible exact LeO.none _)
  |(with_reducible refine LeO.ite ?_ ?_)
  |(with_reducible refine LeO.bind ?_ (fun _ => ?_))
  |exact ih0 _ _ _
  |exact LeO.none _
  |refine LeO.ite ?_ ?_
  |refine LeO.bind ?_ (fun _ => ?_)
theorem quant_Add.mono : ∀ a0 a1 k, LeO (quant_Add.f k a0 a1) (quant_Add.f (k + 1) a0 a1) := by
 intro a0 a1 k
 have ih0:=quant_Add.mono_l k
 unfold quant_Add.f
 repeat' first
  |(with_reducible exact ih0 _ _ _)
  |(with_reducible exact LeO.refl _)
  |(with_reducible exact LeO.none _)
  |(with_reducible refine LeO.ite ?_ ?_)
  |(with_reducible refine LeO.bind ?_ (fun _ => ?_))
  |exact ih0 _ _ _
  |exact LeO.none _
  |refine LeO.ite ?_ ?_
  |refine LeO.bind ?_ (fun _ => ?_)
set_option maxHeartbeats 8000000 in
set_option maxRecDepth 100000 in
theorem quant_Add.calls (k : Nat) (a0 : Int) (a1 : Int) (r1 : Int) (r2 : Int) (w : World) (h : quant_Add.f k a0 a1 = some (r1, r2)) :
  Calls Tryz.prog 26 #[.int .i64 a0,.int .i64 a1] w fun e w' => e = .returned (.tuple #[.int .i64 r1,.int .i64 r2]) ∧ Drawn0 w w':=by
 have H : (if a0 < 0 then (quant_Add.j0 k a0 a1 true) else (quant_Add.j0 k a0 a1 (decide (a1 < 0)))) = some (r1,r2):=h
 clear h
 have HC3:=Aside0.mk H
 clear H
 go_enter Tryz.func26,Tryz.ntmps26
 go_upto_region 1 with (fail)
 go_cut [11] (fun v11 wc => ∃ (kq : Nat) (x11_2 : Bool),v11 = .bool x11_2 ∧ Aside0 (quant_Add.j0 kq a0 a1 x11_2 = some (r1,r2)) ∧ Aside0 (kq ≤ k) ∧ Drawn0 w wc)
 case first =>
  have H:=HC3.out
  clear HC3
  by_cases c4 : a0 < 0
  ·rw [if_pos c4] at H
   have c4b0 : decide (a0 < 0) = true:=decide_eq_true c4
   clear c4
   (first|rw [c4b0]|(simp only [i64_w,i32_w];rw [c4b0])|skip)
   have H':=Aside0.mk H
   clear H
   go_wp2
   go_meet
   case rel => exact ⟨_,(true),(by first|rfl|(simp;done)|(simp [*];done)|(simp;rw [Bool.eq_iff_iff];simp;done)|(rw [Bool.eq_iff_iff];simp;done)),H',⟨by first|omega|exact Nat.le_refl _⟩,by repeat (first|exact Drawn0.refl _|apply Drawn0.step)⟩
  rw [if_neg c4] at H
  have c4b0 : decide (a0 < 0) = false:=decide_eq_false c4
  clear c4
  (first|rw [c4b0]|(simp only [i64_w,i32_w];rw [c4b0])|skip)
  have H':=Aside0.mk H
  clear H
  go_wp2
  go_meet
  case rel => exact ⟨_,(decide (a1 < 0)),(by first|rfl|(simp;done)|(simp [*];done)|(simp;rw [Bool.eq_iff_iff];simp;done)|(rw [Bool.eq_iff_iff];simp;done)),H',⟨by first|omega|exact Nat.le_refl _⟩,by repeat (first|exact Drawn0.refl _|apply Drawn0.step)⟩
 case rest =>
  clear HC3;(try clear c2);(try clear p2);(try clear c4);(try clear c4b0)
  obtain ⟨kq,x11_2,rfl,HA,HJ2,⟨mc2,rfl⟩⟩:=hcut
  cases kq with
 |zero => exact absurd HA.out (by simp [quant_Add.j0])
 |succ kj2 =>
   have H:=HA.out
   clear HA
   simp only [quant_Add.j0] at H
   by_cases c5 : x11_2 = true
   ·subst c5
    have H1 : (some (0,1)) = some (r1,r2):=by rw [if_pos rfl] at H;exact H
    clear H;have H:=H1;clear H1
    simp only [Option.some.injEq,Prod.mk.injEq] at H
    obtain ⟨rfl,rfl⟩:=H
    go_wp2
    go_ret2
    exact ⟨by first|rfl|(simp;done)|(simp [*];done),by repeat (first|exact Drawn0.refl _|apply Drawn0.step)⟩
   replace c5:=Bool.eq_false_iff.mpr c5
   subst c5
   have H1 : (if a0 > (wrap64 (9223372036854775807 - a1)) then (some (0,7)) else (some (wrap64 (a0 + a1),0))) = some (r1,r2):=by rw [if_neg (show ¬ (false = true) by decide)] at H;exact H
   clear H;have H:=H1;clear H1
   by_cases c6 : a0 > (wrap64 (9223372036854775807 - a1))
   ·rw [if_pos c6] at H
    have c6b0 : decide ((wrap64 (9223372036854775807 - a1)) < a0) = true:=decide_eq_true c6
    clear c6
    simp only [Option.some.injEq,Prod.mk.injEq] at H
    obtain ⟨rfl,rfl⟩:=H
    go_wp2
    go_ret2
    exact ⟨by first|rfl|(simp;done)|(simp [*];done),by repeat (first|exact Drawn0.refl _|apply Drawn0.step)⟩
   rw [if_neg c6] at H
   have c6b0 : decide ((wrap64 (9223372036854775807 - a1)) < a0) = false:=decide_eq_false c6
   clear c6
   simp only [Option.some.injEq,Prod.mk.injEq] at H
   obtain ⟨rfl,rfl⟩:=H
   go_wp2
   go_ret2
   exact ⟨by first|rfl|(simp;done)|(simp [*];done),by repeat (first|exact Drawn0.refl _|apply Drawn0.step)⟩
end Go.Proofs.YtejgbdclhlolkaaGreatDoor.Q
namespace Go.Proofs
open Go.Shelf
def Tryz.sortAm_ren : Go.Shelf.Ren := ⟨fun | 6 => 95 | 15 => 119 | 14 => 118 | 28 => 145 | 29 => 91 | 20 => 137 | 21 => 138 | 22 => 139 | 23 => 140 | 24 => 141 | 25 => 142 | 26 => 143 | 27 => 144 | 46 => 155 | 47 => 156 | 48 => 157 | 49 => 158 | 50 => 159 | 57 => 162 | n => n, fun | 22 => 46 | 24 => 57 | 25 => 116 | 3 => 3 | 39 => 35 | 0 => 0 | 53 => 34 | 55 => 36 | 4 => 4 | 46 => 148 | 45 => 147 | 50 => 152 | 5 => 5 | 9 => 9 | 66 => 164 | 70 => 168 | 76 => 175 | 77 => 176 | n => n, fun | n => n⟩
theorem Tryz.sortAm : Go.Proofs.SlLaysF0.n6 Tryz.prog Tryz.sortAm_ren := {
  mixed := by kernel_rfl
  f6 := ⟨Tryz.f95.name, by decide, Tryz.func95.trans (congrArg some (by kernel_rfl))⟩
  f14 := ⟨Tryz.f118.name, by decide, Tryz.func118.trans (congrArg some (by kernel_rfl))⟩
  f15 := Tryz.func119.trans (congrArg some (by kernel_rfl))
  f20 := ⟨Tryz.f137.name, by decide, Tryz.func137.trans (congrArg some (by kernel_rfl))⟩
  f21 := ⟨Tryz.f138.name, by decide, Tryz.func138.trans (congrArg some (by kernel_rfl))⟩
  f22 := ⟨Tryz.f139.name, by decide, Tryz.func139.trans (congrArg some (by kernel_rfl))⟩
  f23 := ⟨Tryz.f140.name, by decide, Tryz.func140.trans (congrArg some (by kernel_rfl))⟩
  f24 := ⟨Tryz.f141.name, by decide, Tryz.func141.trans (congrArg some (by kernel_rfl))⟩
  f25 := ⟨Tryz.f142.name, by decide, Tryz.func142.trans (congrArg some (by kernel_rfl))⟩
  f26 := ⟨Tryz.f143.name, by decide, Tryz.func143.trans (congrArg some (by kernel_rfl))⟩
  f27 := ⟨Tryz.f144.name, by decide, Tryz.func144.trans (congrArg some (by kernel_rfl))⟩
  f28 := Tryz.func145.trans (congrArg some (by kernel_rfl))
  f29 := Tryz.func91.trans (congrArg some (by kernel_rfl))
  f46 := ⟨Tryz.f155.name, by decide, Tryz.func155.trans (congrArg some (by kernel_rfl))⟩
  f47 := Tryz.func156.trans (congrArg some (by kernel_rfl))
  f48 := Tryz.func157.trans (congrArg some (by kernel_rfl))
  f49 := ⟨Tryz.f158.name, by decide, Tryz.func158.trans (congrArg some (by kernel_rfl))⟩
  f50 := ⟨Tryz.f159.name, by decide, Tryz.func159.trans (congrArg some (by kernel_rfl))⟩
  f57 := ⟨Tryz.f162.name, by decide, Tryz.func162.trans (congrArg some (by kernel_rfl))⟩
  t0 := Tryz.underlying0
  a0 := Tryz.isAgg0
  z0 := Tryz.sizeOf0
  v0 := Tryz.zeroValue0
  t3 := Tryz.underlying3
  a3 := Tryz.isAgg3
  z3 := Tryz.sizeOf3
  v3 := Tryz.zeroValue3
  t4 := Tryz.underlying4
  a4 := Tryz.isAgg4
  z4 := Tryz.sizeOf4
  v4 := Tryz.zeroValue4
  t5 := Tryz.underlying5
  a5 := Tryz.isAgg5
  z5 := Tryz.sizeOf5
  v5 := Tryz.zeroValue5
  t9 := Tryz.underlying9
  a9 := Tryz.isAgg9
  z9 := Tryz.sizeOf9
  v9 := Tryz.zeroValue9
  t22 := Tryz.underlying46
  a22 := Tryz.isAgg46
  z22 := Tryz.sizeOf46
  v22 := Tryz.zeroValue46
  t25 := Tryz.underlying116
  a25 := Tryz.isAgg116
  z25 := Tryz.sizeOf116
  v25 := Tryz.zeroValue116
  t39 := Tryz.underlying35
  a39 := Tryz.isAgg35
  z39 := Tryz.sizeOf35
  v39 := Tryz.zeroValue35
  t45 := Tryz.underlying147
  a45 := Tryz.isAgg147
  z45 := Tryz.sizeOf147
  v45 := Tryz.zeroValue147
  t46 := Tryz.underlying148
  a46 := Tryz.isAgg148
  z46 := Tryz.sizeOf148
  v46 := Tryz.zeroValue148
  t50 := Tryz.underlying152
  a50 := Tryz.isAgg152
  z50 := Tryz.sizeOf152
  v50 := Tryz.zeroValue152
  t53 := Tryz.underlying34
  a53 := Tryz.isAgg34
  z53 := Tryz.sizeOf34
  v53 := Tryz.zeroValue34
  t55 := Tryz.underlying36
  a55 := Tryz.isAgg36
  z55 := Tryz.sizeOf36
  v55 := Tryz.zeroValue36
  t66 := Tryz.underlying164
  a66 := Tryz.isAgg164
  z66 := Tryz.sizeOf164
  v66 := Tryz.zeroValue164
  t70 := Tryz.underlying168
  a70 := Tryz.isAgg168
  z70 := Tryz.sizeOf168
  v70 := Tryz.zeroValue168
  t76 := Tryz.underlying175
  a76 := Tryz.isAgg175
  z76 := Tryz.sizeOf175
  v76 := Tryz.zeroValue175
  t77 := Tryz.underlying176
  a77 := Tryz.isAgg176
  z77 := Tryz.sizeOf176
  v77 := Tryz.zeroValue176 }
end Go.Proofs
