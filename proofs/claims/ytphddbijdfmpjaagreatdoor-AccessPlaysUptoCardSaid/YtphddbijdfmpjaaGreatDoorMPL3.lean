/- What the statement AccessPlaysUptoCardSaid rests on, part 3 of 6: walks and plain laws; what of the printer's words it leans on. -/
import Derived.Test.YtphddbijdfmpjaaGreatDoorProg
import Derived.Test.YtphddbijdfmpjaaGreatDoorRows
import Derived.Test.YtphddbijdfmpjaaGreatDoorMPL1
import Derived.Test.YtphddbijdfmpjaaGreatDoorMPL2
import Derived.Below
import Derived.Deep.Draws
import Derived.Deep.AppendLies
import Derived.Maps.AppendAt
import Derived.OwnWalk
import Derived.Laws.BytesArg
import Derived.Laws.MakeOwn
import Derived.Laws.OwnMore
import Derived.Deep.OwnRows
import Derived.Tactics
import Derived.Lib.ConvBytes
import Derived.Laws.Slices
import Derived.WalkKit
import Derived.KernelRfl
import Derived.RowKit3
import Derived.Deep.LoopGhost
import Derived.Deep.QuietTactic
import Derived.BigQuiet
import Derived.WideLaws
import Derived.Deep.DeepCutAuto
import Derived.Deep.CutBlock
import Derived.Deep.RegionHeld3
import Derived.Laws.Rows
import Derived.Lib.AppendStr
import Derived.ArgAppend
import Derived.Laws.IdiomCopy
import Derived.OrdersHeld
import Derived.Laws.BitsLemmas
import Derived.RowKit
import Derived.Shelf.Small.Bits
import Derived.Shelf.Small.Wraps
import Derived.Shelf.Utf8.RuneCount
import Derived.Shelf.Strconv.Itoa0
import Derived.Shelf.Strings.Search1
import Derived.Shelf.Strings.Search2
import Derived.Shelf.Strings.Search3
import Derived.Shelf.Strings.Count
import Derived.Shelf.LaysM
import Derived.Shelf.Strings.Shaped
import Derived.Shelf.Strings.LastIndex
import Derived.Shelf.Strings.LastIndexAll
import Derived.Shelf.Strings.Prefix
import Derived.Shelf.Strings.Split
import Derived.Shelf.Strings.SplitShaped
import Derived.Shelf.Unicode.Decode
import Derived.Shelf.Strings.RuneCount
import Derived.Shelf.Strings.Explode
import Derived.Shelf.Unicode.DecodeSlow
import Derived.Shelf.Unicode.DecodeAny
import Derived.Shelf.Slices.CompactS
import Derived.Shelf.Slices.Cells
import Derived.Ground.PaProg
import Derived.Shelf.Path.Small
import Derived.Lib.SplitLaws
import Derived.Laws.RangeAny
import Derived.Lib.OthersKept
import Derived.Lib.Hide
import Derived.Sort.Grow
import Derived.Maps.RangeRun
import Derived.Deep.Slices
import Derived.ChangeArms
namespace Go.Proofs.YtphddbijdfmpjaaGreatDoor.Q
open Go.RowKit Go.Proofs.YtphddbijdfmpjaaGreatDoorW.PrintWords Go.Proofs.YtphddbijdfmpjaaGreatDoorW.PrintLast Go.Proofs.YtphddbijdfmpjaaGreatDoorW.PrintMore
attribute [local go_sem] max2_int min2_int max_two min_two max_three min_three max_four min_four   -- for this text's walks alone
set_option linter.unusedVariables false
set_option linter.unusedSimpArgs false
def errW : Option Int → Value
  | none => .nilIface
  | some c => .iface 0 (.int .i64 c)
theorem errW_none : errW none = .nilIface := rfl
theorem errW_some (c : Int) : errW (some c) = .iface 0 (.int .i64 c) := rfl
theorem info5 : (Tryz.prog.info? 5).map (fun i => (i.zero, i.size, i.bytes)) = some (some (.int .u8 0), 1, 1) := by kernel_rfl
theorem info9 : (Tryz.prog.info? 9).map (fun i => (i.zero, i.size, i.bytes)) = some (some (.string ⟨#[]⟩), 1, 16) := by kernel_rfl
end Go.Proofs.YtphddbijdfmpjaaGreatDoor.Q
namespace Go.Proofs.YtphddbijdfmpjaaGreatDoor.Q
open Go.RowKit Go.Proofs.YtphddbijdfmpjaaGreatDoorW.PrintWords Go.Proofs.YtphddbijdfmpjaaGreatDoorW.PrintLast Go.Proofs.YtphddbijdfmpjaaGreatDoorW.PrintMore
attribute [local go_sem] max2_int min2_int max_two min_two max_three min_three max_four min_four   -- for this text's walks alone
set_option linter.unusedVariables false
set_option linter.unusedSimpArgs false
def stringslite_HasPrefix.f (a0 : ByteArray) (a1 : ByteArray) : Option (Bool) := if (a0.size : Int) ≥ (a1.size : Int) then (if 0 ≤ (a1.size : Int) then (if (a1.size : Int) ≤ (a0.size : Int) then (some ((a0.extract 0 ((a1.size : Int) : Int).toNat).toList == a1.toList)) else (none)) else (none)) else (some false)
set_option maxHeartbeats 8000000 in
set_option maxRecDepth 100000 in
theorem stringslite_HasPrefix.calls (a0 : ByteArray) (a1 : ByteArray) (r : Bool) (w : World) (h : stringslite_HasPrefix.f a0 a1 = some r) :
    Calls Tryz.prog 79 #[.string a0, .string a1] w fun e w' => e = .returned (.bool r) ∧ Drawn0 w w' := by
  have H : (if (a0.size : Int) ≥ (a1.size : Int) then (if 0 ≤ (a1.size : Int) then (if (a1.size : Int) ≤ (a0.size : Int) then (some ((a0.extract 0 ((a1.size : Int) : Int).toNat).toList == a1.toList)) else (none)) else (none)) else (some false)) = some r := h
  clear h
  by_cases c3 : (a0.size : Int) ≥ (a1.size : Int)
  · rw [if_pos c3] at H
    have c3b0 : decide ((a1.size : Int) ≤ (a0.size : Int)) = true := decide_eq_true c3
    have c3b1 : decide (a1.size ≤ a0.size) = true := decide_eq_true (Int.ofNat_le.mp c3)
    clear c3
    by_cases c4 : 0 ≤ (a1.size : Int)
    · rw [if_pos c4] at H
      have c4b0 := eq_true c4
      have c4b1 : decide (0 ≤ (a1.size : Int)) = true := decide_eq_true c4
      clear c4
      by_cases c5 : (a1.size : Int) ≤ (a0.size : Int)
      · rw [if_pos c5] at H
        have c5b0 := eq_true c5
        have c5b1 : decide ((a1.size : Int) ≤ (a0.size : Int)) = true := decide_eq_true c5
        clear c5
        obtain rfl := Option.some.inj H
        go_enter Tryz.func79, Tryz.ntmps79
        go_wp2
        go_ret
        exact ⟨by first | rfl | (simp; done) | (simp [*]; done), by repeat (first | exact Drawn0.refl _ | apply Drawn0.step)⟩
      · rw [if_neg c5] at H
        exact absurd H (by simp)
    · rw [if_neg c4] at H
      exact absurd H (by simp)
  · rw [if_neg c3] at H
    have c3b0 : decide ((a1.size : Int) ≤ (a0.size : Int)) = false := decide_eq_false c3
    have c3b1 : decide (a1.size ≤ a0.size) = false := decide_eq_false (fun h => c3 (Int.ofNat_le.mpr h))
    clear c3
    obtain rfl := Option.some.inj H
    go_enter Tryz.func79, Tryz.ntmps79
    go_wp2
    go_ret
    exact ⟨by first | rfl | (simp; done) | (simp [*]; done), by repeat (first | exact Drawn0.refl _ | apply Drawn0.step)⟩
end Go.Proofs.YtphddbijdfmpjaaGreatDoor.Q
namespace Go.Proofs.YtphddbijdfmpjaaGreatDoor.Q
open Go.RowKit Go.Proofs.YtphddbijdfmpjaaGreatDoorW.PrintWords Go.Proofs.YtphddbijdfmpjaaGreatDoorW.PrintLast Go.Proofs.YtphddbijdfmpjaaGreatDoorW.PrintMore
attribute [local go_sem] max2_int min2_int max_two min_two max_three min_three max_four min_four   -- for this text's walks alone
set_option linter.unusedVariables false
set_option linter.unusedSimpArgs false
def stringslite_CutPrefix.f (a0 : ByteArray) (a1 : ByteArray) : Option (ByteArray × Bool) := (stringslite_HasPrefix.f a0 a1).bind fun t107 => (if t107 = true then (if 0 ≤ (a1.size : Int) then (if (a1.size : Int) ≤ (a0.size : Int) then (some (a0.extract ((a1.size : Int) : Int).toNat a0.size, true)) else (none)) else (none)) else (some (a0, false)))
set_option maxHeartbeats 8000000 in
set_option maxRecDepth 100000 in
theorem stringslite_CutPrefix.calls (a0 : ByteArray) (a1 : ByteArray) (r1 : ByteArray) (r2 : Bool) (w : World) (h : stringslite_CutPrefix.f a0 a1 = some (r1, r2)) :
    Calls Tryz.prog 86 #[.string a0, .string a1] w fun e w' => e = .returned (.tuple #[.string r1, .bool r2]) ∧ Drawn0 w w' := by
  have H : ((stringslite_HasPrefix.f a0 a1).bind fun t107 => (if t107 = true then (if 0 ≤ (a1.size : Int) then (if (a1.size : Int) ≤ (a0.size : Int) then (some (a0.extract ((a1.size : Int) : Int).toNat a0.size, true)) else (none)) else (none)) else (some (a0, false)))) = some (r1, r2) := h
  clear h
  replace H := Option.bind_eq_some_iff.mp H
  obtain ⟨t107, A30, H⟩ := H
  replace H : (if t107 = true then (if 0 ≤ (a1.size : Int) then (if (a1.size : Int) ≤ (a0.size : Int) then (some (a0.extract ((a1.size : Int) : Int).toNat a0.size, true)) else (none)) else (none)) else (some (a0, false))) = some (r1, r2) := H
  have A3 := Aside0.mk A30
  clear A30
  by_cases c4 : t107 = true
  · subst c4
    have H1 : (if 0 ≤ (a1.size : Int) then (if (a1.size : Int) ≤ (a0.size : Int) then (some (a0.extract ((a1.size : Int) : Int).toNat a0.size, true)) else (none)) else (none)) = some (r1, r2) := by rw [if_pos rfl] at H; exact H
    clear H
    have H := H1
    clear H1
    by_cases c5 : 0 ≤ (a1.size : Int)
    · rw [if_pos c5] at H
      have c5b0 := eq_true c5
      have c5b1 : decide (0 ≤ (a1.size : Int)) = true := decide_eq_true c5
      clear c5
      by_cases c6 : (a1.size : Int) ≤ (a0.size : Int)
      · rw [if_pos c6] at H
        have c6b0 := eq_true c6
        have c6b1 : decide ((a1.size : Int) ≤ (a0.size : Int)) = true := decide_eq_true c6
        clear c6
        simp only [Option.some.injEq, Prod.mk.injEq] at H
        obtain ⟨rfl, rfl⟩ := H
        go_enter Tryz.func86, Tryz.ntmps86
        go_wp2_with (first | ((with_reducible refine gate_callee (f := 79) rfl ?_); refine goesL_ (some 8) rfl rfl Tryz.func79 (by kernel_rfl) rfl #[.string a0, .string a1] rfl (by (try simp only [List.map_toArray, List.map_cons, List.map_nil]); first | done | rfl | (simp only [List.length_drop, List.length_take]; rfl)) ?_; (with_reducible refine (stringslite_HasPrefix.calls a0 a1 true _ A3.out).mono ?_); rintro e w' ⟨rfl, ⟨nd, rfl⟩⟩; refine ⟨_, rfl, ?_⟩))
        go_ret2
        exact ⟨by first | rfl | (simp; done) | (simp [*]; done), by repeat (first | exact Drawn0.refl _ | apply Drawn0.step)⟩
      · rw [if_neg c6] at H
        exact absurd H (by simp)
    · rw [if_neg c5] at H
      exact absurd H (by simp)
  · replace c4 := Bool.eq_false_iff.mpr c4
    subst c4
    have H1 : (some (a0, false)) = some (r1, r2) := by rw [if_neg (show ¬ (false = true) by decide)] at H; exact H
    clear H
    have H := H1
    clear H1
    simp only [Option.some.injEq, Prod.mk.injEq] at H
    obtain ⟨rfl, rfl⟩ := H
    go_enter Tryz.func86, Tryz.ntmps86
    go_wp2_with (first | ((with_reducible refine gate_callee (f := 79) rfl ?_); refine goesL_ (some 8) rfl rfl Tryz.func79 (by kernel_rfl) rfl #[.string a0, .string a1] rfl (by (try simp only [List.map_toArray, List.map_cons, List.map_nil]); first | done | rfl | (simp only [List.length_drop, List.length_take]; rfl)) ?_; (with_reducible refine (stringslite_HasPrefix.calls a0 a1 false _ A3.out).mono ?_); rintro e w' ⟨rfl, ⟨nd, rfl⟩⟩; refine ⟨_, rfl, ?_⟩))
    go_ret2
    exact ⟨by first | rfl | (simp; done) | (simp [*]; done), by repeat (first | exact Drawn0.refl _ | apply Drawn0.step)⟩
end Go.Proofs.YtphddbijdfmpjaaGreatDoor.Q
namespace Go.Proofs.YtphddbijdfmpjaaGreatDoor.Q
open Go.RowKit Go.Proofs.YtphddbijdfmpjaaGreatDoorW.PrintWords Go.Proofs.YtphddbijdfmpjaaGreatDoorW.PrintLast Go.Proofs.YtphddbijdfmpjaaGreatDoorW.PrintMore
attribute [local go_sem] max2_int min2_int max_two min_two max_three min_three max_four min_four   -- for this text's walks alone
set_option linter.unusedVariables false
set_option linter.unusedSimpArgs false
def strings_CutPrefix.f (a0 : ByteArray) (a1 : ByteArray) : Option (ByteArray × Bool) := (stringslite_CutPrefix.f a0 a1).bind fun bt108 => (some (bt108.1, bt108.2))
set_option maxHeartbeats 8000000 in
set_option maxRecDepth 100000 in
theorem strings_CutPrefix.calls (a0 : ByteArray) (a1 : ByteArray) (r1 : ByteArray) (r2 : Bool) (w : World) (h : strings_CutPrefix.f a0 a1 = some (r1, r2)) :
    Calls Tryz.prog 67 #[.string a0, .string a1] w fun e w' => e = .returned (.tuple #[.string r1, .bool r2]) ∧ Drawn0 w w' := by
  have H : ((stringslite_CutPrefix.f a0 a1).bind fun bt108 => (some (bt108.1, bt108.2))) = some (r1, r2) := h
  clear h
  replace H := Option.bind_eq_some_iff.mp H
  obtain ⟨⟨t108, t109⟩, A30, H⟩ := H
  replace H : (some (t108, t109)) = some (r1, r2) := H
  have A3 := Aside0.mk A30
  clear A30
  simp only [Option.some.injEq, Prod.mk.injEq] at H
  obtain ⟨rfl, rfl⟩ := H
  go_enter Tryz.func67, Tryz.ntmps67
  go_wp2_with (first | ((with_reducible refine gate_callee (f := 86) rfl ?_); refine goesL_ (some 8) rfl rfl Tryz.func86 (by kernel_rfl) rfl #[.string a0, .string a1] rfl (by (try simp only [List.map_toArray, List.map_cons, List.map_nil]); first | done | rfl | (simp only [List.length_drop, List.length_take]; rfl)) ?_; (with_reducible refine (stringslite_CutPrefix.calls a0 a1 t108 t109 _ A3.out).mono ?_); rintro e w' ⟨rfl, ⟨nd, rfl⟩⟩; refine ⟨_, rfl, ?_⟩))
  go_ret2
  exact ⟨by first | rfl | (simp; done) | (simp [*]; done), by repeat (first | exact Drawn0.refl _ | apply Drawn0.step)⟩
end Go.Proofs.YtphddbijdfmpjaaGreatDoor.Q
namespace Go.Proofs
open Go.Shelf
def Tryz.lays210_ren : Go.Shelf.Ren := ⟨fun | 210 => 86 | 206 => 79 | n => n, fun | 9 => 9 | 4 => 4 | 3 => 3 | n => n, fun | n => n⟩
theorem Tryz.lays210 : Go.Proofs.Lays.n210 Tryz.prog Tryz.lays210_ren := {
  mixed := by kernel_rfl
  f206 := Tryz.func79.trans (congrArg some (by kernel_rfl))
  f210 := Tryz.func86.trans (congrArg some (by kernel_rfl))
  t3 := Tryz.underlying3
  a3 := Tryz.isAgg3
  z3 := Tryz.sizeOf3
  v3 := Tryz.zeroValue3
  t4 := Tryz.underlying4
  a4 := Tryz.isAgg4
  z4 := Tryz.sizeOf4
  v4 := Tryz.zeroValue4
  t9 := Tryz.underlying9
  a9 := Tryz.isAgg9
  z9 := Tryz.sizeOf9
  v9 := Tryz.zeroValue9 }
open Go.RowKit in
theorem Tryz.stringslite_CutPrefix (s p : ByteArray) (w : World) :
    Calls Tryz.prog 86 #[.string s, .string p] w fun e w' => e = .returned (.tuple #[.string ⟨(Lib.trimPrefix s.data.toList p.data.toList).toArray⟩, .bool (Lib.hasPrefix s.data.toList p.data.toList)]) ∧ w' = w := Any.stringslite_CutPrefix Tryz.lays210 s p w
def Tryz.lays103_ren : Go.Shelf.Ren := ⟨fun | 103 => 67 | 210 => 86 | 206 => 79 | n => n, fun | 9 => 9 | 4 => 4 | 24 => 91 | 3 => 3 | n => n, fun | n => n⟩
theorem Tryz.lays103 : Go.Proofs.Lays.n103 Tryz.prog Tryz.lays103_ren := {
  mixed := by kernel_rfl
  f103 := Tryz.func67.trans (congrArg some (by kernel_rfl))
  f206 := Tryz.func79.trans (congrArg some (by kernel_rfl))
  f210 := Tryz.func86.trans (congrArg some (by kernel_rfl))
  t3 := Tryz.underlying3
  a3 := Tryz.isAgg3
  z3 := Tryz.sizeOf3
  v3 := Tryz.zeroValue3
  t4 := Tryz.underlying4
  a4 := Tryz.isAgg4
  z4 := Tryz.sizeOf4
  v4 := Tryz.zeroValue4
  t9 := Tryz.underlying9
  a9 := Tryz.isAgg9
  z9 := Tryz.sizeOf9
  v9 := Tryz.zeroValue9
  t24 := Tryz.underlying91
  a24 := Tryz.isAgg91
  z24 := Tryz.sizeOf91
  v24 := Tryz.zeroValue91 }
open Go.RowKit in
theorem Tryz.strings_CutPrefix (s p : ByteArray) (w : World) :
    Calls Tryz.prog 67 #[.string s, .string p] w fun e w' => e = .returned (.tuple #[.string ⟨(Lib.trimPrefix s.data.toList p.data.toList).toArray⟩, .bool (Lib.hasPrefix s.data.toList p.data.toList)]) ∧ w' = w := Any.strings_CutPrefix Tryz.lays103 s p w
def Tryz.lays148_ren : Go.Shelf.Ren := ⟨fun | 148 => 78 | 222 => 93 | 223 => 94 | 269 => 99 | n => n, fun | 9 => 9 | 3 => 3 | 4 => 4 | 5 => 5 | 146 => 122 | 51 => 88 | 46 => 71 | n => n, fun | n => n⟩
theorem Tryz.lays148 : Go.Proofs.Lays.n148 Tryz.prog Tryz.lays148_ren := {
  mixed := by kernel_rfl
  f148 := Tryz.func78.trans (congrArg some (by kernel_rfl))
  f222 := Tryz.func93.trans (congrArg some (by kernel_rfl))
  f223 := Tryz.func94.trans (congrArg some (by kernel_rfl))
  f269 := Tryz.func99.trans (congrArg some (by kernel_rfl))
  t3 := Tryz.underlying3
  a3 := Tryz.isAgg3
  z3 := Tryz.sizeOf3
  v3 := Tryz.zeroValue3
  t4 := Tryz.underlying4
  a4 := Tryz.isAgg4
  z4 := Tryz.sizeOf4
  v4 := Tryz.zeroValue4
  t5 := Tryz.underlying5
  a5 := Tryz.isAgg5
  z5 := Tryz.sizeOf5
  v5 := Tryz.zeroValue5
  t9 := Tryz.underlying9
  a9 := Tryz.isAgg9
  z9 := Tryz.sizeOf9
  v9 := Tryz.zeroValue9
  t46 := Tryz.underlying71
  a46 := Tryz.isAgg71
  z46 := Tryz.sizeOf71
  v46 := Tryz.zeroValue71
  t51 := Tryz.underlying88
  a51 := Tryz.isAgg88
  z51 := Tryz.sizeOf88
  v51 := Tryz.zeroValue88
  t146 := Tryz.underlying122
  a146 := Tryz.isAgg122
  z146 := Tryz.sizeOf122
  v146 := Tryz.zeroValue122 }
open Go.RowKit Go.Lib in
theorem Tryz.strings_LastIndex_one (s sub : ByteArray) (h1 : sub.size = 1) (hs : s.size < 4611686018427387904) (w : World) :
    Calls Tryz.prog 78 #[.string s, .string sub] w fun e w' => e = .returned (.int .i64 (Lib.lastIndexByte s ((sub[0]'(by omega)).toNat : Int))) ∧ w' = w := Any.strings_LastIndex_one Tryz.lays148 s sub h1 hs w
open Go.RowKit Go.Lib in
theorem Tryz.strings_LastIndex (s sub : ByteArray) (hs : s.size < 4611686018427387904) (w : World) :
    Calls Tryz.prog 78 #[.string s, .string sub] w fun e w' => e = .returned (.int .i64 (Lib.lastIndex s.data.toList sub.data.toList)) ∧ w' = w := Any.strings_LastIndex Tryz.lays148 s sub hs w
def Tryz.lays206_ren : Go.Shelf.Ren := ⟨fun | 206 => 79 | n => n, fun | 9 => 9 | 4 => 4 | 3 => 3 | n => n, fun | n => n⟩
theorem Tryz.lays206 : Go.Proofs.Lays.n206 Tryz.prog Tryz.lays206_ren := {
  mixed := by kernel_rfl
  f206 := Tryz.func79.trans (congrArg some (by kernel_rfl))
  t3 := Tryz.underlying3
  a3 := Tryz.isAgg3
  z3 := Tryz.sizeOf3
  v3 := Tryz.zeroValue3
  t4 := Tryz.underlying4
  a4 := Tryz.isAgg4
  z4 := Tryz.sizeOf4
  v4 := Tryz.zeroValue4
  t9 := Tryz.underlying9
  a9 := Tryz.isAgg9
  z9 := Tryz.sizeOf9
  v9 := Tryz.zeroValue9 }
open Go.RowKit Go.Lib in
theorem Tryz.stringslite_HasPrefix (s p : ByteArray) (w : World) :
    Calls Tryz.prog 79 #[.string s, .string p] w fun e w' => e = .returned (.bool (Lib.hasPrefix s.data.toList p.data.toList)) ∧ w' = w := Any.stringslite_HasPrefix Tryz.lays206 s p w
def Tryz.lays99_ren : Go.Shelf.Ren := ⟨fun | 99 => 55 | 206 => 79 | n => n, fun | 9 => 9 | 4 => 4 | 3 => 3 | n => n, fun | n => n⟩
theorem Tryz.lays99 : Go.Proofs.Lays.n99 Tryz.prog Tryz.lays99_ren := {
  mixed := by kernel_rfl
  f99 := Tryz.func55.trans (congrArg some (by kernel_rfl))
  f206 := Tryz.func79.trans (congrArg some (by kernel_rfl))
  t3 := Tryz.underlying3
  a3 := Tryz.isAgg3
  z3 := Tryz.sizeOf3
  v3 := Tryz.zeroValue3
  t4 := Tryz.underlying4
  a4 := Tryz.isAgg4
  z4 := Tryz.sizeOf4
  v4 := Tryz.zeroValue4
  t9 := Tryz.underlying9
  a9 := Tryz.isAgg9
  z9 := Tryz.sizeOf9
  v9 := Tryz.zeroValue9 }
open Go.RowKit Go.Lib in
theorem Tryz.strings_HasPrefix (s p : ByteArray) (w : World) :
    Calls Tryz.prog 55 #[.string s, .string p] w fun e w' => e = .returned (.bool (Lib.hasPrefix s.data.toList p.data.toList)) ∧ w' = w := Any.strings_HasPrefix Tryz.lays99 s p w
def Tryz.lays221_ren : Go.Shelf.Ren := ⟨fun | 221 => 87 | 268 => 96 | 138 => 97 | 143 => 98 | 195 => 100 | 197 => 101 | 218 => 102 | 219 => 103 | 260 => 104 | 217 => 105 | 225 => 106 | 224 => 107 | 267 => 108 | 266 => 109 | 314 => 110 | n => n, fun | 9 => 9 | 3 => 3 | 31 => 49 | 4 => 4 | 0 => 0 | 105 => 124 | 21 => 21 | 5 => 5 | 46 => 71 | 119 => 127 | 139 => 130 | 138 => 129 | 146 => 122 | 51 => 88 | n => n, fun | 1 => 1 | 3 => 2 | 4 => 3 | n => n⟩
def Tryz.lays146_ren : Go.Shelf.Ren := ⟨fun | 146 => 68 | 221 => 87 | 268 => 96 | 138 => 97 | 143 => 98 | 195 => 100 | 197 => 101 | 218 => 102 | 219 => 103 | 260 => 104 | 217 => 105 | 225 => 106 | 224 => 107 | 267 => 108 | 266 => 109 | 314 => 110 | n => n, fun | 9 => 9 | 31 => 49 | 3 => 3 | 4 => 4 | 0 => 0 | 105 => 124 | 21 => 21 | 5 => 5 | 46 => 71 | 119 => 127 | 139 => 130 | 138 => 129 | 146 => 122 | 51 => 88 | n => n, fun | 1 => 1 | 3 => 2 | 4 => 3 | n => n⟩
theorem Tryz.lays146 : Go.Proofs.Lays.n146 Tryz.prog Tryz.lays146_ren := {
  mixed := by kernel_rfl
  f138 := Tryz.func97.trans (congrArg some (by kernel_rfl))
  f143 := Tryz.func98.trans (congrArg some (by kernel_rfl))
  f146 := Tryz.func68.trans (congrArg some (by kernel_rfl))
  f195 := Tryz.func100.trans (congrArg some (by kernel_rfl))
  f197 := Tryz.func101.trans (congrArg some (by kernel_rfl))
  f217 := Tryz.func105.trans (congrArg some (by kernel_rfl))
  f218 := Tryz.func102.trans (congrArg some (by kernel_rfl))
  f219 := Tryz.func103.trans (congrArg some (by kernel_rfl))
  f221 := Tryz.func87.trans (congrArg some (by kernel_rfl))
  f224 := Tryz.func107.trans (congrArg some (by kernel_rfl))
  f225 := Tryz.func106.trans (congrArg some (by kernel_rfl))
  f260 := Tryz.func104.trans (congrArg some (by kernel_rfl))
  f266 := Tryz.func109.trans (congrArg some (by kernel_rfl))
  f267 := Tryz.func108.trans (congrArg some (by kernel_rfl))
  f268 := Tryz.func96.trans (congrArg some (by kernel_rfl))
  f314 := Tryz.func110.trans (congrArg some (by kernel_rfl))
  t0 := Tryz.underlying0
  a0 := Tryz.isAgg0
  z0 := Tryz.sizeOf0
  v0 := Tryz.zeroValue0
  t3 := Tryz.underlying3
  a3 := Tryz.isAgg3
  z3 := Tryz.sizeOf3
  v3 := Tryz.zeroValue3
  t4 := Tryz.underlying4
  a4 := Tryz.isAgg4
  z4 := Tryz.sizeOf4
  v4 := Tryz.zeroValue4
  t5 := Tryz.underlying5
  a5 := Tryz.isAgg5
  z5 := Tryz.sizeOf5
  v5 := Tryz.zeroValue5
  t9 := Tryz.underlying9
  a9 := Tryz.isAgg9
  z9 := Tryz.sizeOf9
  v9 := Tryz.zeroValue9
  t21 := Tryz.underlying21
  a21 := Tryz.isAgg21
  z21 := Tryz.sizeOf21
  v21 := Tryz.zeroValue21
  t31 := Tryz.underlying49
  a31 := Tryz.isAgg49
  z31 := Tryz.sizeOf49
  v31 := Tryz.zeroValue49
  t46 := Tryz.underlying71
  a46 := Tryz.isAgg71
  z46 := Tryz.sizeOf71
  v46 := Tryz.zeroValue71
  t51 := Tryz.underlying88
  a51 := Tryz.isAgg88
  z51 := Tryz.sizeOf88
  v51 := Tryz.zeroValue88
  t105 := Tryz.underlying124
  a105 := Tryz.isAgg124
  z105 := Tryz.sizeOf124
  v105 := Tryz.zeroValue124
  t119 := Tryz.underlying127
  a119 := Tryz.isAgg127
  z119 := Tryz.sizeOf127
  t138 := Tryz.underlying129
  a138 := Tryz.isAgg129
  z138 := Tryz.sizeOf129
  v138 := Tryz.zeroValue129
  t139 := Tryz.underlying130
  a139 := Tryz.isAgg130
  z139 := Tryz.sizeOf130
  v139 := Tryz.zeroValue130
  t146 := Tryz.underlying122
  a146 := Tryz.isAgg122
  z146 := Tryz.sizeOf122
  v146 := Tryz.zeroValue122
  g1 := by kernel_rfl
  g3 := by kernel_rfl
  g4 := by kernel_rfl }
open Go.RowKit Go.Lib in
theorem Tryz.strings_Split (s sep : ByteArray) (m : Int) (w : World) (hs : s.size < 4294967281) (hm : w.cell? ⟨1, 0, none⟩ = some (.int .i64 m)) (h1 : 1 ≤ sep.size) :
    Calls Tryz.prog 68 #[.string s, .string sep] w fun e w' =>
      e = .returned (.slice (some ⟨w.heap.size, 0, none⟩) (Lib.countB s sep + 1) (Lib.countB s sep + 1)) ∧ w' = w.alloc (.cells ((Lib.splitB sep 0 (Lib.countB s sep) s).map Value.string).toArray 9) := Any.strings_Split Tryz.lays146 (by kernel_rfl) s sep m w hs hm h1
def Tryz.laysM146_ren : Go.Shelf.Ren := ⟨fun | 146 => 68 | 221 => 87 | 268 => 96 | 138 => 97 | 143 => 98 | 195 => 100 | 197 => 101 | 218 => 102 | 219 => 103 | 260 => 104 | 217 => 105 | 225 => 106 | 224 => 107 | 267 => 108 | 266 => 109 | 314 => 110 | n => n, fun | 9 => 9 | 31 => 49 | 3 => 3 | 4 => 4 | 0 => 0 | 105 => 124 | 21 => 21 | 5 => 5 | 46 => 71 | 119 => 127 | 139 => 130 | 138 => 129 | 146 => 122 | 51 => 88 | n => n, fun | 1 => 1 | 3 => 2 | 4 => 3 | n => n⟩
theorem Tryz.laysM146 : Go.Proofs.LaysM.n146 Tryz.prog Tryz.laysM146_ren := {
  mixed := by kernel_rfl
  f138 := Tryz.func97.trans (congrArg some (by kernel_rfl))
  f143 := Tryz.func98.trans (congrArg some (by kernel_rfl))
  f146 := Tryz.func68.trans (congrArg some (by kernel_rfl))
  f195 := Tryz.func100.trans (congrArg some (by kernel_rfl))
  f197 := Tryz.func101.trans (congrArg some (by kernel_rfl))
  f217 := Tryz.func105.trans (congrArg some (by kernel_rfl))
  f218 := Tryz.func102.trans (congrArg some (by kernel_rfl))
  f219 := Tryz.func103.trans (congrArg some (by kernel_rfl))
  f221 := Tryz.func87.trans (congrArg some (by kernel_rfl))
  f224 := Tryz.func107.trans (congrArg some (by kernel_rfl))
  f225 := Tryz.func106.trans (congrArg some (by kernel_rfl))
  f260 := Tryz.func104.trans (congrArg some (by kernel_rfl))
  f266 := Tryz.func109.trans (congrArg some (by kernel_rfl))
  f267 := Tryz.func108.trans (congrArg some (by kernel_rfl))
  f268 := Tryz.func96.trans (congrArg some (by kernel_rfl))
  f314 := Tryz.func110.trans (congrArg some (by kernel_rfl))
  t0 := Tryz.underlying0
  a0 := Tryz.isAgg0
  z0 := Tryz.sizeOf0
  v0 := Tryz.zeroValue0
  t3 := Tryz.underlying3
  a3 := Tryz.isAgg3
  z3 := Tryz.sizeOf3
  v3 := Tryz.zeroValue3
  t4 := Tryz.underlying4
  a4 := Tryz.isAgg4
  z4 := Tryz.sizeOf4
  v4 := Tryz.zeroValue4
  t5 := Tryz.underlying5
  a5 := Tryz.isAgg5
  z5 := Tryz.sizeOf5
  v5 := Tryz.zeroValue5
  t9 := Tryz.underlying9
  a9 := Tryz.isAgg9
  z9 := Tryz.sizeOf9
  v9 := Tryz.zeroValue9
  t21 := Tryz.underlying21
  a21 := Tryz.isAgg21
  z21 := Tryz.sizeOf21
  v21 := Tryz.zeroValue21
  t31 := Tryz.underlying49
  a31 := Tryz.isAgg49
  z31 := Tryz.sizeOf49
  v31 := Tryz.zeroValue49
  t46 := Tryz.underlying71
  a46 := Tryz.isAgg71
  z46 := Tryz.sizeOf71
  v46 := Tryz.zeroValue71
  t51 := Tryz.underlying88
  a51 := Tryz.isAgg88
  z51 := Tryz.sizeOf88
  v51 := Tryz.zeroValue88
  t105 := Tryz.underlying124
  a105 := Tryz.isAgg124
  z105 := Tryz.sizeOf124
  v105 := Tryz.zeroValue124
  t119 := Tryz.underlying127
  a119 := Tryz.isAgg127
  z119 := Tryz.sizeOf127
  t138 := Tryz.underlying129
  a138 := Tryz.isAgg129
  z138 := Tryz.sizeOf129
  v138 := Tryz.zeroValue129
  t139 := Tryz.underlying130
  a139 := Tryz.isAgg130
  z139 := Tryz.sizeOf130
  v139 := Tryz.zeroValue130
  t146 := Tryz.underlying122
  a146 := Tryz.isAgg122
  z146 := Tryz.sizeOf122
  v146 := Tryz.zeroValue122
  g1 := by kernel_rfl
  g3 := by kernel_rfl
  g4 := by kernel_rfl
  i0 := by kernel_rfl
  i3 := by kernel_rfl
  i4 := by kernel_rfl
  i5 := by kernel_rfl
  i9 := by kernel_rfl
  i21 := by kernel_rfl
  i31 := by kernel_rfl
  i46 := by kernel_rfl
  i51 := by kernel_rfl
  i105 := by kernel_rfl
  i138 := by kernel_rfl
  i139 := by kernel_rfl
  i146 := by kernel_rfl
  m1 := by kernel_rfl
  s1_3 := fun w h => Go.Proofs.cell_of_shapedOpen_int (zero := #[.int .i64 0]) (t := 3) h (of_decide_eq_true (by kernel_rfl)) (by kernel_rfl) rfl (by kernel_rfl) (by kernel_rfl) Tryz.underlying3
  m3 := by kernel_rfl
  m4 := by kernel_rfl }
def Tryz.lays194_ren : Go.Shelf.Ren := ⟨fun | 194 => 40 | n => n, fun | 31 => 49 | 9 => 9 | 3 => 3 | 4 => 4 | 0 => 0 | n => n, fun | n => n⟩
theorem Tryz.lays194 : Go.Proofs.Lays.n194 Tryz.prog Tryz.lays194_ren := {
  mixed := by kernel_rfl
  f194 := Tryz.func40.trans (congrArg some (by kernel_rfl))
  t0 := Tryz.underlying0
  a0 := Tryz.isAgg0
  z0 := Tryz.sizeOf0
  v0 := Tryz.zeroValue0
  t3 := Tryz.underlying3
  a3 := Tryz.isAgg3
  z3 := Tryz.sizeOf3
  v3 := Tryz.zeroValue3
  t4 := Tryz.underlying4
  a4 := Tryz.isAgg4
  z4 := Tryz.sizeOf4
  v4 := Tryz.zeroValue4
  t9 := Tryz.underlying9
  a9 := Tryz.isAgg9
  z9 := Tryz.sizeOf9
  v9 := Tryz.zeroValue9
  t31 := Tryz.underlying49
  a31 := Tryz.isAgg49
  z31 := Tryz.sizeOf49
  v31 := Tryz.zeroValue49 }
open Go.RowKit Go.Lib Go.Sort in
theorem Tryz.slices_Compact_string (blk off cap : Nat) (zs : List (List UInt8)) (w : World) (hH : Holds encStr w blk off zs.toArray) (hsz : zs.length ≤ 9223372036854775807) (hcap : zs.length ≤ cap) :
    Calls Tryz.prog 40 #[.slice (some ⟨blk, off, none⟩) zs.length cap] w fun e w' => e = .returned (.slice (some ⟨blk, off, none⟩) (Lib.compact zs).length cap) ∧ ∃ q, w' = putRow encStr (Sort.ahead w q) blk off (Lib.compact zs ++ List.replicate (zs.length - (Lib.compact zs).length) []).toArray := Any.slices_Compact_string Tryz.lays194 blk off cap zs w hH hsz hcap
open Go.RowKit Go.Lib Go.Sort in
theorem Tryz.slices_Compact_string_empty (a : Option Addr) (cap : Nat) (w : World) :
    Calls Tryz.prog 40 #[.slice a 0 cap] w fun e w' => e = .returned (.slice a 0 cap) ∧ w' = w := Any.slices_Compact_string_empty Tryz.lays194 a cap w
end Go.Proofs
namespace Go.Proofs.YtphddbijdfmpjaaGreatDoor.Q
open Go.RowKit Go.Proofs.YtphddbijdfmpjaaGreatDoorW.PrintWords Go.Proofs.YtphddbijdfmpjaaGreatDoorW.PrintLast
set_option linter.unusedVariables false
set_option linter.unusedSimpArgs false
structure Glob (w : World) : Prop where
  maxLen : ∃ m : Int, w.cell? ⟨1, 0, none⟩ = some (.int .i64 m)
  letterB : w.cell? ⟨0, 4, none⟩ = some (.int .u8 66)
theorem Glob.below {w W : World} (h : Glob w) (hb : Below w.heap.size w W) : Glob W := by
  obtain ⟨m, hm⟩ := h.maxLen
  exact ⟨⟨m, pw_cell_below hb hm⟩, pw_cell_below hb h.letterB⟩
def strings_Split.f (a0 a1 : ByteArray) : Option (List ByteArray) :=
  if a0.size < 4294967281 ∧ 1 ≤ a1.size then some (Lib.splitB a1 0 (Lib.countB a0 a1) a0) else none
theorem strings_Split.calls (a0 : ByteArray) (a1 : ByteArray) (r : List ByteArray) (w : World) (h : strings_Split.f a0 a1 = some r) (hG : Glob w) :
    Calls Tryz.prog 68 #[.string a0, .string a1] w fun e w' => ∃ v0_ : Value, e = .returned (v0_) ∧ Kd.R Kd.string 9 w' w.heap.size (fun _ => True) v0_ r ∧ Below w.heap.size w w' := by
  unfold strings_Split.f at h
  split at h
  · rename_i hc
    obtain rfl := Option.some.inj h
    obtain ⟨m, hm⟩ := hG.maxLen
    refine (Tryz.strings_Split a0 a1 m w hc.1 hm hc.2).mono ?_
    rintro e w' ⟨rfl, rfl⟩
    have hl : (Lib.splitB a1 0 (Lib.countB a0 a1) a0).length = Lib.countB a0 a1 + 1 := Lib.splitB_all a1 hc.2 0 _ a0 rfl
    have hle := Lib.countB_le a1 hc.2 a0.size a0 (Nat.le_refl _)
    refine ⟨_, rfl, ?_, (Below.refl _ _).alloc (Nat.le_refl _) _⟩
    have ho := World.ownsRow_lit (base := w.heap.size) (e := 9) (size := 1) w ((Lib.splitB a1 0 (Lib.countB a0 a1) a0).map Value.string).toArray (Lib.countB a0 a1 + 1) (Nat.le_refl _) (by unfold maxLen; omega) (by simp [hl])
    refine Kd.R_of_own (h1 := fun _ => rfl) (ok := fun _ => True) ?_ (fun _ _ => trivial)
    rw [hl]
    exact ho
  · cases h
def strings_LastIndex.f (a0 a1 : ByteArray) : Option Int :=
  if a1.size = 1 ∧ a0.size < 4611686018427387904 then some (Lib.lastIndexByte a0 (bt a1 0)) else none
theorem strings_LastIndex.calls (a0 : ByteArray) (a1 : ByteArray) (r : Int) (w : World) (h : strings_LastIndex.f a0 a1 = some r) :
    Calls Tryz.prog 78 #[.string a0, .string a1] w fun e w' => e = .returned (.int .i64 r) ∧ Drawn0 w w' := by
  unfold strings_LastIndex.f at h
  split at h
  · rename_i hc
    obtain rfl := Option.some.inj h
    refine (Tryz.strings_LastIndex_one a0 a1 hc.1 hc.2 w).mono ?_
    rintro e w' ⟨rfl, rfl⟩
    refine ⟨?_, Drawn0.refl _⟩
    have : bt a1 0 = (((a1[0]'(by omega)).toNat : Nat) : Int) := by unfold bt; simp [hc.1]
    rw [this]
  · cases h
end Go.Proofs.YtphddbijdfmpjaaGreatDoor.Q
namespace Go.Proofs.YtphddbijdfmpjaaGreatDoor.Q
open Go.RowKit Go.Proofs.YtphddbijdfmpjaaGreatDoorW.PrintWords Go.Proofs.YtphddbijdfmpjaaGreatDoorW.PrintLast
set_option linter.unusedVariables false
set_option linter.unusedSimpArgs false
def okByte (c : UInt8) : Bool := (97 ≤ c.toNat && c.toNat ≤ 122) || (48 ≤ c.toNat && c.toNat ≤ 57) || c.toNat == 45
def nameB (s : ByteArray) : Bool := decide (1 ≤ s.size) && decide (s.size ≤ 32) && decide (bt s 0 ≠ 45) && decide (bt s ((s.size : Int) - 1) ≠ 45) && s.data.toList.all okByte
def label_Name.f (a0 : ByteArray) : Option (Bool) := some (nameB a0)
theorem all_at (s : ByteArray) (n : Nat) (h : ∀ j, (hj : j < s.size) → okByte (s[j]'hj) = true) : s.data.toList.all okByte = true := by
  rw [List.all_eq_true]
  intro x hx
  obtain ⟨i, hi, rfl⟩ := List.getElem_of_mem hx
  have hi' : i < s.size := by simpa using hi
  exact h i hi'
theorem not_all_at (s : ByteArray) (j : Nat) (hj : j < s.size) (h : okByte (s[j]'hj) = false) : s.data.toList.all okByte = false := by
  rw [List.all_eq_false]
  refine ⟨s[j]'hj, ?_, by simp [h]⟩
  have : s.data.toList[j]'(by simpa using hj) = s[j]'hj := by simp; rfl
  rw [← this]
  exact List.getElem_mem _
theorem nameB_false {s : ByteArray} (h : s.size < 1 ∨ 32 < s.size ∨ bt s 0 = 45 ∨ bt s ((s.size : Int) - 1) = 45 ∨ s.data.toList.all okByte = false) : nameB s = false := by
  unfold nameB
  rcases h with h | h | h | h | h
  · have : decide (1 ≤ s.size) = false := decide_eq_false (by omega)
    simp [this]
  · have : decide (s.size ≤ 32) = false := decide_eq_false (by omega)
    simp [this]
  · simp [h]
  · simp [h]
  · simp [h]
theorem nameB_true {s : ByteArray} (h1 : 1 ≤ s.size) (h2 : s.size ≤ 32) (h3 : bt s 0 ≠ 45) (h4 : bt s ((s.size : Int) - 1) ≠ 45) (h5 : s.data.toList.all okByte = true) : nameB s = true := by
  unfold nameB
  simp [h1, h2, h3, h4, h5]
theorem bt_get (s : ByteArray) (i : Nat) (h : i < s.size) : ((s[i]'h).toNat : Int) = bt s i := by
  unfold bt; simp [h]
def plB (c : Int) : Bool := (decide (97 ≤ c) && decide (c ≤ 122)) || (decide (48 ≤ c) && decide (c ≤ 57))
theorem plB_iff (c : Int) : plB c = true ↔ (97 ≤ c ∧ c ≤ 122) ∨ (48 ≤ c ∧ c ≤ 57) := by unfold plB; simp
theorem plB_not (c : Int) (h : ¬ ((97 ≤ c ∧ c ≤ 122) ∨ (48 ≤ c ∧ c ≤ 57))) : plB c = false := by
  rw [← plB_iff] at h; simpa using h
theorem ok_iff (c : UInt8) : okByte c = true ↔ plB c.toNat = true ∨ (c.toNat : Int) = 45 := by
  unfold okByte plB; simp; omega
set_option maxHeartbeats 4000000 in
set_option maxRecDepth 100000 in
theorem plain_any (c : Int) (w : World) : Calls Tryz.prog 88 #[.int .i32 c] w fun e w' => e = .returned (.bool (plB c)) ∧ w' = w := by
  by_cases h1 : 97 ≤ c
  · by_cases h2 : c ≤ 122
    · rw [(plB_iff c).2 (.inl ⟨h1, h2⟩)]
      go_enter Tryz.func88, Tryz.ntmps88
      go_wp2
      go_ret
      exact ⟨rfl, rfl⟩
    · rw [plB_not c (by omega)]
      have h3 : 48 ≤ c := by omega
      have h4 : decide (c ≤ 57) = false := decide_eq_false (by omega)
      have h5 : decide (c ≤ 122) = false := decide_eq_false (by omega)
      go_enter Tryz.func88, Tryz.ntmps88
      go_wp2
      go_ret
      exact ⟨rfl, rfl⟩
  · by_cases h2 : 48 ≤ c
    · by_cases h3 : c ≤ 57
      · rw [(plB_iff c).2 (.inr ⟨h2, h3⟩)]
        go_enter Tryz.func88, Tryz.ntmps88
        go_wp2
        go_ret
        exact ⟨rfl, rfl⟩
      · rw [plB_not c (by omega)]
        have h4 : decide (c ≤ 57) = false := decide_eq_false (by omega)
        go_enter Tryz.func88, Tryz.ntmps88
        go_wp2
        go_ret
        exact ⟨rfl, rfl⟩
    · rw [plB_not c (by omega)]
      go_enter Tryz.func88, Tryz.ntmps88
      go_wp2
      go_ret
      exact ⟨rfl, rfl⟩
theorem iter_below {w : World} (s : ByteArray) (p : Nat) : Below w.heap.size w (w.iter s p) := (Below.refl _ _).alloc (Nat.le_refl _) _
set_option maxHeartbeats 4000000 in
set_option maxRecDepth 100000 in
theorem label_Name.calls (a0 : ByteArray) (r : Bool) (w : World) (h : label_Name.f a0 = some r) :
    Calls Tryz.prog 69 #[.string a0] w fun e w' => e = .returned (.bool r) ∧ Below w.heap.size w w' := by
  obtain rfl : nameB a0 = r := Option.some.inj h
  clear h
  by_cases h1 : a0.size < 1
  · rw [nameB_false (.inl h1)]
    have e1 : decide ((a0.size : Int) < 1) = true := by simp; omega
    go_enter Tryz.func69, Tryz.ntmps69
    go_wp2
    go_ret
    exact ⟨rfl, Below.refl _ _⟩
  have e1 : decide ((a0.size : Int) < 1) = false := by simp; omega
  by_cases h2 : 32 < a0.size
  · rw [nameB_false (.inr (.inl h2))]
    have e2 : decide ((32 : Int) < (a0.size : Int)) = true := by simp; omega
    clear h1
    go_enter Tryz.func69, Tryz.ntmps69
    go_wp2
    go_ret
    exact ⟨rfl, Below.refl _ _⟩
  have e2 : decide ((32 : Int) < (a0.size : Int)) = false := by simp; omega
  have hp : 0 < a0.size := by omega
  have hb0 : ((a0[0]'hp).toNat : Int) = bt a0 0 := bt_get a0 0 hp
  by_cases h3 : bt a0 0 = 45
  · rw [nameB_false (.inr (.inr (.inl h3)))]
    rw [h3] at hb0
    clear h3
    have e3 : (((a0[0]'hp).toNat : Int) == 45) = true := by simp; omega
    go_enter Tryz.func69, Tryz.ntmps69
    go_wp2
    go_ret
    exact ⟨rfl, Below.refl _ _⟩
  have e3 : (((a0[0]'hp).toNat : Int) == 45) = false := by rw [hb0]; simpa using h3
  have hlo : 1 ≤ a0.size := by omega
  have hhi : a0.size ≤ 32 := by omega
  have h3' := Lib.hid h3
  clear h1 h2 h3 hb0
  have hl : a0.size - 1 < a0.size := by omega
  have hb1 : ((a0[a0.size - 1]'hl).toNat : Int) = bt a0 ((a0.size : Int) - 1) := by rw [bt_get a0 _ hl]; congr 1; omega
  by_cases h4 : bt a0 ((a0.size : Int) - 1) = 45
  · rw [nameB_false (.inr (.inr (.inr (.inl h4))))]
    rw [h4] at hb1
    clear h4
    have e4 : (((a0[a0.size - 1]'hl).toNat : Int) == 45) = true := by simp; omega
    go_enter Tryz.func69, Tryz.ntmps69
    go_wp2
    go_ret
    exact ⟨rfl, Below.refl _ _⟩
  have e4 : (((a0[a0.size - 1]'hl).toNat : Int) == 45) = false := by rw [hb1]; simpa using h4
  have h4' := Lib.hid h4
  clear h4 hb1
  go_enter Tryz.func69, Tryz.ntmps69
  go_wp2
  go_loopg [] a0.size (fun g wx => ∃ pos : Nat, wx = w.iter a0 pos ∧ pos ≤ a0.size ∧ a0.size ≤ pos + g ∧ Aside0 (∀ j, (hj : j < pos) → (hj2 : j < a0.size) → okByte (a0[j]'hj2) = true))
  case atStart => exact ⟨0, rfl, by omega, by omega, ⟨fun j hj => by omega⟩⟩
  case round =>
    obtain ⟨pos, rfl, hps, hpg, hall⟩ := hrel
    by_cases hlt : pos < a0.size
    · cases gk with
      | zero => omega
      | succ g =>
        cases hok : okByte (a0[pos]'hlt) with
        | true =>
          have hok' := (ok_iff _).1 hok
          have ha : (a0[pos]'hlt).toNat < 128 := by
            rcases hok' with h | h
            · have := (plB_iff _).1 h; omega
            · omega
          have hall2 := Lib.hid (show ∀ j, (hj : j < pos + 1) → (hj2 : j < a0.size) → okByte (a0[j]'hj2) = true from fun j hj hj2 => by
            rcases Nat.lt_or_ge j pos with h | h
            · exact hall.out j h hj2
            · have e : j = pos := by omega
              subst e
              exact hok)
          have hnx := fun ty => run_next_ascii (P := Tryz.prog) w a0 pos ty hlt ha
          clear hall hok
          rcases hok' with h | h
          · go_wp2_with (go_at_call 88; refine (plain_any _ _).mono ?_; rintro e w' ⟨rfl, rfl⟩)
            go_roundg g
            case measure => omega
            case rel => exact ⟨pos + 1, rfl, by omega, by omega, ⟨hall2.out⟩⟩
          · cases hpl : plB ((a0[pos]'hlt).toNat : Int) with
            | true =>
              clear h
              go_wp2_with (go_at_call 88; refine (plain_any _ _).mono ?_; rintro e w' ⟨rfl, rfl⟩)
              go_roundg g
              case measure => omega
              case rel => exact ⟨pos + 1, rfl, by omega, by omega, ⟨hall2.out⟩⟩
            | false =>
              have e5 : (((a0[pos]'hlt).toNat : Int) != 45) = false := by rw [h]; rfl
              clear h
              go_wp2_with (go_at_call 88; refine (plain_any _ _).mono ?_; rintro e w' ⟨rfl, rfl⟩)
              go_roundg g
              case measure => omega
              case rel => exact ⟨pos + 1, rfl, by omega, by omega, ⟨hall2.out⟩⟩
        | false =>
          have hfin := Lib.hid (nameB_false (.inr (.inr (.inr (.inr (not_all_at a0 pos hlt hok))))))
          have hc : plB ((Utf8.decode a0 pos).1 : Int) = false ∧ ((((Utf8.decode a0 pos).1 : Nat) : Int) != 45) = true := by
            by_cases ha : (a0[pos]'hlt).toNat < 128
            · rw [decode_ascii a0 pos hlt ha]
              refine ⟨?_, ?_⟩
              · cases h : plB ((a0[pos]'hlt).toNat : Int) with
                | false => rfl
                | true => rw [(ok_iff _).2 (.inl h)] at hok; cases hok
              · rw [bne_iff_ne]
                intro h
                rw [(ok_iff _).2 (.inr h)] at hok; cases hok
            · have := (decode_high a0 pos hlt (by omega)).1
              exact ⟨plB_not _ (by omega), by rw [bne_iff_ne]; omega⟩
          obtain ⟨hc1, hc2⟩ := hc
          have hnx := fun ty => run_next_any (P := Tryz.prog) w a0 pos ty hlt
          clear hall hok
          generalize (Utf8.decode a0 pos).1 = cc at *
          generalize (Utf8.decode a0 pos).2 = dd at *
          go_wp2_with (go_at_call 88; refine (plain_any _ _).mono ?_; rintro e w' ⟨rfl, rfl⟩)
          go_ret
          exact ⟨by rw [hfin.out]; rfl, iter_below _ _⟩
    · obtain rfl : pos = a0.size := by omega
      have hfin := Lib.hid (nameB_true hlo hhi h3'.out h4'.out (all_at a0 a0.size (fun j hj => hall.out j hj hj)))
      have hnx := run_next_end (P := Tryz.prog) w a0 a0.size
      clear hall
      go_wp2
      go_ret
      exact ⟨by rw [hfin.out]; rfl, iter_below _ _⟩
end Go.Proofs.YtphddbijdfmpjaaGreatDoor.Q
namespace Go.Proofs.YtphddbijdfmpjaaGreatDoor.Q
open Go.RowKit Go.Proofs.YtphddbijdfmpjaaGreatDoorW.PrintWords Go.Proofs.YtphddbijdfmpjaaGreatDoorW.PrintLast Go.Proofs.YtphddbijdfmpjaaGreatDoorW.PrintMore
attribute [local go_sem] max2_int min2_int max_two min_two max_three min_three max_four min_four   -- for this text's walks alone
set_option linter.unusedVariables false
set_option linter.unusedSimpArgs false
mutual
def label_Split.j0 : Nat → ByteArray → Bool → Option (List ByteArray × Int)
  | 0, _, _ => none
  | k + 1, x4, x22 => if x22 = true then (some (([] : List ByteArray), 41)) else ((strings_Split.f x4 (⟨#[47]⟩ : ByteArray)).bind fun t112 => (if (t112.length : Int) > 8 then (some (([] : List ByteArray), 41)) else (label_Split.l0 k t112 t112 (t112.length : Int) 0)))
def label_Split.l0 : Nat → List ByteArray → List ByteArray → Int → Int → Option (List ByteArray × Int)
  | 0, _, _, _, _ => none
  | k + 1, x6, x28, x29, x30 => if x30 < x29 then (if 0 ≤ x30 then (if x30 < (x28.length : Int) then ((label_Name.f (rdOf ByteArray.empty x28 x30)).bind fun t116 => (if t116 = true then (label_Split.l0 k x6 x28 x29 (wrap64 (x30 + 1))) else (some (([] : List ByteArray), 41)))) else (none)) else (none)) else (some (x6, 0))
end
def label_Split.f (k : Nat) (a0 : ByteArray) : Option (List ByteArray × Int) := if a0.toList = ([47] : List UInt8) then (some (([] : List ByteArray), 0)) else ((strings_CutPrefix.f a0 (⟨#[47]⟩ : ByteArray)).bind fun bt110 => (if bt110.2 = true then (label_Split.j0 k bt110.1 (decide ((a0.size : Int) > 64))) else (label_Split.j0 k bt110.1 true)))
theorem label_Split.mono_l : ∀ k, (∀ y0 y1, LeO (label_Split.j0 k y0 y1) (label_Split.j0 (k + 1) y0 y1)) ∧ (∀ y0 y1 y2 y3, LeO (label_Split.l0 k y0 y1 y2 y3) (label_Split.l0 (k + 1) y0 y1 y2 y3))
  | 0 => ⟨fun _ _ r h => by simp [label_Split.j0] at h, fun _ _ _ _ r h => by simp [label_Split.l0] at h⟩
  | k + 1 => by
    obtain ⟨ih0, ih1⟩ := label_Split.mono_l k
    refine ⟨?_, ?_⟩
    · intro y0 y1
      unfold label_Split.j0
      repeat' first
      | (with_reducible exact ih0 _ _)
      | (with_reducible exact ih1 _ _ _ _)
      | (with_reducible exact LeO.refl _)
      | (with_reducible exact LeO.none _)
      | (with_reducible refine LeO.ite ?_ ?_)
      | (with_reducible refine LeO.bind ?_ (fun _ => ?_))
      | exact ih0 _ _
      | exact ih1 _ _ _ _
      | exact LeO.none _
      | refine LeO.ite ?_ ?_
      | refine LeO.bind ?_ (fun _ => ?_)
    · intro y0 y1 y2 y3
      unfold label_Split.l0
      repeat' first
      | (with_reducible exact ih0 _ _)
      | (with_reducible exact ih1 _ _ _ _)
      | (with_reducible exact LeO.refl _)
      | (with_reducible exact LeO.none _)
      | (with_reducible refine LeO.ite ?_ ?_)
      | (with_reducible refine LeO.bind ?_ (fun _ => ?_))
      | exact ih0 _ _
      | exact ih1 _ _ _ _
      | exact LeO.none _
      | refine LeO.ite ?_ ?_
      | refine LeO.bind ?_ (fun _ => ?_)
theorem label_Split.mono : ∀ a0 k, LeO (label_Split.f k a0) (label_Split.f (k + 1) a0) := by
  intro a0 k
  obtain ⟨ih0, ih1⟩ := label_Split.mono_l k
  unfold label_Split.f
  repeat' first
      | (with_reducible exact ih0 _ _)
      | (with_reducible exact ih1 _ _ _ _)
      | (with_reducible exact LeO.refl _)
      | (with_reducible exact LeO.none _)
      | (with_reducible refine LeO.ite ?_ ?_)
      | (with_reducible refine LeO.bind ?_ (fun _ => ?_))
      | exact ih0 _ _
      | exact ih1 _ _ _ _
      | exact LeO.none _
      | refine LeO.ite ?_ ?_
      | refine LeO.bind ?_ (fun _ => ?_)
set_option maxHeartbeats 8000000 in
set_option maxRecDepth 100000 in
theorem label_Split.calls (k : Nat) (a0 : ByteArray) (r1 : List ByteArray) (r2 : Int) (w : World) (h : label_Split.f k a0 = some (r1, r2)) (hG : Glob w) :
    Calls Tryz.prog 47 #[.string a0] w fun e w' => ∃ v0_ : Value, e = .returned (.tuple #[v0_, .int .i64 r2]) ∧ Kd.R Kd.string 9 w' w.heap.size (fun _ => True) v0_ r1 ∧ Below w.heap.size w w' := by
  have HB := Aside0.mk (Below.refl w.heap.size w)
  have H : (if a0.toList = ([47] : List UInt8) then (some (([] : List ByteArray), 0)) else ((strings_CutPrefix.f a0 (⟨#[47]⟩ : ByteArray)).bind fun bt110 => (if bt110.2 = true then (label_Split.j0 k bt110.1 (decide ((a0.size : Int) > 64))) else (label_Split.j0 k bt110.1 true)))) = some (r1, r2) := h
  clear h
  by_cases c2 : a0.toList = ([47] : List UInt8)
  · rw [if_pos c2] at H
    have c2b0 : (a0.toList == ([47] : List UInt8)) = true := beq_iff_eq.mpr c2
    have c2b1 : (a0.toList != ([47] : List UInt8)) = false := bne_eq_false_iff_eq.mpr c2
    clear c2
    simp only [Option.some.injEq, Prod.mk.injEq] at H
    obtain ⟨rfl, rfl⟩ := H
    go_enter Tryz.func47, Tryz.ntmps47
    go_wp2
    go_ret2
    exact ⟨_, by first | rfl | (simp [errW_none, errW_some] <;> rfl) | (simp [*, errW_none, errW_some] <;> rfl), by first | exact Kd.R_nil _ _ _ _ _ | exact Kd.N_nil _ _ _ _ _ | exact Kd.V_nil _ _ _ _ _ | exact Kd.Q_nil _ _ _ _ _ | exact Kd.S_nil _ _ _ _ _, by repeat (first | (with_reducible first | exact HB.out | apply below_alloc | apply pw_below_drewN | apply below_drew1) | exact HB.out)⟩
  · rw [if_neg c2] at H
    have c2b0 : (a0.toList == ([47] : List UInt8)) = false := beq_eq_false_iff_ne.mpr c2
    have c2b1 : (a0.toList != ([47] : List UInt8)) = true := bne_iff_ne.mpr c2
    replace H := Option.bind_eq_some_iff.mp H
    obtain ⟨⟨t110, t111⟩, A30, H⟩ := H
    replace H : (if t111 = true then (label_Split.j0 k t110 (decide ((a0.size : Int) > 64))) else (label_Split.j0 k t110 true)) = some (r1, r2) := H
    have A3 := Aside0.mk A30
    clear A30
    have HC4 := Aside0.mk H
    clear H
    go_enter Tryz.func47, Tryz.ntmps47
    go_upto_region 4 with (first | ((with_reducible refine gate_callee (f := 67) rfl ?_); refine goesL_ (some 13) rfl rfl Tryz.func67 (by kernel_rfl) rfl #[.string a0, .string (⟨#[47]⟩ : ByteArray)] rfl (by (try simp only [List.map_toArray, List.map_cons, List.map_nil]); first | done | rfl | (simp only [List.length_drop, List.length_take]; rfl)) ?_; (with_reducible refine (strings_CutPrefix.calls a0 (⟨#[47]⟩ : ByteArray) t110 t111 _ A3.out).mono ?_); rintro e w' ⟨rfl, ⟨nd, rfl⟩⟩; refine ⟨_, rfl, ?_⟩))
    (try simp only [Act.put, List.setIfInBounds_toArray, List.set_cons_zero, List.set_cons_succ])
    go_cut [22] (fun v22 wc => ∃ (kq : Nat) (x22_3 : Bool), v22 = .bool x22_3 ∧ Aside0 (label_Split.j0 kq t110 x22_3 = some (r1, r2)) ∧ Aside0 (kq ≤ k) ∧ Aside0 (Below w.heap.size w wc))
    case first =>
      have H := HC4.out
      clear HC4
      by_cases c5 : t111 = true
      · subst c5
        have H1 : (label_Split.j0 k t110 (decide ((a0.size : Int) > 64))) = some (r1, r2) := by rw [if_pos rfl] at H; exact H
        clear H
        have H := H1
        clear H1
        have H' := Aside0.mk H
        clear H
        go_wp2
        go_meet
        case rel => exact ⟨_, (decide ((a0.size : Int) > 64)), (by first | rfl | (simp; done) | (simp [*]; done) | (simp; rw [Bool.eq_iff_iff]; simp; done) | (rw [Bool.eq_iff_iff]; simp; done)), H', ⟨by first | omega | exact Nat.le_refl _⟩, ⟨by repeat (first | (with_reducible first | exact HB.out | apply below_alloc | apply pw_below_drewN | apply below_drew1) | exact HB.out)⟩⟩
      · replace c5 := Bool.eq_false_iff.mpr c5
        subst c5
        have H1 : (label_Split.j0 k t110 true) = some (r1, r2) := by rw [if_neg (show ¬ (false = true) by decide)] at H; exact H
        clear H
        have H := H1
        clear H1
        have H' := Aside0.mk H
        clear H
        go_wp2
        go_meet
        case rel => exact ⟨_, (true), (by first | rfl | (simp; done) | (simp [*]; done) | (simp; rw [Bool.eq_iff_iff]; simp; done) | (rw [Bool.eq_iff_iff]; simp; done)), H', ⟨by first | omega | exact Nat.le_refl _⟩, ⟨by repeat (first | (with_reducible first | exact HB.out | apply below_alloc | apply pw_below_drewN | apply below_drew1) | exact HB.out)⟩⟩
    case rest =>
      clear HC4
      try clear c2
      try clear c2b0
      try clear c2b1
      try clear p2
      try clear c4
      try clear c5
      obtain ⟨kq, x22_3, rfl, HA, HJ3, HB⟩ := hcut
      cases kq with
      | zero => exact absurd HA.out (by simp [label_Split.j0])
      | succ kj3 =>
        have H := HA.out
        clear HA
        simp only [label_Split.j0] at H
        by_cases c6 : x22_3 = true
        · subst c6
          have H1 : (some (([] : List ByteArray), 41)) = some (r1, r2) := by rw [if_pos rfl] at H; exact H
          clear H
          have H := H1
          clear H1
          simp only [Option.some.injEq, Prod.mk.injEq] at H
          obtain ⟨rfl, rfl⟩ := H
          go_wp2
          go_ret2
          exact ⟨_, by first | rfl | (simp [errW_none, errW_some] <;> rfl) | (simp [*, errW_none, errW_some] <;> rfl), by first | exact Kd.R_nil _ _ _ _ _ | exact Kd.N_nil _ _ _ _ _ | exact Kd.V_nil _ _ _ _ _ | exact Kd.Q_nil _ _ _ _ _ | exact Kd.S_nil _ _ _ _ _, by repeat (first | (with_reducible first | exact HB.out | apply below_alloc | apply pw_below_drewN | apply below_drew1) | exact HB.out)⟩
        · replace c6 := Bool.eq_false_iff.mpr c6
          subst c6
          have H1 : ((strings_Split.f t110 (⟨#[47]⟩ : ByteArray)).bind fun t112 => (if (t112.length : Int) > 8 then (some (([] : List ByteArray), 41)) else (label_Split.l0 kj3 t112 t112 (t112.length : Int) 0))) = some (r1, r2) := by rw [if_neg (show ¬ (false = true) by decide)] at H; exact H
          clear H
          have H := H1
          clear H1
          replace H := Option.bind_eq_some_iff.mp H
          obtain ⟨t112, A70, H⟩ := H
          replace H : (if (t112.length : Int) > 8 then (some (([] : List ByteArray), 41)) else (label_Split.l0 kj3 t112 t112 (t112.length : Int) 0)) = some (r1, r2) := H
          have A7 := Aside0.mk A70
          clear A70
          by_cases c8 : (t112.length : Int) > 8
          · rw [if_pos c8] at H
            have c8b0 : decide (8 < (t112.length : Int)) = true := decide_eq_true c8
            have c8b1 : decide (8 < t112.length) = true := decide_eq_true (by omega)
            clear c8
            simp only [Option.some.injEq, Prod.mk.injEq] at H
            obtain ⟨rfl, rfl⟩ := H
            go_wp2_with (first | ((with_reducible refine gate_callee (f := 68) rfl ?_); refine goesL_ (some 24) rfl rfl Tryz.func68 (by kernel_rfl) rfl #[.string t110, .string (⟨#[47]⟩ : ByteArray)] rfl (by (try simp only [List.map_toArray, List.map_cons, List.map_nil]); first | done | rfl | (simp only [List.length_drop, List.length_take]; rfl)) ?_; (with_reducible refine (strings_Split.calls t110 (⟨#[47]⟩ : ByteArray) t112 _ A7.out (Glob.below hG (by repeat (first | (with_reducible first | exact HB.out | apply below_alloc | apply pw_below_drewN | apply below_drew1) | exact HB.out)))).mono ?_); rintro e w9 ⟨v113, rfl, ho0, hb⟩; refine ⟨_, rfl, ?_⟩; have n0_ := Aside0.mk (Kd.R_lower ho0 (below_size (by repeat (first | (with_reducible first | exact HB.out | apply below_alloc | apply pw_below_drewN | apply below_drew1) | exact HB.out)))); have n1_ := Aside0.mk (below_step (by repeat (first | (with_reducible first | exact HB.out | apply below_alloc | apply pw_below_drewN | apply below_drew1) | exact HB.out)) hb); clear HB; have HO114 := n0_; have HB := n1_; clear n0_ n1_; (try clear hb); (try clear hb2); (try clear hk); (try clear hi); (try clear ho0); obtain ⟨Ao10, co10, eo10⟩ := Kd.R_slice HO114.out; subst eo10))
            go_ret2
            exact ⟨_, by first | rfl | (simp [errW_none, errW_some] <;> rfl) | (simp [*, errW_none, errW_some] <;> rfl), by first | exact Kd.R_nil _ _ _ _ _ | exact Kd.N_nil _ _ _ _ _ | exact Kd.V_nil _ _ _ _ _ | exact Kd.Q_nil _ _ _ _ _ | exact Kd.S_nil _ _ _ _ _, by repeat (first | (with_reducible first | exact HB.out | apply below_alloc | apply pw_below_drewN | apply below_drew1) | exact HB.out)⟩
          · rw [if_neg c8] at H
            have c8b0 : decide (8 < (t112.length : Int)) = false := decide_eq_false c8
            have c8b1 : decide (8 < t112.length) = false := decide_eq_false (by omega)
            clear c8
            have H' := Aside0.mk H
            clear H
            go_wp2_with (first | ((with_reducible refine gate_callee (f := 68) rfl ?_); refine goesL_ (some 24) rfl rfl Tryz.func68 (by kernel_rfl) rfl #[.string t110, .string (⟨#[47]⟩ : ByteArray)] rfl (by (try simp only [List.map_toArray, List.map_cons, List.map_nil]); first | done | rfl | (simp only [List.length_drop, List.length_take]; rfl)) ?_; (with_reducible refine (strings_Split.calls t110 (⟨#[47]⟩ : ByteArray) t112 _ A7.out (Glob.below hG (by repeat (first | (with_reducible first | exact HB.out | apply below_alloc | apply pw_below_drewN | apply below_drew1) | exact HB.out)))).mono ?_); rintro e w11 ⟨v113, rfl, ho0, hb⟩; refine ⟨_, rfl, ?_⟩; have n0_ := Aside0.mk (Kd.R_lower ho0 (below_size (by repeat (first | (with_reducible first | exact HB.out | apply below_alloc | apply pw_below_drewN | apply below_drew1) | exact HB.out)))); have n1_ := Aside0.mk (below_step (by repeat (first | (with_reducible first | exact HB.out | apply below_alloc | apply pw_below_drewN | apply below_drew1) | exact HB.out)) hb); clear HB; have HO114 := n0_; have HB := n1_; clear n0_ n1_; (try clear hb); (try clear hb2); (try clear hk); (try clear hi); (try clear ho0); obtain ⟨Ao12, co12, eo12⟩ := Kd.R_slice HO114.out; subst eo12))
            go_loopg [30] kj3 (fun kq v30 w' => ∃ (x30_2 : Int), v30 = .int .i64 x30_2 ∧ Aside0 (label_Split.l0 kq t112 t112 (t112.length : Int) x30_2 = some (r1, r2)) ∧ Aside0 (kq ≤ kj3) ∧ Aside0 (Kd.R Kd.string 9 w' w.heap.size (fun _ => True) (.slice Ao12 t112.length co12) t112) ∧ Aside0 (Kd.R Kd.string 9 w' w.heap.size (fun _ => True) (.slice Ao12 t112.length co12) t112) ∧ Aside0 (Below w.heap.size w w'))
            case atStart => exact ⟨(0), (by first | rfl | (simp; done) | (simp [*]; done) | (simp; rw [Bool.eq_iff_iff]; simp; done) | (rw [Bool.eq_iff_iff]; simp; done)), H', ⟨Nat.le_refl _⟩, ⟨by (with_reducible repeat (first | apply Kd.R_alloc | apply Kd.R_drewN | apply Kd.R_drew)); exact HO114.out⟩, ⟨by (with_reducible repeat (first | apply Kd.R_alloc | apply Kd.R_drewN | apply Kd.R_drew)); exact HO114.out⟩, ⟨by repeat (first | (with_reducible first | exact HB.out | apply below_alloc | apply pw_below_drewN | apply below_drew1) | exact HB.out)⟩⟩
            case round =>
              clear H'
              try clear c2
              try clear c2b0
              try clear c2b1
              try clear p2
              try clear c4
              try clear c5
              try clear c6
              try clear c8
              try clear c8b0
              try clear c8b1
              try clear p2
              obtain ⟨x30_2, rfl, HA, HK2, HO_6, HO_28, HB⟩ := hrel
              cases gk with
              | zero => exact absurd HA.out (by simp [label_Split.l0])
              | succ k2 =>
                have H := HA.out
                clear HA
                simp only [label_Split.l0] at H
                by_cases c13 : x30_2 < (t112.length : Int)
                · rw [if_pos c13] at H
                  have c13b0 : decide (x30_2 < (t112.length : Int)) = true := decide_eq_true c13
                  clear c13
                  by_cases c14 : 0 ≤ x30_2
                  · rw [if_pos c14] at H
                    have c14b0 : decide (0 ≤ x30_2) = true := decide_eq_true c14
                    clear c14
                    by_cases c15 : x30_2 < (t112.length : Int)
                    · rw [if_pos c15] at H
                      have c15b0 : decide (x30_2 < (t112.length : Int)) = true := decide_eq_true c15
                      clear c15
                      replace H := Option.bind_eq_some_iff.mp H
                      obtain ⟨t116, A160, H⟩ := H
                      replace H : (if t116 = true then (label_Split.l0 k2 t112 t112 (t112.length : Int) (wrap64 (x30_2 + 1))) else (some (([] : List ByteArray), 41))) = some (r1, r2) := H
                      have A16 := Aside0.mk A160
                      clear A160
                      by_cases c17 : t116 = true
                      · subst c17
                        have H1 : (label_Split.l0 k2 t112 t112 (t112.length : Int) (wrap64 (x30_2 + 1))) = some (r1, r2) := by rw [if_pos rfl] at H; exact H
                        clear H
                        have H := H1
                        clear H1
                        have H' := Aside0.mk H
                        clear H
                        have p115 : 0 ≤ (x30_2 : Int) := of_decide_eq_true (by first | (with_reducible assumption) | assumption)
                        have q115 : x30_2 < (t112.length : Int) := of_decide_eq_true (by first | (with_reducible assumption) | assumption)
                        obtain ⟨ad115, e115, hx115_0⟩ := Kd.at_string (Kd.R_reads' HO_28.out).2.2 x30_2 p115 q115
                        cases e115
                        replace p115 := eq_true p115
                        replace q115 := eq_true q115
                        go_wp2_with (first | ((with_reducible refine gate_callee (f := 69) rfl ?_); refine goesL_ (some 35) rfl rfl Tryz.func69 (by kernel_rfl) rfl #[.string (rdOf ByteArray.empty t112 x30_2)] rfl (by (try simp only [List.map_toArray, List.map_cons, List.map_nil]); first | done | rfl | (simp only [List.length_drop, List.length_take]; rfl)) ?_; (with_reducible refine (label_Name.calls (rdOf ByteArray.empty t112 x30_2) true _ A16.out).mono ?_); rintro e w18 ⟨rfl, hb⟩; refine ⟨_, rfl, ?_⟩; have n0_ := Aside0.mk (Kd.R_below (by (with_reducible repeat (first | apply Kd.R_alloc | apply Kd.R_drewN | apply Kd.R_drew)); exact HO_6.out) hb); have n1_ := Aside0.mk (Kd.R_below (by (with_reducible repeat (first | apply Kd.R_alloc | apply Kd.R_drewN | apply Kd.R_drew)); exact HO_28.out) hb); have n2_ := Aside0.mk (below_step (by repeat (first | (with_reducible first | exact HB.out | apply below_alloc | apply pw_below_drewN | apply below_drew1) | exact HB.out)) hb); clear HO_6; clear HO_28; clear HB; have HO_6 := n0_; have HO_28 := n1_; have HB := n2_; clear n0_ n1_ n2_; (try clear hb); (try clear hb2); (try clear hk); (try clear hi)))
                        go_roundg k2
                        case measure => have := HJ3.out; have := HK2.out; omega
                        case rel => exact ⟨(wrap64 (x30_2 + 1)), (by first | rfl | (simp; done) | (simp [*]; done) | (simp; rw [Bool.eq_iff_iff]; simp; done) | (rw [Bool.eq_iff_iff]; simp; done)), H', ⟨by have := HJ3.out; have := HK2.out; omega⟩, ⟨by (with_reducible repeat (first | apply Kd.R_alloc | apply Kd.R_drewN | apply Kd.R_drew)); exact HO_6.out⟩, ⟨by (with_reducible repeat (first | apply Kd.R_alloc | apply Kd.R_drewN | apply Kd.R_drew)); exact HO_28.out⟩, ⟨by repeat (first | (with_reducible first | exact HB.out | apply below_alloc | apply pw_below_drewN | apply below_drew1) | exact HB.out)⟩⟩
                      · replace c17 := Bool.eq_false_iff.mpr c17
                        subst c17
                        have H1 : (some (([] : List ByteArray), 41)) = some (r1, r2) := by rw [if_neg (show ¬ (false = true) by decide)] at H; exact H
                        clear H
                        have H := H1
                        clear H1
                        simp only [Option.some.injEq, Prod.mk.injEq] at H
                        obtain ⟨rfl, rfl⟩ := H
                        have p115 : 0 ≤ (x30_2 : Int) := of_decide_eq_true (by first | (with_reducible assumption) | assumption)
                        have q115 : x30_2 < (t112.length : Int) := of_decide_eq_true (by first | (with_reducible assumption) | assumption)
                        obtain ⟨ad115, e115, hx115_0⟩ := Kd.at_string (Kd.R_reads' HO_28.out).2.2 x30_2 p115 q115
                        cases e115
                        replace p115 := eq_true p115
                        replace q115 := eq_true q115
                        go_wp2_with (first | ((with_reducible refine gate_callee (f := 69) rfl ?_); refine goesL_ (some 35) rfl rfl Tryz.func69 (by kernel_rfl) rfl #[.string (rdOf ByteArray.empty t112 x30_2)] rfl (by (try simp only [List.map_toArray, List.map_cons, List.map_nil]); first | done | rfl | (simp only [List.length_drop, List.length_take]; rfl)) ?_; (with_reducible refine (label_Name.calls (rdOf ByteArray.empty t112 x30_2) false _ A16.out).mono ?_); rintro e w19 ⟨rfl, hb⟩; refine ⟨_, rfl, ?_⟩; have n0_ := Aside0.mk (Kd.R_below (by (with_reducible repeat (first | apply Kd.R_alloc | apply Kd.R_drewN | apply Kd.R_drew)); exact HO_6.out) hb); have n1_ := Aside0.mk (Kd.R_below (by (with_reducible repeat (first | apply Kd.R_alloc | apply Kd.R_drewN | apply Kd.R_drew)); exact HO_28.out) hb); have n2_ := Aside0.mk (below_step (by repeat (first | (with_reducible first | exact HB.out | apply below_alloc | apply pw_below_drewN | apply below_drew1) | exact HB.out)) hb); clear HO_6; clear HO_28; clear HB; have HO_6 := n0_; have HO_28 := n1_; have HB := n2_; clear n0_ n1_ n2_; (try clear hb); (try clear hb2); (try clear hk); (try clear hi)))
                        go_ret2
                        exact ⟨_, by first | rfl | (simp [errW_none, errW_some] <;> rfl) | (simp [*, errW_none, errW_some] <;> rfl), by first | exact Kd.R_nil _ _ _ _ _ | exact Kd.N_nil _ _ _ _ _ | exact Kd.V_nil _ _ _ _ _ | exact Kd.Q_nil _ _ _ _ _ | exact Kd.S_nil _ _ _ _ _, by repeat (first | (with_reducible first | exact HB.out | apply below_alloc | apply pw_below_drewN | apply below_drew1) | exact HB.out)⟩
                    · rw [if_neg c15] at H
                      exact absurd H (by simp)
                  · rw [if_neg c14] at H
                    exact absurd H (by simp)
                · rw [if_neg c13] at H
                  have c13b0 : decide (x30_2 < (t112.length : Int)) = false := decide_eq_false c13
                  clear c13
                  simp only [Option.some.injEq, Prod.mk.injEq] at H
                  obtain ⟨rfl, rfl⟩ := H
                  go_wp2
                  go_ret2
                  exact ⟨_, by first | rfl | (simp [errW_none, errW_some] <;> rfl) | (simp [*, errW_none, errW_some] <;> rfl), by (with_reducible repeat (first | apply Kd.R_alloc | apply Kd.R_drewN | apply Kd.R_drew)); exact HO_6.out, by repeat (first | (with_reducible first | exact HB.out | apply below_alloc | apply pw_below_drewN | apply below_drew1) | exact HB.out)⟩
end Go.Proofs.YtphddbijdfmpjaaGreatDoor.Q
namespace Go.Proofs.YtphddbijdfmpjaaGreatDoor.Q
open Go.RowKit Go.Proofs.YtphddbijdfmpjaaGreatDoorW.PrintWords Go.Proofs.YtphddbijdfmpjaaGreatDoorW.PrintLast Go.Proofs.YtphddbijdfmpjaaGreatDoorW.PrintMore
attribute [local go_sem] max2_int min2_int max_two min_two max_three min_three max_four min_four   -- for this text's walks alone
set_option linter.unusedVariables false
set_option linter.unusedSimpArgs false
def label_Path.f (k : Nat) (a0 : ByteArray) : Option (Int) := (label_Split.f k a0).bind fun bt117 => (some bt117.2)
theorem label_Path.mono : ∀ a0 k, LeO (label_Path.f k a0) (label_Path.f (k + 1) a0) := by
  intro a0 k
  unfold label_Path.f
  repeat' first
      | (with_reducible exact label_Split.mono _ _)
      | (with_reducible exact LeO.refl _)
      | (with_reducible exact LeO.none _)
      | (with_reducible refine LeO.ite ?_ ?_)
      | (with_reducible refine LeO.bind ?_ (fun _ => ?_))
      | exact label_Split.mono _ _
      | exact LeO.none _
      | refine LeO.ite ?_ ?_
      | refine LeO.bind ?_ (fun _ => ?_)
set_option maxHeartbeats 8000000 in
set_option maxRecDepth 100000 in
theorem label_Path.calls (k : Nat) (a0 : ByteArray) (r : Int) (w : World) (h : label_Path.f k a0 = some r) (hG : Glob w) :
    Calls Tryz.prog 34 #[.string a0] w fun e w' => e = .returned (.int .i64 r) ∧ Below w.heap.size w w' := by
  have HB := Aside0.mk (Below.refl w.heap.size w)
  have H : ((label_Split.f k a0).bind fun bt117 => (some bt117.2)) = some r := h
  clear h
  replace H := Option.bind_eq_some_iff.mp H
  obtain ⟨⟨t117, t118⟩, A20, H⟩ := H
  replace H : (some t118) = some r := H
  have A2 := Aside0.mk A20
  clear A20
  obtain rfl := Option.some.inj H
  go_enter Tryz.func34, Tryz.ntmps34
  go_wp2_with (first | ((with_reducible refine gate_callee (f := 47) rfl ?_); refine goesL_ (some 7) rfl rfl Tryz.func47 (by kernel_rfl) rfl #[.string a0] rfl (by (try simp only [List.map_toArray, List.map_cons, List.map_nil]); first | done | rfl | (simp only [List.length_drop, List.length_take]; rfl)) ?_; (with_reducible refine (label_Split.calls k a0 t117 t118 _ A2.out (Glob.below hG (by repeat (first | (with_reducible first | exact HB.out | apply below_alloc | apply pw_below_drewN | apply below_drew1) | exact HB.out)))).mono ?_); rintro e w3 ⟨v119, rfl, ho0, hb⟩; refine ⟨_, rfl, ?_⟩; have n0_ := Aside0.mk (Kd.R_lower ho0 (below_size (by repeat (first | (with_reducible first | exact HB.out | apply below_alloc | apply pw_below_drewN | apply below_drew1) | exact HB.out)))); have n1_ := Aside0.mk (below_step (by repeat (first | (with_reducible first | exact HB.out | apply below_alloc | apply pw_below_drewN | apply below_drew1) | exact HB.out)) hb); clear HB; have HO120 := n0_; have HB := n1_; clear n0_ n1_; (try clear hb); (try clear hb2); (try clear hk); (try clear hi); (try clear ho0)))
  go_ret
  exact ⟨by first | rfl | (simp [errW_none, errW_some] <;> rfl) | (simp [*, errW_none, errW_some] <;> rfl), by repeat (first | (with_reducible first | exact HB.out | apply below_alloc | apply pw_below_drewN | apply below_drew1) | exact HB.out)⟩
end Go.Proofs.YtphddbijdfmpjaaGreatDoor.Q
namespace Go.Proofs.YtphddbijdfmpjaaGreatDoor.Q
open Go.RowKit Go.Proofs.YtphddbijdfmpjaaGreatDoorW.PrintWords Go.Proofs.YtphddbijdfmpjaaGreatDoorW.PrintLast Go.Proofs.YtphddbijdfmpjaaGreatDoorW.PrintMore
attribute [local go_sem] max2_int min2_int max_two min_two max_three min_three max_four min_four   -- for this text's walks alone
set_option linter.unusedVariables false
set_option linter.unusedSimpArgs false
def label_above.f (a0 : ByteArray) : Option (ByteArray) := (strings_LastIndex.f a0 (⟨#[47]⟩ : ByteArray)).bind fun t121 => (if 0 ≤ (mx 1 t121) then (if (mx 1 t121) ≤ (a0.size : Int) then (some (a0.extract 0 ((mx 1 t121) : Int).toNat)) else (none)) else (none))
set_option maxHeartbeats 8000000 in
set_option maxRecDepth 100000 in
theorem label_above.calls (a0 : ByteArray) (r : ByteArray) (w : World) (h : label_above.f a0 = some r) :
    Calls Tryz.prog 53 #[.string a0] w fun e w' => e = .returned (.string r) ∧ Below w.heap.size w w' := by
  have HB := Aside0.mk (Below.refl w.heap.size w)
  have H : ((strings_LastIndex.f a0 (⟨#[47]⟩ : ByteArray)).bind fun t121 => (if 0 ≤ (mx 1 t121) then (if (mx 1 t121) ≤ (a0.size : Int) then (some (a0.extract 0 ((mx 1 t121) : Int).toNat)) else (none)) else (none))) = some r := h
  clear h
  replace H := Option.bind_eq_some_iff.mp H
  obtain ⟨t121, A20, H⟩ := H
  replace H : (if 0 ≤ (mx 1 t121) then (if (mx 1 t121) ≤ (a0.size : Int) then (some (a0.extract 0 ((mx 1 t121) : Int).toNat)) else (none)) else (none)) = some r := H
  have A2 := Aside0.mk A20
  clear A20
  obtain ⟨ji3, hji3⟩ : ∃ j_ : Int, (mx 1 t121) = j_ := ⟨_, rfl⟩
  replace H : (if 0 ≤ (ji3) then (if (ji3) ≤ (a0.size : Int) then (some (a0.extract 0 ((ji3) : Int).toNat)) else (none)) else (none)) = some r := by first | (rw [hji3] at H; exact H) | (simp only [hji3] at H ⊢; exact H)
  (try rw [hji3] at A2)
  (try (have hji3l : 1 ≤ ji3 := by (rw [← hji3]; unfold mx; (repeat' split) <;> omega)))
  (try (have hji3m : 0 ≤ ji3 := by omega))
  have hji3_ : (if 1 < t121 then t121 else 1) = ji3 := hji3
  by_cases c4 : 0 ≤ (ji3)
  · rw [if_pos c4] at H
    have c4b0 := eq_true c4
    have c4b1 : decide (0 ≤ (ji3)) = true := decide_eq_true c4
    clear c4
    by_cases c5 : (ji3) ≤ (a0.size : Int)
    · rw [if_pos c5] at H
      have c5b0 := eq_true c5
      have c5b1 : decide ((ji3) ≤ (a0.size : Int)) = true := decide_eq_true c5
      clear c5
      obtain rfl := Option.some.inj H
      go_enter Tryz.func53, Tryz.ntmps53
      go_wp2_with (first | ((with_reducible refine gate_callee (f := 78) rfl ?_); refine goesL_ (some 5) rfl rfl Tryz.func78 (by kernel_rfl) rfl #[.string a0, .string (⟨#[47]⟩ : ByteArray)] rfl (by (try simp only [List.map_toArray, List.map_cons, List.map_nil]); first | done | rfl | (simp only [List.length_drop, List.length_take]; rfl)) ?_; (with_reducible refine (strings_LastIndex.calls a0 (⟨#[47]⟩ : ByteArray) t121 _ A2.out).mono ?_); rintro e w' ⟨rfl, ⟨nd, rfl⟩⟩; refine ⟨_, rfl, ?_⟩))
      go_ret
      exact ⟨by first | rfl | (simp [errW_none, errW_some] <;> rfl) | (simp only [← hji3]; first | rfl | (simp [errW_none, errW_some] <;> rfl)) | (simp [*, errW_none, errW_some] <;> rfl), by repeat (first | (with_reducible first | exact HB.out | apply below_alloc | apply pw_below_drewN | apply below_drew1) | exact HB.out)⟩
    · rw [if_neg c5] at H
      exact absurd H (by simp)
  · rw [if_neg c4] at H
    exact absurd H (by simp)
end Go.Proofs.YtphddbijdfmpjaaGreatDoor.Q
namespace Go.Proofs.YtphddbijdfmpjaaGreatDoor.Q
open Go.RowKit Go.Proofs.YtphddbijdfmpjaaGreatDoorW.PrintWords Go.Proofs.YtphddbijdfmpjaaGreatDoorW.PrintLast Go.Proofs.YtphddbijdfmpjaaGreatDoorW.PrintMore
attribute [local go_sem] max2_int min2_int max_two min_two max_three min_three max_four min_four   -- for this text's walks alone
set_option linter.unusedVariables false
set_option linter.unusedSimpArgs false
def label_Line.l0 : Nat → ByteArray → List ByteArray → Option (List ByteArray × Int)
  | 0, _, _ => none
  | k + 1, x0, x5 => if x0.toList = ([47] : List UInt8) then (some (x5, 0)) else ((label_above.f x0).bind fun t126 => (if x5.length < 8796093022208 then (label_Line.l0 k t126 (x5 ++ [t126])) else (none)))
def label_Line.f (k : Nat) (a0 : ByteArray) : Option (List ByteArray × Int) := (label_Path.f k a0).bind fun t122 => (if t122 = 0 then (label_Line.l0 k a0 (([a0] : List ByteArray))) else (some (([] : List ByteArray), t122)))
theorem label_Line.mono_l : ∀ k, (∀ y0 y1, LeO (label_Line.l0 k y0 y1) (label_Line.l0 (k + 1) y0 y1))
  | 0 => fun _ _ r h => by simp [label_Line.l0] at h
  | k + 1 => by
    have ih0 := label_Line.mono_l k
    · intro y0 y1
      unfold label_Line.l0
      repeat' first
      | (with_reducible exact ih0 _ _)
      | (with_reducible exact label_Path.mono _ _)
      | (with_reducible exact LeO.refl _)
      | (with_reducible exact LeO.none _)
      | (with_reducible refine LeO.ite ?_ ?_)
      | (with_reducible refine LeO.bind ?_ (fun _ => ?_))
      | exact ih0 _ _
      | exact label_Path.mono _ _
      | exact LeO.none _
      | refine LeO.ite ?_ ?_
      | refine LeO.bind ?_ (fun _ => ?_)
theorem label_Line.mono : ∀ a0 k, LeO (label_Line.f k a0) (label_Line.f (k + 1) a0) := by
  intro a0 k
  have ih0 := label_Line.mono_l k
  unfold label_Line.f
  repeat' first
      | (with_reducible exact ih0 _ _)
      | (with_reducible exact label_Path.mono _ _)
      | (with_reducible exact LeO.refl _)
      | (with_reducible exact LeO.none _)
      | (with_reducible refine LeO.ite ?_ ?_)
      | (with_reducible refine LeO.bind ?_ (fun _ => ?_))
      | exact ih0 _ _
      | exact label_Path.mono _ _
      | exact LeO.none _
      | refine LeO.ite ?_ ?_
      | refine LeO.bind ?_ (fun _ => ?_)
set_option maxHeartbeats 8000000 in
set_option maxRecDepth 100000 in
theorem label_Line.calls (k : Nat) (a0 : ByteArray) (r1 : List ByteArray) (r2 : Int) (w : World) (h : label_Line.f k a0 = some (r1, r2)) (hG : Glob w) :
    Calls Tryz.prog 38 #[.string a0] w fun e w' => ∃ v0_ : Value, e = .returned (.tuple #[v0_, .int .i64 r2]) ∧ Kd.R Kd.string 9 w' w.heap.size (fun _ => True) v0_ r1 ∧ Below w.heap.size w w' := by
  have HB := Aside0.mk (Below.refl w.heap.size w)
  have H : ((label_Path.f k a0).bind fun t122 => (if t122 = 0 then (label_Line.l0 k a0 (([a0] : List ByteArray))) else (some (([] : List ByteArray), t122)))) = some (r1, r2) := h
  clear h
  replace H := Option.bind_eq_some_iff.mp H
  obtain ⟨t122, A20, H⟩ := H
  replace H : (if t122 = 0 then (label_Line.l0 k a0 (([a0] : List ByteArray))) else (some (([] : List ByteArray), t122))) = some (r1, r2) := H
  have A2 := Aside0.mk A20
  clear A20
  by_cases c3 : t122 = 0
  · rw [if_pos c3] at H
    have c3b0 : (t122 == 0) = true := beq_iff_eq.mpr c3
    have c3b1 : (t122 != 0) = false := bne_eq_false_iff_eq.mpr c3
    clear c3
    obtain ⟨y123, hy123⟩ : ∃ y_ : List ByteArray, y_ = (([a0] : List ByteArray)) := ⟨_, rfl⟩
    replace H : (label_Line.l0 k a0 y123) = some (r1, r2) := by first | (rw [hy123]; with_reducible exact H) | (have H2_ := (Option.bind_some _ _).symm.trans H; rw [hy123]; with_reducible exact H2_) | (have H2_ := (Option.bind_some _ _).symm.trans H; with_reducible exact H2_) | with_reducible exact H | (rw [hy123]; exact H) | exact H
    have Ny123 := Aside0.mk hy123
    clear hy123
    have H' := Aside0.mk H
    clear H
    go_enter Tryz.func38, Tryz.ntmps38
    go_wp2_with (first | ((with_reducible refine gate_callee (f := 34) rfl ?_); refine goesL_ (some 7) rfl rfl Tryz.func34 (by kernel_rfl) rfl #[.string a0] rfl (by (try simp only [List.map_toArray, List.map_cons, List.map_nil]); first | done | rfl | (simp only [List.length_drop, List.length_take]; rfl)) ?_; (with_reducible refine (label_Path.calls k a0 t122 _ A2.out (Glob.below hG (by repeat (first | (with_reducible first | exact HB.out | apply below_alloc | apply pw_below_drewN | apply below_drew1) | exact HB.out)))).mono ?_); rintro e w4 ⟨rfl, hb⟩; refine ⟨_, rfl, ?_⟩; have n0_ := Aside0.mk (below_step (by repeat (first | (with_reducible first | exact HB.out | apply below_alloc | apply pw_below_drewN | apply below_drew1) | exact HB.out)) hb); clear HB; have HB := n0_; clear n0_; (try clear hb); (try clear hb2); (try clear hk); (try clear hi)) | ((with_reducible refine gate_dst (N := 12) rfl ?_); refine Kd.R_lit Kd.string _ 9 ?hg (N := 12) ?hd (xs := ([a0] : List ByteArray)) (inner := [.string a0]) (ok := fun _ => True) (okp := fun _ => True) ?hr ?hp (fun _ hk => hk) trivial (Below.refl _ _) (Nat.le_refl _) (by simp) ?_; (case hd => rfl); (case hg => rfl); (case hr => first | (go_simp; done) | (go_simp; rfl)); (case hp => exact (Reps.one (show Kd.M Kd.string _ _ _ a0 [.string a0] from rfl) (Reps.none _ _))); intro v124 w5 ho6 hb hg_ hnew_; clear hg_ hnew_; (first | rw [← Ny123.out] at ho6 | (simp only [Int.reduceToNat] at ho6; rw [← Ny123.out] at ho6)); have n0_ := Aside0.mk (Kd.R_lower ho6 (below_size (by repeat (first | (with_reducible first | exact HB.out | apply below_alloc | apply pw_below_drewN | apply below_drew1) | exact HB.out)))); have n1_ := Aside0.mk (below_step (by repeat (first | (with_reducible first | exact HB.out | apply below_alloc | apply pw_below_drewN | apply below_drew1) | exact HB.out)) hb); clear HB; have HO125 := n0_; have HB := n1_; clear n0_ n1_; clear hb ho6))
    go_loopg [0, 5] k (fun kq v0 v5 w' => ∃ (x0_1 : ByteArray) (x5_1 : List ByteArray), v0 = .string x0_1 ∧ Aside0 (label_Line.l0 kq x0_1 x5_1 = some (r1, r2)) ∧ Aside0 (kq ≤ k) ∧ Aside0 (Kd.R Kd.string 9 w' w.heap.size (fun _ => True) v5 x5_1) ∧ Aside0 (Below w.heap.size w w'))
    case atStart => exact ⟨(a0), (y123), (by first | rfl | (simp; done) | (simp [*]; done) | (simp; rw [Bool.eq_iff_iff]; simp; done) | (rw [Bool.eq_iff_iff]; simp; done)), H', ⟨Nat.le_refl _⟩, ⟨by (with_reducible repeat (first | apply Kd.R_alloc | apply Kd.R_drewN | apply Kd.R_drew)); exact HO125.out⟩, ⟨by repeat (first | (with_reducible first | exact HB.out | apply below_alloc | apply pw_below_drewN | apply below_drew1) | exact HB.out)⟩⟩
    case round =>
      clear H'
      try clear p2
      try clear c3
      try clear c3b0
      try clear c3b1
      obtain ⟨x0_1, x5_1, rfl, HA, HK1, HO_5, HB⟩ := hrel
      cases gk with
      | zero => exact absurd HA.out (by simp [label_Line.l0])
      | succ k1 =>
        have H := HA.out
        clear HA
        simp only [label_Line.l0] at H
        by_cases c7 : x0_1.toList = ([47] : List UInt8)
        · rw [if_pos c7] at H
          have c7b0 : (x0_1.toList == ([47] : List UInt8)) = true := beq_iff_eq.mpr c7
          have c7b1 : (x0_1.toList != ([47] : List UInt8)) = false := bne_eq_false_iff_eq.mpr c7
          clear c7
          simp only [Option.some.injEq, Prod.mk.injEq] at H
          obtain ⟨rfl, rfl⟩ := H
          go_wp2
          go_ret2
          exact ⟨_, by first | rfl | (simp [errW_none, errW_some] <;> rfl) | (simp [*, errW_none, errW_some] <;> rfl), by (with_reducible repeat (first | apply Kd.R_alloc | apply Kd.R_drewN | apply Kd.R_drew)); exact HO_5.out, by repeat (first | (with_reducible first | exact HB.out | apply below_alloc | apply pw_below_drewN | apply below_drew1) | exact HB.out)⟩
        · rw [if_neg c7] at H
          have c7b0 : (x0_1.toList == ([47] : List UInt8)) = false := beq_eq_false_iff_ne.mpr c7
          have c7b1 : (x0_1.toList != ([47] : List UInt8)) = true := bne_iff_ne.mpr c7
          replace H := Option.bind_eq_some_iff.mp H
          obtain ⟨t126, A80, H⟩ := H
          replace H : (if x5_1.length < 8796093022208 then (label_Line.l0 k1 t126 (x5_1 ++ [t126])) else (none)) = some (r1, r2) := H
          have A8 := Aside0.mk A80
          clear A80
          by_cases c9 : x5_1.length < 8796093022208
          · rw [if_pos c9] at H
            have LMc9 := Aside0.mk c9
            clear c9
            obtain ⟨y127, hy127⟩ : ∃ y_ : List ByteArray, y_ = (x5_1 ++ [t126]) := ⟨_, rfl⟩
            replace H : (label_Line.l0 k1 t126 y127) = some (r1, r2) := by first | (rw [hy127]; with_reducible exact H) | (have H2_ := (Option.bind_some _ _).symm.trans H; rw [hy127]; with_reducible exact H2_) | (have H2_ := (Option.bind_some _ _).symm.trans H; with_reducible exact H2_) | with_reducible exact H | (rw [hy127]; exact H) | exact H
            have Ny127 := Aside0.mk hy127
            clear hy127
            have H' := Aside0.mk H
            clear H
            go_wp2_with (first | ((with_reducible refine gate_callee (f := 53) rfl ?_); refine goesL_ (some 16) rfl rfl Tryz.func53 (by kernel_rfl) rfl #[.string x0_1] rfl (by (try simp only [List.map_toArray, List.map_cons, List.map_nil]); first | done | rfl | (simp only [List.length_drop, List.length_take]; rfl)) ?_; (with_reducible refine (label_above.calls x0_1 t126 _ A8.out).mono ?_); rintro e w10 ⟨rfl, hb⟩; refine ⟨_, rfl, ?_⟩; have n0_ := Aside0.mk (Kd.R_below (by (with_reducible repeat (first | apply Kd.R_alloc | apply Kd.R_drewN | apply Kd.R_drew)); exact HO_5.out) hb); have n1_ := Aside0.mk (below_step (by repeat (first | (with_reducible first | exact HB.out | apply below_alloc | apply pw_below_drewN | apply below_drew1) | exact HB.out)) hb); clear HO_5; clear HB; have HO_5 := n0_; have HB := n1_; clear n0_ n1_; (try clear hb); (try clear hb2); (try clear hk); (try clear hi)) | ((with_reducible refine gate_builtin (b := .append) (xs := #[.tmp 17, .tmp 19]) rfl ?_); at_builtin; refine Kd.R_append Kd.string (w0 := w) w.heap.size rfl (.tmp 17) (.tmp 19) 49 9 (.string ⟨#[]⟩) 16 rfl Tryz.underlying49 info9 rfl (by decide) (by omega) u5 x5_1 t126 [.string t126] (fun _ => True) (fun _ => False) rfl rfl ?aP (fun _ hk => hk.elim) ?aF ?aO ?aB ?aS ?aL ?_; (case aP => exact rfl); (case aB => exact (by repeat (first | (with_reducible first | exact HB.out | apply below_alloc | apply pw_below_drewN | apply below_drew1) | exact HB.out))); (case aF => exact (fun _ _ => trivial)); (case aO => exact (by (with_reducible repeat (first | apply Kd.R_alloc | apply Kd.R_drewN | apply Kd.R_drew)); exact HO_5.out)); (case aS => exact (below_size (by repeat (first | (with_reducible first | exact HB.out | apply below_alloc | apply pw_below_drewN | apply below_drew1) | exact HB.out)))); (case aL => have := LMc9.out; omega); intro v128 w11 ho hb hg hat; rw [← Ny127.out] at ho; have n0_ := Aside0.mk (hb); have n1_ := Aside0.mk (ho); clear HB; clear HO_5; have HB := n0_; have HO129 := n1_; clear n0_ n1_; clear ho hb hg hat))
            go_roundg k1
            case measure => have := HK1.out; omega
            case rel => exact ⟨(t126), (y127), (by first | rfl | (simp; done) | (simp [*]; done) | (simp; rw [Bool.eq_iff_iff]; simp; done) | (rw [Bool.eq_iff_iff]; simp; done)), H', ⟨by have := HK1.out; omega⟩, ⟨by (with_reducible repeat (first | apply Kd.R_alloc | apply Kd.R_drewN | apply Kd.R_drew)); exact HO129.out⟩, ⟨by repeat (first | (with_reducible first | exact HB.out | apply below_alloc | apply pw_below_drewN | apply below_drew1) | exact HB.out)⟩⟩
          · rw [if_neg c9] at H
            exact absurd H (by simp)
  · rw [if_neg c3] at H
    have c3b0 : (t122 == 0) = false := beq_eq_false_iff_ne.mpr c3
    have c3b1 : (t122 != 0) = true := bne_iff_ne.mpr c3
    simp only [Option.some.injEq, Prod.mk.injEq] at H
    obtain ⟨rfl, rfl⟩ := H
    go_enter Tryz.func38, Tryz.ntmps38
    go_wp2_with (first | ((with_reducible refine gate_callee (f := 34) rfl ?_); refine goesL_ (some 7) rfl rfl Tryz.func34 (by kernel_rfl) rfl #[.string a0] rfl (by (try simp only [List.map_toArray, List.map_cons, List.map_nil]); first | done | rfl | (simp only [List.length_drop, List.length_take]; rfl)) ?_; (with_reducible refine (label_Path.calls k a0 t122 _ A2.out (Glob.below hG (by repeat (first | (with_reducible first | exact HB.out | apply below_alloc | apply pw_below_drewN | apply below_drew1) | exact HB.out)))).mono ?_); rintro e w12 ⟨rfl, hb⟩; refine ⟨_, rfl, ?_⟩; have n0_ := Aside0.mk (below_step (by repeat (first | (with_reducible first | exact HB.out | apply below_alloc | apply pw_below_drewN | apply below_drew1) | exact HB.out)) hb); clear HB; have HB := n0_; clear n0_; (try clear hb); (try clear hb2); (try clear hk); (try clear hi)))
    go_ret2
    exact ⟨_, by first | rfl | (simp [errW_none, errW_some] <;> rfl) | (simp [*, errW_none, errW_some] <;> rfl), by first | exact Kd.R_nil _ _ _ _ _ | exact Kd.N_nil _ _ _ _ _ | exact Kd.V_nil _ _ _ _ _ | exact Kd.Q_nil _ _ _ _ _ | exact Kd.S_nil _ _ _ _ _, by repeat (first | (with_reducible first | exact HB.out | apply below_alloc | apply pw_below_drewN | apply below_drew1) | exact HB.out)⟩
end Go.Proofs.YtphddbijdfmpjaaGreatDoor.Q
namespace Go.Proofs.YtphddbijdfmpjaaGreatDoor.Q
open Go.RowKit Go.Proofs.YtphddbijdfmpjaaGreatDoorW.PrintWords Go.Proofs.YtphddbijdfmpjaaGreatDoorW.PrintLast Go.Proofs.YtphddbijdfmpjaaGreatDoorW.PrintMore
attribute [local go_sem] max2_int min2_int max_two min_two max_three min_three max_four min_four   -- for this text's walks alone
set_option linter.unusedVariables false
set_option linter.unusedSimpArgs false
def strings_HasPrefix.f (a0 : ByteArray) (a1 : ByteArray) : Option (Bool) := (stringslite_HasPrefix.f a0 a1).bind fun t130 => (some t130)
set_option maxHeartbeats 8000000 in
set_option maxRecDepth 100000 in
theorem strings_HasPrefix.calls (a0 : ByteArray) (a1 : ByteArray) (r : Bool) (w : World) (h : strings_HasPrefix.f a0 a1 = some r) :
    Calls Tryz.prog 55 #[.string a0, .string a1] w fun e w' => e = .returned (.bool r) ∧ Drawn0 w w' := by
  have H : ((stringslite_HasPrefix.f a0 a1).bind fun t130 => (some t130)) = some r := h
  clear h
  replace H := Option.bind_eq_some_iff.mp H
  obtain ⟨t130, A30, H⟩ := H
  replace H : (some t130) = some r := H
  have A3 := Aside0.mk A30
  clear A30
  obtain rfl := Option.some.inj H
  go_enter Tryz.func55, Tryz.ntmps55
  go_wp2_with (first | ((with_reducible refine gate_callee (f := 79) rfl ?_); refine goesL_ (some 7) rfl rfl Tryz.func79 (by kernel_rfl) rfl #[.string a0, .string a1] rfl (by (try simp only [List.map_toArray, List.map_cons, List.map_nil]); first | done | rfl | (simp only [List.length_drop, List.length_take]; rfl)) ?_; (with_reducible refine (stringslite_HasPrefix.calls a0 a1 t130 _ A3.out).mono ?_); rintro e w' ⟨rfl, ⟨nd, rfl⟩⟩; refine ⟨_, rfl, ?_⟩))
  go_ret
  exact ⟨by first | rfl | (simp; done) | (simp [*]; done), by repeat (first | exact Drawn0.refl _ | apply Drawn0.step)⟩
end Go.Proofs.YtphddbijdfmpjaaGreatDoor.Q
namespace Go.Proofs.YtphddbijdfmpjaaGreatDoor.Q
open Go.RowKit Go.Proofs.YtphddbijdfmpjaaGreatDoorW.PrintWords Go.Proofs.YtphddbijdfmpjaaGreatDoorW.PrintLast Go.Proofs.YtphddbijdfmpjaaGreatDoorW.PrintMore
attribute [local go_sem] max2_int min2_int max_two min_two max_three min_three max_four min_four   -- for this text's walks alone
set_option linter.unusedVariables false
set_option linter.unusedSimpArgs false
def label_Under.f (k : Nat) (a0 : ByteArray) (a1 : ByteArray) : Option (Bool) := (label_Path.f k a0).bind fun t131 => (if t131 = 0 then ((label_Path.f k a1).bind fun t132 => (if t132 = 0 then (if a1.toList = ([47] : List UInt8) then (some true) else (if a0.toList = a1.toList then (some true) else (if a1.size + 1 ≤ 9223372036854775807 then ((strings_HasPrefix.f a0 (a1 ++ (⟨#[47]⟩ : ByteArray))).bind fun t133 => (some t133)) else (none)))) else (some false))) else (some false))
theorem label_Under.mono : ∀ a0 a1 k, LeO (label_Under.f k a0 a1) (label_Under.f (k + 1) a0 a1) := by
  intro a0 a1 k
  unfold label_Under.f
  repeat' first
      | (with_reducible exact label_Path.mono _ _)
      | (with_reducible exact LeO.refl _)
      | (with_reducible exact LeO.none _)
      | (with_reducible refine LeO.ite ?_ ?_)
      | (with_reducible refine LeO.bind ?_ (fun _ => ?_))
      | exact label_Path.mono _ _
      | exact LeO.none _
      | refine LeO.ite ?_ ?_
      | refine LeO.bind ?_ (fun _ => ?_)
set_option maxHeartbeats 8000000 in
set_option maxRecDepth 100000 in
theorem label_Under.calls (k : Nat) (a0 : ByteArray) (a1 : ByteArray) (r : Bool) (w : World) (h : label_Under.f k a0 a1 = some r) (hG : Glob w) :
    Calls Tryz.prog 43 #[.string a0, .string a1] w fun e w' => e = .returned (.bool r) ∧ Below w.heap.size w w' := by
  have HB := Aside0.mk (Below.refl w.heap.size w)
  have H : ((label_Path.f k a0).bind fun t131 => (if t131 = 0 then ((label_Path.f k a1).bind fun t132 => (if t132 = 0 then (if a1.toList = ([47] : List UInt8) then (some true) else (if a0.toList = a1.toList then (some true) else (if a1.size + 1 ≤ 9223372036854775807 then ((strings_HasPrefix.f a0 (a1 ++ (⟨#[47]⟩ : ByteArray))).bind fun t133 => (some t133)) else (none)))) else (some false))) else (some false))) = some r := h
  clear h
  replace H := Option.bind_eq_some_iff.mp H
  obtain ⟨t131, A30, H⟩ := H
  replace H : (if t131 = 0 then ((label_Path.f k a1).bind fun t132 => (if t132 = 0 then (if a1.toList = ([47] : List UInt8) then (some true) else (if a0.toList = a1.toList then (some true) else (if a1.size + 1 ≤ 9223372036854775807 then ((strings_HasPrefix.f a0 (a1 ++ (⟨#[47]⟩ : ByteArray))).bind fun t133 => (some t133)) else (none)))) else (some false))) else (some false)) = some r := H
  have A3 := Aside0.mk A30
  clear A30
  by_cases c4 : t131 = 0
  · rw [if_pos c4] at H
    have c4b0 : (t131 == 0) = true := beq_iff_eq.mpr c4
    have c4b1 : (t131 != 0) = false := bne_eq_false_iff_eq.mpr c4
    clear c4
    replace H := Option.bind_eq_some_iff.mp H
    obtain ⟨t132, A50, H⟩ := H
    replace H : (if t132 = 0 then (if a1.toList = ([47] : List UInt8) then (some true) else (if a0.toList = a1.toList then (some true) else (if a1.size + 1 ≤ 9223372036854775807 then ((strings_HasPrefix.f a0 (a1 ++ (⟨#[47]⟩ : ByteArray))).bind fun t133 => (some t133)) else (none)))) else (some false)) = some r := H
    have A5 := Aside0.mk A50
    clear A50
    by_cases c6 : t132 = 0
    · rw [if_pos c6] at H
      have c6b0 : (t132 == 0) = true := beq_iff_eq.mpr c6
      have c6b1 : (t132 != 0) = false := bne_eq_false_iff_eq.mpr c6
      clear c6
      by_cases c7 : a1.toList = ([47] : List UInt8)
      · rw [if_pos c7] at H
        have c7b0 : (a1.toList == ([47] : List UInt8)) = true := beq_iff_eq.mpr c7
        have c7b1 : (a1.toList != ([47] : List UInt8)) = false := bne_eq_false_iff_eq.mpr c7
        clear c7
        obtain rfl := Option.some.inj H
        go_enter Tryz.func43, Tryz.ntmps43
        go_wp2_with (first | ((with_reducible refine gate_callee (f := 34) rfl ?_); refine goesL_ (some 6) rfl rfl Tryz.func34 (by kernel_rfl) rfl #[.string a0] rfl (by (try simp only [List.map_toArray, List.map_cons, List.map_nil]); first | done | rfl | (simp only [List.length_drop, List.length_take]; rfl)) ?_; (with_reducible refine (label_Path.calls k a0 t131 _ A3.out (Glob.below hG (by repeat (first | (with_reducible first | exact HB.out | apply below_alloc | apply pw_below_drewN | apply below_drew1) | exact HB.out)))).mono ?_); rintro e w8 ⟨rfl, hb⟩; refine ⟨_, rfl, ?_⟩; have n0_ := Aside0.mk (below_step (by repeat (first | (with_reducible first | exact HB.out | apply below_alloc | apply pw_below_drewN | apply below_drew1) | exact HB.out)) hb); clear HB; have HB := n0_; clear n0_; (try clear hb); (try clear hb2); (try clear hk); (try clear hi)) | (go_at_call 34; (with_reducible refine (label_Path.calls k a1 t132 _ A5.out (Glob.below hG (by repeat (first | (with_reducible first | exact HB.out | apply below_alloc | apply pw_below_drewN | apply below_drew1) | exact HB.out)))).mono ?_); rintro e w9 ⟨rfl, hb⟩; have n0_ := Aside0.mk (below_step (by repeat (first | (with_reducible first | exact HB.out | apply below_alloc | apply pw_below_drewN | apply below_drew1) | exact HB.out)) hb); clear HB; have HB := n0_; clear n0_; (try clear hb); (try clear hb2); (try clear hk); (try clear hi)))
        go_ret
        exact ⟨by first | rfl | (simp [errW_none, errW_some] <;> rfl) | (simp [*, errW_none, errW_some] <;> rfl), by repeat (first | (with_reducible first | exact HB.out | apply below_alloc | apply pw_below_drewN | apply below_drew1) | exact HB.out)⟩
      · rw [if_neg c7] at H
        have c7b0 : (a1.toList == ([47] : List UInt8)) = false := beq_eq_false_iff_ne.mpr c7
        have c7b1 : (a1.toList != ([47] : List UInt8)) = true := bne_iff_ne.mpr c7
        by_cases c10 : a0.toList = a1.toList
        · rw [if_pos c10] at H
          have c10b0 : (a0.toList == a1.toList) = true := beq_iff_eq.mpr c10
          have c10b1 : (a0.toList != a1.toList) = false := bne_eq_false_iff_eq.mpr c10
          clear c10
          obtain rfl := Option.some.inj H
          go_enter Tryz.func43, Tryz.ntmps43
          go_wp2_with (first | ((with_reducible refine gate_callee (f := 34) rfl ?_); refine goesL_ (some 6) rfl rfl Tryz.func34 (by kernel_rfl) rfl #[.string a0] rfl (by (try simp only [List.map_toArray, List.map_cons, List.map_nil]); first | done | rfl | (simp only [List.length_drop, List.length_take]; rfl)) ?_; (with_reducible refine (label_Path.calls k a0 t131 _ A3.out (Glob.below hG (by repeat (first | (with_reducible first | exact HB.out | apply below_alloc | apply pw_below_drewN | apply below_drew1) | exact HB.out)))).mono ?_); rintro e w11 ⟨rfl, hb⟩; refine ⟨_, rfl, ?_⟩; have n0_ := Aside0.mk (below_step (by repeat (first | (with_reducible first | exact HB.out | apply below_alloc | apply pw_below_drewN | apply below_drew1) | exact HB.out)) hb); clear HB; have HB := n0_; clear n0_; (try clear hb); (try clear hb2); (try clear hk); (try clear hi)) | (go_at_call 34; (with_reducible refine (label_Path.calls k a1 t132 _ A5.out (Glob.below hG (by repeat (first | (with_reducible first | exact HB.out | apply below_alloc | apply pw_below_drewN | apply below_drew1) | exact HB.out)))).mono ?_); rintro e w12 ⟨rfl, hb⟩; have n0_ := Aside0.mk (below_step (by repeat (first | (with_reducible first | exact HB.out | apply below_alloc | apply pw_below_drewN | apply below_drew1) | exact HB.out)) hb); clear HB; have HB := n0_; clear n0_; (try clear hb); (try clear hb2); (try clear hk); (try clear hi)))
          go_ret
          exact ⟨by first | rfl | (simp [errW_none, errW_some] <;> rfl) | (simp [*, errW_none, errW_some] <;> rfl), by repeat (first | (with_reducible first | exact HB.out | apply below_alloc | apply pw_below_drewN | apply below_drew1) | exact HB.out)⟩
        · rw [if_neg c10] at H
          have c10b0 : (a0.toList == a1.toList) = false := beq_eq_false_iff_ne.mpr c10
          have c10b1 : (a0.toList != a1.toList) = true := bne_iff_ne.mpr c10
          by_cases c13 : a1.size + 1 ≤ 9223372036854775807
          · rw [if_pos c13] at H
            have c13b0 := eq_true c13
            have c13b1 : decide (a1.size + 1 ≤ 9223372036854775807) = true := decide_eq_true c13
            try have c13b2 : (9223372036854775807 < a1.size + 1) = False := eq_false (Nat.not_lt.2 c13)
            replace H := Option.bind_eq_some_iff.mp H
            obtain ⟨t133, A140, H⟩ := H
            replace H : (some t133) = some r := H
            have A14 := Aside0.mk A140
            clear A140
            obtain rfl := Option.some.inj H
            go_enter Tryz.func43, Tryz.ntmps43
            go_wp2_with (first | ((with_reducible refine gate_callee (f := 34) rfl ?_); refine goesL_ (some 6) rfl rfl Tryz.func34 (by kernel_rfl) rfl #[.string a0] rfl (by (try simp only [List.map_toArray, List.map_cons, List.map_nil]); first | done | rfl | (simp only [List.length_drop, List.length_take]; rfl)) ?_; (with_reducible refine (label_Path.calls k a0 t131 _ A3.out (Glob.below hG (by repeat (first | (with_reducible first | exact HB.out | apply below_alloc | apply pw_below_drewN | apply below_drew1) | exact HB.out)))).mono ?_); rintro e w15 ⟨rfl, hb⟩; refine ⟨_, rfl, ?_⟩; have n0_ := Aside0.mk (below_step (by repeat (first | (with_reducible first | exact HB.out | apply below_alloc | apply pw_below_drewN | apply below_drew1) | exact HB.out)) hb); clear HB; have HB := n0_; clear n0_; (try clear hb); (try clear hb2); (try clear hk); (try clear hi)) | (go_at_call 34; (with_reducible refine (label_Path.calls k a1 t132 _ A5.out (Glob.below hG (by repeat (first | (with_reducible first | exact HB.out | apply below_alloc | apply pw_below_drewN | apply below_drew1) | exact HB.out)))).mono ?_); rintro e w16 ⟨rfl, hb⟩; have n0_ := Aside0.mk (below_step (by repeat (first | (with_reducible first | exact HB.out | apply below_alloc | apply pw_below_drewN | apply below_drew1) | exact HB.out)) hb); clear HB; have HB := n0_; clear n0_; (try clear hb); (try clear hb2); (try clear hk); (try clear hi)) | (go_at_call 55; (with_reducible refine (strings_HasPrefix.calls a0 (a1 ++ (⟨#[47]⟩ : ByteArray)) t133 _ A14.out).mono ?_); rintro e w' ⟨rfl, ⟨nd, rfl⟩⟩))
            go_ret
            exact ⟨by first | rfl | (simp [errW_none, errW_some] <;> rfl) | (simp [*, errW_none, errW_some] <;> rfl), by repeat (first | (with_reducible first | exact HB.out | apply below_alloc | apply pw_below_drewN | apply below_drew1) | exact HB.out)⟩
          · rw [if_neg c13] at H
            exact absurd H (by simp)
    · rw [if_neg c6] at H
      have c6b0 : (t132 == 0) = false := beq_eq_false_iff_ne.mpr c6
      have c6b1 : (t132 != 0) = true := bne_iff_ne.mpr c6
      obtain rfl := Option.some.inj H
      go_enter Tryz.func43, Tryz.ntmps43
      go_wp2_with (first | ((with_reducible refine gate_callee (f := 34) rfl ?_); refine goesL_ (some 6) rfl rfl Tryz.func34 (by kernel_rfl) rfl #[.string a0] rfl (by (try simp only [List.map_toArray, List.map_cons, List.map_nil]); first | done | rfl | (simp only [List.length_drop, List.length_take]; rfl)) ?_; (with_reducible refine (label_Path.calls k a0 t131 _ A3.out (Glob.below hG (by repeat (first | (with_reducible first | exact HB.out | apply below_alloc | apply pw_below_drewN | apply below_drew1) | exact HB.out)))).mono ?_); rintro e w17 ⟨rfl, hb⟩; refine ⟨_, rfl, ?_⟩; have n0_ := Aside0.mk (below_step (by repeat (first | (with_reducible first | exact HB.out | apply below_alloc | apply pw_below_drewN | apply below_drew1) | exact HB.out)) hb); clear HB; have HB := n0_; clear n0_; (try clear hb); (try clear hb2); (try clear hk); (try clear hi)) | (go_at_call 34; (with_reducible refine (label_Path.calls k a1 t132 _ A5.out (Glob.below hG (by repeat (first | (with_reducible first | exact HB.out | apply below_alloc | apply pw_below_drewN | apply below_drew1) | exact HB.out)))).mono ?_); rintro e w18 ⟨rfl, hb⟩; have n0_ := Aside0.mk (below_step (by repeat (first | (with_reducible first | exact HB.out | apply below_alloc | apply pw_below_drewN | apply below_drew1) | exact HB.out)) hb); clear HB; have HB := n0_; clear n0_; (try clear hb); (try clear hb2); (try clear hk); (try clear hi)))
      go_ret
      exact ⟨by first | rfl | (simp [errW_none, errW_some] <;> rfl) | (simp [*, errW_none, errW_some] <;> rfl), by repeat (first | (with_reducible first | exact HB.out | apply below_alloc | apply pw_below_drewN | apply below_drew1) | exact HB.out)⟩
  · rw [if_neg c4] at H
    have c4b0 : (t131 == 0) = false := beq_eq_false_iff_ne.mpr c4
    have c4b1 : (t131 != 0) = true := bne_iff_ne.mpr c4
    obtain rfl := Option.some.inj H
    go_enter Tryz.func43, Tryz.ntmps43
    go_wp2_with (first | ((with_reducible refine gate_callee (f := 34) rfl ?_); refine goesL_ (some 6) rfl rfl Tryz.func34 (by kernel_rfl) rfl #[.string a0] rfl (by (try simp only [List.map_toArray, List.map_cons, List.map_nil]); first | done | rfl | (simp only [List.length_drop, List.length_take]; rfl)) ?_; (with_reducible refine (label_Path.calls k a0 t131 _ A3.out (Glob.below hG (by repeat (first | (with_reducible first | exact HB.out | apply below_alloc | apply pw_below_drewN | apply below_drew1) | exact HB.out)))).mono ?_); rintro e w19 ⟨rfl, hb⟩; refine ⟨_, rfl, ?_⟩; have n0_ := Aside0.mk (below_step (by repeat (first | (with_reducible first | exact HB.out | apply below_alloc | apply pw_below_drewN | apply below_drew1) | exact HB.out)) hb); clear HB; have HB := n0_; clear n0_; (try clear hb); (try clear hb2); (try clear hk); (try clear hi)))
    go_ret
    exact ⟨by first | rfl | (simp [errW_none, errW_some] <;> rfl) | (simp [*, errW_none, errW_some] <;> rfl), by repeat (first | (with_reducible first | exact HB.out | apply below_alloc | apply pw_below_drewN | apply below_drew1) | exact HB.out)⟩
end Go.Proofs.YtphddbijdfmpjaaGreatDoor.Q
namespace Go.Proofs.YtphddbijdfmpjaaGreatDoor.Q
open Go.RowKit Go.Proofs.YtphddbijdfmpjaaGreatDoorW.PrintWords Go.Proofs.YtphddbijdfmpjaaGreatDoorW.PrintLast
set_option linter.unusedVariables false
set_option linter.unusedSimpArgs false
theorem ba_ext {a b : ByteArray} (h : a.data.toList = b.data.toList) : a = b := by
  cases a; cases b; simp only at h; congr 1; exact Array.toList_inj.1 h
theorem ba_iff (a b : ByteArray) : a.toList = b.toList ↔ a = b := by
  rw [ByteArray.toList_eq, ByteArray.toList_eq]
  exact ⟨ba_ext, fun h => by rw [h]⟩
theorem w64 (i : Nat) (h : i < 9223372036854775807) : wrap64 ((i : Int) + 1) = ((i + 1 : Nat) : Int) := by
  unfold wrap64; omega
theorem bne_nil_ (l : List UInt8) : (l != ([] : List UInt8)) = !l.isEmpty := by cases l <;> rfl
theorem rd_at (l : List ByteArray) (i : Nat) (h : i < l.length) : rdOf ByteArray.empty l (i : Int) = l[i]'h := by
  simp [rdOf, List.getD_eq_getElem?_getD, List.getElem?_eq_getElem h]
def memB (l : List ByteArray) (x : ByteArray) : Bool := l.any fun y => decide (x = y)
theorem memB_iff (l : List ByteArray) (x : ByteArray) : memB l x = true ↔ x ∈ l := by
  unfold memB; simp
end Go.Proofs.YtphddbijdfmpjaaGreatDoor.Q
namespace Go.Proofs.YtphddbijdfmpjaaGreatDoor.Pl
def pcs (c : UInt8) : List UInt8 → List (List UInt8)
  | [] => [[]]
  | x :: l => if x = c then [] :: pcs c l else match pcs c l with
    | [] => [[x]]
    | p :: r => (x :: p) :: r
theorem pcs_ne (c : UInt8) (l : List UInt8) : pcs c l ≠ [] := by
  cases l with
  | nil => simp [pcs]
  | cons x l =>
    unfold pcs
    split
    · simp
    · split <;> simp
theorem pcs_hit (c : UInt8) (l : List UInt8) : pcs c (c :: l) = [] :: pcs c l := by simp [pcs]
theorem pcs_cons (c x : UInt8) (l : List UInt8) (h : x ≠ c) : ∃ p r, pcs c l = p :: r ∧ pcs c (x :: l) = (x :: p) :: r := by
  cases hp : pcs c l with
  | nil => exact absurd hp (pcs_ne c l)
  | cons p r => exact ⟨p, r, rfl, by simp [pcs, h, hp]⟩
theorem pcs_app (c : UInt8) (n l : List UInt8) (h : c ∉ n) : pcs c (n ++ c :: l) = n :: pcs c l := by
  induction n with
  | nil => simp [pcs]
  | cons x n ih =>
    have hx : x ≠ c := fun e => h (by simp [e])
    have hn : c ∉ n := fun e => h (by simp [e])
    simp [pcs, hx, ih hn]
theorem pcs_one (c : UInt8) (n : List UInt8) (h : c ∉ n) : pcs c n = [n] := by
  induction n with
  | nil => simp [pcs]
  | cons x n ih =>
    have hx : x ≠ c := fun e => h (by simp [e])
    have hn : c ∉ n := fun e => h (by simp [e])
    simp [pcs, hx, ih hn]
theorem pcs_flat (c : UInt8) (l : List UInt8) : ((pcs c l).map (c :: ·)).flatten = c :: l := by
  induction l with
  | nil => simp [pcs]
  | cons x l ih =>
    by_cases h : x = c
    · subst h
      rw [pcs_hit]
      simp only [List.map_cons, List.flatten_cons, ih]
      rfl
    · obtain ⟨p, r, h1, h2⟩ := pcs_cons c x l h
      rw [h2]
      rw [h1] at ih
      simp only [List.map_cons, List.flatten_cons] at ih ⊢
      have := List.cons.inj ih
      show c :: (x :: p) ++ _ = c :: x :: l
      rw [← this.2]
      rfl
theorem pcs_length_le (c : UInt8) (l : List UInt8) : (pcs c l).length ≤ l.length + 1 := by
  induction l with
  | nil => simp [pcs]
  | cons x l ih =>
    by_cases h : x = c
    · subst h; rw [pcs_hit]; simp; omega
    · obtain ⟨p, r, h1, h2⟩ := pcs_cons c x l h
      rw [h2]; rw [h1] at ih; simp at ih ⊢; omega
theorem pcs_of_names (c : UInt8) (n : List UInt8) (ns : List (List UInt8)) (h : ∀ p ∈ n :: ns, c ∉ p) : pcs c (n ++ (ns.map (c :: ·)).flatten) = n :: ns := by
  induction ns generalizing n with
  | nil => simp [pcs_one c n (h n (by simp))]
  | cons m ns ih =>
    have := ih m (fun p hp => h p (List.mem_cons_of_mem _ hp))
    simp only [List.map_cons, List.flatten_cons, List.cons_append]
    rw [pcs_app c n _ (h n (by simp)), this]
def flat (ns : List (List UInt8)) : List UInt8 := (ns.map (47 :: ·)).flatten
def pathL (ns : List (List UInt8)) : List UInt8 := if ns = [] then [47] else flat ns
theorem flat_nil : flat [] = [] := rfl
theorem flat_cons (n : List UInt8) (ns : List (List UInt8)) : flat (n :: ns) = 47 :: (n ++ flat ns) := by simp [flat]
theorem flat_append (a b : List (List UInt8)) : flat (a ++ b) = flat a ++ flat b := by simp [flat]
theorem flat_length (ns : List (List UInt8)) : ns.length ≤ (flat ns).length := by
  induction ns with
  | nil => simp [flat]
  | cons n ns ih => rw [flat_cons]; simp; omega
theorem flat_inj : ∀ (a b : List (List UInt8)), (∀ p ∈ a, (47 : UInt8) ∉ p) → (∀ p ∈ b, (47 : UInt8) ∉ p) → flat a = flat b → a = b := by
  intro a b ha hb h
  cases a with
  | nil =>
    cases b with
    | nil => rfl
    | cons m ms => rw [flat_nil, flat_cons] at h; cases h
  | cons n ns =>
    cases b with
    | nil => rw [flat_nil, flat_cons] at h; cases h
    | cons m ms =>
      rw [flat_cons, flat_cons] at h
      have h' := (List.cons.inj h).2
      have e1 := pcs_of_names 47 n ns ha
      have e2 := pcs_of_names 47 m ms hb
      rw [← e1, ← e2]
      congr 1
theorem flat_prefix : ∀ (ms ns : List (List UInt8)), (∀ p ∈ ms, (47 : UInt8) ∉ p) → (∀ p ∈ ns, (47 : UInt8) ∉ p) → (flat ms ++ [47]) <+: flat ns → ms <+: ns := by
  intro ms
  induction ms with
  | nil => intro ns _ _ _; exact List.nil_prefix
  | cons m ms ih =>
    intro ns hm hn h
    cases ns with
    | nil =>
      obtain ⟨t, ht⟩ := h
      rw [flat_cons, flat_nil] at ht
      simp at ht
    | cons n ns =>
      rw [flat_cons, flat_cons] at h
      obtain ⟨t, ht⟩ := h
      simp only [List.cons_append, List.append_assoc, List.cons.injEq, true_and] at ht
      -- m ++ (flat ms ++ ([47] ++ t)) = n ++ flat ns
      have e1 : pcs 47 (m ++ (flat ms ++ ([47] ++ t))) = m :: pcs 47 ((flat ms ++ ([47] ++ t)).tail) := by
        cases ms with
        | nil => simp only [flat_nil, List.nil_append, List.cons_append, List.tail_cons]; exact pcs_app 47 m t (hm m (by simp))
        | cons q qs => rw [flat_cons]; simp only [List.cons_append, List.tail_cons]; exact pcs_app 47 m _ (hm m (by simp))
      have e2 := pcs_of_names 47 n ns hn
      have e3 : n ++ flat ns = n ++ (ns.map (47 :: ·)).flatten := rfl
      have ht' : m ++ (flat ms ++ ([47] ++ t)) = n ++ flat ns := ht
      rw [ht', e3, e2] at e1
      have hmn : n = m := (List.cons.inj e1).1
      subst hmn
      have h4 : flat ms ++ ([47] ++ t) = flat ns := List.append_cancel_left ht'
      have h5 := ih ns (fun p hp => hm p (List.mem_cons_of_mem _ hp)) (fun p hp => hn p (List.mem_cons_of_mem _ hp)) ⟨t, by rw [← h4]; simp⟩
      obtain ⟨u, rfl⟩ := h5
      exact ⟨u, by simp⟩
theorem prefix_flat {ms ns : List (List UInt8)} (h : ms <+: ns) (hne : ms ≠ ns) : (flat ms ++ [47]) <+: flat ns := by
  obtain ⟨u, rfl⟩ := h
  cases u with
  | nil => simp at hne
  | cons x u =>
    rw [flat_append, flat_cons]
    exact ⟨x ++ flat u, by simp⟩
end Go.Proofs.YtphddbijdfmpjaaGreatDoor.Pl
namespace Go.Proofs.YtphddbijdfmpjaaGreatDoor.Q
open Go.RowKit Go.Proofs.YtphddbijdfmpjaaGreatDoorW.PrintWords Go.Proofs.YtphddbijdfmpjaaGreatDoorW.PrintLast Go.Proofs.YtphddbijdfmpjaaGreatDoor.Pl
set_option linter.unusedVariables false
set_option linter.unusedSimpArgs false
def toB (l : List UInt8) : ByteArray := ⟨l.toArray⟩
theorem toB_list (l : List UInt8) : (toB l).data.toList = l := rfl
theorem toB_of (s : ByteArray) : toB s.data.toList = s := ba_ext rfl
theorem toB_size (l : List UInt8) : (toB l).size = l.length := by simp [toB, ByteArray.size]
theorem size_list (s : ByteArray) : s.data.toList.length = s.size := by rw [Array.length_toList]; rfl
theorem lit_list {s : ByteArray} {l : List UInt8} : s.toList = l ↔ s.data.toList = l := by rw [ByteArray.toList_eq]
def nameL (l : List UInt8) : Bool := nameB (toB l)
theorem name_free {l : List UInt8} (h : nameL l = true) : (47 : UInt8) ∉ l := by
  intro hm
  have : (toB l).data.toList.all okByte = false := by
    rw [List.all_eq_false]
    exact ⟨47, hm, by decide⟩
  unfold nameL at h
  rw [nameB_false (.inr (.inr (.inr (.inr this))))] at h
  cases h
theorem name_size {s : ByteArray} (h : nameB s = true) : 1 ≤ s.size ∧ s.size ≤ 32 := by
  unfold nameB at h
  simp only [Bool.and_eq_true, decide_eq_true_eq] at h
  exact ⟨h.1.1.1.1, h.1.1.1.2⟩
theorem drop_cons (s : ByteArray) (i : Nat) (h : i < s.size) : s.data.toList.drop i = s[i]'h :: s.data.toList.drop (i + 1) :=
  List.drop_eq_getElem_cons (by rw [size_list]; exact h)
theorem ext_list (s : ByteArray) (a b : Nat) : (s.extract a b).data.toList = (s.data.toList.take b).drop a := by
  rw [List.drop_take]
  simp
def rest (c : UInt8) (s : ByteArray) (from_ i : Nat) : List (List UInt8) := match pcs c (s.data.toList.drop i) with
  | [] => []
  | p :: r => (((s.data.toList.take i).drop from_) ++ p) :: r
theorem take_drop_succ (s : ByteArray) (f i : Nat) (hf : f ≤ i) (h : i < s.size) : (s.data.toList.take (i + 1)).drop f = (s.data.toList.take i).drop f ++ [s[i]'h] := by
  have hl : i < s.data.toList.length := by rw [size_list]; exact h
  rw [List.take_succ_eq_append_getElem hl, List.drop_append_of_le_length (by rw [List.length_take]; omega)]
  rfl
theorem splitK_ne (c x : UInt8) (h : x ≠ c) (l : List UInt8) (k : Nat) : ∃ p r, Lib.splitK [c] 0 k l = p :: r ∧ Lib.splitK [c] 0 k (x :: l) = (x :: p) :: r := by
  cases k with
  | zero => exact ⟨l, [], rfl, rfl⟩
  | succ k =>
    have hp : ([c] : List UInt8).isPrefixOf (x :: l) = false := by simp [List.isPrefixOf, Ne.symm h]
    have hix : Lib.index (x :: l) [c] = if Lib.index l [c] == -1 then -1 else Lib.index l [c] + 1 := by rw [Lib.index, hp]; simp
    unfold Lib.splitK
    by_cases hm : (Lib.index l [c] == -1) = true
    · rw [hix, if_pos hm, if_pos hm]
      exact ⟨l, [], rfl, by rw [if_pos (by decide)]⟩
    · have hge := Lib.index_ge l [c]
      have hne : Lib.index l [c] ≠ -1 := fun e => hm (beq_iff_eq.2 e)
      obtain ⟨i, hi⟩ : ∃ i : Nat, Lib.index l [c] = i := ⟨(Lib.index l [c]).toNat, by omega⟩
      rw [hix, if_neg hm, if_neg hm, hi]
      refine ⟨_, _, rfl, ?_⟩
      rw [if_neg (by simp; omega), show ((i : Int) + 1).toNat = i + 1 by omega, Int.toNat_natCast]
      simp [Nat.add_right_comm]
theorem splitK_pcs (c : UInt8) (l : List UInt8) : Lib.splitK [c] 0 (Lib.count l [c]) l = pcs c l := by
  induction l with
  | nil => rw [Lib.count_miss (by simp [Lib.index])]; rfl
  | cons x l ih =>
    by_cases h : x = c
    · subst h
      rw [Lib.count_cons_eq, Nat.add_comm]
      have hix : Lib.index (x :: l) [x] = 0 := by rw [Lib.index]; simp [List.isPrefixOf]
      unfold Lib.splitK
      rw [hix, pcs_hit, ← ih]
      simp
    · rw [Lib.count_cons_ne x c l h]
      obtain ⟨p, r, h1, h2⟩ := splitK_ne c x h l (Lib.count l [c])
      obtain ⟨p', r', h3, h4⟩ := pcs_cons c x l h
      rw [h2, h4]
      rw [h1, h3] at ih
      rw [(List.cons.inj ih).1, (List.cons.inj ih).2]
theorem map_toB (l : List ByteArray) : (l.map (·.data.toList)).map toB = l := by
  simp [List.map_map, Function.comp_def, toB_of]
theorem split_some (s : ByteArray) (c : UInt8) (h : s.size < 4294967281) : strings_Split.f s (⟨#[c]⟩ : ByteArray) = some ((pcs c s.data.toList).map toB) := by
  unfold strings_Split.f
  rw [if_pos ⟨h, Nat.le_refl 1⟩, ← splitK_pcs c s.data.toList, ← map_toB (Lib.splitB _ _ _ _), Lib.splitB_data]
def splitS (s : ByteArray) : List ByteArray × Int :=
  if s.data.toList = [47] then ([], 0) else
  match s.data.toList with
  | [] => ([], 41)
  | c :: r => if c = 47 ∧ s.size ≤ 64 ∧ (pcs 47 r).length ≤ 8 ∧ (pcs 47 r).all nameL = true then ((pcs 47 r).map toB, 0) else ([], 41)
theorem rd_map (l : List (List UInt8)) (i : Nat) (h : i < l.length) : rdOf ByteArray.empty (l.map toB) (i : Int) = toB (l[i]'h) := by
  rw [rd_at _ i (by simpa using h)]; simp
theorem drop_at {α : Type} (l : List α) (i : Nat) (h : i < l.length) : l.drop i = l[i]'h :: l.drop (i + 1) := List.drop_eq_getElem_cons h
theorem hasPrefix_lite (s p : ByteArray) : stringslite_HasPrefix.f s p = some (decide (p.data.toList <+: s.data.toList)) := by
  unfold stringslite_HasPrefix.f
  by_cases h : (s.size : Int) ≥ (p.size : Int)
  · rw [if_pos h, if_pos (by omega), if_pos (by omega)]
    congr 1
    rw [ByteArray.toList_eq, ByteArray.toList_eq, Int.toNat_natCast, ext_list, List.drop_zero, Bool.eq_iff_iff]
    simp only [beq_iff_eq, decide_eq_true_eq]
    rw [List.prefix_iff_eq_take, size_list]
    exact eq_comm
  · rw [if_neg h]
    congr 1
    rw [eq_comm, decide_eq_false_iff_not]
    intro hp
    have := hp.length_le
    rw [size_list, size_list] at this
    omega
theorem hasPrefix_some (s p : ByteArray) : strings_HasPrefix.f s p = some (decide (p.data.toList <+: s.data.toList)) := by
  unfold strings_HasPrefix.f
  rw [hasPrefix_lite]; rfl
theorem cutPrefix_yes (s p : ByteArray) (h : p.data.toList <+: s.data.toList) : strings_CutPrefix.f s p = some (toB (s.data.toList.drop p.size), true) := by
  have hle := h.length_le
  rw [size_list, size_list] at hle
  unfold strings_CutPrefix.f stringslite_CutPrefix.f
  rw [hasPrefix_lite, decide_eq_true h, Option.bind_some, if_pos rfl, if_pos (by omega), if_pos (by omega), Option.bind_some]
  simp only [Int.toNat_natCast]
  congr 2
  apply ba_ext
  rw [ext_list, toB_list, List.take_of_length_le (by rw [size_list]; omega)]
theorem cutPrefix_no (s p : ByteArray) (h : ¬ p.data.toList <+: s.data.toList) : strings_CutPrefix.f s p = some (s, false) := by
  unfold strings_CutPrefix.f stringslite_CutPrefix.f
  rw [hasPrefix_lite, decide_eq_false h, Option.bind_some, if_neg (by decide), Option.bind_some]
theorem lsloop (x6 : List ByteArray) (l : List (List UInt8)) (hl : l.length ≤ 2000000) (d : Nat) : ∀ i : Nat, i + d = l.length →
    Ev (fun k => label_Split.l0 k x6 (l.map toB) (l.length : Int) (i : Int)) (if (l.drop i).all nameL = true then (x6, 0) else ([], 41)) := by
  induction d with
  | zero =>
    intro i hi
    rw [List.drop_of_length_le (by omega)]
    refine Ev.step (f := fun _ => some (x6, 0)) (fun k => ?_) (Ev.now _)
    simp only [label_Split.l0]
    rw [if_neg (by omega)]
  | succ d ih =>
    intro i hi
    have hlt : i < l.length := by omega
    rw [drop_at l i hlt, List.all_cons]
    have e : label_Name.f (toB l[i]) = some (nameL l[i]) := rfl
    cases hn : nameL l[i] with
    | true =>
      rw [Bool.true_and]
      refine Ev.step (fun k => ?_) (ih (i + 1) (by omega))
      simp only [label_Split.l0]
      rw [if_pos (by omega), if_pos (by omega), if_pos (by simp; omega), rd_map l i hlt, e, hn, Option.bind_some, if_pos rfl, w64 i (by omega)]
    | false =>
      refine Ev.step (f := fun _ => some ([], 41)) (fun k => ?_) (Ev.now _)
      simp only [label_Split.l0]
      rw [if_pos (by omega), if_pos (by omega), if_pos (by simp; omega), rd_map l i hlt, e, hn, Option.bind_some, if_neg (by decide)]
theorem split_ev (s : ByteArray) : Ev (fun k => label_Split.f k s) (splitS s) := by
  have hbad : ∀ l, Ev (fun k => label_Split.j0 k l true) ([], 41) := fun l => Ev.step (f := fun _ => some ([], 41)) (fun k => by simp [label_Split.j0]) (Ev.now _)
  unfold splitS
  by_cases hr : s.data.toList = [47]
  · rw [if_pos hr]
    refine Ev.congr (f := fun _ => some ([], 0)) (fun k => ?_) (Ev.now _)
    unfold label_Split.f; rw [if_pos (lit_list.2 hr)]
  rw [if_neg hr]
  have hno : ∀ (h : ¬ (⟨#[47]⟩ : ByteArray).data.toList <+: s.data.toList), Ev (fun k => label_Split.f k s) ([], 41) := fun h => by
    refine Ev.congr (fun k => ?_) (hbad s)
    unfold label_Split.f; rw [if_neg (fun h => hr (lit_list.1 h)), cutPrefix_no s _ h, Option.bind_some, if_neg (by simp)]
  cases hl : s.data.toList with
  | nil => exact hno (by rw [hl]; simp)
  | cons c r =>
    show Ev _ (if c = 47 ∧ s.size ≤ 64 ∧ (pcs 47 r).length ≤ 8 ∧ (pcs 47 r).all nameL = true then ((pcs 47 r).map toB, (0 : Int)) else ([], 41))
    by_cases hc : c = 47
    rotate_left
    · rw [if_neg (fun h => hc h.1)]
      exact hno (by rw [hl]; intro h; simp at h; exact hc h.symm)
    subst hc
    have hcut := cutPrefix_yes s (⟨#[47]⟩ : ByteArray) (by rw [hl]; simp)
    have h1 : s.data.toList.drop (⟨#[47]⟩ : ByteArray).size = r := by rw [hl]; rfl
    rw [h1] at hcut
    by_cases h64 : s.size ≤ 64
    rotate_left
    · rw [if_neg (fun h => h64 h.2.1)]
      refine Ev.congr (fun k => ?_) (hbad (toB r))
      unfold label_Split.f
      rw [if_neg (fun h => hr (lit_list.1 h)), hcut, Option.bind_some, if_pos rfl, decide_eq_true (by omega)]
    have hsp := split_some (toB r) 47 (by rw [toB_size]; have := size_list s; rw [hl] at this; simp at this; omega)
    rw [toB_list] at hsp
    by_cases h8 : (pcs 47 r).length ≤ 8
    · have e : (if (47 : UInt8) = 47 ∧ s.size ≤ 64 ∧ (pcs 47 r).length ≤ 8 ∧ (pcs 47 r).all nameL = true then ((pcs 47 r).map toB, (0 : Int)) else ([], 41)) = (if (pcs 47 r).all nameL = true then ((pcs 47 r).map toB, (0 : Int)) else ([], 41)) := by
        by_cases ha : (pcs 47 r).all nameL = true
        · rw [if_pos ⟨rfl, h64, h8, ha⟩, if_pos ha]
        · rw [if_neg (fun h => ha h.2.2.2), if_neg ha]
      rw [e]
      have h := lsloop ((pcs 47 r).map toB) (pcs 47 r) (by omega) (pcs 47 r).length 0 (by omega)
      rw [List.drop_zero] at h
      refine Ev.congr (f := fun k => label_Split.j0 k (toB r) false) (fun k => ?_) (Ev.step (fun k => ?_) h)
      · unfold label_Split.f
        rw [if_neg (fun h => hr (lit_list.1 h)), hcut, Option.bind_some, if_pos rfl, decide_eq_false (by omega)]
      · simp only [label_Split.j0]
        rw [if_neg (by decide), hsp, Option.bind_some, if_neg (by simp; omega)]
        simp
    · rw [if_neg (fun h => h8 h.2.2.1)]
      refine Ev.congr (f := fun k => label_Split.j0 k (toB r) false) (fun k => ?_) (Ev.step (f := fun _ => some ([], 41)) (fun k => ?_) (Ev.now _))
      · unfold label_Split.f
        rw [if_neg (fun h => hr (lit_list.1 h)), hcut, Option.bind_some, if_pos rfl, decide_eq_false (by omega)]
      · simp only [label_Split.j0]
        rw [if_neg (by decide), hsp, Option.bind_some, if_pos (by simp; omega)]
def pathS (s : ByteArray) : Int := (splitS s).2
theorem path_ev (s : ByteArray) : Ev (fun k => label_Path.f k s) (pathS s) :=
  Ev.congr (fun k => rfl) (Ev.bind (split_ev s) (f := fun (_ : Nat) (b : List ByteArray × Int) => some b.2) (Ev.now _))
structure IsPath (s : ByteArray) (ns : List (List UInt8)) : Prop where
  list : s.data.toList = pathL ns
  most : ns.length ≤ 8
  size : s.size ≤ 64
  names : ns.all nameL = true
theorem IsPath.free {s : ByteArray} {ns : List (List UInt8)} (h : IsPath s ns) : ∀ p ∈ ns, (47 : UInt8) ∉ p := fun p hp => name_free (List.all_eq_true.1 h.names p hp)
theorem isPath_of (s : ByteArray) (ns : List (List UInt8)) (h : IsPath s ns) : splitS s = (ns.map toB, 0) := by
  unfold splitS
  cases ns with
  | nil => rw [h.list]; rfl
  | cons n ns =>
    have hl : s.data.toList = 47 :: (n ++ flat ns) := by rw [h.list]; unfold pathL; rw [if_neg (by simp), flat_cons]
    have hp : pcs 47 (n ++ flat ns) = n :: ns := pcs_of_names 47 n ns h.free
    have hn : n ≠ [] := by
      intro e
      have := List.all_eq_true.1 h.names n (by simp)
      rw [e] at this
      exact absurd this (by decide)
    rw [if_neg (by rw [hl]; intro e; simp at e; exact hn e.1), hl]
    show (if (47 : UInt8) = 47 ∧ s.size ≤ 64 ∧ (pcs 47 (n ++ flat ns)).length ≤ 8 ∧ (pcs 47 (n ++ flat ns)).all nameL = true then ((pcs 47 (n ++ flat ns)).map toB, (0 : Int)) else ([], 41)) = _
    rw [hp, if_pos ⟨rfl, h.size, h.most, h.names⟩]
theorem path_cases (s : ByteArray) : (∃ ns, IsPath s ns ∧ splitS s = (ns.map toB, 0)) ∨ ((∀ ns, ¬ IsPath s ns) ∧ splitS s = ([], 41)) := by
  by_cases h : ∃ ns, IsPath s ns
  · obtain ⟨ns, h⟩ := h
    exact .inl ⟨ns, h, isPath_of s ns h⟩
  · have hn : ∀ ns, ¬ IsPath s ns := fun ns hp => h ⟨ns, hp⟩
    refine .inr ⟨hn, ?_⟩
    unfold splitS
    by_cases hr : s.data.toList = [47]
    · exact absurd ⟨by rw [hr]; rfl, by simp, by rw [← size_list, hr]; simp, rfl⟩ (hn [])
    rw [if_neg hr]
    cases hl : s.data.toList with
    | nil => rfl
    | cons c r =>
      show (if c = 47 ∧ s.size ≤ 64 ∧ (pcs 47 r).length ≤ 8 ∧ (pcs 47 r).all nameL = true then ((pcs 47 r).map toB, (0 : Int)) else ([], 41)) = _
      by_cases hc : c = 47 ∧ s.size ≤ 64 ∧ (pcs 47 r).length ≤ 8 ∧ (pcs 47 r).all nameL = true
      · obtain ⟨rfl, h1, h2, h3⟩ := hc
        refine absurd ⟨?_, h2, h1, h3⟩ (hn (pcs 47 r))
        rw [hl]
        unfold pathL flat
        rw [if_neg (pcs_ne _ _), pcs_flat]
      · rw [if_neg hc]
theorem name_ne {n : List UInt8} (h : nameL n = true) : n ≠ [] := by
  intro e; rw [e] at h; exact absurd h (by decide)
theorem bang_list (s : ByteArray) (j : Nat) (h : j < s.size) : s.data[j]! = s.data.toList[j]'(by rw [size_list]; exact h) := by
  have h' : j < s.data.size := h
  rw [getElem!_pos s.data j h', Array.getElem_toList]
theorem last_stroke (s : ByteArray) (a n : List UInt8) (hs : s.data.toList = a ++ 47 :: n) (hn : (47 : UInt8) ∉ n) : Lib.lastIndexByte s 47 = (a.length : Int) := by
  have hsz := size_list s
  rw [hs] at hsz
  simp at hsz
  have hget : ∀ j (h : j < s.size), s.data[j]! = (a ++ 47 :: n)[j]'(by simp; omega) := fun j h => by
    rw [bang_list s j h]; congr 1
  rcases Lib.lastIndexByte_spec s 47 with ⟨_, h⟩ | ⟨i, hi, e, hc, hafter⟩
  · have := h a.length (by omega)
    rw [hget a.length (by omega)] at this
    simp at this
  · rw [e]
    rcases Nat.lt_trichotomy i a.length with h | h | h
    · have := hafter a.length h (by omega)
      rw [hget a.length (by omega)] at this
      simp at this
    · rw [h]
    · rw [hget i hi] at hc
      rw [List.getElem_append_right (by omega)] at hc
      obtain ⟨j, hj⟩ : ∃ j, i - a.length = j + 1 := ⟨i - a.length - 1, by omega⟩
      simp only [hj, List.getElem_cons_succ] at hc
      have : n[j]'(by omega) = 47 := UInt8.toNat_inj.1 (by rw [show (47 : UInt8).toNat = 47 from rfl]; omega)
      exact absurd (by rw [← this]; exact List.getElem_mem _) hn
theorem flat_snoc (ms : List (List UInt8)) (n : List UInt8) : flat (ms ++ [n]) = flat ms ++ 47 :: n := by rw [flat_append, flat_cons, flat_nil]; simp
theorem above_some (s : ByteArray) (ms : List (List UInt8)) (n : List UInt8) (h : IsPath s (ms ++ [n])) : label_above.f s = some (toB (pathL ms)) := by
  have hn : (47 : UInt8) ∉ n := h.free n (by simp)
  have hs : s.data.toList = flat ms ++ 47 :: n := by rw [h.list]; unfold pathL; rw [if_neg (by simp), flat_snoc]
  have hsz := size_list s
  rw [hs] at hsz
  simp at hsz
  have h64 := h.size
  have hl : strings_LastIndex.f s (⟨#[47]⟩ : ByteArray) = some ((flat ms).length : Int) := by
    unfold strings_LastIndex.f
    rw [if_pos ⟨rfl, by omega⟩]
    have : bt (⟨#[47]⟩ : ByteArray) 0 = 47 := by decide
    rw [this, last_stroke s _ n hs hn]
  unfold label_above.f
  rw [hl, Option.bind_some]
  unfold pathL
  by_cases hm : ms = []
  · subst hm
    rw [if_pos rfl, flat_nil]
    simp only [List.length_nil, mx]
    rw [if_pos (by decide), if_pos (by omega)]
    congr 1
    apply ba_ext
    rw [ext_list, hs, flat_nil]
    simp [toB]
  · rw [if_neg hm]
    have hpos : 1 ≤ (flat ms).length := by
      have h0 := flat_length ms
      cases ms with
      | nil => exact absurd rfl hm
      | cons _ _ => simp at h0; omega
    have hmx : mx 1 ((flat ms).length : Int) = ((flat ms).length : Int) := by unfold mx; split <;> omega
    rw [hmx, if_pos (by omega), if_pos (by omega)]
    congr 1
    apply ba_ext
    rw [ext_list, hs, Int.toNat_natCast, toB_list]
    simp
def upto (ns : List (List UInt8)) : Nat → List ByteArray
  | 0 => [toB (pathL [])]
  | i + 1 => toB (pathL (ns.take (i + 1))) :: upto ns i
theorem upto_length (ns : List (List UInt8)) : ∀ i, (upto ns i).length = i + 1
  | 0 => rfl
  | i + 1 => by simp [upto, upto_length ns i]
theorem pathL_length_le (ns : List (List UInt8)) (i : Nat) (h : 1 ≤ i) : (pathL (ns.take i)).length ≤ (pathL ns).length := by
  unfold pathL
  by_cases hn : ns = []
  · subst hn; simp
  rw [if_neg hn]
  have hp : (flat (ns.take i)).length ≤ (flat ns).length := by
    conv => rhs; rw [← List.take_append_drop i ns, flat_append]
    simp
  split
  · rename_i h0
    cases ns with
    | nil => exact absurd rfl hn
    | cons a b => rw [flat_cons]; simp
  · exact hp
theorem isPath_take {s : ByteArray} {ns : List (List UInt8)} (h : IsPath s ns) (i : Nat) : IsPath (toB (pathL (ns.take i))) (ns.take i) := by
  refine ⟨toB_list _, by have := h.most; rw [List.length_take]; omega, ?_, ?_⟩
  · rw [toB_size]
    rcases Nat.eq_zero_or_pos i with h0 | h0
    · subst h0; simp [pathL]
    · have := pathL_length_le ns i h0
      have h1 := size_list s
      rw [h.list] at h1
      have := h.size
      omega
  · have := h.names
    rw [List.all_eq_true] at this ⊢
    exact fun x hx => this x (List.mem_of_mem_take hx)
theorem take_snoc (ns : List (List UInt8)) (i : Nat) (h : i < ns.length) : ns.take (i + 1) = ns.take i ++ [ns[i]'h] := List.take_succ_eq_append_getElem h
theorem pathL_ne_root {ns : List (List UInt8)} (hn : ns.all nameL = true) (h : ns ≠ []) : pathL ns ≠ [47] := by
  unfold pathL
  rw [if_neg h]
  cases ns with
  | nil => exact absurd rfl h
  | cons n ns =>
    rw [flat_cons]
    intro e
    have : n = [] := by simp at e; exact e.1
    exact name_ne (List.all_eq_true.1 hn n (by simp)) this
theorem lineloop (s : ByteArray) (ns : List (List UInt8)) (h : IsPath s ns) : ∀ (i : Nat) (acc : List ByteArray), i ≤ ns.length → acc.length + i ≤ 1000 →
    Ev (fun k => label_Line.l0 k (toB (pathL (ns.take i))) acc) (acc ++ (upto ns i).tail, 0) := by
  intro i
  induction i with
  | zero =>
    intro acc _ _
    refine Ev.step (f := fun _ => some (acc, 0)) (fun k => ?_) (by rw [show (upto ns 0).tail = [] from rfl, List.append_nil]; exact Ev.now _)
    simp only [label_Line.l0]
    exact if_pos (lit_list.2 rfl)
  | succ i ih =>
    intro acc hi ha
    have hp := isPath_take h (i + 1)
    have hne : pathL (ns.take (i + 1)) ≠ [47] := pathL_ne_root hp.names (by intro e; have h0 : (ns.take (i + 1)).length = 0 := (by rw [e]; rfl); rw [List.length_take] at h0; omega)
    have hab := above_some _ (ns.take i) (ns[i]'(by omega)) (by rw [← take_snoc ns i (by omega)]; exact hp)
    have := ih (acc ++ [toB (pathL (ns.take i))]) (by omega) (by simp; omega)
    have e : acc ++ [toB (pathL (ns.take i))] ++ (upto ns i).tail = acc ++ (upto ns (i + 1)).tail := by
      cases i with
      | zero => simp [upto]
      | succ i => simp [upto]
    rw [e] at this
    refine Ev.step (fun k => ?_) this
    simp only [label_Line.l0]
    rw [if_neg (fun h => hne (lit_list.1 h)), hab, Option.bind_some, if_pos (by omega)]
def lineS (s : ByteArray) : List ByteArray × Int := if (splitS s).2 = 0 then (upto ((splitS s).1.map (·.data.toList)) (splitS s).1.length, 0) else ([], (splitS s).2)
theorem map_list (ns : List (List UInt8)) : (ns.map toB).map (·.data.toList) = ns := by simp [List.map_map, Function.comp_def, toB_list]
theorem lineS_path {s : ByteArray} {ns : List (List UInt8)} (h : IsPath s ns) : lineS s = (upto ns ns.length, 0) := by
  unfold lineS
  rw [isPath_of s ns h, if_pos rfl, map_list, List.length_map]
theorem lineS_bad {s : ByteArray} (h : ∀ ns, ¬ IsPath s ns) : lineS s = ([], 41) := by
  rcases path_cases s with ⟨ns, h', _⟩ | ⟨_, e⟩
  · exact absurd h' (h ns)
  · unfold lineS; rw [e]; rfl
theorem pathS_path {s : ByteArray} {ns : List (List UInt8)} (h : IsPath s ns) : pathS s = 0 := by unfold pathS; rw [isPath_of s ns h]
theorem pathS_bad {s : ByteArray} (h : ∀ ns, ¬ IsPath s ns) : pathS s = 41 := by
  rcases path_cases s with ⟨ns, h', _⟩ | ⟨_, e⟩
  · exact absurd h' (h ns)
  · unfold pathS; rw [e]
theorem upto_head (ns : List (List UInt8)) (i : Nat) : upto ns i = toB (pathL (ns.take i)) :: (upto ns i).tail := by cases i <;> simp [upto]
theorem s_of {s : ByteArray} {ns : List (List UInt8)} (h : IsPath s ns) : s = toB (pathL ns) := by rw [← h.list, toB_of]
theorem line_ev (s : ByteArray) : Ev (fun k => label_Line.f k s) (lineS s) := by
  rcases path_cases s with ⟨ns, h, _⟩ | ⟨hb, _⟩
  · rw [lineS_path h]
    have hp := path_ev s
    rw [pathS_path h] at hp
    have hl := lineloop s ns h ns.length [s] (Nat.le_refl _) (by have := h.most; simp; omega)
    rw [List.take_length, ← s_of h] at hl
    have e : [s] ++ (upto ns ns.length).tail = upto ns ns.length := by
      conv => rhs; rw [upto_head, List.take_length, ← s_of h]
      rfl
    rw [e] at hl
    refine Ev.congr (fun k => rfl) (Ev.bind hp (f := fun k (t : Int) => if t = 0 then label_Line.l0 k s [s] else some ([], t)) ?_)
    simpa using hl
  · rw [lineS_bad hb]
    have hp := path_ev s
    rw [pathS_bad hb] at hp
    refine Ev.congr (fun k => rfl) (Ev.bind hp (f := fun k (t : Int) => if t = 0 then label_Line.l0 k s [s] else some ([], t)) ?_)
    simpa using Ev.now (([], 41) : List ByteArray × Int)
def joinS (ns : List (List UInt8)) : ByteArray × Int := if ns.all nameL = true then (if ns.length ≤ 8 ∧ (flat ns).length ≤ 64 then (toB (pathL ns), 0) else (⟨#[]⟩, 41)) else (⟨#[]⟩, 40)
theorem flat_take_le (ns : List (List UInt8)) (i : Nat) : (flat (ns.take i)).length ≤ (flat ns).length := by
  conv => rhs; rw [← List.take_append_drop i ns, flat_append]
  simp
theorem toB_app (a b : List UInt8) : toB a ++ toB b = toB (a ++ b) := by
  apply ba_ext
  rw [toB_list]
  simp [toB]
def underS (s t : ByteArray) : Bool := memB (lineS s).1 t
theorem line_len (s : ByteArray) : (lineS s).1.length ≤ 9 := by
  rcases path_cases s with ⟨ns, h, _⟩ | ⟨hb, _⟩
  · rw [lineS_path h]; show (upto ns ns.length).length ≤ 9; rw [upto_length]; have := h.most; omega
  · rw [lineS_bad hb]; simp
theorem mem_upto (ns : List (List UInt8)) (t : ByteArray) : ∀ i, t ∈ upto ns i ↔ ∃ j, j ≤ i ∧ t = toB (pathL (ns.take j)) := by
  intro i
  induction i with
  | zero =>
    constructor
    · intro h; exact ⟨0, Nat.le_refl _, by simpa [upto] using h⟩
    · rintro ⟨j, hj, rfl⟩
      have : j = 0 := by omega
      subst this; simp [upto]
  | succ i ih =>
    rw [upto, List.mem_cons, ih]
    constructor
    · rintro (h | ⟨j, hj, h⟩)
      · exact ⟨i + 1, Nat.le_refl _, h⟩
      · exact ⟨j, by omega, h⟩
    · rintro ⟨j, hj, h⟩
      rcases Nat.lt_or_ge j (i + 1) with h1 | h1
      · exact .inr ⟨j, by omega, h⟩
      · have : j = i + 1 := by omega
        subst this; exact .inl h
theorem pathL_inj {a b : List (List UInt8)} (ha : a.all nameL = true) (hb : b.all nameL = true) (h : pathL a = pathL b) : a = b := by
  by_cases h1 : a = []
  · subst h1
    by_cases h2 : b = []
    · exact h2.symm
    · exact absurd h.symm (pathL_ne_root hb h2)
  · by_cases h2 : b = []
    · subst h2; exact absurd h (pathL_ne_root ha h1)
    · unfold pathL at h
      rw [if_neg h1, if_neg h2] at h
      exact flat_inj a b (fun p hp => name_free (List.all_eq_true.1 ha p hp)) (fun p hp => name_free (List.all_eq_true.1 hb p hp)) h
theorem isPath_unique {s : ByteArray} {a b : List (List UInt8)} (ha : IsPath s a) (hb : IsPath s b) : a = b :=
  pathL_inj ha.names hb.names (by rw [← ha.list, hb.list])
theorem mem_line {s t : ByteArray} {ns ms : List (List UInt8)} (h : IsPath s ns) (ht : IsPath t ms) : t ∈ upto ns ns.length ↔ ms <+: ns := by
  rw [mem_upto]
  constructor
  · rintro ⟨j, hj, e⟩
    have := isPath_unique ht (by rw [e]; exact isPath_take h j)
    rw [this]; exact List.take_prefix _ _
  · intro hp
    refine ⟨ms.length, hp.length_le, ?_⟩
    rw [← List.prefix_iff_eq_take.1 hp]
    exact s_of ht
theorem under_ev (s t : ByteArray) (ht9 : t.size + 1 ≤ 9223372036854775807) : Ev (fun k => label_Under.f k s t) (underS s t) := by
  have hbody : ∀ (b : Bool) (hp : pathS s = 0) (hq : pathS t = 0) (hb : (if t.toList = ([47] : List UInt8) then some true else if s.toList = t.toList then some true else if t.size + 1 ≤ 9223372036854775807 then (strings_HasPrefix.f s (t ++ (⟨#[47]⟩ : ByteArray))).bind fun t285 => some t285 else none) = some b), Ev (fun k => label_Under.f k s t) b := fun b hp hq hb => by
    refine Ev.congr (fun k => rfl) (Ev.bind (path_ev s) (f := fun k (x : Int) => if x = 0 then (label_Path.f k t).bind fun y => (if y = 0 then (if t.toList = ([47] : List UInt8) then some true else if s.toList = t.toList then some true else if t.size + 1 ≤ 9223372036854775807 then (strings_HasPrefix.f s (t ++ (⟨#[47]⟩ : ByteArray))).bind fun t285 => some t285 else none) else some false) else some false) ?_)
    rw [hp]
    refine Ev.congr (fun k => if_pos rfl) (Ev.bind (path_ev t) ?_)
    rw [hq]
    refine Ev.congr (fun k => if_pos rfl) ?_
    rw [hb]
    exact Ev.now _
  have hno : (pathS s ≠ 0 ∨ pathS t ≠ 0) → Ev (fun k => label_Under.f k s t) false := fun h => by
    refine Ev.congr (fun k => rfl) (Ev.bind (path_ev s) (f := fun k (x : Int) => if x = 0 then (label_Path.f k t).bind fun y => (if y = 0 then (if t.toList = ([47] : List UInt8) then some true else if s.toList = t.toList then some true else if t.size + 1 ≤ 9223372036854775807 then (strings_HasPrefix.f s (t ++ (⟨#[47]⟩ : ByteArray))).bind fun t285 => some t285 else none) else some false) else some false) ?_)
    by_cases hp : pathS s = 0
    · have hq := h.resolve_left (fun h => h hp)
      rw [hp]
      refine Ev.congr (fun k => if_pos rfl) (Ev.bind (path_ev t) ?_)
      exact Ev.congr (fun k => if_neg hq) (Ev.now _)
    · exact Ev.congr (fun k => if_neg hp) (Ev.now _)
  unfold underS
  rcases path_cases s with ⟨ns, h, _⟩ | ⟨hb, _⟩
  rotate_left
  · rw [lineS_bad hb]
    exact hno (.inl (by rw [pathS_bad hb]; decide))
  rw [lineS_path h]
  rcases path_cases t with ⟨ms, h', _⟩ | ⟨hb, _⟩
  rotate_left
  · have hn : memB (upto ns ns.length) t = false := by
      cases hm : memB (upto ns ns.length) t with
      | false => rfl
      | true =>
        obtain ⟨j, _, e⟩ := (mem_upto ns t ns.length).1 ((memB_iff _ _).1 hm)
        exact absurd (by rw [e]; exact isPath_take h j) (hb (ns.take j))
    show Ev _ (memB (upto ns ns.length) t)
    rw [hn]
    exact hno (.inr (by rw [pathS_bad hb]; decide))
  show Ev _ (memB (upto ns ns.length) t)
  have hm : memB (upto ns ns.length) t = decide (ms <+: ns) := by
    rw [Bool.eq_iff_iff, memB_iff, mem_line h h', decide_eq_true_eq]
  rw [hm]
  refine hbody _ (pathS_path h) (pathS_path h') ?_
  by_cases hr : ms = []
  · subst hr
    have e0 : t.toList = ([47] : List UInt8) := lit_list.2 h'.list
    rw [if_pos e0, decide_eq_true List.nil_prefix]
  have hr' : ¬ t.toList = ([47] : List UInt8) := fun e => pathL_ne_root h'.names hr (by rw [← h'.list]; exact lit_list.1 e)
  rw [if_neg hr']
  by_cases he : ms = ns
  · subst he
    rw [if_pos (by rw [ba_iff, s_of h, s_of h']), decide_eq_true (List.prefix_refl _)]
  have he' : ¬ s.toList = t.toList := fun e => he (isPath_unique (by rw [(ba_iff _ _).1 e]; exact h') h)
  rw [if_neg he', if_pos (by omega), hasPrefix_some]
  show some _ = some _
  congr 1
  have hns : ns ≠ [] ∨ ns = [] := by by_cases h : ns = []; exact .inr h; exact .inl h
  have e1 : (t ++ (⟨#[47]⟩ : ByteArray)).data.toList = flat ms ++ [47] := by
    rw [s_of h', show (⟨#[47]⟩ : ByteArray) = toB [47] from rfl, toB_app, toB_list]
    unfold pathL; rw [if_neg hr]
  rw [e1, Bool.eq_iff_iff, decide_eq_true_eq, decide_eq_true_eq, h.list]
  rcases hns with hns | hns
  · unfold pathL
    rw [if_neg hns]
    exact ⟨flat_prefix ms ns h'.free h.free, fun hp => prefix_flat hp he⟩
  · subst hns
    constructor
    · intro hp
      have := hp.length_le
      have h2 := flat_length ms
      have : ms.length = 0 := by
        simp [pathL] at this
        cases ms with
        | nil => rfl
        | cons a b => simp at h2; rw [this] at h2; simp at h2
      exact absurd (List.eq_nil_of_length_eq_zero this) hr
    · intro hp
      exact absurd (List.prefix_nil.1 hp) hr
end Go.Proofs.YtphddbijdfmpjaaGreatDoor.Q
namespace Go.Proofs.YtphddbijdfmpjaaGreatDoor.Q
open Go.RowKit Go.Proofs.YtphddbijdfmpjaaGreatDoorW.PrintWords Go.Proofs.YtphddbijdfmpjaaGreatDoorW.PrintLast
set_option linter.unusedVariables false
set_option linter.unusedSimpArgs false
theorem less_trans : ∀ x y z : List UInt8, Op.bytesLess x y = true → Op.bytesLess y z = true → Op.bytesLess x z = true
  | _, [], _, h, _ => by simp [Op.bytesLess] at h
  | _, _ :: _, [], _, h => by simp [Op.bytesLess] at h
  | [], _ :: _, _ :: _, _, _ => rfl
  | a :: x, b :: y, c :: z, h, k => by
    simp only [Op.bytesLess, Bool.or_eq_true, Bool.and_eq_true, decide_eq_true_eq, beq_iff_eq] at h k ⊢
    rcases h with h | ⟨rfl, h⟩
    · rcases k with k | ⟨rfl, k⟩
      · exact .inl (UInt8.lt_trans h k)
      · exact .inl h
    · rcases k with k | ⟨rfl, k⟩
      · exact .inl k
      · exact .inr ⟨rfl, less_trans x y z h k⟩
theorem less_irrefl : ∀ x : List UInt8, Op.bytesLess x x = false
  | [] => rfl
  | a :: x => by
    simp only [Op.bytesLess, less_irrefl x, Bool.and_false, Bool.or_false, decide_eq_false_iff_not]
    exact UInt8.lt_irrefl a
theorem less_total : ∀ x y : List UInt8, (Op.bytesLess x y || x == y) = !Op.bytesLess y x
  | [], [] => rfl
  | [], _ :: _ => rfl
  | _ :: _, [] => rfl
  | a :: x, b :: y => by
    have ih := less_total x y
    simp only [Op.bytesLess]
    rcases Nat.lt_trichotomy a.toNat b.toNat with h | h | h
    · have h1 : decide (a < b) = true := decide_eq_true (UInt8.lt_iff_toNat_lt.2 h)
      have h2 : decide (b < a) = false := decide_eq_false (fun e => by have := UInt8.lt_iff_toNat_lt.1 e; omega)
      have h3 : (b == a) = false := beq_eq_false_iff_ne.2 (fun e => by rw [e] at h; omega)
      rw [h1, h2, h3]; rfl
    · have e : a = b := UInt8.toNat_inj.1 h
      subst e
      have h1 : decide (a < a) = false := decide_eq_false (UInt8.lt_irrefl a)
      rw [h1, beq_self_eq_true, Bool.false_or, Bool.true_and, Bool.false_or, Bool.true_and, ← ih]
      congr 1
      show (a == a && x == y) = _
      rw [beq_self_eq_true, Bool.true_and]
    · have h1 : decide (a < b) = false := decide_eq_false (fun e => by have := UInt8.lt_iff_toNat_lt.1 e; omega)
      have h2 : decide (b < a) = true := decide_eq_true (UInt8.lt_iff_toNat_lt.2 h)
      have h3 : (a == b) = false := beq_eq_false_iff_ne.2 (fun e => by rw [e] at h; omega)
      have h4 : ((a :: x) == (b :: y)) = false := by show (a == b && x == y) = false; rw [h3]; rfl
      rw [h1, h2, h3, h4]; rfl
theorem binOp_leq_ (t : TypeId) (a b : ByteArray) : binOp .leq t (.string a) (.string b) = pure (.bool (!Op.bytesLess b.toList a.toList)) := by
  rw [← less_total]; simp [binOp, Op.stringOp]
theorem binOp_gtr_ (t : TypeId) (a b : ByteArray) : binOp .gtr t (.string a) (.string b) = pure (.bool (Op.bytesLess b.toList a.toList)) := by
  have h := less_total a.toList b.toList
  have e : Op.bytesLess b.toList a.toList = !(Op.bytesLess a.toList b.toList || a.toList == b.toList) := by rw [h, Bool.not_not]
  rw [e]; simp [binOp, Op.stringOp]
theorem binOp_geq_ (t : TypeId) (a b : ByteArray) : binOp .geq t (.string a) (.string b) = pure (.bool (!Op.bytesLess a.toList b.toList)) := by simp [binOp, Op.stringOp]
end Go.Proofs.YtphddbijdfmpjaaGreatDoor.Q
namespace Go.Proofs.YtphddbijdfmpjaaGreatDoor.Q
open Go.RowKit Go.Proofs.YtphddbijdfmpjaaGreatDoorW.PrintWords Go.Proofs.YtphddbijdfmpjaaGreatDoorW.PrintLast Go.Proofs.YtphddbijdfmpjaaGreatDoor.Pl
set_option linter.unusedVariables false
set_option linter.unusedSimpArgs false
def grw (w : World) (os : Array Obj) : World := { w with heap := w.heap ++ os }
def Grw (w w' : World) : Prop := ∃ q os, w' = grw (w.drewN q) os
theorem Grw.refl (w : World) : Grw w w := ⟨0, #[], by simp [grw, World.drewN]⟩
theorem Grw.trans {u v w : World} (h : Grw u v) (k : Grw v w) : Grw u w := by
  obtain ⟨q, os, rfl⟩ := h
  obtain ⟨r, ps, rfl⟩ := k
  exact ⟨q + r, os ++ ps, by simp [grw, World.drewN, Array.append_assoc, Nat.add_assoc]⟩
theorem Grw.one (w : World) (o : Obj) : Grw w (w.alloc o) := ⟨0, #[o], show ({ w with heap := w.heap.push o } : World) = { w with heap := w.heap ++ #[o] } by rw [Array.push_eq_append]⟩
theorem Grw.alloc {u w : World} (h : Grw u w) (o : Obj) : Grw u (w.alloc o) := h.trans (Grw.one w o)
theorem Grw.drewN {u w : World} (h : Grw u w) (n : Nat) : Grw u (w.drewN n) := h.trans ⟨n, #[], by simp [grw, World.drewN]⟩
theorem Grw.drew {u w : World} (h : Grw u w) : Grw u w.drew := h.drewN 1
theorem Grw.drawn0 {w w' : World} (h : Drawn0 w w') : Grw w w' := by
  obtain ⟨n, rfl⟩ := h.out
  exact (Grw.refl w).drewN n
theorem Grw.below {w w' : World} (h : Grw w w') : Below w.heap.size w w' := by
  obtain ⟨q, os, rfl⟩ := h
  exact ⟨rfl, rfl, rfl, by simp [grw, World.drewN], fun k hk => by simp only [grw, World.drewN]; rw [Array.getElem?_append_left hk]⟩
theorem iter_grw {w : World} (s : ByteArray) (p : Nat) : Grw w (w.iter s p) := Grw.one w _
set_option maxHeartbeats 4000000 in
set_option maxRecDepth 100000 in
theorem name_grw (a0 : ByteArray) (r : Bool) (w : World) (h : label_Name.f a0 = some r) :
    Calls Tryz.prog 69 #[.string a0] w fun e w' => e = .returned (.bool r) ∧ Grw w w' := by
  obtain rfl : nameB a0 = r := Option.some.inj h
  clear h
  by_cases h1 : a0.size < 1
  · rw [nameB_false (.inl h1)]
    have e1 : decide ((a0.size : Int) < 1) = true := by simp; omega
    go_enter Tryz.func69, Tryz.ntmps69
    go_wp2
    go_ret
    exact ⟨rfl, Grw.refl _⟩
  have e1 : decide ((a0.size : Int) < 1) = false := by simp; omega
  by_cases h2 : 32 < a0.size
  · rw [nameB_false (.inr (.inl h2))]
    have e2 : decide ((32 : Int) < (a0.size : Int)) = true := by simp; omega
    clear h1
    go_enter Tryz.func69, Tryz.ntmps69
    go_wp2
    go_ret
    exact ⟨rfl, Grw.refl _⟩
  have e2 : decide ((32 : Int) < (a0.size : Int)) = false := by simp; omega
  have hp : 0 < a0.size := by omega
  have hb0 : ((a0[0]'hp).toNat : Int) = bt a0 0 := bt_get a0 0 hp
  by_cases h3 : bt a0 0 = 45
  · rw [nameB_false (.inr (.inr (.inl h3)))]
    rw [h3] at hb0
    clear h3
    have e3 : (((a0[0]'hp).toNat : Int) == 45) = true := by simp; omega
    go_enter Tryz.func69, Tryz.ntmps69
    go_wp2
    go_ret
    exact ⟨rfl, Grw.refl _⟩
  have e3 : (((a0[0]'hp).toNat : Int) == 45) = false := by rw [hb0]; simpa using h3
  have hlo : 1 ≤ a0.size := by omega
  have hhi : a0.size ≤ 32 := by omega
  have h3' := Lib.hid h3
  clear h1 h2 h3 hb0
  have hl : a0.size - 1 < a0.size := by omega
  have hb1 : ((a0[a0.size - 1]'hl).toNat : Int) = bt a0 ((a0.size : Int) - 1) := by rw [bt_get a0 _ hl]; congr 1; omega
  by_cases h4 : bt a0 ((a0.size : Int) - 1) = 45
  · rw [nameB_false (.inr (.inr (.inr (.inl h4))))]
    rw [h4] at hb1
    clear h4
    have e4 : (((a0[a0.size - 1]'hl).toNat : Int) == 45) = true := by simp; omega
    go_enter Tryz.func69, Tryz.ntmps69
    go_wp2
    go_ret
    exact ⟨rfl, Grw.refl _⟩
  have e4 : (((a0[a0.size - 1]'hl).toNat : Int) == 45) = false := by rw [hb1]; simpa using h4
  have h4' := Lib.hid h4
  clear h4 hb1
  go_enter Tryz.func69, Tryz.ntmps69
  go_wp2
  go_loopg [] a0.size (fun g wx => ∃ pos : Nat, wx = w.iter a0 pos ∧ pos ≤ a0.size ∧ a0.size ≤ pos + g ∧ Aside0 (∀ j, (hj : j < pos) → (hj2 : j < a0.size) → okByte (a0[j]'hj2) = true))
  case atStart => exact ⟨0, rfl, by omega, by omega, ⟨fun j hj => by omega⟩⟩
  case round =>
    obtain ⟨pos, rfl, hps, hpg, hall⟩ := hrel
    by_cases hlt : pos < a0.size
    · cases gk with
      | zero => omega
      | succ g =>
        cases hok : okByte (a0[pos]'hlt) with
        | true =>
          have hok' := (ok_iff _).1 hok
          have ha : (a0[pos]'hlt).toNat < 128 := by
            rcases hok' with h | h
            · have := (plB_iff _).1 h; omega
            · omega
          have hall2 := Lib.hid (show ∀ j, (hj : j < pos + 1) → (hj2 : j < a0.size) → okByte (a0[j]'hj2) = true from fun j hj hj2 => by
            rcases Nat.lt_or_ge j pos with h | h
            · exact hall.out j h hj2
            · have e : j = pos := by omega
              subst e
              exact hok)
          have hnx := fun ty => run_next_ascii (P := Tryz.prog) w a0 pos ty hlt ha
          clear hall hok
          rcases hok' with h | h
          · go_wp2_with (go_at_call 88; refine (plain_any _ _).mono ?_; rintro e w' ⟨rfl, rfl⟩)
            go_roundg g
            case measure => omega
            case rel => exact ⟨pos + 1, rfl, by omega, by omega, ⟨hall2.out⟩⟩
          · cases hpl : plB ((a0[pos]'hlt).toNat : Int) with
            | true =>
              clear h
              go_wp2_with (go_at_call 88; refine (plain_any _ _).mono ?_; rintro e w' ⟨rfl, rfl⟩)
              go_roundg g
              case measure => omega
              case rel => exact ⟨pos + 1, rfl, by omega, by omega, ⟨hall2.out⟩⟩
            | false =>
              have e5 : (((a0[pos]'hlt).toNat : Int) != 45) = false := by rw [h]; rfl
              clear h
              go_wp2_with (go_at_call 88; refine (plain_any _ _).mono ?_; rintro e w' ⟨rfl, rfl⟩)
              go_roundg g
              case measure => omega
              case rel => exact ⟨pos + 1, rfl, by omega, by omega, ⟨hall2.out⟩⟩
        | false =>
          have hfin := Lib.hid (nameB_false (.inr (.inr (.inr (.inr (not_all_at a0 pos hlt hok))))))
          have hc : plB ((Utf8.decode a0 pos).1 : Int) = false ∧ ((((Utf8.decode a0 pos).1 : Nat) : Int) != 45) = true := by
            by_cases ha : (a0[pos]'hlt).toNat < 128
            · rw [decode_ascii a0 pos hlt ha]
              refine ⟨?_, ?_⟩
              · cases h : plB ((a0[pos]'hlt).toNat : Int) with
                | false => rfl
                | true => rw [(ok_iff _).2 (.inl h)] at hok; cases hok
              · rw [bne_iff_ne]
                intro h
                rw [(ok_iff _).2 (.inr h)] at hok; cases hok
            · have := (decode_high a0 pos hlt (by omega)).1
              exact ⟨plB_not _ (by omega), by rw [bne_iff_ne]; omega⟩
          obtain ⟨hc1, hc2⟩ := hc
          have hnx := fun ty => run_next_any (P := Tryz.prog) w a0 pos ty hlt
          clear hall hok
          generalize (Utf8.decode a0 pos).1 = cc at *
          generalize (Utf8.decode a0 pos).2 = dd at *
          go_wp2_with (go_at_call 88; refine (plain_any _ _).mono ?_; rintro e w' ⟨rfl, rfl⟩)
          go_ret
          exact ⟨by rw [hfin.out]; rfl, iter_grw _ _⟩
    · obtain rfl : pos = a0.size := by omega
      have hfin := Lib.hid (nameB_true hlo hhi h3'.out h4'.out (all_at a0 a0.size (fun j hj => hall.out j hj hj)))
      have hnx := run_next_end (P := Tryz.prog) w a0 a0.size
      clear hall
      go_wp2
      go_ret
      exact ⟨by rw [hfin.out]; rfl, iter_grw _ _⟩
theorem strs_split (a0 : ByteArray) (a1 : ByteArray) (w : World) (hc : a0.size < 4294967281 ∧ 1 ≤ a1.size) (hG : Glob w) :
    Calls Tryz.prog 68 #[.string a0, .string a1] w fun e w' => ∃ v0_ : Value, e = .returned (v0_) ∧ Kd.R Kd.string 9 w' w.heap.size (fun _ => True) v0_ (Lib.splitB a1 0 (Lib.countB a0 a1) a0) ∧ Grw w w' := by
  obtain ⟨m, hm⟩ := hG.maxLen
  refine (Tryz.strings_Split a0 a1 m w hc.1 hm hc.2).mono ?_
  rintro e w' ⟨rfl, rfl⟩
  have hl : (Lib.splitB a1 0 (Lib.countB a0 a1) a0).length = Lib.countB a0 a1 + 1 := Lib.splitB_all a1 hc.2 0 _ a0 rfl
  have hle := Lib.countB_le a1 hc.2 a0.size a0 (Nat.le_refl _)
  refine ⟨_, rfl, ?_, Grw.one _ _⟩
  have ho := World.ownsRow_lit (base := w.heap.size) (e := 9) (size := 1) w ((Lib.splitB a1 0 (Lib.countB a0 a1) a0).map Value.string).toArray (Lib.countB a0 a1 + 1) (Nat.le_refl _) (by unfold maxLen; omega) (by simp [hl])
  refine Kd.R_of_own (h1 := fun _ => rfl) (ok := fun _ => True) ?_ (fun _ _ => trivial)
  rw [hl]
  exact ho
theorem pieces_split (a0 : ByteArray) (w : World) (h : a0.size < 4294967281) (hG : Glob w) :
    Calls Tryz.prog 68 #[.string a0, .string (⟨#[47]⟩ : ByteArray)] w fun e w' => ∃ v0_ : Value, e = .returned (v0_) ∧ Kd.R Kd.string 9 w' w.heap.size (fun _ => True) v0_ ((pcs 47 a0.data.toList).map toB) ∧ Grw w w' := by
  have hs := split_some a0 47 h
  unfold strings_Split.f at hs
  rw [if_pos ⟨h, Nat.le_refl 1⟩] at hs
  rw [← Option.some.inj hs]
  exact strs_split a0 _ w ⟨h, Nat.le_refl 1⟩ hG
def Txts (w : World) (v : Value) (l : List ByteArray) : Prop := ∃ A c, v = .slice A l.length c ∧ Kd.string.C w A l.length l
theorem Txts.below {w w' : World} {v : Value} {l : List ByteArray} (h : Txts w v l) (hb : Below w.heap.size w w') : Txts w' v l := by
  obtain ⟨A, c, rfl, hC⟩ := h
  exact ⟨A, c, rfl, Kd.C_below hC hb⟩
theorem Txts.nil (w : World) : Txts w (.slice none 0 0) [] := ⟨none, 0, rfl, (Kd.R_reads' (Kd.R_nil Kd.string 9 w 0 (fun _ => True))).2.2⟩
theorem Txts.at {w w' : World} {A : Option Addr} {l : List ByteArray} (h : Kd.string.C w A l.length l) (hb : Below w.heap.size w w') {i : Nat} (hi : i < l.length) : ∃ ad, A = some ad ∧ w'.cell? (ad.add i) = some (.string l[i]) := by
  obtain ⟨ad, e, hx⟩ := Kd.at_string (Kd.C_below h hb) (i : Int) (by omega) (by omega)
  refine ⟨ad, e, ?_⟩
  rw [rd_at _ i hi, Int.toNat_natCast] at hx
  exact hx
end Go.Proofs.YtphddbijdfmpjaaGreatDoor.Q
namespace Go.Proofs.YtphddbijdfmpjaaGreatDoor.Q
open Go.RowKit Go.Proofs.YtphddbijdfmpjaaGreatDoorW.PrintWords Go.Proofs.YtphddbijdfmpjaaGreatDoorW.PrintLast Go.Proofs.YtphddbijdfmpjaaGreatDoor.Pl
set_option linter.unusedVariables false
set_option linter.unusedSimpArgs false
def SplitSays (s : ByteArray) (w : World) (r : List ByteArray × Int) (e : Ending) (w' : World) : Prop := ∃ v0, e = .returned (.tuple #[v0, .int .i64 r.2]) ∧ Txts w' v0 r.1 ∧ Grw w w'
set_option maxHeartbeats 8000000 in
set_option maxRecDepth 100000 in
theorem split_grw (s : ByteArray) (w : World) (hG : Glob w) : Calls Tryz.prog 47 #[.string s] w fun e w' => SplitSays s w (splitS s) e w' := by
  by_cases hr : s.data.toList = [47]
  · have e0 : (s.toList == ([47] : List UInt8)) = true := by rw [ByteArray.toList_eq, hr]; rfl
    have e1 : splitS s = ([], 0) := by unfold splitS; rw [if_pos hr]
    rw [e1]
    clear e1 hr hG
    go_enter Tryz.func47, Tryz.ntmps47
    go_wp2
    go_ret2
    exact ⟨_, rfl, Txts.nil _, Grw.refl _⟩
  have e0 : (s.toList == ([47] : List UInt8)) = false := by rw [ByteArray.toList_eq]; exact beq_eq_false_iff_ne.2 hr
  by_cases hp : (⟨#[47]⟩ : ByteArray).data.toList <+: s.data.toList
  rotate_left
  · have hcut := cutPrefix_no s _ hp
    have KEY := Lib.hid (fun w => strings_CutPrefix.calls s (⟨#[47]⟩ : ByteArray) _ _ w hcut)
    have e1 : splitS s = ([], 41) := by
      unfold splitS
      rw [if_neg hr]
      cases hl : s.data.toList with
      | nil => rfl
      | cons c r =>
        show (if c = 47 ∧ s.size ≤ 64 ∧ (pcs 47 r).length ≤ 8 ∧ (pcs 47 r).all nameL = true then ((pcs 47 r).map toB, (0 : Int)) else ([], 41)) = _
        rw [if_neg (fun h => hp (by rw [hl, h.1]; simp))]
    rw [e1]
    clear e1 hr hG hp hcut
    go_enter Tryz.func47, Tryz.ntmps47
    go_wp2_with (go_at_call 67; refine (KEY.out _).mono ?_; rintro e w2 ⟨rfl, hd⟩; have H2 := Lib.hid (Grw.drawn0 hd); clear hd)
    go_ret2
    exact ⟨_, rfl, Txts.nil _, H2.out⟩
  obtain ⟨r, hl⟩ : ∃ r, s.data.toList = 47 :: r := by
    obtain ⟨t, ht⟩ := hp
    exact ⟨t, ht.symm⟩
  have hcut := cutPrefix_yes s (⟨#[47]⟩ : ByteArray) hp
  rw [show s.data.toList.drop (⟨#[47]⟩ : ByteArray).size = r by rw [hl]; rfl] at hcut
  have hrs : (toB r).size < 4294967281 ∨ 64 < s.size := by
    rw [toB_size]
    have := size_list s
    rw [hl] at this
    simp at this
    omega
  have KEY := Lib.hid (fun w => strings_CutPrefix.calls s (⟨#[47]⟩ : ByteArray) _ _ w hcut)
  have hsp : splitS s = if s.size ≤ 64 ∧ (pcs 47 r).length ≤ 8 ∧ (pcs 47 r).all nameL = true then ((pcs 47 r).map toB, (0 : Int)) else ([], 41) := by
    unfold splitS
    rw [if_neg hr, hl]
    show (if (47 : UInt8) = 47 ∧ s.size ≤ 64 ∧ (pcs 47 r).length ≤ 8 ∧ (pcs 47 r).all nameL = true then ((pcs 47 r).map toB, (0 : Int)) else ([], 41)) = _
    by_cases h : s.size ≤ 64 ∧ (pcs 47 r).length ≤ 8 ∧ (pcs 47 r).all nameL = true
    · rw [if_pos ⟨rfl, h⟩, if_pos h]
    · rw [if_neg (fun h2 => h h2.2), if_neg h]
  clear hcut hp hl hr
  by_cases h64 : s.size ≤ 64
  rotate_left
  · rw [hsp, if_neg (fun h => h64 h.1)]
    have d1 : decide (64 < (s.size : Int)) = true := decide_eq_true (by omega)
    have d1n : decide (64 < s.size) = true := decide_eq_true (by omega)
    clear hsp h64 hrs hG
    go_enter Tryz.func47, Tryz.ntmps47
    go_wp2_with (go_at_call 67; refine (KEY.out _).mono ?_; rintro e w2 ⟨rfl, hd⟩; have H2 := Lib.hid (Grw.drawn0 hd); clear hd)
    go_ret2
    exact ⟨_, rfl, Txts.nil _, H2.out⟩
  have d1 : decide (64 < (s.size : Int)) = false := decide_eq_false (by omega)
  have d1n : decide (64 < s.size) = false := decide_eq_false (by omega)
  have PK := Lib.hid (fun w hG => pieces_split (toB r) w (by omega) hG)
  rw [show (toB r).data.toList = r from toB_list r] at PK
  have GL := Lib.hid hG
  by_cases h8 : (pcs 47 r).length ≤ 8
  rotate_left
  · rw [hsp, if_neg (fun h => h8 h.2.1)]
    have d2 : decide (8 < (((pcs 47 r).map toB).length : Int)) = true := decide_eq_true (by rw [List.length_map]; omega)
    have d2n : decide (8 < ((pcs 47 r).map toB).length) = true := decide_eq_true (by rw [List.length_map]; omega)
    have d2m : decide (8 < (pcs 47 r).length) = true := decide_eq_true (by omega)
    have d2k : decide (8 < ((pcs 47 r).length : Int)) = true := decide_eq_true (by omega)
    clear hsp hrs hG h64 h8
    go_enter Tryz.func47, Tryz.ntmps47
    go_wp2_with (first
      | (go_at_call 67; refine (KEY.out _).mono ?_; rintro e w2 ⟨rfl, hd⟩; have H2 := Aside0.mk (Grw.drawn0 hd); clear hd)
      | (go_at_call 68; refine (PK.out _ (GL.out.below H2.out.below)).mono ?_; rintro e w3 ⟨v0, rfl, hR, hg⟩; obtain ⟨A0, c0, rfl⟩ := Kd.R_slice hR; have H3 := Aside0.mk (H2.out.trans hg); clear hR hg))
    go_ret2
    exact ⟨_, rfl, Txts.nil _, H3.out⟩
  have d2 : decide (8 < (((pcs 47 r).map toB).length : Int)) = false := decide_eq_false (by rw [List.length_map]; omega)
  have d2n : decide (8 < ((pcs 47 r).map toB).length) = false := decide_eq_false (by rw [List.length_map]; omega)
  obtain ⟨l, hll⟩ : ∃ l, l = (pcs 47 r).map toB := ⟨_, rfl⟩
  have hlen : l.length ≤ 8 := by rw [hll, List.length_map]; exact h8
  have hall : (pcs 47 r).all nameL = l.all nameB := by rw [hll, List.all_map]; rfl
  rw [← hll] at PK d2 d2n
  have e2 : splitS s = if l.all nameB = true then (l, (0 : Int)) else ([], 41) := by
    rw [hsp, hall, ← hll]
    by_cases ha : l.all nameB = true
    · rw [if_pos ⟨h64, h8, ha⟩, if_pos ha]
    · rw [if_neg (fun h => ha h.2.2), if_neg ha]
  obtain ⟨res, hres⟩ : ∃ res, res = splitS s := ⟨_, rfl⟩
  rw [← hres]
  rw [← hres] at e2
  have E2 := Lib.hid e2
  have HLEN := Lib.hid hlen
  clear hsp hrs hG h64 h8 hll hall e2 hlen hres
  go_enter Tryz.func47, Tryz.ntmps47
  go_upto_region 10 with (first
    | (go_at_call 67; refine (KEY.out _).mono ?_; rintro e w2 ⟨rfl, hd⟩; have H2 := Aside0.mk (Grw.drawn0 hd); clear hd)
    | (go_at_call 68; refine (PK.out _ (GL.out.below H2.out.below)).mono ?_; rintro e w3 ⟨v0, rfl, hR, hg⟩; obtain ⟨A0, c0, rfl⟩ := Kd.R_slice hR; have C3 := Aside0.mk (Kd.R_reads' hR).2.2; have H3 := Aside0.mk (H2.out.trans hg); clear hR hg))
  clear KEY PK H2
  go_loopg [30] l.length (fun g v30 wr => ∃ (i : Nat), v30 = .int .i64 (i : Int) ∧ Aside0 (i + g = l.length) ∧ Aside0 ((l.take i).all nameB = true) ∧ Aside0 (Grw w3 wr))
  case atStart => exact ⟨0, rfl, ⟨by omega⟩, ⟨by simp⟩, ⟨Grw.refl _⟩⟩
  case round =>
    obtain ⟨i, rfl, HI, HA, HGR⟩ := hrel
    by_cases hi : i < l.length
    · obtain ⟨ad, hA, hx⟩ := Txts.at C3.out HGR.out.below hi
      cases hA
      have p115 : (0 ≤ (i : Int)) = True := eq_true (by omega)
      have q115 : ((i : Int) < (l.length : Int)) = True := eq_true (by omega)
      have q1 : decide ((i : Int) < (l.length : Int)) = true := decide_eq_true (by omega)
      have HT := Lib.hid (show l.take (i + 1) = l.take i ++ [l[i]] from List.take_succ_eq_append_getElem hi)
      have HIN := Lib.hid (List.getElem_mem hi)
      have NK := Lib.hid (fun w => name_grw l[i] (nameB l[i]) w rfl)
      obtain ⟨g0, rfl⟩ : ∃ g0, gk = g0 + 1 := ⟨gk - 1, by have := HI.out; omega⟩
      have HLT := Lib.hid hi
      generalize l[i] = q at hx NK HT HIN
      clear hi
      cases hn : nameB q with
      | true =>
        rw [hn] at NK
        have HNB := Lib.hid hn
        clear hn
        go_wp2_with (go_at_call 69; refine (NK.out _).mono ?_; rintro e w5 ⟨rfl, hg⟩; have H5 := Aside0.mk (HGR.out.trans hg); clear hg)
        go_roundg g0
        case measure => omega
        case rel => exact ⟨i + 1, congrArg (Value.int .i64) (by rw [w64 i (by have := HLT.out; have := HLEN.out; omega)]), ⟨by have := HI.out; omega⟩, ⟨by rw [HT.out, List.all_append, HA.out]; simp [HNB.out]⟩, H5⟩
      | false =>
        rw [hn] at NK
        have HNB := Lib.hid hn
        clear hn
        go_wp2_with (go_at_call 69; refine (NK.out _).mono ?_; rintro e w5 ⟨rfl, hg⟩; have H5 := Aside0.mk (HGR.out.trans hg); clear hg)
        go_ret2
        rw [E2.out, if_neg (fun h => by rw [List.all_eq_true] at h; have := h q HIN.out; rw [HNB.out] at this; cases this)]
        exact ⟨_, rfl, Txts.nil _, H3.out.trans H5.out⟩
    · have q1 : decide ((i : Int) < (l.length : Int)) = false := decide_eq_false (by omega)
      have HI0 := Lib.hid hi
      clear hi
      go_wp2
      go_ret2
      rw [E2.out, if_pos (by have := HA.out; rw [List.take_of_length_le (by have := HI0.out; omega)] at this; exact this)]
      exact ⟨_, rfl, ⟨A0, c0, rfl, Kd.C_below C3.out HGR.out.below⟩, H3.out.trans HGR.out⟩
set_option maxHeartbeats 4000000 in
theorem names_grw (s : ByteArray) (w : World) (hG : Glob w) : Calls Tryz.prog 27 #[.string s] w fun e w' => ∃ v0, e = .returned v0 ∧ Txts w' v0 (splitS s).1 ∧ Grw w w' := by
  have KEY := Lib.hid (split_grw s w hG)
  clear hG
  go_enter Tryz.func27, Tryz.ntmps27
  go_wp2_with (go_at_call 47; refine KEY.out.mono ?_; rintro e w2 ⟨v0, rfl, hT, hg⟩; have HT := Lib.hid hT; have HGR := Lib.hid hg; clear hT hg)
  go_ret
  exact ⟨v0, rfl, HT.out, HGR.out⟩
end Go.Proofs.YtphddbijdfmpjaaGreatDoor.Q
namespace Go.Proofs.YtphddbijdfmpjaaGreatDoor.Q
open Go.RowKit Go.Proofs.YtphddbijdfmpjaaGreatDoorW.PrintWords Go.Proofs.YtphddbijdfmpjaaGreatDoorW.PrintLast Go.Proofs.YtphddbijdfmpjaaGreatDoor.Pl
set_option linter.unusedVariables false
set_option linter.unusedSimpArgs false
def cmpS (a b : ByteArray) : Int := if Op.bytesLess a.toList b.toList = true then -1 else if Op.bytesLess b.toList a.toList = true then 1 else 0
def cmpL : List ByteArray → List ByteArray → Int
  | [], [] => 0
  | [], _ :: _ => -1
  | _ :: _, [] => 1
  | a :: x, b :: y => if cmpS a b ≠ 0 then cmpS a b else cmpL x y
attribute [local go_sem] binOp_gtr_
theorem nan_ok (a : ByteArray) (w : World) : Calls Tryz.prog 48 #[.string a] w fun e w' => e = .returned (.bool false) ∧ w' = w := by
  go_enter Tryz.func48, Tryz.ntmps48
  go_wp2
  go_ret
  exact ⟨by simp, rfl⟩
set_option maxHeartbeats 4000000 in
theorem compare_ok (a b : ByteArray) (w : World) : Calls Tryz.prog 28 #[.string a, .string b] w fun e w' => e = .returned (.int .i64 (cmpS a b)) ∧ w' = w := by
  have hgt := less_total a.toList b.toList
  unfold cmpS
  cases h1 : Op.bytesLess a.toList b.toList with
  | true =>
    rw [if_pos rfl]
    clear hgt
    go_enter Tryz.func28, Tryz.ntmps28
    go_wp2_with (go_at_call 48; refine (nan_ok _ _).mono ?_; rintro e w' ⟨rfl, rfl⟩)
    go_ret
    exact ⟨rfl, rfl⟩
  | false =>
    rw [if_neg (by decide)]
    rw [h1, Bool.false_or] at hgt
    cases h2 : Op.bytesLess b.toList a.toList with
    | true =>
      rw [if_pos rfl]
      clear hgt
      go_enter Tryz.func28, Tryz.ntmps28
      go_wp2_with (go_at_call 48; refine (nan_ok _ _).mono ?_; rintro e w' ⟨rfl, rfl⟩)
      go_ret
      exact ⟨rfl, rfl⟩
    | false =>
      rw [if_neg (by decide)]
      clear hgt
      go_enter Tryz.func28, Tryz.ntmps28
      go_wp2_with (go_at_call 48; refine (nan_ok _ _).mono ?_; rintro e w' ⟨rfl, rfl⟩)
      go_ret
      exact ⟨rfl, rfl⟩
theorem txt_at {w : World} {A : Option Addr} {l : List ByteArray} (h : Kd.string.C w A l.length l) {i : Nat} (hi : i < l.length) : ∃ ad, A = some ad ∧ w.cell? (ad.add i) = some (.string l[i]) := Txts.at h (Below.refl _ _) hi
set_option maxHeartbeats 8000000 in
set_option maxRecDepth 100000 in
theorem lists_ok (A B : Option Addr) (c d : Nat) (x y : List ByteArray) (w : World) (hx : Kd.string.C w A x.length x) (hy : Kd.string.C w B y.length y) (hlx : x.length ≤ 2513169434843) (hly : y.length ≤ 2513169434843) :
    Calls Tryz.prog 26 #[.slice A x.length c, .slice B y.length d] w fun e w' => e = .returned (.int .i64 (cmpL x y)) ∧ w' = w := by
  obtain ⟨res, hres⟩ : ∃ res, res = cmpL x y := ⟨_, rfl⟩
  rw [← hres]
  have HR := Lib.hid hres
  have HX := Lib.hid hx
  have HY := Lib.hid hy
  have HLX := Lib.hid hlx
  have HLY := Lib.hid hly
  clear hres hx hy hlx hly
  go_enter Tryz.func26, Tryz.ntmps26
  go_upto_region 2 with fail
  go_loopg [11] x.length (fun g v11 wr => ∃ (i : Nat), v11 = .int .i64 (i : Int) ∧ Aside0 (i + g = x.length) ∧ Aside0 (i ≤ y.length) ∧ Aside0 (cmpL (x.drop i) (y.drop i) = res) ∧ wr = w)
  case atStart => exact ⟨0, rfl, ⟨by omega⟩, ⟨by omega⟩, ⟨by rw [List.drop_zero, List.drop_zero]; exact HR.out.symm⟩, rfl⟩
  case round =>
    obtain ⟨i, rfl, HI, HIY, HC, rfl⟩ := hrel
    by_cases hi : i < x.length
    · obtain ⟨ad, hA, hxa⟩ := txt_at HX.out hi
      cases hA
      have HDX := Lib.hid (List.drop_eq_getElem_cons hi)
      have p1 : (0 ≤ (i : Int)) = True := eq_true (by omega)
      have p2 : ((i : Int) < (x.length : Int)) = True := eq_true (by omega)
      have p3 : decide ((i : Int) < (x.length : Int)) = true := decide_eq_true (by omega)
      have p3n : decide (i < x.length) = true := decide_eq_true hi
      have HLT := Lib.hid hi
      obtain ⟨g0, rfl⟩ : ∃ g0, gk = g0 + 1 := ⟨gk - 1, by have := HI.out; omega⟩
      generalize x[i] = xi at hxa HDX
      clear hi
      by_cases hj : i < y.length
      · obtain ⟨ad2, hB, hya⟩ := txt_at HY.out hj
        cases hB
        have HDY := Lib.hid (List.drop_eq_getElem_cons hj)
        have r2 : ((i : Int) < (y.length : Int)) = True := eq_true (by omega)
        have r3 : decide ((i : Int) ≥ (y.length : Int)) = false := decide_eq_false (by omega)
        have r4 : decide ((y.length : Int) ≤ (i : Int)) = false := decide_eq_false (by omega)
        have r5 : decide (y.length ≤ i) = false := decide_eq_false (by omega)
        have HJT := Lib.hid hj
        generalize y[i] = yi at hya HDY
        clear hj
        have CK := Lib.hid (fun w => compare_ok xi yi w)
        have hcc : cmpL (x.drop i) (y.drop i) = if cmpS xi yi ≠ 0 then cmpS xi yi else cmpL (x.drop (i + 1)) (y.drop (i + 1)) := by rw [HDX.out, HDY.out]; rfl
        have HCC := Lib.hid hcc
        clear hcc
        generalize cmpS xi yi = cc at CK HCC
        by_cases h0 : cc = 0
        · have e0 : (cc != 0) = false := bne_eq_false_iff_eq.2 h0
          have HC0 := Lib.hid h0
          clear h0
          go_wp2_with (go_at_call 28; refine (CK.out _).mono ?_; rintro e w' ⟨rfl, rfl⟩)
          go_roundg g0
          case measure => omega
          case rel => exact ⟨i + 1, congrArg (Value.int .i64) (by rw [w64 i (by have := HLT.out; have := HLX.out; omega)]), ⟨by have := HI.out; omega⟩, ⟨by have := HJT.out; omega⟩, ⟨by have := HCC.out; rw [if_neg (by simp [HC0.out])] at this; rw [← this]; exact HC.out⟩, rfl⟩
        · have e0 : (cc != 0) = true := bne_iff_ne.2 h0
          have HC0 := Lib.hid h0
          clear h0
          go_wp2_with (go_at_call 28; refine (CK.out _).mono ?_; rintro e w' ⟨rfl, rfl⟩)
          go_ret
          exact ⟨by rw [← HC.out, HCC.out, if_pos HC0.out] <;> rfl, rfl⟩
      · have r3 : decide ((i : Int) ≥ (y.length : Int)) = true := decide_eq_true (by omega)
        have r4 : decide ((y.length : Int) ≤ (i : Int)) = true := decide_eq_true (by omega)
        have r5 : decide (y.length ≤ i) = true := decide_eq_true (by omega)
        have HDY := Lib.hid (show y.drop i = [] from List.drop_of_length_le (by omega))
        clear hj
        go_wp2
        go_ret
        exact ⟨by rw [← HC.out, HDX.out, HDY.out] <;> rfl, rfl⟩
    · have p3 : decide ((i : Int) < (x.length : Int)) = false := decide_eq_false (by omega)
      have p3n : decide (i < x.length) = false := decide_eq_false hi
      have HDX := Lib.hid (show x.drop i = [] from List.drop_of_length_le (by omega))
      by_cases hlt : x.length < y.length
      · have p4 : decide ((x.length : Int) < (y.length : Int)) = true := decide_eq_true (by omega)
        have p5 : decide (x.length < y.length) = true := decide_eq_true hlt
        have hdy : ∃ b t, y.drop i = b :: t := by
          have : i < y.length := by have := HI.out; omega
          exact ⟨_, _, List.drop_eq_getElem_cons this⟩
        have HDY := Lib.hid hdy
        clear hi hlt hdy
        go_wp2
        go_ret
        obtain ⟨b, t, hbt⟩ := HDY.out
        exact ⟨by rw [← HC.out, HDX.out, hbt] <;> rfl, rfl⟩
      · have p4 : decide ((x.length : Int) < (y.length : Int)) = false := decide_eq_false (by omega)
        have p5 : decide (x.length < y.length) = false := decide_eq_false hlt
        have HDY := Lib.hid (show y.drop i = [] from List.drop_of_length_le (by have := HI.out; omega))
        clear hi hlt
        go_wp2
        go_ret
        exact ⟨by rw [← HC.out, HDX.out, HDY.out] <;> rfl, rfl⟩
set_option maxHeartbeats 4000000 in
theorem or_ok (g : Nat) (x y : Int) (w : World) (h0 : w.cell? ⟨g, 0, none⟩ = some (.int .i64 x)) (h1 : w.cell? ⟨g, 1, none⟩ = some (.int .i64 y)) :
    Calls Tryz.prog 25 #[.slice (some ⟨g, 0, none⟩) 2 2] w fun e w' => e = .returned (.int .i64 (if x ≠ 0 then x else y)) ∧ w' = w := by
  obtain ⟨res, hres⟩ : ∃ res, res = (if x ≠ 0 then x else y) := ⟨_, rfl⟩
  rw [← hres]
  have HR := Lib.hid hres
  have h1' : w.cell? ((⟨g, 0, none⟩ : Addr).add 1) = some (.int .i64 y) := h1
  clear hres
  go_enter Tryz.func25, Tryz.ntmps25
  go_upto_region 3 with fail
  go_loopg [8] 2 (fun gq v8 wr => ∃ (i : Nat), v8 = .int .i64 (i : Int) ∧ Aside0 (i + gq = 2) ∧ Aside0 (1 ≤ i → x = 0) ∧ Aside0 (2 ≤ i → y = 0) ∧ wr = w)
  case atStart => exact ⟨0, rfl, ⟨rfl⟩, ⟨by omega⟩, ⟨by omega⟩, rfl⟩
  case round =>
    obtain ⟨i, rfl, HI, HX, HY, rfl⟩ := hrel
    obtain rfl | rfl | rfl : i = 0 ∨ i = 1 ∨ i = 2 := by have := HI.out; omega
    · obtain ⟨g0, rfl⟩ : ∃ g0, gk = g0 + 1 := ⟨gk - 1, by have := HI.out; omega⟩
      by_cases hx : x = 0
      · have e0 : (x != 0) = false := bne_eq_false_iff_eq.2 hx
        have HX0 := Lib.hid hx
        clear hx
        go_wp2
        go_roundg g0
        case measure => omega
        case rel => exact ⟨1, rfl, ⟨by have := HI.out; omega⟩, ⟨fun _ => HX0.out⟩, ⟨by omega⟩, rfl⟩
      · have e0 : (x != 0) = true := bne_iff_ne.2 hx
        have HX0 := Lib.hid hx
        clear hx
        go_wp2
        go_ret
        exact ⟨by rw [HR.out, if_pos HX0.out] <;> rfl, rfl⟩
    · obtain ⟨g0, rfl⟩ : ∃ g0, gk = g0 + 1 := ⟨gk - 1, by have := HI.out; omega⟩
      by_cases hy : y = 0
      · have e0 : (y != 0) = false := bne_eq_false_iff_eq.2 hy
        have HY0 := Lib.hid hy
        clear hy
        go_wp2
        go_roundg g0
        case measure => omega
        case rel => exact ⟨2, rfl, ⟨by have := HI.out; omega⟩, ⟨fun _ => HX.out (by omega)⟩, ⟨fun _ => HY0.out⟩, rfl⟩
      · have e0 : (y != 0) = true := bne_iff_ne.2 hy
        clear hy
        go_wp2
        go_ret
        exact ⟨by rw [HR.out, if_neg (by simp [HX.out (by omega)])] <;> rfl, rfl⟩
    · go_wp2
      go_ret
      exact ⟨by rw [HR.out, if_neg (by simp [HX.out (by omega)]), HY.out (by omega)] <;> rfl, rfl⟩
end Go.Proofs.YtphddbijdfmpjaaGreatDoor.Q
namespace Go.Proofs.YtphddbijdfmpjaaGreatDoor.Wr
open Go.RowKit Go.Proofs.YtphddbijdfmpjaaGreatDoorW.PrintWords Go.Proofs.YtphddbijdfmpjaaGreatDoorW.PrintLast
set_option linter.unusedVariables false
set_option linter.unusedSimpArgs false
def bl (n m : Nat) : Array Bool := (List.replicate n true ++ List.replicate m false).toArray
theorem info5 : (Tryz.prog.info? 5).map (fun i => (i.zero, i.size, i.bytes)) = some (some (.int .u8 0), 1, 1) := by kernel_rfl
theorem info_parts {P : Program} {t : TypeId} {z : Option Value} {s b : Nat} (h : (P.info? t).map (fun i => (i.zero, i.size, i.bytes)) = some (z, s, b)) : ∃ i, P.info? t = some i ∧ i.zero = z ∧ i.size = s ∧ i.bytes = b := by
  obtain ⟨i, hi, hz⟩ := Option.map_eq_some_iff.1 h
  simp only [Prod.mk.injEq] at hz
  exact ⟨i, hi, hz.1, hz.2.1, hz.2.2⟩
structure WrIs (w : World) (base g : Nat) (lim : Int) (out : List Int) (err : Int) : Prop where
  ge : base ≤ g
  cells : ∃ A c, w.heap[g]? = some (.cells #[.int .i64 lim, .slice A out.length c, .int .i64 err] 121 (0, 0)) ∧ w.ownsRow base 5 1 (.slice A out.length c) out.length (nums .u8 out)
theorem drew_below (w : World) : Below w.heap.size w w.drew := below_drew1 (Below.refl _ _)
theorem WrIs.below {w w' : World} {base g : Nat} {lim err : Int} {out : List Int} (h : WrIs w base g lim out err) (hb : Below w.heap.size w w') : WrIs w' base g lim out err := by
  obtain ⟨A, c, h1, h2⟩ := h.cells
  exact ⟨h.ge, A, c, blk_below h1 hb, own_move h2 (fun k hk => hb.block k (own_lt h2 k hk))⟩
theorem below_setB {base : Nat} {w W : World} {g j : Nat} {v : Value} (h : Below base w W) (hg : base ≤ g) : Below base w (W.setCell ⟨g, j, none⟩ v) := h.setCell hg _
set_option maxHeartbeats 8000000 in
set_option maxRecDepth 100000 in
theorem lay_ok (w : World) (base g : Nat) (lim : Int) (out hd : List Int) (ad : Addr) (c : Nat) (text : ByteArray) (h : WrIs w base g lim out 0) (hh : ∀ j u, (nums .u8 hd)[j]? = some u → w.cell? (ad.add j) = some u)
    (hlim : lim ≤ 1048576) (hroom : ((out.length + hd.length + text.size : Nat) : Int) ≤ lim) (hbase : base ≤ w.heap.size) :
    Calls Tryz.prog 90 #[.pointer (some ⟨g, 0, none⟩), .slice (some ad) hd.length c, .string text] w fun e w' => e = .returned (.tuple #[]) ∧ WrIs w' base g lim (out ++ hd ++ bytesOf text) 0 ∧ Below base w w' := by
  obtain ⟨A, co, hb, ho⟩ := h.cells
  have hu47 := Tryz.underlying112
  obtain ⟨i0, hi0, hz0, hz1, hz2⟩ := info_parts info5
  have HI := Lib.hid hi0
  have HZ := Lib.hid (And.intro hz0 (And.intro hz1 hz2))
  have hc0 := (blk_cell hb 0).trans rfl
  have hc1 := (blk_cell hb 1).trans rfl
  have hc2 := (blk_cell hb 2).trans rfl
  have hge := h.ge
  have d1 : decide (lim - (out.length : Int) < (hd.length : Int)) = false := decide_eq_false (by omega)
  have d2 : decide (lim - (out.length : Int) - (hd.length : Int) < (text.size : Int)) = false := decide_eq_false (by omega)
  have b1 : out.length + hd.length + text.size ≤ 1048576 := by omega
  have b0 : (0 : Int) ≤ lim := by omega
  have w1 : IntKind.i64.wrap (lim - (out.length : Int)) = lim - (out.length : Int) := by rw [IntKind.wrap_i64]; omega
  have w2 : IntKind.i64.wrap (lim - (out.length : Int) - (hd.length : Int)) = lim - (out.length : Int) - (hd.length : Int) := by rw [IntKind.wrap_i64]; omega
  have HW := Lib.hid h
  have HHH := Lib.hid hh
  have HB := Lib.hid hb
  have HO := Lib.hid ho
  have HRM := Lib.hid hroom
  have HB1 := Lib.hid b1
  clear h hh hb ho hi0 hz0 hz1 hz2 hroom b1
  go_enter Tryz.func90, Tryz.ntmps90
  go_upto_region 1 with fail
  refine start_ (n := 31) (S := fun w' => w'.cell? ⟨g, 0, none⟩ = some (.int .i64 lim) ∧ w'.cell? ⟨g, 1, none⟩ = some (.slice A out.length co)) (ds := []) (bl 0 31) (by kernel_rfl) rfl rfl ⟨hc0, hc1⟩ (fun hHeld => ?_)
  have hwd := drew_below w
  generalize w.drew = wd at hwd hHeld ⊢
  have HWD := Lib.hid hwd
  clear hwd hc0 hc1 hc2
  refine pure_ (i := 0) (N := some 11) (v := ?_) (a' := ?_) (bl 1 30) rfl rfl (by kernel_rfl) (fun _ _ _ h => h) (Or.inl ⟨by rfl, ?_⟩) ?_ ?_
  rotate_left
  · intro w'
    go_simp
    with_reducible rfl
  rotate_left
  · simp only [Act.put, List.setIfInBounds_toArray, List.set_cons_zero, List.set_cons_succ, i64_w, i32_w]
    rfl
  refine pure_ (i := 1) (N := some 12) (v := ?_) (a' := ?_) (bl 2 29) rfl rfl (by kernel_rfl) (fun _ _ _ h => h) (Or.inl ⟨by rfl, ?_⟩) ?_ ?_
  rotate_left
  · intro w'
    go_simp
    with_reducible rfl
  rotate_left
  · simp only [Act.put, List.setIfInBounds_toArray, List.set_cons_zero, List.set_cons_succ, i64_w, i32_w]
    rfl
  refine pure_ (i := 2) (N := some 13) (v := ?_) (a' := ?_) (bl 3 28) rfl rfl (by kernel_rfl) (fun _ _ _ h => h) (Or.inl ⟨by rfl, ?_⟩) ?_ ?_
  rotate_left
  · intro w'
    go_simp
    with_reducible rfl
  rotate_left
  · simp only [Act.put, List.setIfInBounds_toArray, List.set_cons_zero, List.set_cons_succ, i64_w, i32_w]
    rfl
  refine pure_ (i := 3) (N := some 14) (v := ?_) (a' := ?_) (bl 4 27) rfl rfl (by kernel_rfl) (fun _ _ _ h => h) (Or.inl ⟨by rfl, ?_⟩) ?_ ?_
  rotate_left
  · intro w'
    go_simp
    with_reducible rfl
  rotate_left
  · simp only [Act.put, List.setIfInBounds_toArray, List.set_cons_zero, List.set_cons_succ, i64_w, i32_w]
    rfl
  refine pure_ (i := 4) (N := some 15) (v := ?_) (a' := ?_) (bl 5 26) rfl rfl (by kernel_rfl) (fun _ _ _ h => h) (Or.inl ⟨by rfl, ?_⟩) ?_ ?_
  rotate_left
  · intro w'
    go_simp
    with_reducible rfl
  rotate_left
  · simp only [Act.put, List.setIfInBounds_toArray, List.set_cons_zero, List.set_cons_succ, i64_w, i32_w]
    rfl
  refine take_ (i := 5) (N := some 16) (v := ?_) (a' := ?_) (bl 6 25) rfl rfl (by kernel_rfl) (fun _ _ _ h => h) (Or.inl ⟨by rfl, ?_⟩) hHeld ?_ ?_
  rotate_left
  · rintro w' ⟨s0, s1⟩
    go_simp
    with_reducible rfl
  rotate_left
  · simp only [Act.put, List.setIfInBounds_toArray, List.set_cons_zero, List.set_cons_succ, i64_w, i32_w]
    rfl
  refine pure_ (i := 6) (N := some 17) (v := ?_) (a' := ?_) (bl 7 24) rfl rfl (by kernel_rfl) (fun _ _ _ h => h) (Or.inl ⟨by rfl, ?_⟩) ?_ ?_
  rotate_left
  · intro w'
    go_simp
    with_reducible rfl
  rotate_left
  · simp only [Act.put, List.setIfInBounds_toArray, List.set_cons_zero, List.set_cons_succ, i64_w, i32_w]
    rfl
  refine pure_ (i := 7) (N := some 18) (v := ?_) (a' := ?_) (bl 8 23) rfl rfl (by kernel_rfl) (fun _ _ _ h => h) (Or.inl ⟨by rfl, ?_⟩) ?_ ?_
  rotate_left
  · intro w'
    go_simp
    with_reducible rfl
  rotate_left
  · simp only [Act.put, List.setIfInBounds_toArray, List.set_cons_zero, List.set_cons_succ, i64_w, i32_w]
    rfl
  refine pure_ (i := 8) (N := some 19) (v := ?_) (a' := ?_) (bl 9 22) rfl rfl (by kernel_rfl) (fun _ _ _ h => h) (Or.inl ⟨by rfl, ?_⟩) ?_ ?_
  rotate_left
  · intro w'
    go_simp
    with_reducible rfl
  rotate_left
  · simp only [Act.put, List.setIfInBounds_toArray, List.set_cons_zero, List.set_cons_succ, i64_w, i32_w]
    rfl
  refine take_ (i := 9) (N := some 20) (v := ?_) (a' := ?_) (bl 10 21) rfl rfl (by kernel_rfl) (fun _ _ _ h => h) (Or.inl ⟨by rfl, ?_⟩) hHeld ?_ ?_
  rotate_left
  · rintro w' ⟨s0, s1⟩
    go_simp
    with_reducible rfl
  rotate_left
  · simp only [Act.put, List.setIfInBounds_toArray, List.set_cons_zero, List.set_cons_succ, i64_w, i32_w]
    rfl
  refine pure_ (i := 10) (N := some 21) (v := ?_) (a' := ?_) (bl 11 20) rfl rfl (by kernel_rfl) (fun _ _ _ h => h) (Or.inl ⟨by rfl, ?_⟩) ?_ ?_
  rotate_left
  · intro w'
    go_simp
    with_reducible rfl
  rotate_left
  · simp only [Act.put, List.setIfInBounds_toArray, List.set_cons_zero, List.set_cons_succ, i64_w, i32_w]
    rfl
  refine pure_ (i := 11) (N := some 22) (v := ?_) (a' := ?_) (bl 12 19) rfl rfl (by kernel_rfl) (fun _ _ _ h => h) (Or.inl ⟨by rfl, ?_⟩) ?_ ?_
  rotate_left
  · intro w'
    go_simp
    with_reducible rfl
  rotate_left
  · simp only [Act.put, List.setIfInBounds_toArray, List.set_cons_zero, List.set_cons_succ, i64_w, i32_w]
    rfl
  refine pure_ (i := 12) (N := some 23) (v := ?_) (a' := ?_) (bl 13 18) rfl rfl (by kernel_rfl) (fun _ _ _ h => h) (Or.inl ⟨by rfl, ?_⟩) ?_ ?_
  rotate_left
  · intro w'
    go_simp
    with_reducible rfl
  rotate_left
  · simp only [Act.put, List.setIfInBounds_toArray, List.set_cons_zero, List.set_cons_succ, i64_w, i32_w]
    rfl
  refine pure_ (i := 13) (N := some 24) (v := ?_) (a' := ?_) (bl 14 17) rfl rfl (by kernel_rfl) (fun _ _ _ h => h) (Or.inl ⟨by rfl, ?_⟩) ?_ ?_
  rotate_left
  · intro w'
    go_simp
    with_reducible rfl
  rotate_left
  · simp only [Act.put, List.setIfInBounds_toArray, List.set_cons_zero, List.set_cons_succ, i64_w, i32_w]
    rfl
  refine pure_ (i := 14) (N := some 25) (v := ?_) (a' := ?_) (bl 15 16) rfl rfl (by kernel_rfl) (fun _ _ _ h => h) (Or.inl ⟨by rfl, ?_⟩) ?_ ?_
  rotate_left
  · intro w'
    go_simp
    with_reducible rfl
  rotate_left
  · simp only [Act.put, List.setIfInBounds_toArray, List.set_cons_zero, List.set_cons_succ, i64_w, i32_w]
    rfl
  refine pure_ (i := 15) (N := some 26) (v := ?_) (a' := ?_) (bl 16 15) rfl rfl (by kernel_rfl) (fun _ _ _ h => h) (Or.inl ⟨by rfl, ?_⟩) ?_ ?_
  rotate_left
  · intro w'
    go_simp
    with_reducible rfl
  rotate_left
  · simp only [Act.put, List.setIfInBounds_toArray, List.set_cons_zero, List.set_cons_succ, i64_w, i32_w]
    rfl
  refine pure_ (i := 16) (N := some 27) (v := ?_) (a' := ?_) (bl 17 14) rfl rfl (by kernel_rfl) (fun _ _ _ h => h) (Or.inl ⟨by rfl, ?_⟩) ?_ ?_
  rotate_left
  · intro w'
    go_simp
    with_reducible rfl
  rotate_left
  · simp only [Act.put, List.setIfInBounds_toArray, List.set_cons_zero, List.set_cons_succ, i64_w, i32_w]
    rfl
  refine pure_ (i := 17) (N := some 28) (v := ?_) (a' := ?_) (bl 18 13) rfl rfl (by kernel_rfl) (fun _ _ _ h => h) (Or.inl ⟨by rfl, ?_⟩) ?_ ?_
  rotate_left
  · intro w'
    go_simp
    with_reducible rfl
  rotate_left
  · simp only [Act.put, List.setIfInBounds_toArray, List.set_cons_zero, List.set_cons_succ, i64_w, i32_w]
    rfl
  refine pure_ (i := 18) (N := some 29) (v := ?_) (a' := ?_) (bl 19 12) rfl rfl (by kernel_rfl) (fun _ _ _ h => h) (Or.inl ⟨by rfl, ?_⟩) ?_ ?_
  rotate_left
  · intro w'
    go_simp
    with_reducible rfl
  rotate_left
  · simp only [Act.put, List.setIfInBounds_toArray, List.set_cons_zero, List.set_cons_succ, i64_w, i32_w]
    rfl
  refine take_ (i := 19) (N := some 30) (v := ?_) (a' := ?_) (bl 20 11) rfl rfl (by kernel_rfl) (fun _ _ _ h => h) (Or.inl ⟨by rfl, ?_⟩) hHeld ?_ ?_
  rotate_left
  · rintro w' ⟨s0, s1⟩
    go_simp
    with_reducible rfl
  rotate_left
  · simp only [Act.put, List.setIfInBounds_toArray, List.set_cons_zero, List.set_cons_succ, i64_w, i32_w]
    rfl
  refine pure_ (i := 20) (N := some 31) (v := ?_) (a' := ?_) (bl 21 10) rfl rfl (by kernel_rfl) (fun _ _ _ h => h) (Or.inl ⟨by rfl, ?_⟩) ?_ ?_
  rotate_left
  · intro w'
    go_simp
    with_reducible rfl
  rotate_left
  · simp only [Act.put, List.setIfInBounds_toArray, List.set_cons_zero, List.set_cons_succ, i64_w, i32_w]
    rfl
  refine pure_ (i := 21) (N := some 32) (v := ?_) (a' := ?_) (bl 22 9) rfl rfl (by kernel_rfl) (fun _ _ _ h => h) (Or.inl ⟨by rfl, ?_⟩) ?_ ?_
  rotate_left
  · intro w'
    go_simp
    with_reducible rfl
  rotate_left
  · simp only [Act.put, List.setIfInBounds_toArray, List.set_cons_zero, List.set_cons_succ, i64_w, i32_w]
    rfl
  refine pure_ (i := 22) (N := some 33) (v := ?_) (a' := ?_) (bl 23 8) rfl rfl (by kernel_rfl) (fun _ _ _ h => h) (Or.inl ⟨by rfl, ?_⟩) ?_ ?_
  rotate_left
  · intro w'
    go_simp
    with_reducible rfl
  rotate_left
  · simp only [Act.put, List.setIfInBounds_toArray, List.set_cons_zero, List.set_cons_succ, i64_w, i32_w]
    rfl
  refine take_ (i := 23) (N := some 34) (v := ?_) (a' := ?_) (bl 24 7) rfl rfl (by kernel_rfl) (fun _ _ _ h => h) (Or.inl ⟨by rfl, ?_⟩) hHeld ?_ ?_
  rotate_left
  · rintro w' ⟨s0, s1⟩
    go_simp
    with_reducible rfl
  rotate_left
  · simp only [Act.put, List.setIfInBounds_toArray, List.set_cons_zero, List.set_cons_succ, i64_w, i32_w]
    rfl
  refine pure_ (i := 24) (N := some 35) (v := ?_) (a' := ?_) (bl 25 6) rfl rfl (by kernel_rfl) (fun _ _ _ h => h) (Or.inl ⟨by rfl, ?_⟩) ?_ ?_
  rotate_left
  · intro w'
    go_simp
    with_reducible rfl
  rotate_left
  · simp only [Act.put, List.setIfInBounds_toArray, List.set_cons_zero, List.set_cons_succ, i64_w, i32_w]
    rfl
  refine pure_ (i := 25) (N := some 36) (v := ?_) (a' := ?_) (bl 26 5) rfl rfl (by kernel_rfl) (fun _ _ _ h => h) (Or.inl ⟨by rfl, ?_⟩) ?_ ?_
  rotate_left
  · intro w'
    go_simp
    with_reducible rfl
  rotate_left
  · simp only [Act.put, List.setIfInBounds_toArray, List.set_cons_zero, List.set_cons_succ, i64_w, i32_w]
    rfl
  refine pure_ (i := 26) (N := some 37) (v := ?_) (a' := ?_) (bl 27 4) rfl rfl (by kernel_rfl) (fun _ _ _ h => h) (Or.inl ⟨by rfl, ?_⟩) ?_ ?_
  rotate_left
  · intro w'
    go_simp
    with_reducible rfl
  rotate_left
  · simp only [Act.put, List.setIfInBounds_toArray, List.set_cons_zero, List.set_cons_succ, i64_w, i32_w]
    rfl
  refine pure_ (i := 27) (N := some 38) (v := ?_) (a' := ?_) (bl 28 3) rfl rfl (by kernel_rfl) (fun _ _ _ h => h) (Or.inl ⟨by rfl, ?_⟩) ?_ ?_
  rotate_left
  · intro w'
    go_simp
    with_reducible rfl
  rotate_left
  · simp only [Act.put, List.setIfInBounds_toArray, List.set_cons_zero, List.set_cons_succ, i64_w, i32_w]
    rfl
  refine pure_ (i := 28) (N := some 39) (v := ?_) (a' := ?_) (bl 29 2) rfl rfl (by kernel_rfl) (fun _ _ _ h => h) (Or.inl ⟨by rfl, ?_⟩) ?_ ?_
  rotate_left
  · intro w'
    go_simp
    with_reducible rfl
  rotate_left
  · simp only [Act.put, List.setIfInBounds_toArray, List.set_cons_zero, List.set_cons_succ, i64_w, i32_w]
    rfl
  refine pure_ (i := 29) (N := some 40) (v := ?_) (a' := ?_) (bl 30 1) rfl rfl (by kernel_rfl) (fun _ _ _ h => h) (Or.inl ⟨by rfl, ?_⟩) ?_ ?_
  rotate_left
  · intro w'
    go_simp
    with_reducible rfl
  rotate_left
  · simp only [Act.put, List.setIfInBounds_toArray, List.set_cons_zero, List.set_cons_succ, i64_w, i32_w]
    rfl
  refine pure_ (i := 30) (N := some 41) (v := ?_) (a' := ?_) (bl 31 0) rfl rfl (by kernel_rfl) (fun _ _ _ h => h) (Or.inl ⟨by rfl, ?_⟩) ?_ ?_
  rotate_left
  · intro w'
    go_simp
    with_reducible rfl
  rotate_left
  · simp only [Act.put, List.setIfInBounds_toArray, List.set_cons_zero, List.set_cons_succ, i64_w, i32_w]
    rfl
  refine done_ (by kernel_rfl) ?_
  clear w1 w2 d1 d2
  have HB2 := Lib.hid (blk_below HB.out HWD.out)
  have HO2 := Lib.hid (own_move HO.out (fun k hk => HWD.out.block k (own_lt HO.out k hk)))
  have hc1 := (blk_cell HB2.out 1).trans rfl
  have hbd : Below base w wd := ⟨HWD.out.os, HWD.out.tape, HWD.out.output, HWD.out.size, fun k hk => HWD.out.block k (by omega)⟩
  have HBD := Lib.hid hbd
  clear hbd
  go_wp2_with (first
    | ((with_reducible refine gate_builtin (b := .append) (xs := #[.tmp 49, .tmp 50]) rfl ?_); at_builtin; refine wpList_append_own_at _ rfl (.tmp 49) (.tmp 50) 112 rfl base 5 i0 (.int .u8 0) 1 1 hu47 HI.out HZ.out.1 HZ.out.2.1 HZ.out.2.2 rfl (by decide) (.slice A out.length co) out.length (nums .u8 out) rfl HO2.out ad hd.length c (nums .u8 hd) rfl (by simp [nums]) (fun j u hu => pw_cell_below HWD.out (HHH.out j u hu)) (by intro u hu; simp [nums] at hu; obtain ⟨x, _, rfl⟩ := hu; rfl) (by have := HB1.out; simp only [maxLen]; omega) (by have := HB1.out; omega) (Nat.le_trans hbase HWD.out.size) ?_; intro v1 w1 ho1 hg1 _ hat1; have HO3 := Lib.hid (show w1.ownsRow base 5 1 v1 (out ++ hd).length (nums .u8 (out ++ hd)) by rw [List.length_append, nums_append]; exact ho1); have HB3 := Lib.hid (HBD.out.grown hg1 (Nat.le_trans hbase HWD.out.size) (own_base HO2.out)); have HG3 := Lib.hid (blk_grown HB2.out hg1 (own_ne HO2.out HB2.out (by decide))); clear ho1 hg1 hat1)
    | ((with_reducible refine gate_builtin (b := .append) (xs := #[.tmp 51, .tmp 52]) rfl ?_); at_builtin; refine print_append_str (w0 := w) base rfl (.tmp 51) (.tmp 52) 112 9 5 rfl hu47 Tryz.underlying9 info5 v1 (out ++ hd) text rfl rfl HO3.out HB3.out (Nat.le_trans hbase HB3.out.size) (by have := HB1.out; rw [List.length_append]; omega) ?_; intro v2 w2 ho2 hb2 hg2; have HO4 := Lib.hid ho2; have HB4 := Lib.hid hb2; have HG4 := Lib.hid (blk_grown HG3.out hg2 (own_ne HO3.out HG3.out (by decide))); clear ho2 hb2 hg2; obtain ⟨A2, c2, rfl⟩ : ∃ A c, v2 = .slice A (out ++ hd ++ bytesOf text).length c := (by rcases HO4.out.2 with ⟨h1, h2⟩ | ⟨g', cap, cur, h1, _⟩; exact ⟨none, 0, by rw [h1, h2]⟩; exact ⟨_, cap, h1⟩); have hc1' := (blk_cell HG4.out 1).trans rfl; have hf1 := blk_frozen HG4.out 1))
  go_end0
  exact ⟨rfl, ⟨hge, A2, c2, blk_put HG4.out 1 _ (by simp [List.length_append, Nat.add_assoc]), own_setCell HO4.out (own_ne HO4.out HG4.out (by decide)) _⟩, below_setB HB4.out hge⟩
end Go.Proofs.YtphddbijdfmpjaaGreatDoor.Wr
namespace Go.Proofs.YtphddbijdfmpjaaGreatDoor.Wr
open Go.RowKit Go.Proofs.YtphddbijdfmpjaaGreatDoorW.PrintWords Go.Proofs.YtphddbijdfmpjaaGreatDoorW.PrintLast
set_option linter.unusedVariables false
set_option linter.unusedSimpArgs false
theorem below_lower {b c : Nat} {w W : World} (h : Below c w W) (hb : b ≤ c) : Below b w W := ⟨h.os, h.tape, h.output, h.size, fun k hk => h.block k (by omega)⟩
set_option maxHeartbeats 4000000 in
theorem byte_ok (w : World) (base g : Nat) (lim : Int) (out : List Int) (v : Int) (h : WrIs w base g lim out 0) (hlim : lim ≤ 1048576) (hroom : ((out.length + 1 : Nat) : Int) ≤ lim) (hbase : base ≤ w.heap.size) :
    Calls Tryz.prog 73 #[.pointer (some ⟨g, 0, none⟩), .int .u8 v] w fun e w' => e = .returned (.tuple #[]) ∧ WrIs w' base g lim (out ++ [v]) 0 ∧ Below base w w' := by
  have hu47 := Tryz.underlying112
  have hal := (Below.refl w.heap.size w).alloc (Nat.le_refl _) (.cells #[.int .u8 v] 5)
  have hnew := blk_new w (.cells #[.int .u8 v] 5)
  have key := lay_ok (w.alloc (.cells #[.int .u8 v] 5)) base g lim out [v] ⟨w.heap.size, 0, none⟩ 1 ⟨#[]⟩ (h.below hal) (fun j u hu => by
      cases j with
      | zero => simp [nums] at hu; subst hu; exact (blk_cell hnew 0).trans rfl
      | succ j => simp [nums] at hu) hlim (by show ((out.length + 1 + 0 : Nat) : Int) ≤ lim; omega) (Nat.le_trans hbase hal.size)
  have e0 : out ++ [v] ++ bytesOf ⟨#[]⟩ = out ++ [v] := by simp [bytesOf]
  rw [e0] at key
  have KEY := Lib.hid key
  have HAL := Lib.hid hal
  clear key hal hnew e0 h
  go_enter Tryz.func73, Tryz.ntmps73
  go_wp2_with (go_at_call 90; refine KEY.out.mono ?_; rintro e w2 ⟨rfl, hW, hb⟩)
  go_end0
  exact ⟨rfl, hW, (below_lower HAL.out hbase).trans hb⟩
end Go.Proofs.YtphddbijdfmpjaaGreatDoor.Wr
namespace Go.Proofs.YtphddbijdfmpjaaGreatDoor.Q
open Go.RowKit Go.Proofs.YtphddbijdfmpjaaGreatDoorW.PrintWords Go.Proofs.YtphddbijdfmpjaaGreatDoorW.PrintLast Go.Proofs.YtphddbijdfmpjaaGreatDoorW.PrintMore
attribute [local go_sem] max2_int min2_int max_two min_two max_three min_three max_four min_four   -- for this text's walks alone
set_option linter.unusedVariables false
set_option linter.unusedSimpArgs false
def pack_number.l0 : Nat → Int → List Int → Option (List Int)
  | 0, _, _ => none
  | k + 1, x0, x3 => if x0 ≥ 128 then (if x3.length < 140737488355328 then (pack_number.l0 k (x0 / 128) (x3 ++ [Go.bits .or .u8 ((x0) % 256) 128])) else (none)) else (if x3.length < 140737488355328 then (some (x3 ++ [(x0) % 256])) else (none))
def pack_number.f (k : Nat) (a0 : Int) : Option (List Int) := pack_number.l0 k a0 ([] : List Int)
theorem pack_number.mono_l : ∀ k, (∀ y0 y1, LeO (pack_number.l0 k y0 y1) (pack_number.l0 (k + 1) y0 y1))
  | 0 => fun _ _ r h => by simp [pack_number.l0] at h
  | k + 1 => by
    have ih0 := pack_number.mono_l k
    · intro y0 y1
      unfold pack_number.l0
      repeat' first
      | (with_reducible exact ih0 _ _)
      | (with_reducible exact LeO.refl _)
      | (with_reducible exact LeO.none _)
      | (with_reducible refine LeO.ite ?_ ?_)
      | (with_reducible refine LeO.bind ?_ (fun _ => ?_))
      | exact ih0 _ _
      | exact LeO.none _
      | refine LeO.ite ?_ ?_
      | refine LeO.bind ?_ (fun _ => ?_)
theorem pack_number.mono : ∀ a0 k, LeO (pack_number.f k a0) (pack_number.f (k + 1) a0) := by
  intro a0 k
  have ih0 := pack_number.mono_l k
  unfold pack_number.f
  repeat' first
      | (with_reducible exact ih0 _ _)
      | (with_reducible exact LeO.refl _)
      | (with_reducible exact LeO.none _)
      | (with_reducible refine LeO.ite ?_ ?_)
      | (with_reducible refine LeO.bind ?_ (fun _ => ?_))
      | exact ih0 _ _
      | exact LeO.none _
      | refine LeO.ite ?_ ?_
      | refine LeO.bind ?_ (fun _ => ?_)
set_option maxHeartbeats 8000000 in
set_option maxRecDepth 100000 in
theorem pack_number.calls (k : Nat) (a0 : Int) (r : List Int) (w : World) (h : pack_number.f k a0 = some r) :
    Calls Tryz.prog 91 #[.int .u64 a0] w fun e w' => ∃ v0_ : Value, e = .returned (v0_) ∧ Kd.R (Kd.int .u8) 5 w' w.heap.size (fun _ => True) v0_ r ∧ Below w.heap.size w w' := by
  have HB := Aside0.mk (Below.refl w.heap.size w)
  have H : (pack_number.l0 k a0 ([] : List Int)) = some r := h
  clear h
  have H' := Aside0.mk H
  clear H
  go_enter Tryz.func91, Tryz.ntmps91
  go_wp2
  go_loopg [0, 3] k (fun kq v0 v3 w' => ∃ (x0_1 : Int) (x3_1 : List Int), v0 = .int .u64 x0_1 ∧ Aside0 (pack_number.l0 kq x0_1 x3_1 = some r) ∧ Aside0 (kq ≤ k) ∧ Aside0 (Kd.R (Kd.int .u8) 5 w' w.heap.size (fun _ => True) v3 x3_1) ∧ Aside0 (Below w.heap.size w w'))
  case atStart => exact ⟨(a0), (([] : List Int)), (by first | rfl | (simp; done) | (simp [*]; done) | (simp; rw [Bool.eq_iff_iff]; simp; done) | (rw [Bool.eq_iff_iff]; simp; done)), H', ⟨Nat.le_refl _⟩, ⟨by first | exact Kd.R_nil _ _ _ _ _ | exact Kd.N_nil _ _ _ _ _ | exact Kd.V_nil _ _ _ _ _ | exact Kd.Q_nil _ _ _ _ _ | exact Kd.S_nil _ _ _ _ _⟩, ⟨by repeat (first | (with_reducible first | exact HB.out | apply below_alloc | apply pw_below_drewN | apply below_drew1) | exact HB.out)⟩⟩
  case round =>
    clear H'
    obtain ⟨x0_1, x3_1, rfl, HA, HK1, HO_3, HB⟩ := hrel
    cases gk with
    | zero => exact absurd HA.out (by simp [pack_number.l0])
    | succ k1 =>
      have H := HA.out
      clear HA
      simp only [pack_number.l0] at H
      by_cases c2 : x0_1 ≥ 128
      · rw [if_pos c2] at H
        have c2b0 : decide (128 ≤ x0_1) = true := decide_eq_true c2
        clear c2
        by_cases c3 : x3_1.length < 140737488355328
        · rw [if_pos c3] at H
          have LMc3 := Aside0.mk c3
          clear c3
          obtain ⟨y101, hy101⟩ : ∃ y_ : List Int, y_ = (x3_1 ++ [Go.bits .or .u8 ((x0_1) % 256) 128]) := ⟨_, rfl⟩
          replace H : (pack_number.l0 k1 (x0_1 / 128) y101) = some r := by first | (rw [hy101]; with_reducible exact H) | (have H2_ := (Option.bind_some _ _).symm.trans H; rw [hy101]; with_reducible exact H2_) | (have H2_ := (Option.bind_some _ _).symm.trans H; with_reducible exact H2_) | with_reducible exact H | (rw [hy101]; exact H) | exact H
          have Ny101 := Aside0.mk hy101
          clear hy101
          have H' := Aside0.mk H
          clear H
          go_wp2_with (first | ((with_reducible refine gate_builtin (b := .append) (xs := #[.tmp 6, .tmp 10]) rfl ?_); at_builtin; refine Kd.R_append (Kd.int .u8) (w0 := w) w.heap.size rfl (.tmp 6) (.tmp 10) 112 5 (.int .u8 0) 1 rfl Tryz.underlying112 info5 rfl (by decide) (by omega) u3 x3_1 (Go.bits .or .u8 ((x0_1) % 256) 128) [.int .u8 (Go.bits .or .u8 ((x0_1) % 256) 128)] (fun _ => True) (fun _ => False) rfl rfl ?aP (fun _ hk => hk.elim) ?aF ?aO ?aB ?aS ?aL ?_; (case aP => exact rfl); (case aB => exact (by repeat (first | (with_reducible first | exact HB.out | apply below_alloc | apply pw_below_drewN | apply below_drew1) | exact HB.out))); (case aF => exact (fun _ _ => trivial)); (case aO => exact (by (with_reducible repeat (first | apply Kd.R_alloc | apply Kd.R_drewN | apply Kd.R_drew)); exact HO_3.out)); (case aS => exact (below_size (by repeat (first | (with_reducible first | exact HB.out | apply below_alloc | apply pw_below_drewN | apply below_drew1) | exact HB.out)))); (case aL => have := LMc3.out; omega); intro v102 w4 ho hb hg hat; rw [← Ny101.out] at ho; have n0_ := Aside0.mk (hb); have n1_ := Aside0.mk (ho); clear HB; clear HO_3; have HB := n0_; have HO103 := n1_; clear n0_ n1_; clear ho hb hg hat))
          go_roundg k1
          case measure => have := HK1.out; omega
          case rel => exact ⟨(x0_1 / 128), (y101), (by first | rfl | (simp; done) | (simp [*]; done) | (simp; rw [Bool.eq_iff_iff]; simp; done) | (rw [Bool.eq_iff_iff]; simp; done)), H', ⟨by have := HK1.out; omega⟩, ⟨by (with_reducible repeat (first | apply Kd.R_alloc | apply Kd.R_drewN | apply Kd.R_drew)); exact HO103.out⟩, ⟨by repeat (first | (with_reducible first | exact HB.out | apply below_alloc | apply pw_below_drewN | apply below_drew1) | exact HB.out)⟩⟩
        · rw [if_neg c3] at H
          exact absurd H (by simp)
      · rw [if_neg c2] at H
        have c2b0 : decide (128 ≤ x0_1) = false := decide_eq_false c2
        clear c2
        by_cases c5 : x3_1.length < 140737488355328
        · rw [if_pos c5] at H
          have LMc5 := Aside0.mk c5
          clear c5
          obtain ⟨y104, hy104⟩ : ∃ y_ : List Int, y_ = (x3_1 ++ [(x0_1) % 256]) := ⟨_, rfl⟩
          replace H : (some y104) = some r := by first | (rw [hy104]; with_reducible exact H) | (have H2_ := (Option.bind_some _ _).symm.trans H; rw [hy104]; with_reducible exact H2_) | (have H2_ := (Option.bind_some _ _).symm.trans H; with_reducible exact H2_) | with_reducible exact H | (rw [hy104]; exact H) | exact H
          have Ny104 := Aside0.mk hy104
          clear hy104
          obtain rfl := Option.some.inj H
          go_wp2_with (first | ((with_reducible refine gate_builtin (b := .append) (xs := #[.tmp 14, .tmp 17]) rfl ?_); at_builtin; refine Kd.R_append (Kd.int .u8) (w0 := w) w.heap.size rfl (.tmp 14) (.tmp 17) 112 5 (.int .u8 0) 1 rfl Tryz.underlying112 info5 rfl (by decide) (by omega) u3 x3_1 ((x0_1) % 256) [.int .u8 ((x0_1) % 256)] (fun _ => True) (fun _ => False) rfl rfl ?aP (fun _ hk => hk.elim) ?aF ?aO ?aB ?aS ?aL ?_; (case aP => exact rfl); (case aB => exact (by repeat (first | (with_reducible first | exact HB.out | apply below_alloc | apply pw_below_drewN | apply below_drew1) | exact HB.out))); (case aF => exact (fun _ _ => trivial)); (case aO => exact (by (with_reducible repeat (first | apply Kd.R_alloc | apply Kd.R_drewN | apply Kd.R_drew)); exact HO_3.out)); (case aS => exact (below_size (by repeat (first | (with_reducible first | exact HB.out | apply below_alloc | apply pw_below_drewN | apply below_drew1) | exact HB.out)))); (case aL => have := LMc5.out; omega); intro v105 w6 ho hb hg hat; rw [← Ny104.out] at ho; have n0_ := Aside0.mk (hb); have n1_ := Aside0.mk (ho); clear HB; clear HO_3; have HB := n0_; have HO106 := n1_; clear n0_ n1_; clear ho hb hg hat))
          go_ret
          exact ⟨_, by first | rfl | (simp [errW_none, errW_some] <;> rfl) | (simp [*, errW_none, errW_some] <;> rfl), by (with_reducible repeat (first | apply Kd.R_alloc | apply Kd.R_drewN | apply Kd.R_drew)); exact HO106.out, by repeat (first | (with_reducible first | exact HB.out | apply below_alloc | apply pw_below_drewN | apply below_drew1) | exact HB.out)⟩
        · rw [if_neg c5] at H
          exact absurd H (by simp)
end Go.Proofs.YtphddbijdfmpjaaGreatDoor.Q
namespace Go.Proofs.YtphddbijdfmpjaaGreatDoor.Wr
open Go.RowKit Go.Proofs.YtphddbijdfmpjaaGreatDoorW.PrintWords Go.Proofs.YtphddbijdfmpjaaGreatDoorW.PrintLast
set_option linter.unusedVariables false
set_option linter.unusedSimpArgs false
theorem number_small (n : Nat) (hn : n < 128) : Q.pack_number.f 1 (n : Int) = some [(n : Int)] := by
  unfold Q.pack_number.f
  simp only [Q.pack_number.l0]
  rw [if_neg (by omega), if_pos (by decide), Int.emod_eq_of_lt (by omega) (by omega)]
  rfl
theorem cells_of {w : World} {ad : Addr} {l : List Int} (h : Kd.C (Kd.int .u8) w (some ad) l.length l) : ∀ j u, (nums .u8 l)[j]? = some u → w.cell? (ad.add j) = some u := by
  obtain ⟨_, _, hc⟩ := h
  intro j u hu
  unfold nums at hu
  rw [List.getElem?_map, Option.map_eq_some_iff] at hu
  obtain ⟨x, hx, rfl⟩ := hu
  have hl := (List.getElem?_eq_some_iff.1 hx).1
  obtain ⟨ad', e, hf⟩ := hc (by omega)
  cases e
  obtain ⟨c, hcl, hK, hcell⟩ := hf j x hx
  have hc1 : c = [.int .u8 x] := hK
  rw [hc1] at hcell
  have h1 : (Kd.int .u8).sz = 1 := rfl
  have := hcell 0 _ rfl
  rw [h1, Nat.mul_one, Nat.add_zero] at this
  exact this
set_option maxHeartbeats 4000000 in
theorem text_ok (w : World) (base g : Nat) (lim : Int) (out : List Int) (s : ByteArray) (hs : s.size < 128) (h : WrIs w base g lim out 0) (hlim : lim ≤ 1048576) (hroom : ((out.length + 1 + s.size : Nat) : Int) ≤ lim) (hbase : base ≤ w.heap.size) :
    Calls Tryz.prog 72 #[.pointer (some ⟨g, 0, none⟩), .string s] w fun e w' => e = .returned (.tuple #[]) ∧ WrIs w' base g lim (out ++ [(s.size : Int)] ++ bytesOf s) 0 ∧ Below base w w' := by
  have HH := Lib.hid h
  have HR := Lib.hid hroom
  have hu : IntKind.u64.wrap ((s.size : Nat) : Int) = (s.size : Int) := by rw [IntKind.wrap_u64]; omega
  clear h hroom
  go_enter Tryz.func72, Tryz.ntmps72
  go_wp2_with (first
    | (go_at_call 91; refine (Q.pack_number.calls 1 (s.size : Int) [(s.size : Int)] _ (number_small s.size hs)).mono ?_; rintro e w2 ⟨v0, rfl, hr, hb⟩; obtain ⟨A, c, rfl⟩ := Kd.R_slice hr; have HB := Lib.hid hb; have HRR := Lib.hid hr; clear hr hb)
    | (go_at_call 90; obtain ⟨ad, hA⟩ : ∃ ad, A = some ad := (by obtain ⟨_, _, hC⟩ := Kd.R_reads' HRR.out; obtain ⟨ad, e, _⟩ := hC.2.2 (by simp); exact ⟨ad, e⟩); subst hA; refine (lay_ok _ base g lim out [(s.size : Int)] ad c s (HH.out.below HB.out) (cells_of (l := [(s.size : Int)]) (Kd.R_reads' HRR.out).2.2) hlim HR.out (Nat.le_trans hbase HB.out.size)).mono ?_; rintro e w3 ⟨rfl, hW, hb3⟩))
  go_end0
  exact ⟨rfl, hW, (below_lower HB.out hbase).trans hb3⟩
end Go.Proofs.YtphddbijdfmpjaaGreatDoor.Wr
namespace Go.Proofs.YtphddbijdfmpjaaGreatDoor.Wr
open Go.RowKit Go.Proofs.YtphddbijdfmpjaaGreatDoorW.PrintWords Go.Proofs.YtphddbijdfmpjaaGreatDoorW.PrintLast
set_option linter.unusedVariables false
set_option linter.unusedSimpArgs false
set_option maxHeartbeats 4000000 in
theorem new_ok (w : World) : Calls Tryz.prog 89 #[.int .i64 1048576] w fun e w' => ∃ g, e = .returned (.pointer (some ⟨g, 0, none⟩)) ∧ WrIs w' w.heap.size g 1048576 [] 0 ∧ Below w.heap.size w w' := by
  have hu130 := Tryz.underlying121
  go_enter Tryz.func89, Tryz.ntmps89
  go_wp2
  go_ret
  exact ⟨_, rfl, ⟨Nat.le_refl _, none, 0, blk_new w _, rfl, .inl ⟨rfl, rfl⟩⟩, (Below.refl w.heap.size w).alloc (Nat.le_refl _) _⟩
def headOf (v : Int) (p n : ByteArray) : List Int := [v] ++ [1] ++ [(p.size : Int)] ++ bytesOf p ++ [(n.size : Int)] ++ bytesOf n
theorem blen (p : ByteArray) : (bytesOf p).length = p.size := bytesOf_length p
set_option maxHeartbeats 4000000 in
theorem begun_ok (w : World) (v : Int) (p n : ByteArray) (hp : p.size < 128) (hn : n.size < 128) : Calls Tryz.prog 71 #[.int .u8 v, .string p, .string n] w fun e w' => ∃ g, e = .returned (.pointer (some ⟨g, 0, none⟩)) ∧ WrIs w' w.heap.size g 1048576 (headOf v p n) 0 ∧ Below w.heap.size w w' := by
  have r2 := Lib.hid (show (((([] ++ [v] : List Int)).length + 1 : Nat) : Int) ≤ 1048576 by simp)
  have r3 := Lib.hid (show (((([] ++ [v] ++ [1] : List Int)).length + 1 + p.size : Nat) : Int) ≤ 1048576 by simp; omega)
  have r4 := Lib.hid (show (((([] ++ [v] ++ [1] ++ [(p.size : Int)] ++ bytesOf p : List Int)).length + 1 + n.size : Nat) : Int) ≤ 1048576 by simp [blen]; omega)
  have rl := Lib.hid (show (1048576 : Int) ≤ 1048576 from Int.le_refl _)
  go_enter Tryz.func71, Tryz.ntmps71
  go_wp2_with (first
    | (go_at_call 89; refine (new_ok _).mono ?_; rintro e w1 ⟨g, rfl, h1, hb1⟩; have W1 := Lib.hid h1; have B1 := Lib.hid hb1; clear h1 hb1)
    | (go_at_call 73; (with_reducible refine (byte_ok _ w.heap.size g 1048576 [] v W1.out (by decide) (by decide) B1.out.size).mono ?_); rintro e w2 ⟨rfl, h2, hb2⟩; have W2 := Lib.hid h2; have B2 := Lib.hid (B1.out.trans hb2); clear h2 hb2)
    | (go_at_call 73; (with_reducible refine (byte_ok _ w.heap.size g 1048576 ([] ++ [v]) 1 W2.out rl.out r2.out B2.out.size).mono ?_); rintro e w3 ⟨rfl, h3, hb3⟩; have W3 := Lib.hid h3; have B3 := Lib.hid (B2.out.trans hb3); clear h3 hb3)
    | (go_at_call 72; (with_reducible refine (text_ok _ w.heap.size g 1048576 ([] ++ [v] ++ [1]) p hp W3.out rl.out r3.out B3.out.size).mono ?_); rintro e w4 ⟨rfl, h4, hb4⟩; have W4 := Lib.hid h4; have B4 := Lib.hid (B3.out.trans hb4); clear h4 hb4)
    | (go_at_call 72; (with_reducible refine (text_ok _ w.heap.size g 1048576 ([] ++ [v] ++ [1] ++ [(p.size : Int)] ++ bytesOf p) n hn W4.out rl.out r4.out B4.out.size).mono ?_); rintro e w5 ⟨rfl, h5, hb5⟩; have W5 := Lib.hid h5; have B5 := Lib.hid (B4.out.trans hb5); clear h5 hb5))
  go_ret
  exact ⟨g, rfl, W5.out, B5.out⟩
end Go.Proofs.YtphddbijdfmpjaaGreatDoor.Wr
namespace Go.Proofs.YtphddbijdfmpjaaGreatDoor.Wr
open Go.RowKit Go.Proofs.YtphddbijdfmpjaaGreatDoorW.PrintWords Go.Proofs.YtphddbijdfmpjaaGreatDoorW.PrintLast
set_option linter.unusedVariables false
set_option linter.unusedSimpArgs false
theorem reps_nums (w : World) (base : Nat) (ok : Nat → Prop) (l : List Int) : Reps ((Kd.int .u8).M w base ok) 1 l (nums .u8 l) := by
  refine ⟨by simp [nums], fun j p hj => ?_⟩
  obtain ⟨hl, rfl⟩ := List.getElem?_eq_some_iff.1 hj
  show ((nums .u8 l).drop (j * 1)).take 1 = [.int .u8 l[j]]
  have hl2 : j < (nums .u8 l).length := by simp [nums]; exact hl
  rw [Nat.mul_one, List.drop_eq_getElem_cons hl2, List.take_succ_cons, List.take_zero]
  simp [nums]
theorem WrIs.R {w : World} {base g : Nat} {lim err : Int} {out : List Int} (h : WrIs w base g lim out err) : ∃ A c, w.heap[g]? = some (.cells #[.int .i64 lim, .slice A out.length c, .int .i64 err] 121 (0, 0)) ∧ Kd.C (Kd.int .u8) w A out.length out := by
  obtain ⟨A, c, h1, h2⟩ := h.cells
  have hr : Kd.R (Kd.int .u8) 5 w base (fun _ => True) (.slice A out.length c) out := ⟨fun _ _ => trivial, _, h2, reps_nums _ _ _ _⟩
  exact ⟨A, c, h1, (Kd.R_reads' hr).2.2⟩
set_option maxHeartbeats 4000000 in
theorem out_ok (w : World) (base g : Nat) (lim : Int) (out : List Int) (h : WrIs w base g lim out 0) (hl : out.length ≤ 1048576) :
    Calls Tryz.prog 92 #[.pointer (some ⟨g, 0, none⟩)] w fun e w' => ∃ v, e = .returned (.tuple #[v, .int .i64 0]) ∧ Kd.R (Kd.int .u8) 5 w' w.heap.size (fun _ => True) v out ∧ Below w.heap.size w w' := by
  have hu47 := Tryz.underlying112
  obtain ⟨A, c, hb, hC⟩ := h.R
  have hc1 := (blk_cell hb 1).trans rfl
  have hc2 := (blk_cell hb 2).trans rfl
  have HR0 := Lib.hid hC
  have HL := Lib.hid hl
  clear hb hC h hl
  go_enter Tryz.func92, Tryz.ntmps92
  go_wp2_with ((with_reducible refine gate_builtin (b := .append) (xs := #[.const (.slice none 0 0), .tmp 16]) rfl ?_); at_builtin; refine Kd.R_append_rows (Kd.int .u8) (w0 := w) w.heap.size rfl (.const (.slice none 0 0)) (.tmp 16) 112 5 (.int .u8 0) 1 rfl Tryz.underlying112 info5 rfl (by decide) (by omega) (.slice none 0 0) ([] : List Int) out _ _ _ (fun _ => True) (fun _ => False) rfl rfl ?aO ?aR (fun _ _ h => h) (fun _ h => h.elim) ?aF ?aB ?aS ?aL ?_; (case aR => exact HR0.out); (case aB => exact Below.refl _ _); (case aF => exact (fun _ _ => trivial)); (case aO => exact (Kd.R_nil _ _ _ _ (fun _ => True))); (case aS => exact Nat.le_refl _); (case aL => have := HL.out; simp; omega); intro v1 w1 ho hb1 hg hat; rw [List.nil_append] at ho; have HO := Lib.hid ho; have HB := Lib.hid hb1; clear ho hb1 hg hat)
  go_ret2
  exact ⟨_, rfl, HO.out, HB.out⟩
end Go.Proofs.YtphddbijdfmpjaaGreatDoor.Wr
namespace Go.Proofs.YtphddbijdfmpjaaGreatDoor.Wr
open Go.RowKit Go.Proofs.YtphddbijdfmpjaaGreatDoorW.PrintWords Go.Proofs.YtphddbijdfmpjaaGreatDoorW.PrintLast
set_option linter.unusedVariables false
set_option linter.unusedSimpArgs false
set_option maxHeartbeats 4000000 in
theorem done_ok (w : World) (base g : Nat) (lim : Int) (out : List Int) (h : WrIs w base g lim out 0) (hl : out.length ≤ 8192) :
    Calls Tryz.prog 74 #[.pointer (some ⟨g, 0, none⟩)] w fun e w' => e = .returned (.tuple #[.string (strOfNums out), .int .i64 0]) ∧ Below w.heap.size w w' := by
  have key := out_ok w base g lim out h (by omega)
  have hd : decide ((8192 : Int) < (out.length : Int)) = false := decide_eq_false (by omega)
  have hd2 : decide (8192 < out.length) = false := decide_eq_false (by omega)
  have KEY := Lib.hid key
  clear key h hl
  go_enter Tryz.func74, Tryz.ntmps74
  go_wp2_with (go_at_call 92; refine KEY.out.mono ?_; rintro e w1 ⟨v, rfl, hr, hb⟩; obtain ⟨A, c, rfl⟩ := Kd.R_slice hr; have hcv := Kd.C_string (c := c) (src := 112) (dst := 9) (e := 5) Tryz.underlying112 Tryz.underlying5 Tryz.underlying9 (Kd.R_reads' hr).2.2; have HB := Lib.hid hb; clear hr hb)
  go_ret2
  exact ⟨rfl, HB.out⟩
end Go.Proofs.YtphddbijdfmpjaaGreatDoor.Wr
namespace Go.MapRaw
open Go.ChangeMaps (setBlock)
set_option linter.unusedVariables false
set_option linter.unusedSimpArgs false
set_option linter.unusedSectionVars false
variable {P : Program}
def findP (eqK : Value → Value → Bool) (k : Value) : List MapEntry → Nat → Option (Nat × Value)
  | [], _ => none
  | e :: es, i => if eqK k e.key = true then some (i, e.val) else findP eqK k es (i + 1)
structure KeyKind (P : Program) (kT : TypeId) (IsK : Value → Prop) (eqK : Value → Value → Bool) : Prop where
  find : ∀ k, IsK k → ∀ (w : World) (es : List MapEntry), (∀ e ∈ es, IsK e.key) → (Instr.findKey kT k es).run P w = .ok (findP eqK k es 0) w
  check : ∀ a, IsK a → ∀ (em : Bool) (w : World), (Instr.checkKey em 10000 kT a).run P w = .ok () w
  same : ∀ a b, IsK a → IsK b → (eqK a b = true ↔ a = b)
  stays : ∀ a, IsK a → Instr.sameBits 10000 a a = true
section
variable {kT : TypeId} {IsK : Value → Prop} {eqK : Value → Value → Bool}
theorem run_findAsking (hq : ∀ a b, IsK a → IsK b → ∀ w : World, (Op.equal kT a b).run P w = .ok (eqK a b) w) (k : Value) (hk : IsK k) (w : World) : ∀ (es : List MapEntry) (i : Nat), (∀ e ∈ es, IsK e.key) → (Instr.findAsking kT k es i).run P w = .ok (findP eqK k es i) w
  | [], i, _ => rfl
  | e :: es, i, h => by
    have ih := run_findAsking hq k hk w es (i + 1) (fun x hx => h x (by simp [hx]))
    unfold Instr.findAsking findP
    rw [Sem.run_bind, hq k e.key hk (h e (by simp)) w]
    simp only [Result.andThen_ok]
    cases eqK k e.key with
    | true => rfl
    | false => exact ih
theorem find_struct (hf : ∃ fs, P.underlying kT = some (.struct fs)) (hq : ∀ a b, IsK a → IsK b → ∀ w : World, (Op.equal kT a b).run P w = .ok (eqK a b) w) (k : Value) (hk : IsK k) (w : World) (es : List MapEntry) (h : ∀ e ∈ es, IsK e.key) : (Instr.findKey kT k es).run P w = .ok (findP eqK k es 0) w := by
  obtain ⟨fs, hf⟩ := hf
  have hu : (underlying kT).run P w = .ok (.struct fs) w := by simp [underlying, Sem.run, hf]
  unfold Instr.findKey
  rw [Sem.run_bind, hu]
  simp only [Result.andThen_ok]
  cases es with
  | nil => rfl
  | cons e es =>
    have hn : Instr.findNow (.struct fs) k (e :: es) 0 = none := by simp [Instr.findNow, Instr.sameNow]
    rw [hn]
    exact run_findAsking hq k hk w (e :: es) 0 h
def eqStr : Value → Value → Bool
  | .string a, .string b => a == b
  | _, _ => false
def IsStr (v : Value) : Prop := ∃ b, v = .string b
theorem findNow_string (k : Value) (hk : IsStr k) : ∀ (es : List MapEntry) (i : Nat), (∀ e ∈ es, IsStr e.key) → Instr.findNow .string k es i = some (findP eqStr k es i)
  | [], i, _ => rfl
  | e :: es, i, h => by
    have ih := findNow_string k hk es (i + 1) (fun x hx => h x (by simp [hx]))
    obtain ⟨a, rfl⟩ := hk
    obtain ⟨b, hb⟩ := h e (by simp)
    unfold Instr.findNow findP
    rw [hb]
    have e1 : Instr.sameNow .string (.string a) (.string b) = some (a == b) := rfl
    have e2 : eqStr (.string a) (.string b) = (a == b) := rfl
    rw [e1, e2]
    cases a == b with
    | true => rfl
    | false => exact ih
theorem find_string (hf : P.underlying kT = some .string) (k : Value) (hk : IsStr k) (w : World) (es : List MapEntry) (h : ∀ e ∈ es, IsStr e.key) : (Instr.findKey kT k es).run P w = .ok (findP eqStr k es 0) w := by
  have hu : (underlying kT).run P w = .ok .string w := by simp [underlying, Sem.run, hf]
  unfold Instr.findKey
  rw [Sem.run_bind, hu]
  simp only [Result.andThen_ok]
  rw [findNow_string k hk es 0 h]
  rfl
theorem ba_beq (x y : ByteArray) : (x == y) = true ↔ x = y := by
  constructor
  · intro h
    cases x; cases y
    have h2 : (_ == _) = true := h
    exact congrArg ByteArray.mk (eq_of_beq h2)
  · rintro rfl
    cases x with
    | mk d => exact (beq_self_eq_true d : (d == d) = true)
theorem KeyKind.string (hf : P.underlying kT = some .string) : KeyKind P kT IsStr eqStr where
  find := find_string hf
  check := fun a ⟨b, hb⟩ em w => by
    subst hb
    have hu : (underlying kT).run P w = .ok .string w := by simp [underlying, Sem.run, hf]
    unfold Instr.checkKey
    rw [Sem.run_bind, hu]
    rfl
  same := fun a b ⟨x, hx⟩ ⟨y, hy⟩ => by
    subst hx; subst hy
    show (x == y) = true ↔ _
    rw [ba_beq]
    exact ⟨fun h => by rw [h], fun h => by injection h⟩
  stays := fun a ⟨b, hb⟩ => by
    subst hb
    show (b == b) = true
    exact (ba_beq b b).2 rfl
theorem run_getObj (w : World) (b : Nat) (es : Array MapEntry) (clock : Nat) (h : w.heap[b]? = some (.map es clock)) : (getObj b).run P w = .ok (.map es clock) w := by simp [getObj, Sem.run, h]
theorem run_setMap (w : World) (b : Nat) (es : Array MapEntry) (clock : Nat) (o' : Obj) (h : w.heap[b]? = some (.map es clock)) : (setObj b o').run P w = .ok () (setBlock w b o') := by simp [setObj, Sem.run, h, setBlock]
theorem run_und (w : World) (T : TypeId) (d : TypeDesc) (h : P.underlying T = some d) : (underlying T).run P w = .ok d w := by simp [underlying, Sem.run, h]
theorem run_lookup (H : KeyKind P kT IsK eqK) (T eT : TypeId) (hT : P.underlying T = some (.map kT eT)) (w : World) (b : Nat) (es : Array MapEntry) (clock : Nat) (hb : w.heap[b]? = some (.map es clock)) (hes : ∀ e ∈ es.toList, IsK e.key) (k : Value) (hk : IsK k) (z : Value) (hz : (zeroValue eT).run P w = .ok z w) (ok : Bool) :
    (Instr.lookup T (.map (some b)) k ok).run P w = .ok (if ok then .tuple #[((findP eqK k es.toList 0).map (·.2)).getD z, .bool (findP eqK k es.toList 0).isSome] else ((findP eqK k es.toList 0).map (·.2)).getD z) w := by
  unfold Instr.lookup
  simp only [Sem.run_bind, run_und w T _ hT, Result.andThen_ok, run_getObj w b _ _ hb, H.check k hk, Sem.run_pure]
  rw [H.find k hk w es.toList hes]
  simp only [Result.andThen_ok]
  cases hf : findP eqK k es.toList 0 with
  | none => simp only [Sem.run_bind, hz, Result.andThen_ok, Sem.run_pure, Option.map_none, Option.getD_none, Option.isSome_none]
  | some p => obtain ⟨i, v⟩ := p; simp only [Sem.run_bind, Result.andThen_ok, Sem.run_pure, Option.map_some, Option.getD_some, Option.isSome_some]
theorem run_update (H : KeyKind P kT IsK eqK) (T eT : TypeId) (hT : P.underlying T = some (.map kT eT)) (w : World) (b : Nat) (es : Array MapEntry) (clock : Nat) (hb : w.heap[b]? = some (.map es clock)) (hes : ∀ e ∈ es.toList, IsK e.key) (k v : Value) (hk : IsK k) :
    (Instr.mapUpdate T (.map (some b)) k v).run P w = .ok () (setBlock w b (match findP eqK k es.toList 0 with
      | some (i, _) => .map (es.modify i fun e => { e with key := k, val := v }) clock
      | none => .map (es.push { key := k, val := v, born := clock }) (clock + 1))) := by
  unfold Instr.mapUpdate
  simp only [Sem.run_bind, run_und w T _ hT, Result.andThen_ok, run_getObj w b _ _ hb, H.check k hk]
  rw [H.find k hk w es.toList hes]
  simp only [Result.andThen_ok]
  cases hf : findP eqK k es.toList 0 with
  | none => simp only [run_setMap w b _ _ _ hb]
  | some p =>
    obtain ⟨i, v0⟩ := p
    have key : ∀ (l : List MapEntry) (n : Nat), (∀ e ∈ l, IsK e.key) → findP eqK k l n = some (i, v0) → n ≤ i ∧ ∃ e, l[i - n]? = some e ∧ e.key = k := by
      intro l
      induction l with
      | nil => intro n _ h; cases h
      | cons e l ih =>
        intro n hl h
        unfold findP at h
        by_cases hc : eqK k e.key = true
        · rw [if_pos hc] at h
          injection h with h
          injection h with h1 h2
          subst h1
          exact ⟨Nat.le_refl _, e, by rw [Nat.sub_self]; rfl, ((H.same k e.key hk (hl e (by simp))).1 hc).symm⟩
        · rw [if_neg hc] at h
          obtain ⟨h1, e', h2, h3⟩ := ih (n + 1) (fun x hx => hl x (by simp [hx])) h
          refine ⟨by omega, e', ?_, h3⟩
          rw [show i - n = (i - (n + 1)) + 1 by omega]
          exact h2
    obtain ⟨_, e, he, hek⟩ := key es.toList 0 hes hf
    rw [Nat.sub_zero, Array.getElem?_toList] at he
    have hst : (Instr.keyThatStays (((es[i]?).map (·.key)).getD k) k).run P w = .ok k w := by
      rw [he]
      simp only [Option.map_some, Option.getD_some, hek]
      unfold Instr.keyThatStays
      rw [if_pos (H.stays k hk)]
      rfl
    simp only [Sem.run_bind, hst, Result.andThen_ok, run_setMap w b _ _ _ hb]
theorem run_delete (H : KeyKind P kT IsK eqK) (T eT ty kt : TypeId) (hT : P.underlying T = some (.map kT eT)) (w : World) (b : Nat) (es : Array MapEntry) (clock : Nat) (hb : w.heap[b]? = some (.map es clock)) (hes : ∀ e ∈ es.toList, IsK e.key) (k : Value) (hk : IsK k) :
    (Builtin.delete_ #[T, kt] ty #[.map (some b), k]).run P w = .ok (.tuple #[]) (setBlock w b (match findP eqK k es.toList 0 with
      | some (i, _) => .map (es.eraseIdxIfInBounds i) clock
      | none => .map es clock)) := by
  unfold Builtin.delete_
  show ((underlying T >>= _ : Sem Value)).run P w = _
  simp only [Sem.run_bind, run_und w T _ hT, Result.andThen_ok, List.getElem_toArray, List.getElem_cons_zero, List.getElem_cons_succ]
  simp only [Sem.run_bind, Result.andThen_ok, run_getObj w b _ _ hb, H.check k hk]
  rw [H.find k hk w es.toList hes]
  simp only [Result.andThen_ok]
  cases hf : findP eqK k es.toList 0 with
  | none => simp only [Sem.run_bind, run_setMap w b _ _ _ hb, Result.andThen_ok, Sem.run_pure]
  | some p => obtain ⟨i, v⟩ := p; simp only [Sem.run_bind, run_setMap w b _ _ _ hb, Result.andThen_ok, Sem.run_pure]
end
section
variable {K V : Type} [DecidableEq K]
def getA (k : K) : List (K × V) → Option V
  | [] => none
  | p :: r => if p.1 = k then some p.2 else getA k r
def putA (k : K) (v : V) : List (K × V) → List (K × V)
  | [] => [(k, v)]
  | p :: r => if p.1 = k then (k, v) :: r else p :: putA k v r
def delA (k : K) : List (K × V) → List (K × V)
  | [] => []
  | p :: r => if p.1 = k then r else p :: delA k r
theorem keys_put (k : K) (v : V) : ∀ M : List (K × V), ∀ x, x ∈ (putA k v M).map (·.1) ↔ x = k ∨ x ∈ M.map (·.1)
  | [], x => by simp [putA]
  | p :: r, x => by
    have ih := keys_put k v r x
    unfold putA
    by_cases h : p.1 = k
    · rw [if_pos h]
      simp only [List.map_cons, List.mem_cons]
      constructor
      · rintro (e | e)
        · exact .inl e
        · exact .inr (.inr e)
      · rintro (e | e | e)
        · exact .inl e
        · exact .inl (e.trans h)
        · exact .inr e
    · rw [if_neg h]
      simp only [List.map_cons, List.mem_cons, ih]
      constructor
      · rintro (e | e | e)
        · exact .inr (.inl e)
        · exact .inl e
        · exact .inr (.inr e)
      · rintro (e | e | e)
        · exact .inr (.inl e)
        · exact .inl e
        · exact .inr (.inr e)
theorem nodup_put (k : K) (v : V) : ∀ M : List (K × V), (M.map (·.1)).Nodup → ((putA k v M).map (·.1)).Nodup
  | [], _ => by simp [putA]
  | p :: r, h => by
    rw [List.map_cons, List.nodup_cons] at h
    unfold putA
    by_cases e : p.1 = k
    · rw [if_pos e, List.map_cons, List.nodup_cons]
      exact ⟨by rw [← e]; exact h.1, h.2⟩
    · rw [if_neg e, List.map_cons, List.nodup_cons]
      refine ⟨fun hm => ?_, nodup_put k v r h.2⟩
      rcases (keys_put k v r p.1).1 hm with e2 | e2
      · exact e e2
      · exact h.1 e2
theorem del_sub (k : K) : ∀ M : List (K × V), ∀ p, p ∈ delA k M → p ∈ M
  | [], p, h => h
  | q :: r, p, h => by
    unfold delA at h
    by_cases e : q.1 = k
    · rw [if_pos e] at h; exact List.mem_cons_of_mem _ h
    · rw [if_neg e] at h
      rcases List.mem_cons.1 h with rfl | h
      · exact List.mem_cons_self
      · exact List.mem_cons_of_mem _ (del_sub k r p h)
theorem nodup_del (k : K) : ∀ M : List (K × V), (M.map (·.1)).Nodup → ((delA k M).map (·.1)).Nodup
  | [], h => h
  | p :: r, h => by
    rw [List.map_cons, List.nodup_cons] at h
    unfold delA
    by_cases e : p.1 = k
    · rw [if_pos e]; exact h.2
    · rw [if_neg e, List.map_cons, List.nodup_cons]
      refine ⟨fun hm => ?_, nodup_del k r h.2⟩
      obtain ⟨q, hq, e2⟩ := List.mem_map.1 hm
      exact h.1 (List.mem_map.2 ⟨q, del_sub k r q hq, e2⟩)
end
section
variable {kT : TypeId} {IsK : Value → Prop} {eqK : Value → Value → Bool} {K V : Type} [DecidableEq K] {encK : K → Value} {encV : V → Value}
def kv (e : MapEntry) : Value × Value := (e.key, e.val)
theorem findP_succ (k : Value) : ∀ (es : List MapEntry) (i : Nat), findP eqK k es (i + 1) = (findP eqK k es i).map fun p => (p.1 + 1, p.2)
  | [], i => rfl
  | e :: es, i => by
    unfold findP
    by_cases h : eqK k e.key = true
    · rw [if_pos h, if_pos h]; rfl
    · rw [if_neg h, if_neg h]; exact findP_succ k es (i + 1)
theorem find_get (hE : ∀ a b : K, eqK (encK a) (encK b) = true ↔ a = b) (k : K) : ∀ (es : List MapEntry) (M : List (K × V)), es.map kv = M.map (fun p => (encK p.1, encV p.2)) → (findP eqK (encK k) es 0).map (·.2) = (getA k M).map encV
  | [], [], _ => rfl
  | [], _ :: _, h => by simp at h
  | _ :: _, [], h => by simp at h
  | e :: es, p :: r, h => by
    rw [List.map_cons, List.map_cons, List.cons.injEq] at h
    obtain ⟨h1, h2⟩ := h
    unfold kv at h1
    rw [Prod.mk.injEq] at h1
    have ih := find_get hE k es r h2
    unfold findP getA
    rw [h1.1]
    by_cases hk : k = p.1
    · rw [if_pos ((hE k p.1).2 hk), if_pos hk.symm]
      exact congrArg some h1.2
    · rw [if_neg (fun hh => hk ((hE k p.1).1 hh)), if_neg (fun hh => hk hh.symm), findP_succ, Option.map_map]
      exact ih
theorem upd_put (hE : ∀ a b : K, eqK (encK a) (encK b) = true ↔ a = b) (k : K) (v : V) (c : Nat) : ∀ (es : List MapEntry) (M : List (K × V)), es.map kv = M.map (fun p => (encK p.1, encV p.2)) →
    (match findP eqK (encK k) es 0 with | some (i, _) => es.modify i (fun (e : MapEntry) => { e with key := encK k, val := encV v }) | none => es ++ [(⟨encK k, encV v, c⟩ : MapEntry)]).map kv = (putA k v M).map (fun p => (encK p.1, encV p.2))
  | [], [], _ => rfl
  | [], _ :: _, h => by simp at h
  | _ :: _, [], h => by simp at h
  | e :: es, p :: r, h => by
    rw [List.map_cons, List.map_cons, List.cons.injEq] at h
    obtain ⟨h1, h2⟩ := h
    have h1' := h1
    unfold kv at h1
    rw [Prod.mk.injEq] at h1
    have ih := upd_put hE k v c es r h2
    unfold findP putA
    rw [h1.1]
    by_cases hk : k = p.1
    · rw [if_pos ((hE k p.1).2 hk), if_pos hk.symm, List.map_cons, ← h2]
      rfl
    · rw [if_neg (fun hh => hk ((hE k p.1).1 hh)), if_neg (fun hh => hk hh.symm), findP_succ, List.map_cons, ← ih, ← h1']
      cases findP eqK (encK k) es 0 with
      | none => rfl
      | some q => rfl
theorem era_del (hE : ∀ a b : K, eqK (encK a) (encK b) = true ↔ a = b) (k : K) : ∀ (es : List MapEntry) (M : List (K × V)), es.map kv = M.map (fun p => (encK p.1, encV p.2)) →
    (match findP eqK (encK k) es 0 with | some (i, _) => es.eraseIdx i | none => es).map kv = (delA k M).map (fun p => (encK p.1, encV p.2))
  | [], [], _ => rfl
  | [], _ :: _, h => by simp at h
  | _ :: _, [], h => by simp at h
  | e :: es, p :: r, h => by
    rw [List.map_cons, List.map_cons, List.cons.injEq] at h
    obtain ⟨h1, h2⟩ := h
    have h1' := h1
    unfold kv at h1
    rw [Prod.mk.injEq] at h1
    have ih := era_del hE k es r h2
    unfold findP delA
    rw [h1.1]
    by_cases hk : k = p.1
    · rw [if_pos ((hE k p.1).2 hk), if_pos hk.symm, ← h2]
      rfl
    · rw [if_neg (fun hh => hk ((hE k p.1).1 hh)), if_neg (fun hh => hk hh.symm), findP_succ, List.map_cons, ← ih, ← h1']
      cases findP eqK (encK k) es 0 with
      | none => rfl
      | some q => rfl
end
section
variable {K V : Type} [DecidableEq K] {encK : K → Value} {encV : V → Value}
theorem set_at (w : World) (b : Nat) (o o' : Obj) (h : w.heap[b]? = some o) : (setBlock w b o').heap[b]? = some o' := by
  have := (Array.getElem?_eq_some_iff.1 h).1
  simp [setBlock, this]
theorem set_far (w : World) (b k : Nat) (o' : Obj) (h : k ≠ b) : (setBlock w b o').heap[k]? = w.heap[k]? := by
  simp [setBlock, Array.getElem?_setIfInBounds, Ne.symm h]
theorem set_size (w : World) (b : Nat) (o' : Obj) : (setBlock w b o').heap.size = w.heap.size := by simp [setBlock]
structure Corr (encK : K → Value) (encV : V → Value) (es : Array MapEntry) (clock : Nat) (M : List (K × V)) : Prop where
  list : es.toList.map kv = M.map (fun p => (encK p.1, encV p.2))
  born : (es.toList.map (·.born)).Nodup
  old : ∀ e ∈ es.toList, e.born < clock
def Holds (encK : K → Value) (encV : V → Value) (w : World) (b : Nat) (M : List (K × V)) : Prop := ∃ es clock, w.heap[b]? = some (.map es clock) ∧ Corr encK encV es clock M
variable {kT : TypeId} {IsK : Value → Prop} {eqK : Value → Value → Bool}
theorem Corr.keys {es : Array MapEntry} {clock : Nat} {M : List (K × V)} (h : Corr encK encV es clock M) (hI : ∀ a : K, IsK (encK a)) : ∀ e ∈ es.toList, IsK e.key := by
  intro e he
  have : kv e ∈ M.map (fun p => (encK p.1, encV p.2)) := by rw [← h.list]; exact List.mem_map.2 ⟨e, he, rfl⟩
  obtain ⟨p, _, hp⟩ := List.mem_map.1 this
  have : e.key = encK p.1 := (congrArg Prod.fst hp).symm
  rw [this]
  exact hI _
theorem Holds.lookup (H : KeyKind P kT IsK eqK) (hI : ∀ a : K, IsK (encK a)) (hE : ∀ a b : K, eqK (encK a) (encK b) = true ↔ a = b) (T eT : TypeId) (hT : P.underlying T = some (.map kT eT)) {w : World} {b : Nat} {M : List (K × V)} (h : Holds encK encV w b M) (k : K) (z : Value) (hz : (zeroValue eT).run P w = .ok z w) (ok : Bool) :
    (Instr.lookup T (.map (some b)) (encK k) ok).run P w = .ok (if ok then .tuple #[((getA k M).map encV).getD z, .bool (getA k M).isSome] else ((getA k M).map encV).getD z) w := by
  obtain ⟨es, c, hb, hC⟩ := h
  rw [run_lookup H T eT hT w b es c hb (hC.keys hI) (encK k) (hI k) z hz ok]
  have hf := find_get (eqK := eqK) hE k es.toList M hC.list
  have hs : (findP eqK (encK k) es.toList 0).isSome = (getA k M).isSome := by
    have := congrArg Option.isSome hf
    simpa using this
  rw [hf, hs]
theorem Holds.update (H : KeyKind P kT IsK eqK) (hI : ∀ a : K, IsK (encK a)) (hE : ∀ a b : K, eqK (encK a) (encK b) = true ↔ a = b) (T eT : TypeId) (hT : P.underlying T = some (.map kT eT)) {w : World} {b : Nat} {M : List (K × V)} (h : Holds encK encV w b M) (k : K) (v : V) :
    ∃ o, (Instr.mapUpdate T (.map (some b)) (encK k) (encV v)).run P w = .ok () (setBlock w b o) ∧ Holds encK encV (setBlock w b o) b (putA k v M) := by
  obtain ⟨es, c, hb, hC⟩ := h
  refine ⟨_, run_update H T eT hT w b es c hb (hC.keys hI) (encK k) (encV v) (hI k), ?_⟩
  have hu := upd_put (eqK := eqK) hE k v c es.toList M hC.list
  cases hf : findP eqK (encK k) es.toList 0 with
  | none =>
    rw [hf] at hu
    refine ⟨_, _, set_at w b _ _ hb, ?_, ?_, ?_⟩
    · rw [Array.toList_push]; exact hu
    · rw [Array.toList_push, List.map_append, List.nodup_append]
      refine ⟨hC.born, by simp, fun a ha b' hb' e => ?_⟩
      obtain ⟨x, hx, rfl⟩ := List.mem_map.1 ha
      have := hC.old x hx
      simp at hb'
      omega
    · intro e he
      rw [Array.toList_push] at he
      rcases List.mem_append.1 he with he | he
      · have := hC.old e he; omega
      · rw [List.mem_singleton.1 he]; exact Nat.lt_succ_self c
  | some q =>
    obtain ⟨i, v0⟩ := q
    rw [hf] at hu
    have hborn : ∀ (l : List MapEntry) (j : Nat), (l.modify j fun (e : MapEntry) => { e with key := encK k, val := encV v }).map (·.born) = l.map (·.born) := by
      intro l j
      apply List.ext_getElem?
      intro t
      rw [List.getElem?_map, List.getElem?_map, List.getElem?_modify]
      cases l[t]? with
      | none => rfl
      | some x => by_cases e : j = t <;> simp [e]
    refine ⟨_, _, set_at w b _ _ hb, ?_, ?_, ?_⟩
    · rw [Array.toList_modify]; exact hu
    · rw [Array.toList_modify, hborn]; exact hC.born
    · intro e he
      have : e.born ∈ (es.modify i fun (e : MapEntry) => { e with key := encK k, val := encV v }).toList.map (·.born) := List.mem_map.2 ⟨e, he, rfl⟩
      rw [Array.toList_modify, hborn] at this
      obtain ⟨x, hx, e2⟩ := List.mem_map.1 this
      have := hC.old x hx
      omega
theorem Corr.erase {es : Array MapEntry} {clock : Nat} {M : List (K × V)} (hE : ∀ a b : K, eqK (encK a) (encK b) = true ↔ a = b) (hC : Corr encK encV es clock M) (k : K) : Corr encK encV (match findP eqK (encK k) es.toList 0 with | some (i, _) => es.eraseIdxIfInBounds i | none => es) clock (delA k M) := by
  have hu := era_del (eqK := eqK) hE k es.toList M hC.list
  cases hf : findP eqK (encK k) es.toList 0 with
  | none => rw [hf] at hu; exact ⟨hu, hC.born, hC.old⟩
  | some q =>
    obtain ⟨i, v0⟩ := q
    rw [hf] at hu
    have ht : (es.eraseIdxIfInBounds i).toList = es.toList.eraseIdx i := by
      unfold Array.eraseIdxIfInBounds
      split
      · rw [Array.toList_eraseIdx]
      · rename_i h
        rw [List.eraseIdx_of_length_le (by simpa using h)]
    have hs : (es.toList.eraseIdx i).Sublist es.toList := List.eraseIdx_sublist ..
    refine ⟨?_, ?_, ?_⟩
    · show List.map kv (es.eraseIdxIfInBounds i).toList = _
      rw [ht]; exact hu
    · show ((es.eraseIdxIfInBounds i).toList.map (·.born)).Nodup
      rw [ht]; exact (hs.map _).nodup hC.born
    · intro e he
      have he' : e ∈ (es.eraseIdxIfInBounds i).toList := he
      rw [ht] at he'
      exact hC.old e (hs.subset he')
theorem Holds.delete (H : KeyKind P kT IsK eqK) (hI : ∀ a : K, IsK (encK a)) (hE : ∀ a b : K, eqK (encK a) (encK b) = true ↔ a = b) (T eT ty kt : TypeId) (hT : P.underlying T = some (.map kT eT)) {w : World} {b : Nat} {M : List (K × V)} (h : Holds encK encV w b M) (k : K) :
    ∃ o, (Builtin.delete_ #[T, kt] ty #[.map (some b), encK k]).run P w = .ok (.tuple #[]) (setBlock w b o) ∧ Holds encK encV (setBlock w b o) b (delA k M) := by
  obtain ⟨es, c, hb, hC⟩ := h
  refine ⟨_, run_delete H T eT ty kt hT w b es c hb (hC.keys hI) (encK k) (hI k), ?_⟩
  have he := hC.erase (eqK := eqK) hE k
  cases hf : findP eqK (encK k) es.toList 0 with
  | none => rw [hf] at he; exact ⟨_, _, set_at w b _ _ hb, he⟩
  | some q => obtain ⟨i, v0⟩ := q; rw [hf] at he; exact ⟨_, _, set_at w b _ _ hb, he⟩
def Ranging (encK : K → Value) (encV : V → Value) (w : World) (b r : Nat) (M L : List (K × V)) : Prop :=
  ∃ es clock since seen c0, w.heap[b]? = some (.map es clock) ∧ Corr encK encV es clock M ∧ w.heap[r]? = some (.mapIter (some b) since seen c0) ∧ (∀ x ∈ es.toList, x.born < since) ∧ since ≤ c0 ∧ since ≤ clock ∧
    (es.toList.filter (fun e => !seen.contains e.born)).map kv = L.map (fun p => (encK p.1, encV p.2))
def RangingAt (encK : K → Value) (encV : V → Value) (w : World) (b r : Nat) (M L : List (K × V)) (p : K × V) : Prop :=
  ∃ (es : Array MapEntry) (clock since : Nat) (seen : Array Nat) (e : MapEntry), w.heap[b]? = some (.map es clock) ∧ Corr encK encV es clock M ∧ w.heap[r]? = some (.mapIter (some b) since (seen.push e.born) clock) ∧ e ∈ es.toList ∧ kv e = (encK p.1, encV p.2) ∧ (∀ x ∈ es.toList, x.born < since) ∧ since ≤ clock ∧
    (es.toList.filter (fun x => !(seen.push e.born).contains x.born)).map kv = L.map (fun p => (encK p.1, encV p.2))
theorem RangingAt.on {w : World} {b r : Nat} {M L : List (K × V)} {p : K × V} (h : RangingAt encK encV w b r M L p) : Ranging encK encV w b r M L := by
  obtain ⟨es, c, s, seen, e, h1, h2, h3, _, _, h6, h7, h8⟩ := h
  exact ⟨es, c, s, seen.push e.born, c, h1, h2, h3, h6, h7, h7, h8⟩
theorem Ranging.holds {w : World} {b r : Nat} {M L : List (K × V)} (h : Ranging encK encV w b r M L) : Holds encK encV w b M := by
  obtain ⟨es, c, s, seen, c0, h1, h2, _⟩ := h
  exact ⟨es, c, h1, h2⟩
theorem Ranging.ne {w : World} {b r : Nat} {M L : List (K × V)} (h : Ranging encK encV w b r M L) : r ≠ b := by
  obtain ⟨es, c, s, seen, c0, h1, _, h3, _⟩ := h
  intro e
  rw [e, h1] at h3
  cases h3
theorem Ranging.move {w w' : World} {b r : Nat} {M L : List (K × V)} (h : Ranging encK encV w b r M L) (hb : w'.heap[b]? = w.heap[b]?) (hr : w'.heap[r]? = w.heap[r]?) : Ranging encK encV w' b r M L := by
  obtain ⟨es, c, s, seen, c0, h1, h2, h3, h4⟩ := h
  exact ⟨es, c, s, seen, c0, hb.trans h1, h2, hr.trans h3, h4⟩
theorem RangingAt.move {w w' : World} {b r : Nat} {M L : List (K × V)} {p : K × V} (h : RangingAt encK encV w b r M L p) (hb : w'.heap[b]? = w.heap[b]?) (hr : w'.heap[r]? = w.heap[r]?) : RangingAt encK encV w' b r M L p := by
  obtain ⟨es, c, s, seen, e, h1, h2, h3, h4⟩ := h
  exact ⟨es, c, s, seen, e, hb.trans h1, h2, hr.trans h3, h4⟩
theorem Holds.range {T eT : TypeId} (hT : P.underlying T = some (.map kT eT)) {w : World} {b : Nat} {M : List (K × V)} (h : Holds encK encV w b M) :
    ∃ o, (Instr.range T (.map (some b))).run P w = .ok (.pointer (some ⟨w.heap.size, 0, none⟩)) (w.alloc o) ∧ Ranging encK encV (w.alloc o) b w.heap.size M M := by
  obtain ⟨es, c, hb, hC⟩ := h
  refine ⟨.mapIter (some b) c #[] c, ?_, es, c, c, #[], c, ?_, hC, ?_, hC.old, Nat.le_refl _, Nat.le_refl _, ?_⟩
  · unfold Instr.range
    simp only [Sem.run_bind, run_und w T _ hT, Result.andThen_ok, run_getObj w b _ _ hb, Sem.run_pure]
    rfl
  · have hlt := (Array.getElem?_eq_some_iff.1 hb).1
    have : (w.alloc (.mapIter (some b) c #[] c)).heap[b]? = w.heap[b]? := by
      show (w.heap.push _)[b]? = _
      rw [Array.getElem?_push, if_neg (by omega)]
    rw [this]; exact hb
  · exact heap_alloc_new w _
  · have : es.toList.filter (fun e => !(#[] : Array Nat).contains e.born) = es.toList := List.filter_eq_self.2 (fun _ _ => by simp)
    rw [this]; exact hC.list
theorem split_filter {L : List MapEntry} {e : MapEntry} (he : e ∈ L) (hn : (L.map (·.born)).Nodup) (f : MapEntry → Bool) (hf : f e = true) :
    ∃ A B, L.filter f = A ++ e :: B ∧ L.filter (fun x => f x && !(x.born == e.born)) = A ++ B := by
  induction L with
  | nil => simp at he
  | cons x r ih =>
    rw [List.map_cons, List.nodup_cons] at hn
    by_cases hx : e = x
    · subst hx
      have hr : r.filter (fun y => f y && !(y.born == e.born)) = r.filter f := by
        apply List.filter_congr
        intro y hy
        have : y.born ≠ e.born := fun h => hn.1 (List.mem_map.2 ⟨y, hy, h⟩)
        simp [this]
      refine ⟨[], r.filter f, by rw [List.filter_cons, if_pos hf]; rfl, ?_⟩
      rw [List.filter_cons, if_neg (by simp), hr]
      rfl
    · have he' : e ∈ r := (List.mem_cons.1 he).resolve_left hx
      obtain ⟨A, B, h1, h2⟩ := ih he' hn.2
      have hb : (x.born == e.born) = false := by
        rw [beq_eq_false_iff_ne]
        exact fun h => hn.1 (List.mem_map.2 ⟨e, he', h.symm⟩)
      by_cases hfx : f x = true
      · exact ⟨x :: A, B, by rw [List.filter_cons, if_pos hfx, h1]; rfl, by rw [List.filter_cons, if_pos (by simp [hfx, hb]), h2]; rfl⟩
      · exact ⟨A, B, by rw [List.filter_cons, if_neg hfx, h1], by rw [List.filter_cons, if_neg (by simp [hfx]), h2]⟩
theorem split_map {α β : Type} (f : α → β) : ∀ (L : List α) (A B : List β) (x : β), L.map f = A ++ x :: B → ∃ A' p B', L = A' ++ p :: B' ∧ A'.map f = A ∧ f p = x ∧ B'.map f = B
  | [], A, B, x, h => by simp at h
  | a :: L, [], B, x, h => by
    simp at h
    exact ⟨[], a, L, rfl, rfl, h.1, h.2⟩
  | a :: L, y :: A, B, x, h => by
    simp at h
    obtain ⟨A', p, B', h1, h2, h3, h4⟩ := split_map f L A B x h.2
    exact ⟨a :: A', p, B', by rw [h1]; rfl, by rw [List.map_cons, h2, h.1], h3, h4⟩
theorem Ranging.next {w : World} {b r : Nat} {M L : List (K × V)} (h : Ranging encK encV w b r M L) (ty : TypeId) :
    (L = [] ∧ (Instr.next (.pointer (some ⟨r, 0, none⟩)) false ty).run P w = .ok (.tuple #[.bool false]) w) ∨
    ∃ A p B, L = A ++ p :: B ∧ ∃ (w1 : World) (o : Obj), (w1 = w ∨ w1 = w.drew) ∧ (Instr.next (.pointer (some ⟨r, 0, none⟩)) false ty).run P w = .ok (.tuple #[.bool true, encK p.1, encV p.2]) (setBlock w1 r o) ∧ RangingAt encK encV (setBlock w1 r o) b r M (A ++ B) p := by
  have hne := h.ne
  obtain ⟨es, c, since, seen, c0, hb, hC, hr, hold, hsc, hscl, hL⟩ := h
  have hlt : (leftOf es seen).toList = es.toList.filter (fun e => !seen.contains e.born) := by unfold leftOf; rw [Array.toList_filter]
  rcases run_next_at (P := P) w ty r b since c0 seen es c hr hb hold hsc with ⟨h0, hrun⟩ | ⟨e, he, w1, hw1, hrun⟩
  · refine .inl ⟨?_, hrun⟩
    rw [← hlt] at hL
    have : (leftOf es seen).toList = [] := List.length_eq_zero_iff.1 (by simpa using h0)
    rw [this] at hL
    exact List.map_eq_nil_iff.1 hL.symm
  · rw [hlt] at he
    obtain ⟨he1, he2⟩ := List.mem_filter.1 he
    obtain ⟨A, B, hs1, hs2⟩ := split_filter he1 hC.born (fun e => !seen.contains e.born) he2
    rw [hs1, List.map_append, List.map_cons] at hL
    obtain ⟨A', p, B', e1, e2, e3, e4⟩ := split_map (fun p : K × V => (encK p.1, encV p.2)) L _ _ _ hL.symm
    have hk : kv e = (encK p.1, encV p.2) := e3.symm
    have hk1 : e.key = encK p.1 := congrArg Prod.fst hk
    have hk2 : e.val = encV p.2 := congrArg Prod.snd hk
    rw [hk1, hk2] at hrun
    have hb1 : w1.heap[b]? = some (.map es c) := by rcases hw1 with rfl | rfl <;> exact hb
    have hr1 : w1.heap[r]? = some (.mapIter (some b) since seen c0) := by rcases hw1 with rfl | rfl <;> exact hr
    refine .inr ⟨A', p, B', e1, w1, _, hw1, hrun, es, c, since, seen, e, ?_, hC, ?_, he1, hk, hold, hscl, ?_⟩
    · rw [set_far _ _ _ _ (Ne.symm hne)]; exact hb1
    · exact set_at w1 r _ _ hr1
    · have hfl : es.toList.filter (fun x => !(seen.push e.born).contains x.born) = es.toList.filter (fun x => !seen.contains x.born && !(x.born == e.born)) := by
        apply List.filter_congr
        intro x _
        by_cases hx : x.born = e.born <;> simp [Array.contains_push, hx]
      rw [hfl, hs2, List.map_append, List.map_append, e2, e4]
theorem RangingAt.entry {w : World} {b r : Nat} {M L : List (K × V)} {p : K × V} (h : RangingAt encK encV w b r M L p) : (Instr.entry (.pointer (some ⟨r, 0, none⟩))).run P w = .ok (.tuple #[encK p.1, encV p.2]) w := by
  obtain ⟨es, c, since, seen, e, h1, h2, h3, h4, h5, _⟩ := h
  have := run_entry_at (P := P) w r b since seen es c e h3 h1 h4 h2.born
  rw [show e.key = encK p.1 from congrArg Prod.fst h5, show e.val = encV p.2 from congrArg Prod.snd h5] at this
  exact this
theorem find_at {k : Value} {i : Nat} {v0 : Value} : ∀ (l : List MapEntry) (n : Nat), findP eqK k l n = some (i, v0) → n ≤ i ∧ ∃ e, l[i - n]? = some e ∧ eqK k e.key = true
  | [], n, h => by cases h
  | e :: l, n, h => by
    unfold findP at h
    by_cases hc : eqK k e.key = true
    · rw [if_pos hc] at h
      injection h with h
      injection h with h1 h2
      subst h1
      exact ⟨Nat.le_refl _, e, by rw [Nat.sub_self]; rfl, hc⟩
    · rw [if_neg hc] at h
      obtain ⟨h1, e', h2, h3⟩ := find_at l (n + 1) h
      refine ⟨by omega, e', ?_, h3⟩
      rw [show i - n = (i - (n + 1)) + 1 by omega]
      exact h2
theorem filter_erase (f : MapEntry → Bool) : ∀ (l : List MapEntry) (i : Nat) (x : MapEntry), l[i]? = some x → f x = false → (l.eraseIdx i).filter f = l.filter f
  | [], i, x, h, _ => by simp at h
  | a :: l, 0, x, h, hf => by
    obtain rfl : a = x := by simpa using h
    rw [List.eraseIdx_cons_zero, List.filter_cons, if_neg (by rw [hf]; exact Bool.false_ne_true)]
  | a :: l, i + 1, x, h, hf => by
    rw [List.eraseIdx_cons_succ, List.filter_cons, List.filter_cons, filter_erase f l i x h hf]
theorem RangingAt.delete (H : KeyKind P kT IsK eqK) (hI : ∀ a : K, IsK (encK a)) (hE : ∀ a b : K, eqK (encK a) (encK b) = true ↔ a = b) (T eT ty kt : TypeId) (hT : P.underlying T = some (.map kT eT)) {w : World} {b r : Nat} {M L : List (K × V)} {p : K × V} (h : RangingAt encK encV w b r M L p) (hn : p.1 ∉ L.map (·.1)) :
    ∃ o, (Builtin.delete_ #[T, kt] ty #[.map (some b), encK p.1]).run P w = .ok (.tuple #[]) (setBlock w b o) ∧ Ranging encK encV (setBlock w b o) b r (delA p.1 M) L := by
  have hne := h.on.ne
  obtain ⟨es, c, since, seen, e, hb, hC, hr, he, hk, hold, hscl, hL⟩ := h
  refine ⟨_, run_delete H T eT ty kt hT w b es c hb (hC.keys hI) (encK p.1) (hI p.1), ?_⟩
  have hcr := hC.erase (eqK := eqK) hE p.1
  cases hf : findP eqK (encK p.1) es.toList 0 with
  | none =>
    rw [hf] at hcr
    exact ⟨es, c, since, seen.push e.born, c, set_at w b _ _ hb, hcr, (set_far _ _ _ _ hne).trans hr, hold, hscl, hscl, hL⟩
  | some q =>
    obtain ⟨i, v0⟩ := q
    rw [hf] at hcr
    obtain ⟨_, x, hx, hxk⟩ := find_at es.toList 0 hf
    rw [Nat.sub_zero] at hx
    have ht : (es.eraseIdxIfInBounds i).toList = es.toList.eraseIdx i := by
      unfold Array.eraseIdxIfInBounds
      split
      · rw [Array.toList_eraseIdx]
      · rename_i h
        rw [List.eraseIdx_of_length_le (by simpa using h)]
    have hfx : (!(seen.push e.born).contains x.born) = false := by
      cases hc : (!(seen.push e.born).contains x.born) with
      | false => rfl
      | true =>
        have hm : kv x ∈ L.map (fun p => (encK p.1, encV p.2)) := by
          rw [← hL]
          exact List.mem_map.2 ⟨x, List.mem_filter.2 ⟨List.mem_of_getElem? hx, hc⟩, rfl⟩
        obtain ⟨q, hq, hqe⟩ := List.mem_map.1 hm
        have hqk : encK q.1 = x.key := congrArg Prod.fst hqe
        rw [← hqk] at hxk
        exact absurd (List.mem_map.2 ⟨q, hq, ((hE p.1 q.1).1 hxk).symm⟩) hn
    have hsub : ∀ y ∈ (es.eraseIdxIfInBounds i).toList, y ∈ es.toList := fun y hy => by rw [ht] at hy; exact (List.eraseIdx_sublist ..).subset hy
    refine ⟨_, c, since, seen.push e.born, c, set_at w b _ _ hb, hcr, (set_far _ _ _ _ hne).trans hr, fun y hy => hold y (hsub y hy), hscl, hscl, ?_⟩
    rw [ht, filter_erase _ _ i x hx hfx]
    exact hL
end
end Go.MapRaw
namespace Go.Proofs.YtphddbijdfmpjaaGreatDoor.Wr
open Go.RowKit Go.MapRaw Go.Proofs.YtphddbijdfmpjaaGreatDoorW.PrintWords Go.Proofs.YtphddbijdfmpjaaGreatDoorW.PrintLast
open Go.ChangeMaps (setBlock)
set_option linter.unusedVariables false
set_option linter.unusedSimpArgs false
structure Bnd where
  path : ByteArray
  name : ByteArray
  subject : ByteArray
  verb : Int
abbrev Key := ByteArray × ByteArray
def eK (p : Key) : Value := .agg #[.string p.1, .string p.2]
def eV (b : Bnd) : Value := .agg #[.string b.path, .string b.name, .string b.subject, .int .i64 b.verb]
abbrev Tab := List (Key × Bnd)
def cnt (path : ByteArray) : Tab → Nat
  | [] => 0
  | p :: r => (if p.1.1 = path then 1 else 0) + cnt path r
theorem cnt_app (path : ByteArray) : ∀ (A B : Tab), cnt path (A ++ B) = cnt path A + cnt path B
  | [], B => by simp [cnt]
  | p :: A, B => by rw [List.cons_append, cnt, cnt, cnt_app path A B]; omega
section
variable {encK : Key → Value} {encV : Bnd → Value}
theorem Holds_alloc {w : World} {b : Nat} {M : Tab} (h : Holds eK eV w b M) (o : Obj) : Holds eK eV (w.alloc o) b M := by
  obtain ⟨es, c, h1, h2⟩ := h
  exact ⟨es, c, (heap_alloc_old w o (Array.getElem?_eq_some_iff.1 h1).1).trans h1, h2⟩
theorem Holds_move {w w' : World} {b : Nat} {M : Tab} (h : Holds eK eV w b M) (e : w'.heap[b]? = w.heap[b]?) : Holds eK eV w' b M := by
  obtain ⟨es, c, h1, h2⟩ := h
  exact ⟨es, c, e.trans h1, h2⟩
theorem Holds_lt {w : World} {b : Nat} {M : Tab} (h : Holds eK eV w b M) : b < w.heap.size := by
  obtain ⟨es, c, h1, h2⟩ := h
  exact (Array.getElem?_eq_some_iff.1 h1).1
theorem Ranging_lt {w : World} {b r : Nat} {M L : Tab} (h : Ranging eK eV w b r M L) : b < w.heap.size ∧ r < w.heap.size := by
  obtain ⟨es, c, s, seen, c0, h1, h2, h3, h4⟩ := h
  exact ⟨(Array.getElem?_eq_some_iff.1 h1).1, (Array.getElem?_eq_some_iff.1 h3).1⟩
theorem Ranging_alloc {w : World} {b r : Nat} {M L : Tab} (h : Ranging eK eV w b r M L) (o : Obj) : Ranging eK eV (w.alloc o) b r M L :=
  h.move (heap_alloc_old w o (Ranging_lt h).1) (heap_alloc_old w o (Ranging_lt h).2)
end
def IsPl (v : Value) : Prop := ∃ p : Key, v = eK p
def eqPl : Value → Value → Bool
  | .agg #[.string a, .string b], .agg #[.string c, .string d] => a == c && b == d
  | _, _ => false
theorem eqPl_iff (p q : Key) : eqPl (eK p) (eK q) = true ↔ p = q := by
  obtain ⟨a, b⟩ := p
  obtain ⟨c, d⟩ := q
  show (a == c && b == d) = true ↔ _
  rw [Bool.and_eq_true, ba_beq, ba_beq, Prod.mk.injEq]
theorem eqA70 (d : Nat) (w : World) (x0 y0 x1 y1 : ByteArray) : (Op.equalIn (d + 2) 52 (.agg #[.string x0, .string x1]) (.agg #[.string y0, .string y1])).run Tryz.prog w = .ok (x0.toList == y0.toList && x1.toList == y1.toList) w := by
  refine eqA_of Tryz.underlying52 (by kernel_rfl) ?_
  refine eqf_cons (by rfl) (by go_simp; rfl) (by go_simp; rfl) (by go_simp) ?_
  exact eqf_last (by rfl) (by go_simp; rfl) (by go_simp; rfl) (by go_simp)
theorem toList_beq (x y : ByteArray) : (x.toList == y.toList) = (x == y) := by
  rw [Bool.eq_iff_iff, ba_beq, beq_iff_eq]
  exact ⟨fun h => ByteArray.ext (by have := congrArg List.toArray h; simpa [ByteArray.toList_eq] using this), fun h => by rw [h]⟩
theorem check_pl (p : Key) (em : Bool) (w : World) : (Instr.checkKey em 10000 52 (eK p)).run Tryz.prog w = .ok () w := by
  have hu70 := Tryz.underlying52
  show (Instr.checkKey em (9998 + 1 + 1) 52 (eK p)).run Tryz.prog w = .ok () w
  unfold Instr.checkKey eK
  rw [Sem.run_bind, run_und w 52 _ hu70]
  simp only [Result.andThen_ok]
  unfold Instr.checkKey
  go_simp
theorem kind_pl : KeyKind Tryz.prog 52 IsPl eqPl where
  find := fun k hk w es h => find_struct ⟨_, Tryz.underlying52⟩ (fun a b ⟨p, hp⟩ ⟨q, hq⟩ w => by
    subst hp; subst hq
    show (Op.equalIn (9998 + 2) 52 (eK p) (eK q)).run Tryz.prog w = _
    unfold eK
    rw [eqA70, toList_beq, toList_beq]
    rfl) k hk w es h
  check := fun a ⟨p, hp⟩ em w => by subst hp; exact check_pl p em w
  same := fun a b ⟨p, hp⟩ ⟨q, hq⟩ => by
    subst hp; subst hq
    rw [eqPl_iff]
    refine ⟨fun h => by rw [h], fun h => ?_⟩
    unfold eK at h
    injection h with h
    have h1 : (#[Value.string p.1, Value.string p.2] : Array Value)[0]? = some (.string q.1) := by rw [h]; rfl
    have h2 : (#[Value.string p.1, Value.string p.2] : Array Value)[1]? = some (.string q.2) := by rw [h]; rfl
    simp at h1 h2
    exact Prod.ext h1 h2
  stays := fun a ⟨p, hp⟩ => by
    subst hp
    unfold eK
    show Instr.sameBits (9998 + 1 + 1) _ _ = true
    simp [Instr.sameBits, ba_beq]
end Go.Proofs.YtphddbijdfmpjaaGreatDoor.Wr
namespace Go.Proofs.YtphddbijdfmpjaaGreatDoor.Wr
open Go.RowKit Go.MapRaw Go.Proofs.YtphddbijdfmpjaaGreatDoorW.PrintWords Go.Proofs.YtphddbijdfmpjaaGreatDoorW.PrintLast Go.Proofs.YtphddbijdfmpjaaGreatDoor.Q Go.Proofs.YtphddbijdfmpjaaGreatDoor.Pl
set_option linter.unusedVariables false
set_option linter.unusedSimpArgs false
def Mat (s : ByteArray) (v : Int) (q : ByteArray) (x : Key × Bnd) : Prop := x.1.1 = q ∧ x.2.subject = s ∧ v ≤ x.2.verb
instance (s : ByteArray) (v : Int) (q : ByteArray) (x : Key × Bnd) : Decidable (Mat s v q x) := by unfold Mat; infer_instance
def hasAt (M : Tab) (s : ByteArray) (v : Int) (q : ByteArray) : Bool := M.any fun x => decide (Mat s v q x)
theorem hasAt_iff (M : Tab) (s : ByteArray) (v : Int) (q : ByteArray) : hasAt M s v q = true ↔ ∃ x ∈ M, Mat s v q x := by
  unfold hasAt; simp only [List.any_eq_true, decide_eq_true_eq]
def isV (v : Int) : Bool := decide (v ≥ 0) && decide (v ≤ 3)
theorem isV_iff (v : Int) : isV v = true ↔ 0 ≤ v ∧ v ≤ 3 := by unfold isV; simp
def rootS : ByteArray := ⟨#[114, 111, 111, 116]⟩
def whyB (M : Tab) (s : ByteArray) (v : Int) (p : ByteArray) : Bool := isV v && (lineS p).1.any (hasAt M s v)
def mayB (M : Tab) (s : ByteArray) (v : Int) (p : ByteArray) : Bool := if s = rootS then isV v && decide (pathS p = 0) else whyB M s v p
theorem whyB_iff (M : Tab) (s : ByteArray) (v : Int) (p : ByteArray) : whyB M s v p = true ↔ (0 ≤ v ∧ v ≤ 3) ∧ ∃ q ∈ (lineS p).1, ∃ x ∈ M, Mat s v q x := by
  unfold whyB
  rw [Bool.and_eq_true, isV_iff, List.any_eq_true]
  simp only [hasAt_iff]
theorem line_cases (p : ByteArray) : (pathS p = 0 ∧ (lineS p).2 = 0 ∧ ∃ ns, IsPath p ns ∧ lineS p = (upto ns ns.length, 0)) ∨ (pathS p = 41 ∧ lineS p = ([], 41)) := by
  rcases path_cases p with ⟨ns, h, _⟩ | ⟨h, _⟩
  · exact .inl ⟨pathS_path h, by rw [lineS_path h], ns, h, lineS_path h⟩
  · exact .inr ⟨pathS_bad h, lineS_bad h⟩
theorem line_mem {p q : ByteArray} (h : q ∈ (lineS p).1) : pathS p = 0 ∧ pathS q = 0 ∧ ∀ x ∈ (lineS q).1, x ∈ (lineS p).1 := by
  rcases line_cases p with ⟨h0, _, ns, hp, hl⟩ | ⟨_, hl⟩
  · rw [hl] at h
    obtain ⟨j, hj, rfl⟩ := (mem_upto ns q ns.length).1 h
    have hq := isPath_take hp j
    refine ⟨h0, pathS_path hq, fun x hx => ?_⟩
    rw [lineS_path hq] at hx
    obtain ⟨i, hi, rfl⟩ := (mem_upto _ x _).1 hx
    rw [hl]
    refine (mem_upto ns _ ns.length).2 ⟨min i j, by omega, ?_⟩
    rw [List.take_take]
  · rw [hl] at h; cases h
end Go.Proofs.YtphddbijdfmpjaaGreatDoor.Wr
namespace Go.Proofs.YtphddbijdfmpjaaGreatDoor.Q
open Go.RowKit Go.Proofs.YtphddbijdfmpjaaGreatDoorW.PrintWords Go.Proofs.YtphddbijdfmpjaaGreatDoorW.PrintLast Go.Proofs.YtphddbijdfmpjaaGreatDoor.Pl Go.Proofs.YtphddbijdfmpjaaGreatDoor.Wr
set_option linter.unusedVariables false
set_option linter.unusedSimpArgs false
def cmpB (x y : Bnd) : Int := if cmpL (splitS x.path).1 (splitS y.path).1 ≠ 0 then cmpL (splitS x.path).1 (splitS y.path).1 else cmpS x.name y.name
theorem split_len (s : ByteArray) : (splitS s).1.length ≤ 2513169434843 := by
  rcases path_cases s with ⟨ns, h, e⟩ | ⟨_, e⟩
  · rw [e]; have := h.most; simp; omega
  · rw [e]; simp
theorem drew_below0 (w : World) : Below w.heap.size w w.drew := below_drew1 (Below.refl _ _)
def Two (w : World) (r1 r2 : Nat) (ap an as_ bp bn bs : ByteArray) (av bv : Int) : Prop :=
  w.heap[r1]? = some (.cells #[.string ap, .string an, .string as_, .int .i64 av] 28 (0, 0)) ∧ w.heap[r2]? = some (.cells #[.string bp, .string bn, .string bs, .int .i64 bv] 28 (0, 0))
theorem two_step {w w' : World} {r1 r2 : Nat} {ap an as_ bp bn bs : ByteArray} {av bv : Int} (h : Two w r1 r2 ap an as_ bp bn bs av bv) (hb : Below w.heap.size w w') : Two w' r1 r2 ap an as_ bp bn bs av bv := ⟨blk_below h.1 hb, blk_below h.2 hb⟩
theorem two_below {w w' w2 : World} {r1 r2 : Nat} {ap an as_ bp bn bs : ByteArray} {av bv : Int} (h : Two w r1 r2 ap an as_ bp bn bs av bv) (hb : Below w2.heap.size w2 w) (hc : Below w.heap.size w w') : Two w' r1 r2 ap an as_ bp bn bs av bv := two_step h hc
theorem two_cells {w : World} {r1 r2 : Nat} {ap an as_ bp bn bs : ByteArray} {av bv : Int} (h : Two w r1 r2 ap an as_ bp bn bs av bv) : w.cell? ⟨r1, 0, none⟩ = some (.string ap) ∧ w.cell? ⟨r1, 1, none⟩ = some (.string an) ∧ w.cell? ⟨r2, 0, none⟩ = some (.string bp) ∧ w.cell? ⟨r2, 1, none⟩ = some (.string bn) :=
  ⟨(blk_cell h.1 0).trans rfl, (blk_cell h.1 1).trans rfl, (blk_cell h.2 0).trans rfl, (blk_cell h.2 1).trans rfl⟩
set_option maxRecDepth 100000 in
set_option maxHeartbeats 8000000 in
theorem cmp_ok (x y : Bnd) (w : World) (hG : Glob w) : Calls Tryz.prog 24 #[eV x, eV y] w fun e w' => e = .returned (.int .i64 (cmpB x y)) ∧ Grw w w' := by
  obtain ⟨ap, an, as_, av⟩ := x
  obtain ⟨bp, bn, bs, bv⟩ := y
  obtain ⟨res, hres⟩ : ∃ res, res = cmpB ⟨ap, an, as_, av⟩ ⟨bp, bn, bs, bv⟩ := ⟨_, rfl⟩
  rw [← hres]
  have HRES := Lib.hid hres
  clear hres
  have hu27 := Tryz.underlying28
  unfold eV
  have hg1 := (Grw.one w (.cells #[.string ap, .string an, .string as_, .int .i64 av] 28)).alloc (.cells #[.string bp, .string bn, .string bs, .int .i64 bv] 28)
  have hs1 : Two ((w.alloc (.cells #[.string ap, .string an, .string as_, .int .i64 av] 28)).alloc (.cells #[.string bp, .string bn, .string bs, .int .i64 bv] 28)) w.heap.size (w.heap.size + 1) ap an as_ bp bn bs av bv := by
    refine ⟨blk_alloc (blk_new w _) _, ?_⟩
    have := blk_new (w.alloc (.cells #[.string ap, .string an, .string as_, .int .i64 av] 28)) (.cells #[.string bp, .string bn, .string bs, .int .i64 bv] 28)
    rw [show (w.alloc (.cells #[.string ap, .string an, .string as_, .int .i64 av] 28)).heap.size = w.heap.size + 1 by simp] at this
    exact this
  have GL := Lib.hid hG
  have HG1 := Lib.hid hg1
  have SF1 := Lib.hid hs1
  clear hG hg1 hs1
  go_enter Tryz.func24, Tryz.ntmps24
  go_upto_region 1 with fail
  obtain ⟨r1, hr1⟩ : ∃ r1, r1 = w.heap.size := ⟨_, rfl⟩
  obtain ⟨r2, hr2⟩ : ∃ r2, r2 = w.heap.size + 1 := ⟨_, rfl⟩
  rw [← hr2, ← hr1] at SF1
  rw [← hr2, ← hr1]
  generalize World.alloc (World.alloc _ _) _ = w1 at HG1 SF1 ⊢
  clear hr1 hr2
  refine start_ (n := 15) (S := fun w' => w'.cell? ⟨r1, 0, none⟩ = some (.string ap) ∧ w'.cell? ⟨r1, 1, none⟩ = some (.string an) ∧ w'.cell? ⟨r2, 0, none⟩ = some (.string bp) ∧ w'.cell? ⟨r2, 1, none⟩ = some (.string bn)) (ds := []) #[false, false, false, false, false, false, false, false, false, false, false, false, false, false, false] (by kernel_rfl) rfl rfl (two_cells SF1.out) (fun hHeld => ?_)
  have HG := Aside0.mk HG1.out.drew
  have SF := Aside0.mk (two_step SF1.out (drew_below0 w1))
  clear HG1 SF1
  generalize w1.drew = w2 at HG SF hHeld ⊢
  refine pure_ (i := 0) (N := some 5) (v := ?_) (a' := ?_) #[true, false, false, false, false, false, false, false, false, false, false, false, false, false, false] rfl rfl (by kernel_rfl) (fun _ _ _ h => h) (Or.inl ⟨by rfl, ?_⟩) ?_ ?_
  rotate_left
  · intro w'
    go_simp
    with_reducible rfl
  rotate_left
  · simp only [Act.put, List.setIfInBounds_toArray, List.set_cons_zero, List.set_cons_succ, i64_w, i32_w]
    rfl
  refine take_ (i := 1) (N := some 6) (v := ?_) (a' := ?_) #[true, true, false, false, false, false, false, false, false, false, false, false, false, false, false] rfl rfl (by kernel_rfl) (fun _ _ _ h => h) (Or.inl ⟨by rfl, ?_⟩) hHeld ?_ ?_
  rotate_left
  · rintro w' ⟨s0, s1, s2, s3⟩
    go_simp
    with_reducible rfl
  rotate_left
  · simp only [Act.put, List.setIfInBounds_toArray, List.set_cons_zero, List.set_cons_succ, i64_w, i32_w]
    rfl
  refine pure_ (i := 3) (N := some 8) (v := ?_) (a' := ?_) #[true, true, false, true, false, false, false, false, false, false, false, false, false, false, false] rfl rfl (by kernel_rfl) (fun _ _ _ h => h) (Or.inl ⟨by rfl, ?_⟩) ?_ ?_
  rotate_left
  · intro w'
    go_simp
    with_reducible rfl
  rotate_left
  · simp only [Act.put, List.setIfInBounds_toArray, List.set_cons_zero, List.set_cons_succ, i64_w, i32_w]
    rfl
  refine take_ (i := 4) (N := some 9) (v := ?_) (a' := ?_) #[true, true, false, true, true, false, false, false, false, false, false, false, false, false, false] rfl rfl (by kernel_rfl) (fun _ _ _ h => h) (Or.inl ⟨by rfl, ?_⟩) hHeld ?_ ?_
  rotate_left
  · rintro w' ⟨s0, s1, s2, s3⟩
    go_simp
    with_reducible rfl
  rotate_left
  · simp only [Act.put, List.setIfInBounds_toArray, List.set_cons_zero, List.set_cons_succ, i64_w, i32_w]
    rfl
  refine pure_ (i := 7) (N := some 12) (v := ?_) (a' := ?_) #[true, true, false, true, true, false, false, true, false, false, false, false, false, false, false] rfl rfl (by kernel_rfl) (fun _ _ _ h => h) (Or.inl ⟨by rfl, ?_⟩) ?_ ?_
  rotate_left
  · intro w'
    go_simp
    with_reducible rfl
  rotate_left
  · simp only [Act.put, List.setIfInBounds_toArray, List.set_cons_zero, List.set_cons_succ, i64_w, i32_w]
    rfl
  refine take_ (i := 8) (N := some 13) (v := ?_) (a' := ?_) #[true, true, false, true, true, false, false, true, true, false, false, false, false, false, false] rfl rfl (by kernel_rfl) (fun _ _ _ h => h) (Or.inl ⟨by rfl, ?_⟩) hHeld ?_ ?_
  rotate_left
  · rintro w' ⟨s0, s1, s2, s3⟩
    go_simp
    with_reducible rfl
  rotate_left
  · simp only [Act.put, List.setIfInBounds_toArray, List.set_cons_zero, List.set_cons_succ, i64_w, i32_w]
    rfl
  refine pure_ (i := 9) (N := some 14) (v := ?_) (a' := ?_) #[true, true, false, true, true, false, false, true, true, true, false, false, false, false, false] rfl rfl (by kernel_rfl) (fun _ _ _ h => h) (Or.inl ⟨by rfl, ?_⟩) ?_ ?_
  rotate_left
  · intro w'
    go_simp
    with_reducible rfl
  rotate_left
  · simp only [Act.put, List.setIfInBounds_toArray, List.set_cons_zero, List.set_cons_succ, i64_w, i32_w]
    rfl
  refine take_ (i := 10) (N := some 15) (v := ?_) (a' := ?_) #[true, true, false, true, true, false, false, true, true, true, true, false, false, false, false] rfl rfl (by kernel_rfl) (fun _ _ _ h => h) (Or.inl ⟨by rfl, ?_⟩) hHeld ?_ ?_
  rotate_left
  · rintro w' ⟨s0, s1, s2, s3⟩
    go_simp
    with_reducible rfl
  rotate_left
  · simp only [Act.put, List.setIfInBounds_toArray, List.set_cons_zero, List.set_cons_succ, i64_w, i32_w]
    rfl
  refine one_ (i := 2) (N := some 7) #[true, true, true, true, true, false, false, true, true, true, true, false, false, false, false] rfl rfl (by kernel_rfl) (by decide) (fun K hK => ?_)
  refine goes_ Tryz.func27 (by kernel_rfl) rfl #[.string ap] (by rfl) rfl rfl (by (try simp only [List.map_toArray, List.map_cons, List.map_nil]); first | done | rfl) ?_
  with_reducible refine (names_grw ap _ (GL.out.below HG.out.below)).mono ?_
  rintro e w5 ⟨v0, rfl, hT, hg⟩
  obtain ⟨A0, c0, rfl, hC0⟩ := hT
  have H5 := Aside0.mk (HG.out.trans hg)
  have S5 := Aside0.mk (two_below SF.out HG.out.below hg.below)
  have C0 := Aside0.mk hC0
  clear hC0 hg
  refine ⟨_, rfl, ?_⟩
  refine hK.out _ _ (two_cells S5.out) (fun hHeld => ?_)
  clear hK K
  refine norm_ (a' := ?_) ?_ ?_
  rotate_left
  · show Act.put _ (some 7) _ = _
    simp only [Act.put, List.setIfInBounds_toArray, List.set_cons_zero, List.set_cons_succ, i64_w, i32_w]
    rfl
  refine one_ (i := 5) (N := some 10) #[true, true, true, true, true, true, false, true, true, true, true, false, false, false, false] rfl rfl (by kernel_rfl) (by decide) (fun K hK => ?_)
  refine goes_ Tryz.func27 (by kernel_rfl) rfl #[.string bp] (by rfl) rfl rfl (by (try simp only [List.map_toArray, List.map_cons, List.map_nil]); first | done | rfl) ?_
  with_reducible refine (names_grw bp _ (GL.out.below H5.out.below)).mono ?_
  rintro e w6 ⟨v1, rfl, hT, hg⟩
  obtain ⟨A1, c1, rfl, hC1⟩ := hT
  have H6 := Aside0.mk (H5.out.trans hg)
  have S6 := Aside0.mk (two_step S5.out hg.below)
  have C1 := Aside0.mk hC1
  have C0b := Aside0.mk (Kd.C_below C0.out hg.below)
  clear hC1 hg C0 S5 H5
  refine ⟨_, rfl, ?_⟩
  refine hK.out _ _ (two_cells S6.out) (fun hHeld => ?_)
  clear hK K
  refine norm_ (a' := ?_) ?_ ?_
  rotate_left
  · show Act.put _ (some 10) _ = _
    simp only [Act.put, List.setIfInBounds_toArray, List.set_cons_zero, List.set_cons_succ, i64_w, i32_w]
    rfl
  refine one_ (i := 6) (N := some 11) #[true, true, true, true, true, true, true, true, true, true, true, false, false, false, false] rfl rfl (by kernel_rfl) (by decide) (fun K hK => ?_)
  refine goes_ Tryz.func26 (by kernel_rfl) rfl #[.slice A0 (splitS ap).1.length c0, .slice A1 (splitS bp).1.length c1] (by rfl) rfl rfl (by (try simp only [List.map_toArray, List.map_cons, List.map_nil]); first | done | rfl) ?_
  with_reducible refine (lists_ok A0 A1 c0 c1 _ _ _ C0b.out C1.out (split_len ap) (split_len bp)).mono ?_
  rintro e w7 ⟨rfl, rfl⟩
  refine ⟨_, rfl, ?_⟩
  refine hK.out _ _ (two_cells S6.out) (fun hHeld => ?_)
  clear hK K
  refine norm_ (a' := ?_) ?_ ?_
  rotate_left
  · show Act.put _ (some 11) _ = _
    simp only [Act.put, List.setIfInBounds_toArray, List.set_cons_zero, List.set_cons_succ, i64_w, i32_w]
    rfl
  refine one_ (i := 11) (N := some 16) #[true, true, true, true, true, true, true, true, true, true, true, true, false, false, false] rfl rfl (by kernel_rfl) (by decide) (fun K hK => ?_)
  refine goes_ Tryz.func28 (by kernel_rfl) rfl #[.string an, .string bn] (by rfl) rfl rfl (by (try simp only [List.map_toArray, List.map_cons, List.map_nil]); first | done | rfl) ?_
  with_reducible refine (compare_ok an bn _).mono ?_
  rintro e w8 ⟨rfl, rfl⟩
  refine ⟨_, rfl, ?_⟩
  refine hK.out _ _ (two_cells S6.out) (fun hHeld => ?_)
  clear hK K
  refine norm_ (a' := ?_) ?_ ?_
  rotate_left
  · show Act.put _ (some 16) _ = _
    simp only [Act.put, List.setIfInBounds_toArray, List.set_cons_zero, List.set_cons_succ, i64_w, i32_w]
    rfl
  refine one_ (i := 12) (N := some 17) #[true, true, true, true, true, true, true, true, true, true, true, true, true, false, false] rfl rfl (by kernel_rfl) (by decide) (fun K hK => ?_)
  obtain ⟨cl, hcl⟩ : ∃ cl, cl = cmpL (splitS ap).1 (splitS bp).1 := ⟨_, rfl⟩
  obtain ⟨cs, hcs⟩ : ∃ cs, cs = cmpS an bn := ⟨_, rfl⟩
  rw [← hcl, ← hcs]
  have HCL := Lib.hid hcl
  have HCS := Lib.hid hcs
  clear hcl hcs
  refine value_ (v := .slice (some ⟨w8.heap.size, 0, none⟩) 2 2) (w1 := w8.alloc (.cells #[.int .i64 cl, .int .i64 cs] 3)) (by rfl) rfl ?_ ?_
  · go_simp
  have H9 := Aside0.mk (H6.out.alloc (.cells #[.int .i64 cl, .int .i64 cs] 3))
  have S9 := Aside0.mk (two_step S6.out (Grw.one w8 (.cells #[.int .i64 cl, .int .i64 cs] 3)).below)
  have Q9 := Aside0.mk (blk_new w8 (.cells #[.int .i64 cl, .int .i64 cs] 3))
  obtain ⟨qq, hqq⟩ : ∃ qq, qq = w8.heap.size := ⟨_, rfl⟩
  rw [← hqq] at Q9 ⊢
  clear hqq H6 S6 C0b C1
  generalize w8.alloc _ = w9 at H9 S9 Q9 ⊢
  refine hK.out _ _ (two_cells S9.out) (fun hHeld => ?_)
  clear hK K
  refine norm_ (a' := ?_) ?_ ?_
  rotate_left
  · show Act.put _ (some 17) _ = _
    simp only [Act.put, List.setIfInBounds_toArray, List.set_cons_zero, List.set_cons_succ, i64_w, i32_w]
    rfl
  obtain ⟨rv, hrv⟩ : ∃ rv, rv = (if cl ≠ 0 then cl else cs) := ⟨_, rfl⟩
  have OK_ := Lib.hid (fun w h0 h1 => or_ok qq cl cs w h0 h1)
  rw [← hrv] at OK_
  have HRV := Lib.hid hrv
  clear hrv
  refine one_ (i := 13) (N := some 18) #[true, true, true, true, true, true, true, true, true, true, true, true, true, true, false] rfl rfl (by kernel_rfl) (by decide) (fun K hK => ?_)
  refine goes_ Tryz.func25 (by kernel_rfl) rfl #[.slice (some ⟨qq, 0, none⟩) 2 2] (by rfl) rfl rfl (by (try simp only [List.map_toArray, List.map_cons, List.map_nil]); first | done | rfl) ?_
  with_reducible refine (OK_.out _ ((blk_cell Q9.out 0).trans rfl) ((blk_cell Q9.out 1).trans rfl)).mono ?_
  rintro e w10 ⟨rfl, rfl⟩
  refine ⟨_, rfl, ?_⟩
  refine hK.out _ _ (two_cells S9.out) (fun hHeld => ?_)
  clear hK K
  refine norm_ (a' := ?_) ?_ ?_
  rotate_left
  · show Act.put _ (some 18) _ = _
    simp only [Act.put, List.setIfInBounds_toArray, List.set_cons_zero, List.set_cons_succ, i64_w, i32_w]
    rfl
  refine pure_ (i := 14) (N := some 4) (v := ?_) (a' := ?_) #[true, true, true, true, true, true, true, true, true, true, true, true, true, true, true] rfl rfl (by kernel_rfl) (fun _ _ _ h => h) (Or.inl ⟨by rfl, ?_⟩) ?_ ?_
  rotate_left
  · intro w'
    go_simp
    with_reducible rfl
  rotate_left
  · simp only [Act.put, List.setIfInBounds_toArray, List.set_cons_zero, List.set_cons_succ, i64_w, i32_w]
    rfl
  refine done_ (by kernel_rfl) ?_
  go_wp2
  go_ret
  refine ⟨?_, H9.out⟩
  rw [HRES.out]
  unfold cmpB
  rw [← HCL.out, ← HCS.out, ← HRV.out]
  rfl
end Go.Proofs.YtphddbijdfmpjaaGreatDoor.Q
namespace Go.Proofs.YtphddbijdfmpjaaGreatDoor.Q
open Go.RowKit Go.Proofs.YtphddbijdfmpjaaGreatDoorW.PrintWords Go.Proofs.YtphddbijdfmpjaaGreatDoorW.PrintLast Go.Proofs.YtphddbijdfmpjaaGreatDoor.Pl Go.Proofs.YtphddbijdfmpjaaGreatDoor.Wr
set_option linter.unusedVariables false
set_option linter.unusedSimpArgs false
structure Orders {α : Type} (c : α → α → Int) : Prop where
  neg : ∀ a b, c b a = - c a b
  le : ∀ a b d, c a b ≤ 0 → c b d ≤ 0 → c a d ≤ 0
section
variable {α : Type} {c : α → α → Int} (h : Orders c)
include h
theorem Orders.self (a : α) : c a a = 0 := by have := h.neg a a; omega
theorem Orders.eq {a b d : α} (h1 : c a b = 0) (h2 : c b d = 0) : c a d = 0 := by
  have := h.le a b d (by omega) (by omega)
  have e1 := h.neg a b
  have e2 := h.neg b d
  have := h.le d b a (by omega) (by omega)
  have := h.neg a d
  omega
theorem Orders.lt_le {a b d : α} (h1 : c a b < 0) (h2 : c b d ≤ 0) : c a d < 0 := by
  have h3 := h.le a b d (by omega) h2
  by_cases h0 : c a d = 0
  · have e1 := h.neg a d
    have e2 := h.le b d a h2 (by omega)
    have := h.neg a b
    omega
  · omega
theorem Orders.le_lt {a b d : α} (h1 : c a b ≤ 0) (h2 : c b d < 0) : c a d < 0 := by
  have h3 := h.le a b d h1 (by omega)
  by_cases h0 : c a d = 0
  · have e1 := h.neg a d
    have e2 := h.le d a b (by omega) h1
    have := h.neg b d
    omega
  · omega
end
theorem less_asymm {x y : List UInt8} (h : Op.bytesLess x y = true) : Op.bytesLess y x = false := by
  cases h2 : Op.bytesLess y x with
  | false => rfl
  | true => have := less_trans _ _ _ h h2; rw [less_irrefl] at this; cases this
theorem cmpS_lt (a b : ByteArray) : cmpS a b < 0 ↔ Op.bytesLess a.toList b.toList = true := by
  unfold cmpS
  by_cases h1 : Op.bytesLess a.toList b.toList = true
  · simp [h1]
  · by_cases h2 : Op.bytesLess b.toList a.toList = true <;> simp [h1, h2]
theorem cmpS_neg (a b : ByteArray) : cmpS b a = - cmpS a b := by
  unfold cmpS
  by_cases h1 : Op.bytesLess a.toList b.toList = true
  · simp [h1, less_asymm h1]
  · by_cases h2 : Op.bytesLess b.toList a.toList = true <;> simp [h1, h2]
theorem cmpS_zero {a b : ByteArray} (h : cmpS a b = 0) : a = b := by
  unfold cmpS at h
  have h1 : ¬ Op.bytesLess a.toList b.toList = true := fun e => by rw [if_pos e] at h; cases h
  rw [if_neg h1] at h
  have h2 : ¬ Op.bytesLess b.toList a.toList = true := fun e => by rw [if_pos e] at h; cases h
  have t := less_total a.toList b.toList
  rw [Bool.eq_false_iff.2 h1, Bool.eq_false_iff.2 h2] at t
  simp only [Bool.false_or, Bool.not_false, beq_iff_eq] at t
  exact (ba_iff a b).1 t
theorem cmpS_le (a b : ByteArray) : cmpS a b ≤ 0 ↔ Op.bytesLess b.toList a.toList = false := by
  have h := cmpS_lt b a
  rw [cmpS_neg a b] at h
  constructor
  · intro h1
    rw [Bool.eq_false_iff, Ne, ← h]
    omega
  · intro h1
    have : ¬ (- cmpS a b < 0) := by rw [h, h1]; decide
    omega
theorem ordS : Orders cmpS where
  neg := cmpS_neg
  le a b d h1 h2 := by
    rw [cmpS_le] at h1 h2 ⊢
    cases h3 : Op.bytesLess d.toList a.toList with
    | false => rfl
    | true =>
      exfalso
      have t := less_total a.toList b.toList
      rw [h1, Bool.not_false, Bool.or_eq_true] at t
      rcases t with t | t
      · rw [less_trans _ _ _ h3 t] at h2; cases h2
      · rw [beq_iff_eq] at t; rw [← t, h3] at h2; cases h2
theorem cmpL_neg : ∀ x y : List ByteArray, cmpL y x = - cmpL x y
  | [], [] => rfl
  | [], _ :: _ => rfl
  | _ :: _, [] => rfl
  | a :: x, b :: y => by
    have ih := cmpL_neg x y
    have e := cmpS_neg a b
    unfold cmpL
    by_cases h : cmpS a b = 0
    · rw [if_neg (by omega), if_neg (by omega), ih]
    · rw [if_pos (by omega), if_pos (by omega), e]
theorem cmpL_le : ∀ x y z : List ByteArray, cmpL x y ≤ 0 → cmpL y z ≤ 0 → cmpL x z ≤ 0
  | [], _, [], _, _ => by simp [cmpL]
  | [], _, _ :: _, _, _ => by simp [cmpL]
  | _ :: _, [], _, h, _ => by simp [cmpL] at h
  | _ :: _, _ :: _, [], _, h => by simp [cmpL] at h
  | a :: x, b :: y, d :: z, h1, h2 => by
    unfold cmpL at h1 h2 ⊢
    by_cases e1 : cmpS a b = 0
    · rw [if_neg (by omega)] at h1
      by_cases e2 : cmpS b d = 0
      · rw [if_neg (by omega)] at h2
        have := ordS.eq e1 e2
        rw [if_neg (by omega)]
        exact cmpL_le x y z h1 h2
      · rw [if_pos (by omega)] at h2
        have := ordS.le_lt (a := a) (b := b) (d := d) (by omega) (by omega)
        rw [if_pos (by omega)]; omega
    · rw [if_pos (by omega)] at h1
      have hbd : cmpS b d ≤ 0 := by
        by_cases e2 : cmpS b d = 0
        · omega
        · rw [if_pos (by omega)] at h2; exact h2
      have := ordS.lt_le (a := a) (b := b) (d := d) (by omega) hbd
      rw [if_pos (by omega)]; omega
theorem ordL : Orders cmpL := ⟨cmpL_neg, cmpL_le⟩
theorem cmpL_zero : ∀ {x y : List ByteArray}, cmpL x y = 0 → x = y
  | [], [], _ => rfl
  | [], _ :: _, h => by simp [cmpL] at h
  | _ :: _, [], h => by simp [cmpL] at h
  | a :: x, b :: y, h => by
    unfold cmpL at h
    by_cases e : cmpS a b = 0
    · rw [if_neg (by omega)] at h
      rw [cmpS_zero e, cmpL_zero h]
    · rw [if_pos (by omega)] at h; omega
theorem ordB : Orders cmpB where
  neg x y := by
    unfold cmpB
    have e := cmpL_neg (splitS x.path).1 (splitS y.path).1
    by_cases h : cmpL (splitS x.path).1 (splitS y.path).1 = 0
    · rw [if_neg (by omega), if_neg (by omega), cmpS_neg x.name y.name]
    · rw [if_pos (by omega), if_pos (by omega), e]
  le x y z h1 h2 := by
    unfold cmpB at h1 h2 ⊢
    by_cases e1 : cmpL (splitS x.path).1 (splitS y.path).1 = 0
    · rw [if_neg (by omega)] at h1
      by_cases e2 : cmpL (splitS y.path).1 (splitS z.path).1 = 0
      · rw [if_neg (by omega)] at h2
        have := ordL.eq e1 e2
        rw [if_neg (by omega)]
        exact ordS.le _ _ _ h1 h2
      · rw [if_pos (by omega)] at h2
        have := ordL.le_lt (a := (splitS x.path).1) (b := (splitS y.path).1) (d := (splitS z.path).1) (by omega) (by omega)
        rw [if_pos (by omega)]; omega
    · rw [if_pos (by omega)] at h1
      have hbd : cmpL (splitS y.path).1 (splitS z.path).1 ≤ 0 := by
        by_cases e2 : cmpL (splitS y.path).1 (splitS z.path).1 = 0
        · omega
        · rw [if_pos (by omega)] at h2; exact h2
      have := ordL.lt_le (a := (splitS x.path).1) (b := (splitS y.path).1) (d := (splitS z.path).1) (by omega) hbd
      rw [if_pos (by omega)]; omega
end Go.Proofs.YtphddbijdfmpjaaGreatDoor.Q
namespace Go.Proofs.YtphddbijdfmpjaaGreatDoor.Q
open Go.RowKit Go.Proofs.YtphddbijdfmpjaaGreatDoorW.PrintWords Go.Proofs.YtphddbijdfmpjaaGreatDoorW.PrintLast Go.ChangeShapes
set_option linter.unusedVariables false
set_option linter.unusedSimpArgs false
section
variable {H : Type} (enc : TypeId × Value → H) (P : Program) (w : World) (base : Nat) (spare : Nat → Bool) (held : Bool)
def Opens (t : TypeId) {α : Type} (d : Kd α) (Rel : DataW H → α → Prop) : Prop :=
  ∀ (fuel : Nat) (cs : List Value) (x : DataW H × List MemPlace), DataW.trod enc P w base spare held fuel t cs = some x → ∃ a, d.K w a cs ∧ Rel x.1 a
def OpensFs {α : Type} (off : Nat) (fs : List Field) (d : Kd α) (Rel : List (DataW H) → α → Prop) : Prop :=
  ∀ (n : Nat) (cs : List Value) (xs : List (DataW H × List MemPlace)), xs.length = fs.length → cs.length = off + d.sz →
    (∀ (i : Nat) (f : Field), fs[i]? = some f → DataW.trod enc P w base spare held n f.type ((cs.drop f.offset).take (P.cellsOf f.type)) = xs[i]?) → ∃ a, d.K w a (cs.drop off) ∧ Rel (xs.map (·.1)) a
variable {enc : TypeId × Value → H} {P : Program} {w : World} {base : Nat} {spare : Nat → Bool} {held : Bool}
theorem opens_string {t : TypeId} (ht : P.underlying t = some .string) : Opens enc P w base spare held t Kd.string (fun x (s : ByteArray) => x = .lit (.string s.data.toList) ∧ s.size ≤ maxLen) := by
  intro fuel cs x h
  obtain ⟨s, rfl, rfl, hs⟩ := DataW.trod_string ht h
  exact ⟨s, rfl, rfl, hs⟩
theorem opens_int {t : TypeId} {k : IntKind} (ht : P.underlying t = some (.int k)) : Opens enc P w base spare held t (Kd.int k) (fun x (n : Int) => x = .lit (.int k n) ∧ (Lit.int k n).wf = true) := by
  intro fuel cs x h
  obtain ⟨s, rfl, rfl, hs⟩ := DataW.trod_int ht h
  exact ⟨s, rfl, rfl, hs⟩
theorem opens_bool {t : TypeId} (ht : P.underlying t = some .bool) : Opens enc P w base spare held t Kd.bool (fun x (b : Bool) => x = .lit (.bool b)) := by
  intro fuel cs x h
  obtain ⟨b, rfl, rfl⟩ := DataW.trod_bool ht h
  exact ⟨b, rfl, rfl⟩
theorem list_of {α : Type} {p : Nat → α → Prop} : ∀ n : Nat, (∀ i, i < n → ∃ x, p i x) → ∃ l : List α, l.length = n ∧ ∀ i x, l[i]? = some x → p i x
  | 0, _ => ⟨[], rfl, fun i x h => by simp at h⟩
  | n + 1, h => by
    obtain ⟨l, hl, hp⟩ := list_of n (fun i hi => h i (by omega))
    obtain ⟨x, hx⟩ := h n (by omega)
    refine ⟨l ++ [x], by simp [hl], fun i y hy => ?_⟩
    rcases Nat.lt_trichotomy i n with h1 | h1 | h1
    · rw [List.getElem?_append_left (by omega)] at hy; exact hp i y hy
    · subst h1
      rw [List.getElem?_append_right (by omega), hl, Nat.sub_self] at hy
      simp at hy
      exact hy ▸ hx
    · rw [List.getElem?_eq_none (by simp; omega)] at hy; cases hy
def RowD {H : Type} {α : Type} (Rel : DataW H → α → Prop) (x : DataW H) (l : List α) : Prop :=
  (x = .nil ∧ l = []) ∨ ∃ es r, x = .slice es r ∧ es.length = l.length ∧ ∀ (i : Nat) e a, es[i]? = some e → l[i]? = some a → Rel e a
theorem opens_slice {t e : TypeId} {α : Type} {d : Kd α} {Rel : DataW H → α → Prop} (e' : Nat) (ht : P.underlying t = some (.slice e)) (hc : P.cellsOf e = d.sz) (h : Opens enc P w base spare held e d Rel) :
    Opens enc P w base spare held t (Kd.slice e' d) (fun x l => RowD Rel x l ∧ l.length ≤ maxLen) := by
  intro fuel cs x hx
  have h63 : maxLen ≤ 9223372036854775807 := by decide
  rcases Go.Deep.open_slice ht hx with ⟨rfl, rfl⟩ | ⟨a, len, cap, m, n, D, Pl, rfl, hb, hl, hm, hmm, rfl, hi⟩
  · exact ⟨[], ⟨none, 0, rfl, Nat.le_refl _, rfl, Nat.zero_le _, fun h => absurd h (Nat.lt_irrefl 0)⟩, .inl ⟨rfl, rfl⟩, Nat.zero_le _⟩
  · have hlm : len ≤ m := by rw [hmm]; split <;> omega
    obtain ⟨l, hll, hp⟩ := list_of (α := α) (p := fun i y => ∃ cs', w.cells? base (a.add (i * P.cellsOf e)) (P.cellsOf e) = some cs' ∧ d.K w y cs' ∧ Rel (D i) y) len (fun i h1 => by
      obtain ⟨cs', h2, h3⟩ := hi i (by omega)
      obtain ⟨y, hy, hr⟩ := h n cs' _ h3
      exact ⟨y, cs', h2, hy, hr⟩)
    subst hll
    refine ⟨l, ⟨some a, cap, rfl, hl, rfl, by omega, fun _ => ⟨a, rfl, fun j p hj => ?_⟩⟩, .inr ⟨_, _, rfl, by simp, fun i e' a' h1 h2 => ?_⟩, by omega⟩
    · obtain ⟨cs', h2, h3, _⟩ := hp j p hj
      obtain ⟨_, h4, h5⟩ := World.cells?_some h2
      refine ⟨cs', by rw [h4, hc], h3, fun i u hu => ?_⟩
      have hil : i < cs'.length := (List.getElem?_eq_some_iff.1 hu).1
      have := h5 i (by omega)
      rw [hu, Go.Deep.add_add, hc] at this
      exact this
    · obtain ⟨_, _, _, h4⟩ := hp i a' h2
      have hil : i < l.length := (List.getElem?_eq_some_iff.1 h2).1
      simp [hil] at h1
      subst h1
      exact h4
theorem opens_one {f : Field} {off : Nat} {α : Type} {d : Kd α} {Rel : DataW H → α → Prop} (hf : f.offset = off) (hc : P.cellsOf f.type = d.sz) (h : Opens enc P w base spare held f.type d Rel) :
    OpensFs enc P w base spare held off [f] d (fun l a => ∃ y, l = [y] ∧ Rel y a) := by
  intro n cs xs hx hcs hi
  obtain ⟨x, rfl⟩ := List.length_eq_one_iff.1 (show xs.length = 1 from hx)
  have h0 := hi 0 f rfl
  rw [hf, hc, List.take_of_length_le (by rw [List.length_drop]; omega)] at h0
  obtain ⟨a, ha, hr⟩ := h n _ x h0
  exact ⟨a, ha, _, rfl, hr⟩
theorem opens_cons {f : Field} {fs : List Field} {off : Nat} {α β : Type} {d0 : Kd α} {d : Kd β} {R0 : DataW H → α → Prop} {R : List (DataW H) → β → Prop} (hf : f.offset = off) (hc : P.cellsOf f.type = d0.sz) (h0 : Opens enc P w base spare held f.type d0 R0)
    (h : OpensFs enc P w base spare held (off + d0.sz) fs d R) : OpensFs enc P w base spare held off (f :: fs) (Kd.pair d0 d) (fun l a => ∃ y r, l = y :: r ∧ R0 y a.1 ∧ R r a.2) := by
  intro n cs xs hx hcs hi
  cases xs with
  | nil => simp at hx
  | cons x xs =>
    have hsz : (Kd.pair d0 d).sz = d0.sz + d.sz := rfl
    rw [hsz] at hcs
    have h1 := hi 0 f rfl
    rw [hf, hc] at h1
    obtain ⟨a, ha, hr⟩ := h0 n _ x h1
    obtain ⟨b, hb, hs⟩ := h n cs xs (by simpa using hx) (by omega) (fun i g hg => hi (i + 1) g hg)
    refine ⟨(a, b), ⟨_, _, ?_, ha, hb⟩, _, _, rfl, hr, hs⟩
    rw [← List.drop_drop]
    exact (List.take_append_drop _ _).symm
theorem opens_struct {t : TypeId} {fs : Array Field} {α β : Type} {d : Kd α} {R : List (DataW H) → α → Prop} (f : β → α) (g : α → β) (hg : ∀ a, f (g a) = a) (ht : P.underlying t = some (.struct fs)) (hc : P.cellsOf t = d.sz) (h : OpensFs enc P w base spare held 0 fs.toList d R) :
    Opens enc P w base spare held t (Kd.iso d f) (fun x b => ∃ l, x = .agg l ∧ R l (f b)) := by
  intro fuel cs x hx
  obtain ⟨xs, n, _, rfl, hl, hxl, hi⟩ := DataW.trod_struct ht hx
  obtain ⟨a, ha, hr⟩ := h n cs xs (by simpa using hxl) (by rw [hl, hc, Nat.zero_add]) (fun i g hg' => hi i g (by rw [← Array.getElem?_toList]; exact hg'))
  rw [List.drop_zero] at ha
  refine ⟨g a, ?_, _, rfl, ?_⟩
  · show d.K w (f (g a)) cs
    rw [hg]; exact ha
  · rw [hg]; exact hr
theorem row_open {t e : TypeId} {α : Type} {d : Kd α} {Rel : DataW H → α → Prop} {A : Option Addr} {len cap : Nat} {x : DataW H} {ps : List MemPlace} (ht : P.underlying t = some (.slice e)) (hc : P.cellsOf e = d.sz)
    (h : Opens enc P w base spare held e d Rel) (hx : ∃ m, DataW.trod enc P w base spare held m t [.slice A len cap] = some (x, ps)) :
    ∃ l : List α, len = l.length ∧ d.C w A l.length l ∧ l.length ≤ cap ∧ RowD Rel x l ∧ l.length ≤ maxLen := by
  obtain ⟨m, hm⟩ := hx
  obtain ⟨l, ⟨A', c', he, hlc, hC⟩, hr, hml⟩ := opens_slice 0 ht hc h m _ _ hm
  injection he with he _
  injection he with h1 h2 h3
  subst h1 h2 h3
  exact ⟨l, rfl, hC, hlc, hr, hml⟩
end
theorem bulk_pos {H : Type} (d : DataW H) : 1 ≤ Rows.uptoBulk d := by
  cases d with
  | lit l => cases l <;> simp only [Rows.uptoBulk] <;> omega
  | nil => simp only [Rows.uptoBulk]; omega
  | ptr d => simp only [Rows.uptoBulk]; omega
  | slice a b => simp only [Rows.uptoBulk]; omega
  | agg p => simp only [Rows.uptoBulk]; omega
  | iface a d => simp only [Rows.uptoBulk]; omega
  | map e => simp only [Rows.uptoBulk]; omega
  | _ => simp only [Rows.uptoBulk]; omega
theorem bulk_all {H : Type} : ∀ l : List (DataW H), l.length ≤ Rows.uptoBulkAll l ∧ ∀ (i : Nat) x, l[i]? = some x → Rows.uptoBulk x ≤ Rows.uptoBulkAll l
  | [] => ⟨Nat.zero_le _, fun i x h => by simp at h⟩
  | d :: l => by
    obtain ⟨h1, h2⟩ := bulk_all l
    have hp := bulk_pos d
    simp only [Rows.uptoBulkAll, List.length_cons]
    refine ⟨by omega, fun i x h => ?_⟩
    cases i with
    | zero => simp at h; subst h; omega
    | succ i => have := h2 i x (by simpa using h); omega
theorem bulk_row {H : Type} {α : Type} {Rel : DataW H → α → Prop} {x : DataW H} {l : List α} (h : RowD Rel x l) : l.length ≤ Rows.uptoBulk x ∧ ∀ (i : Nat) a, l[i]? = some a → ∃ e, Rel e a ∧ Rows.uptoBulk e ≤ Rows.uptoBulk x := by
  rcases h with ⟨rfl, rfl⟩ | ⟨es, r, rfl, hl, he⟩
  · exact ⟨Nat.zero_le _, fun i a h => by simp at h⟩
  · obtain ⟨h1, h2⟩ := bulk_all es
    simp only [Rows.uptoBulk]
    refine ⟨by omega, fun i a ha => ?_⟩
    have hil : i < es.length := by rw [hl]; exact (List.getElem?_eq_some_iff.1 ha).1
    have hes : es[i]? = some es[i] := List.getElem?_eq_getElem hil
    exact ⟨es[i], he i _ _ hes ha, by have := h2 i _ hes; omega⟩
theorem bulk_agg {H : Type} {l : List (DataW H)} (i : Nat) (x : DataW H) (h : l[i]? = some x) : Rows.uptoBulk x ≤ Rows.uptoBulk (.agg l) := by
  have := (bulk_all l).2 i x h
  simp only [Rows.uptoBulk]
  omega
theorem bulk_str {H : Type} (s : ByteArray) : s.size ≤ Rows.uptoBulk (.lit (.string s.data.toList) : DataW H) := by
  simp only [Rows.uptoBulk, Array.length_toList]
  have : s.data.size = s.size := rfl
  omega
end Go.Proofs.YtphddbijdfmpjaaGreatDoor.Q
namespace Go.Proofs.YtphddbijdfmpjaaGreatDoor.Wr
open Go.RowKit Go.MapRaw Go.Proofs.YtphddbijdfmpjaaGreatDoorW.PrintWords Go.Proofs.YtphddbijdfmpjaaGreatDoorW.PrintLast
open Go.ChangeMaps (setBlock)
set_option linter.unusedVariables false
set_option linter.unusedSimpArgs false
theorem w64 (i : Nat) (h : i < 9223372036854775807) : wrap64 ((i : Int) + 1) = ((i + 1 : Nat) : Int) := by
  unfold wrap64; omega
theorem below_setBlock {base : Nat} {w wd : World} {r : Nat} {o : Obj} (h : Below base w wd) (hr : base ≤ r) : Below base w (setBlock wd r o) :=
  ⟨h.os, h.tape, h.output, by rw [set_size]; exact h.size, fun k hk => by rw [set_far _ _ _ _ (by omega)]; exact h.block k hk⟩
set_option maxRecDepth 100000 in
set_option maxHeartbeats 4000000 in
theorem many_ok (w : World) (t b : Nat) (M : Tab) (path : ByteArray) (ht : w.cell? ⟨t, 0, none⟩ = some (.map (some b))) (h : Holds eK eV w b M) (hM : M.length ≤ 2513169434843) :
    Calls Tryz.prog 30 #[.pointer (some ⟨t, 0, none⟩), .string path] w fun e w' => e = .returned (.int .i64 (cnt path M : Nat)) ∧ Below w.heap.size w w' := by
  have hu70 := Tryz.underlying52
  obtain ⟨o, hr, hR⟩ := h.range (P := Tryz.prog) (T := 36) (eT := 28) (kT := 52) Tryz.underlying36
  have HR := Lib.hid hR
  have HM := Lib.hid hM
  clear h hR hM
  go_enter Tryz.func30, Tryz.ntmps30
  go_upto_region 3 with fail
  have hb1 : Below w.heap.size w (w.alloc o) := (Below.refl w.heap.size w).alloc (Nat.le_refl _) o
  have HB1 := Lib.hid hb1
  have HRA := Aside0.mk HR.out
  clear hb1 hr
  generalize w.alloc o = w1 at HB1 HRA ⊢
  obtain ⟨r, hrr⟩ : ∃ r, r = w.heap.size := ⟨_, rfl⟩
  have HRR := Lib.hid hrr
  rw [← hrr] at HRA ⊢
  clear hrr ht
  go_loopg [5] M.length (fun g v5 wr => ∃ (n : Nat) (L : Tab), v5 = .int .i64 (n : Int) ∧ L.length ≤ g ∧ Aside0 (n + cnt path L = cnt path M) ∧ Aside0 (n ≤ M.length ∧ n + L.length ≤ M.length) ∧ Aside0 (Ranging eK eV wr b r M L) ∧ Aside0 (Below w.heap.size w wr))
  case atStart => exact ⟨0, M, rfl, Nat.le_refl _, ⟨Nat.zero_add _⟩, ⟨by omega⟩, HRA, ⟨HB1.out⟩⟩
  case round =>
    obtain ⟨n, L, rfl, hg, HC, HN, HRg, HBw⟩ := hrel
    rcases HRg.out.next (P := Tryz.prog) 0 with ⟨hL, hrun⟩ | ⟨A, p, B, hL, wd, o2, hwd, hrun, hat⟩
    · subst hL
      go_wp2
      go_ret
      exact ⟨by have := HC.out; simp only [cnt, Nat.add_zero] at this; (rw [this] <;> rfl), HBw.out⟩
    · subst hL
      cases gk with
      | zero => simp at hg
      | succ g =>
        have hent := hat.entry (P := Tryz.prog)
        have hbs : Below w.heap.size w (setBlock wd r o2) := below_setBlock (by rcases hwd with rfl | rfl; exact HBw.out; exact below_drew1 HBw.out) (by have := HRR.out; omega)
        have HBS := Lib.hid hbs
        have HAT := Lib.hid hat
        clear hbs hat hwd
        unfold eK eV at hrun hent
        generalize setBlock wd r o2 = w2 at HBS HAT hrun hent
        obtain ⟨⟨kp, kn⟩, bv⟩ := p
        by_cases hp : kp = path
        · subst hp
          go_wp2
          go_roundg g
          case measure => omega
          case rel => exact ⟨n + 1, A ++ B, by (have h1 := HN.out.1; have h2 := HM.out; rw [w64 n (by omega)]), by simp at hg ⊢; omega, ⟨by have := HC.out; rw [cnt_app] at this ⊢; simp only [cnt, if_pos] at this; omega⟩, ⟨by have := HN.out; simp at this ⊢; omega⟩, ⟨Ranging_alloc HAT.out.on _⟩, ⟨HBS.out.alloc HBS.out.size _⟩⟩
        · have hpe : (kp.toList == path.toList) = false := by
            rw [toList_beq, Bool.eq_false_iff, Ne, ba_beq]; exact hp
          go_wp2
          go_roundg g
          case measure => omega
          case rel => exact ⟨n, A ++ B, rfl, by simp at hg ⊢; omega, ⟨by have := HC.out; rw [cnt_app] at this ⊢; simp only [cnt, if_neg hp] at this; omega⟩, ⟨by have := HN.out; simp at this ⊢; omega⟩, ⟨Ranging_alloc HAT.out.on _⟩, ⟨HBS.out.alloc HBS.out.size _⟩⟩
end Go.Proofs.YtphddbijdfmpjaaGreatDoor.Wr
