/- What the statement LabelTermsHoldUptoCardSaid rests on, part 3 of 6: walks and plain laws; what of the printer's words it leans on. -/
import Derived.Test.YteaiobgnhlpblaaDoorProg
import Derived.Test.YteaiobgnhlpblaaDoorMLTH1
import Derived.Test.YteaiobgnhlpblaaDoorMLTH2
import Derived.Below
import Derived.Deep.Draws
import Derived.Deep.AppendLies
import Derived.Maps.AppendAt
import Derived.OwnWalk
import Derived.Laws.BytesArg
import Derived.Laws.MakeOwn
import Derived.Laws.OwnMore
import Derived.Deep.OwnRows
import Derived.Tactics
import Derived.Lib.ConvBytes
import Derived.Laws.Slices
import Derived.WalkKit
import Derived.KernelRfl
import Derived.RowKit3
import Derived.Deep.LoopGhost
import Derived.Deep.QuietTactic
import Derived.BigQuiet
import Derived.WideLaws
import Derived.Deep.DeepCutAuto
import Derived.Deep.CutBlock
import Derived.Deep.RegionHeld3
import Derived.Laws.Rows
import Derived.Lib.AppendStr
import Derived.ArgAppend
import Derived.Laws.IdiomCopy
import Derived.OrdersHeld
import Derived.Laws.BitsLemmas
import Derived.RowKit
import Derived.Laws.RangeAny
import Derived.Lib.OthersKept
import Derived.Lib.Hide
import Derived.Shelf.Strings.Builder1
import Derived.Shelf.Strings.Builder2
import Derived.Shelf.Strings.OnBuilder
import Derived.Shelf.Utf8.RuneCount
import Derived.Shelf.Strings.Search1
import Derived.Shelf.Strings.Search2
import Derived.Shelf.Strings.Search3
import Derived.Shelf.Strings.Cut
import Derived.Shelf.Strings.Count
import Derived.Shelf.LaysM
import Derived.Shelf.Strings.Shaped
import Derived.Shelf.Strings.LastIndex
import Derived.Shelf.Strings.Split
import Derived.Shelf.Strings.SplitShaped
import Derived.Shelf.Unicode.Decode
import Derived.Shelf.Strings.RuneCount
import Derived.Shelf.Strings.Explode
import Derived.Shelf.Unicode.DecodeSlow
import Derived.Shelf.Unicode.DecodeAny
import Derived.Lib.SplitLaws
import Derived.Laws.World
namespace Go.Proofs.YteaiobgnhlpblaaDoor.Q
open Go.RowKit Go.Proofs.YteaiobgnhlpblaaDoorW.PrintWords Go.Proofs.YteaiobgnhlpblaaDoorW.PrintLast Go.Proofs.YteaiobgnhlpblaaDoorW.PrintMore
attribute [local go_sem] max2_int min2_int max_two min_two max_three min_three max_four min_four   -- for this text's walks alone
set_option linter.unusedVariables false
set_option linter.unusedSimpArgs false
def errW : Option Int → Value
  | none => .nilIface
  | some c => .iface 0 (.int .i64 c)
theorem errW_none : errW none = .nilIface := rfl
theorem errW_some (c : Int) : errW (some c) = .iface 0 (.int .i64 c) := rfl
theorem info9 : (Tryd.prog.info? 9).map (fun i => (i.zero, i.size, i.bytes)) = some (some (.string ⟨#[]⟩), 1, 16) := by kernel_rfl
theorem info45 : (Tryd.prog.info? 45).map (fun i => (i.zero, i.size, i.bytes)) = some (some (.agg #[(.string ⟨#[]⟩), (.int .i64 0), (.slice none 0 0)]), 3, 48) := by kernel_rfl
theorem info51 : (Tryd.prog.info? 51).map (fun i => (i.zero, i.size, i.bytes)) = some (some (.agg #[(.string ⟨#[]⟩), (.string ⟨#[]⟩)]), 2, 32) := by kernel_rfl
structure S45 where
  f0 : ByteArray
  f1 : Int
  f2 : (List ByteArray)
def z45 : S45 := ⟨(⟨#[]⟩ : ByteArray), (0 : Int), ([] : List ByteArray)⟩
def k45 : Kd S45 := Kd.iso (Kd.pair Kd.string (Kd.pair (Kd.int .i64) (Kd.slice 9 Kd.string))) (fun x : S45 => (x.f0, x.f1, x.f2))
theorem k45_open {w : World} {x : S45} {cs : List Value} (h : k45.K w x cs) : ∃ A2 c2, cs = [.string x.f0, .int .i64 x.f1, .slice A2 x.f2.length c2] ∧ x.f2.length ≤ c2 ∧ Kd.string.C w A2 x.f2.length x.f2 := by
  obtain ⟨_, _, rfl, rfl, ⟨_, _, rfl, rfl, ⟨A2, c2, rfl, l2, g2⟩⟩⟩ := h
  exact ⟨A2, c2, rfl, l2, g2⟩
theorem k45_mk (w : World) (x : S45) {A2 : Option Addr} {c2 : Nat} (l2 : x.f2.length ≤ c2) (g2 : Kd.string.C w A2 x.f2.length x.f2) : k45.K w x [.string x.f0, .int .i64 x.f1, .slice A2 x.f2.length c2] := ⟨[.string x.f0], [.int .i64 x.f1, .slice A2 x.f2.length c2], rfl, rfl, ⟨[.int .i64 x.f1], [.slice A2 x.f2.length c2], rfl, rfl, ⟨A2, c2, rfl, l2, g2⟩⟩⟩
theorem k45_mkM (w : World) (base : Nat) (ok : Nat → Prop) (x : S45) {v2 : Value} (g2 : Kd.string.R 9 w base ok v2 x.f2) : k45.M w base ok x [.string x.f0, .int .i64 x.f1, v2] := ⟨[.string x.f0], [.int .i64 x.f1, v2], rfl, rfl, ⟨[.int .i64 x.f1], [v2], rfl, rfl, ⟨v2, rfl, g2⟩⟩⟩
theorem k45_openF {W : World} {ok : Nat → Prop} {x : S45} {cs : List Value} (h : Kd.FK k45 W ok x cs) : ∃ A2 c2, cs = [.string x.f0, .int .i64 x.f1, .slice A2 x.f2.length c2] ∧ x.f2.length ≤ c2 ∧ Kd.F Kd.string W ok A2 x.f2.length x.f2 := by
  obtain ⟨A2, c2, rfl, l2, _⟩ := k45_open (Kd.FK_now h)
  exact ⟨A2, c2, rfl, l2, (fun W' hW => by obtain ⟨A2_, c2_, he, l2_, g2_⟩ := k45_open (h W' hW); injection (Option.some.inj (show some (Value.slice A2 x.f2.length c2) = some (Value.slice A2_ x.f2.length c2_) from congrArg (fun l => l[2]?) he)) with ha_ _ _; rw [ha_]; exact g2_)⟩
def rd_T45 (xs : List S45) (i : Int) : S45 := xs.getD i.toNat z45
theorem at_T45 {w : World} {A : Option Addr} {n : Nat} {xs : List S45} (h : Kd.C k45 w A n xs) (i : Int) (h0 : 0 ≤ i) (h1 : i < n) : ∃ ad A2 c2, A = some ad ∧ w.cell? (ad.add (i.toNat * 3)) = some (.string (rd_T45 xs i).f0) ∧ w.cell? ⟨(ad.add (i.toNat * 3)).block, (ad.add (i.toNat * 3)).off + 1, none⟩ = some (.int .i64 (rd_T45 xs i).f1) ∧ w.cell? ⟨(ad.add (i.toNat * 3)).block, (ad.add (i.toNat * 3)).off + 2, none⟩ = some (.slice A2 (rd_T45 xs i).f2.length c2) ∧ (rd_T45 xs i).f2.length ≤ c2 ∧ Kd.string.C w A2 (rd_T45 xs i).f2.length (rd_T45 xs i).f2 := by
  obtain ⟨ad, c, e, _, hK, hc0⟩ := Kd.C_get h z45 i h0 h1
  have hc : ∀ j u, c[j]? = some u → w.cell? (ad.add (i.toNat * 3 + j)) = some u := hc0
  obtain ⟨A2, c2, rfl, l2, g2⟩ := k45_open hK
  exact ⟨ad, A2, c2, e, hc 0 _ rfl, by rw [← add_field _ _ 1 (by omega)]; exact hc 1 _ rfl, by rw [← add_field _ _ 2 (by omega)]; exact hc 2 _ rfl, l2, g2⟩
structure S51 where
  f0 : ByteArray
  f1 : ByteArray
def z51 : S51 := ⟨(⟨#[]⟩ : ByteArray), (⟨#[]⟩ : ByteArray)⟩
def k51 : Kd S51 := Kd.iso (Kd.pair Kd.string Kd.string) (fun x : S51 => (x.f0, x.f1))
theorem k51_open {w : World} {x : S51} {cs : List Value} (h : k51.K w x cs) : cs = [.string x.f0, .string x.f1] := by
  obtain ⟨_, _, rfl, rfl, rfl⟩ := h
  exact rfl
def rd_T51 (xs : List S51) (i : Int) : S51 := xs.getD i.toNat z51
theorem at_T51 {w : World} {A : Option Addr} {n : Nat} {xs : List S51} (h : Kd.C k51 w A n xs) (i : Int) (h0 : 0 ≤ i) (h1 : i < n) : ∃ ad , A = some ad ∧ w.cell? (ad.add (i.toNat * 2)) = some (.string (rd_T51 xs i).f0) ∧ w.cell? ⟨(ad.add (i.toNat * 2)).block, (ad.add (i.toNat * 2)).off + 1, none⟩ = some (.string (rd_T51 xs i).f1) := by
  obtain ⟨ad, c, e, _, hK, hc0⟩ := Kd.C_get h z51 i h0 h1
  have hc : ∀ j u, c[j]? = some u → w.cell? (ad.add (i.toNat * 2 + j)) = some u := hc0
  obtain rfl := k51_open hK
  exact ⟨ad, e, hc 0 _ rfl, by rw [← add_field _ _ 1 (by omega)]; exact hc 1 _ rfl⟩
end Go.Proofs.YteaiobgnhlpblaaDoor.Q
namespace Go.Proofs.YteaiobgnhlpblaaDoor.Q
open Go.RowKit Go.Proofs.YteaiobgnhlpblaaDoorW.PrintWords Go.Proofs.YteaiobgnhlpblaaDoorW.PrintLast Go.Proofs.YteaiobgnhlpblaaDoorW.PrintMore
attribute [local go_sem] max2_int min2_int max_two min_two max_three min_three max_four min_four   -- for this text's walks alone
set_option linter.unusedVariables false
set_option linter.unusedSimpArgs false
def stringslite_HasPrefix.f (a0 : ByteArray) (a1 : ByteArray) : Option (Bool) := if (a0.size : Int) ≥ (a1.size : Int) then (if 0 ≤ (a1.size : Int) then (if (a1.size : Int) ≤ (a0.size : Int) then (some ((a0.extract 0 ((a1.size : Int) : Int).toNat).toList == a1.toList)) else (none)) else (none)) else (some false)
set_option maxHeartbeats 8000000 in
set_option maxRecDepth 100000 in
theorem stringslite_HasPrefix.calls (a0 : ByteArray) (a1 : ByteArray) (r : Bool) (w : World) (h : stringslite_HasPrefix.f a0 a1 = some r) :
    Calls Tryd.prog 66 #[.string a0, .string a1] w fun e w' => e = .returned (.bool r) ∧ Drawn0 w w' := by
  have H : (if (a0.size : Int) ≥ (a1.size : Int) then (if 0 ≤ (a1.size : Int) then (if (a1.size : Int) ≤ (a0.size : Int) then (some ((a0.extract 0 ((a1.size : Int) : Int).toNat).toList == a1.toList)) else (none)) else (none)) else (some false)) = some r := h
  clear h
  by_cases c3 : (a0.size : Int) ≥ (a1.size : Int)
  · rw [if_pos c3] at H
    have c3b0 : decide ((a1.size : Int) ≤ (a0.size : Int)) = true := decide_eq_true c3
    have c3b1 : decide (a1.size ≤ a0.size) = true := decide_eq_true (Int.ofNat_le.mp c3)
    clear c3
    by_cases c4 : 0 ≤ (a1.size : Int)
    · rw [if_pos c4] at H
      have c4b0 := eq_true c4
      have c4b1 : decide (0 ≤ (a1.size : Int)) = true := decide_eq_true c4
      clear c4
      by_cases c5 : (a1.size : Int) ≤ (a0.size : Int)
      · rw [if_pos c5] at H
        have c5b0 := eq_true c5
        have c5b1 : decide ((a1.size : Int) ≤ (a0.size : Int)) = true := decide_eq_true c5
        clear c5
        obtain rfl := Option.some.inj H
        go_enter Tryd.func66, Tryd.ntmps66
        go_wp2
        go_ret
        exact ⟨by first | rfl | (simp; done) | (simp [*]; done), by repeat (first | exact Drawn0.refl _ | apply Drawn0.step)⟩
      · rw [if_neg c5] at H
        exact absurd H (by simp)
    · rw [if_neg c4] at H
      exact absurd H (by simp)
  · rw [if_neg c3] at H
    have c3b0 : decide ((a1.size : Int) ≤ (a0.size : Int)) = false := decide_eq_false c3
    have c3b1 : decide (a1.size ≤ a0.size) = false := decide_eq_false (fun h => c3 (Int.ofNat_le.mpr h))
    clear c3
    obtain rfl := Option.some.inj H
    go_enter Tryd.func66, Tryd.ntmps66
    go_wp2
    go_ret
    exact ⟨by first | rfl | (simp; done) | (simp [*]; done), by repeat (first | exact Drawn0.refl _ | apply Drawn0.step)⟩
end Go.Proofs.YteaiobgnhlpblaaDoor.Q
namespace Go.Proofs.YteaiobgnhlpblaaDoor.Q
open Go.RowKit Go.Proofs.YteaiobgnhlpblaaDoorW.PrintWords Go.Proofs.YteaiobgnhlpblaaDoorW.PrintLast Go.Proofs.YteaiobgnhlpblaaDoorW.PrintMore
attribute [local go_sem] max2_int min2_int max_two min_two max_three min_three max_four min_four   -- for this text's walks alone
set_option linter.unusedVariables false
set_option linter.unusedSimpArgs false
def stringslite_CutPrefix.f (a0 : ByteArray) (a1 : ByteArray) : Option (ByteArray × Bool) := (stringslite_HasPrefix.f a0 a1).bind fun t101 => (if t101 = true then (if 0 ≤ (a1.size : Int) then (if (a1.size : Int) ≤ (a0.size : Int) then (some (a0.extract ((a1.size : Int) : Int).toNat a0.size, true)) else (none)) else (none)) else (some (a0, false)))
set_option maxHeartbeats 8000000 in
set_option maxRecDepth 100000 in
theorem stringslite_CutPrefix.calls (a0 : ByteArray) (a1 : ByteArray) (r1 : ByteArray) (r2 : Bool) (w : World) (h : stringslite_CutPrefix.f a0 a1 = some (r1, r2)) :
    Calls Tryd.prog 67 #[.string a0, .string a1] w fun e w' => e = .returned (.tuple #[.string r1, .bool r2]) ∧ Drawn0 w w' := by
  have H : ((stringslite_HasPrefix.f a0 a1).bind fun t101 => (if t101 = true then (if 0 ≤ (a1.size : Int) then (if (a1.size : Int) ≤ (a0.size : Int) then (some (a0.extract ((a1.size : Int) : Int).toNat a0.size, true)) else (none)) else (none)) else (some (a0, false)))) = some (r1, r2) := h
  clear h
  replace H := Option.bind_eq_some_iff.mp H
  obtain ⟨t101, A30, H⟩ := H
  replace H : (if t101 = true then (if 0 ≤ (a1.size : Int) then (if (a1.size : Int) ≤ (a0.size : Int) then (some (a0.extract ((a1.size : Int) : Int).toNat a0.size, true)) else (none)) else (none)) else (some (a0, false))) = some (r1, r2) := H
  have A3 := Aside0.mk A30
  clear A30
  by_cases c4 : t101 = true
  · subst c4
    have H1 : (if 0 ≤ (a1.size : Int) then (if (a1.size : Int) ≤ (a0.size : Int) then (some (a0.extract ((a1.size : Int) : Int).toNat a0.size, true)) else (none)) else (none)) = some (r1, r2) := by rw [if_pos rfl] at H; exact H
    clear H
    have H := H1
    clear H1
    by_cases c5 : 0 ≤ (a1.size : Int)
    · rw [if_pos c5] at H
      have c5b0 := eq_true c5
      have c5b1 : decide (0 ≤ (a1.size : Int)) = true := decide_eq_true c5
      clear c5
      by_cases c6 : (a1.size : Int) ≤ (a0.size : Int)
      · rw [if_pos c6] at H
        have c6b0 := eq_true c6
        have c6b1 : decide ((a1.size : Int) ≤ (a0.size : Int)) = true := decide_eq_true c6
        clear c6
        simp only [Option.some.injEq, Prod.mk.injEq] at H
        obtain ⟨rfl, rfl⟩ := H
        go_enter Tryd.func67, Tryd.ntmps67
        go_wp2_with (first | ((with_reducible refine gate_callee (f := 66) rfl ?_); refine goesL_ (some 8) rfl rfl Tryd.func66 (by kernel_rfl) rfl #[.string a0, .string a1] rfl (by (try simp only [List.map_toArray, List.map_cons, List.map_nil]); first | done | rfl | (simp only [List.length_drop, List.length_take]; rfl)) ?_; (with_reducible refine (stringslite_HasPrefix.calls a0 a1 true _ A3.out).mono ?_); rintro e w' ⟨rfl, ⟨nd, rfl⟩⟩; refine ⟨_, rfl, ?_⟩))
        go_ret2
        exact ⟨by first | rfl | (simp; done) | (simp [*]; done), by repeat (first | exact Drawn0.refl _ | apply Drawn0.step)⟩
      · rw [if_neg c6] at H
        exact absurd H (by simp)
    · rw [if_neg c5] at H
      exact absurd H (by simp)
  · replace c4 := Bool.eq_false_iff.mpr c4
    subst c4
    have H1 : (some (a0, false)) = some (r1, r2) := by rw [if_neg (show ¬ (false = true) by decide)] at H; exact H
    clear H
    have H := H1
    clear H1
    simp only [Option.some.injEq, Prod.mk.injEq] at H
    obtain ⟨rfl, rfl⟩ := H
    go_enter Tryd.func67, Tryd.ntmps67
    go_wp2_with (first | ((with_reducible refine gate_callee (f := 66) rfl ?_); refine goesL_ (some 8) rfl rfl Tryd.func66 (by kernel_rfl) rfl #[.string a0, .string a1] rfl (by (try simp only [List.map_toArray, List.map_cons, List.map_nil]); first | done | rfl | (simp only [List.length_drop, List.length_take]; rfl)) ?_; (with_reducible refine (stringslite_HasPrefix.calls a0 a1 false _ A3.out).mono ?_); rintro e w' ⟨rfl, ⟨nd, rfl⟩⟩; refine ⟨_, rfl, ?_⟩))
    go_ret2
    exact ⟨by first | rfl | (simp; done) | (simp [*]; done), by repeat (first | exact Drawn0.refl _ | apply Drawn0.step)⟩
end Go.Proofs.YteaiobgnhlpblaaDoor.Q
namespace Go.Proofs.YteaiobgnhlpblaaDoor.Q
open Go.RowKit Go.Proofs.YteaiobgnhlpblaaDoorW.PrintWords Go.Proofs.YteaiobgnhlpblaaDoorW.PrintLast Go.Proofs.YteaiobgnhlpblaaDoorW.PrintMore
attribute [local go_sem] max2_int min2_int max_two min_two max_three min_three max_four min_four   -- for this text's walks alone
set_option linter.unusedVariables false
set_option linter.unusedSimpArgs false
def strings_CutPrefix.f (a0 : ByteArray) (a1 : ByteArray) : Option (ByteArray × Bool) := (stringslite_CutPrefix.f a0 a1).bind fun bt102 => (some (bt102.1, bt102.2))
set_option maxHeartbeats 8000000 in
set_option maxRecDepth 100000 in
theorem strings_CutPrefix.calls (a0 : ByteArray) (a1 : ByteArray) (r1 : ByteArray) (r2 : Bool) (w : World) (h : strings_CutPrefix.f a0 a1 = some (r1, r2)) :
    Calls Tryd.prog 50 #[.string a0, .string a1] w fun e w' => e = .returned (.tuple #[.string r1, .bool r2]) ∧ Drawn0 w w' := by
  have H : ((stringslite_CutPrefix.f a0 a1).bind fun bt102 => (some (bt102.1, bt102.2))) = some (r1, r2) := h
  clear h
  replace H := Option.bind_eq_some_iff.mp H
  obtain ⟨⟨t102, t103⟩, A30, H⟩ := H
  replace H : (some (t102, t103)) = some (r1, r2) := H
  have A3 := Aside0.mk A30
  clear A30
  simp only [Option.some.injEq, Prod.mk.injEq] at H
  obtain ⟨rfl, rfl⟩ := H
  go_enter Tryd.func50, Tryd.ntmps50
  go_wp2_with (first | ((with_reducible refine gate_callee (f := 67) rfl ?_); refine goesL_ (some 8) rfl rfl Tryd.func67 (by kernel_rfl) rfl #[.string a0, .string a1] rfl (by (try simp only [List.map_toArray, List.map_cons, List.map_nil]); first | done | rfl | (simp only [List.length_drop, List.length_take]; rfl)) ?_; (with_reducible refine (stringslite_CutPrefix.calls a0 a1 t102 t103 _ A3.out).mono ?_); rintro e w' ⟨rfl, ⟨nd, rfl⟩⟩; refine ⟨_, rfl, ?_⟩))
  go_ret2
  exact ⟨by first | rfl | (simp; done) | (simp [*]; done), by repeat (first | exact Drawn0.refl _ | apply Drawn0.step)⟩
end Go.Proofs.YteaiobgnhlpblaaDoor.Q
namespace Go.Proofs.YteaiobgnhlpblaaDoor.Q
open Go.RowKit Go.Proofs.YteaiobgnhlpblaaDoorW.PrintWords Go.Proofs.YteaiobgnhlpblaaDoorW.PrintLast
set_option linter.unusedVariables false
set_option linter.unusedSimpArgs false
def okByte (c : UInt8) : Bool := (97 ≤ c.toNat && c.toNat ≤ 122) || (48 ≤ c.toNat && c.toNat ≤ 57) || c.toNat == 45
def nameB (s : ByteArray) : Bool := decide (1 ≤ s.size) && decide (s.size ≤ 32) && decide (bt s 0 ≠ 45) && decide (bt s ((s.size : Int) - 1) ≠ 45) && s.data.toList.all okByte
def label_Name.f (a0 : ByteArray) : Option (Bool) := some (nameB a0)
theorem all_at (s : ByteArray) (n : Nat) (h : ∀ j, (hj : j < s.size) → okByte (s[j]'hj) = true) : s.data.toList.all okByte = true := by
  rw [List.all_eq_true]
  intro x hx
  obtain ⟨i, hi, rfl⟩ := List.getElem_of_mem hx
  have hi' : i < s.size := by simpa using hi
  exact h i hi'
theorem not_all_at (s : ByteArray) (j : Nat) (hj : j < s.size) (h : okByte (s[j]'hj) = false) : s.data.toList.all okByte = false := by
  rw [List.all_eq_false]
  refine ⟨s[j]'hj, ?_, by simp [h]⟩
  have : s.data.toList[j]'(by simpa using hj) = s[j]'hj := by simp; rfl
  rw [← this]
  exact List.getElem_mem _
theorem nameB_false {s : ByteArray} (h : s.size < 1 ∨ 32 < s.size ∨ bt s 0 = 45 ∨ bt s ((s.size : Int) - 1) = 45 ∨ s.data.toList.all okByte = false) : nameB s = false := by
  unfold nameB
  rcases h with h | h | h | h | h
  · have : decide (1 ≤ s.size) = false := decide_eq_false (by omega)
    simp [this]
  · have : decide (s.size ≤ 32) = false := decide_eq_false (by omega)
    simp [this]
  · simp [h]
  · simp [h]
  · simp [h]
theorem nameB_true {s : ByteArray} (h1 : 1 ≤ s.size) (h2 : s.size ≤ 32) (h3 : bt s 0 ≠ 45) (h4 : bt s ((s.size : Int) - 1) ≠ 45) (h5 : s.data.toList.all okByte = true) : nameB s = true := by
  unfold nameB
  simp [h1, h2, h3, h4, h5]
theorem bt_get (s : ByteArray) (i : Nat) (h : i < s.size) : ((s[i]'h).toNat : Int) = bt s i := by
  unfold bt; simp [h]
def plB (c : Int) : Bool := (decide (97 ≤ c) && decide (c ≤ 122)) || (decide (48 ≤ c) && decide (c ≤ 57))
theorem plB_iff (c : Int) : plB c = true ↔ (97 ≤ c ∧ c ≤ 122) ∨ (48 ≤ c ∧ c ≤ 57) := by unfold plB; simp
theorem plB_not (c : Int) (h : ¬ ((97 ≤ c ∧ c ≤ 122) ∨ (48 ≤ c ∧ c ≤ 57))) : plB c = false := by
  rw [← plB_iff] at h; simpa using h
theorem ok_iff (c : UInt8) : okByte c = true ↔ plB c.toNat = true ∨ (c.toNat : Int) = 45 := by
  unfold okByte plB; simp; omega
set_option maxHeartbeats 4000000 in
set_option maxRecDepth 100000 in
theorem plain_any (c : Int) (w : World) : Calls Tryd.prog 48 #[.int .i32 c] w fun e w' => e = .returned (.bool (plB c)) ∧ w' = w := by
  by_cases h1 : 97 ≤ c
  · by_cases h2 : c ≤ 122
    · rw [(plB_iff c).2 (.inl ⟨h1, h2⟩)]
      go_enter Tryd.func48, Tryd.ntmps48
      go_wp2
      go_ret
      exact ⟨rfl, rfl⟩
    · rw [plB_not c (by omega)]
      have h3 : 48 ≤ c := by omega
      have h4 : decide (c ≤ 57) = false := decide_eq_false (by omega)
      have h5 : decide (c ≤ 122) = false := decide_eq_false (by omega)
      go_enter Tryd.func48, Tryd.ntmps48
      go_wp2
      go_ret
      exact ⟨rfl, rfl⟩
  · by_cases h2 : 48 ≤ c
    · by_cases h3 : c ≤ 57
      · rw [(plB_iff c).2 (.inr ⟨h2, h3⟩)]
        go_enter Tryd.func48, Tryd.ntmps48
        go_wp2
        go_ret
        exact ⟨rfl, rfl⟩
      · rw [plB_not c (by omega)]
        have h4 : decide (c ≤ 57) = false := decide_eq_false (by omega)
        go_enter Tryd.func48, Tryd.ntmps48
        go_wp2
        go_ret
        exact ⟨rfl, rfl⟩
    · rw [plB_not c (by omega)]
      go_enter Tryd.func48, Tryd.ntmps48
      go_wp2
      go_ret
      exact ⟨rfl, rfl⟩
theorem iter_below {w : World} (s : ByteArray) (p : Nat) : Below w.heap.size w (w.iter s p) := (Below.refl _ _).alloc (Nat.le_refl _) _
set_option maxHeartbeats 4000000 in
set_option maxRecDepth 100000 in
theorem label_Name.calls (a0 : ByteArray) (r : Bool) (w : World) (h : label_Name.f a0 = some r) :
    Calls Tryd.prog 18 #[.string a0] w fun e w' => e = .returned (.bool r) ∧ Below w.heap.size w w' := by
  obtain rfl : nameB a0 = r := Option.some.inj h
  clear h
  by_cases h1 : a0.size < 1
  · rw [nameB_false (.inl h1)]
    have e1 : decide ((a0.size : Int) < 1) = true := by simp; omega
    go_enter Tryd.func18, Tryd.ntmps18
    go_wp2
    go_ret
    exact ⟨rfl, Below.refl _ _⟩
  have e1 : decide ((a0.size : Int) < 1) = false := by simp; omega
  by_cases h2 : 32 < a0.size
  · rw [nameB_false (.inr (.inl h2))]
    have e2 : decide ((32 : Int) < (a0.size : Int)) = true := by simp; omega
    clear h1
    go_enter Tryd.func18, Tryd.ntmps18
    go_wp2
    go_ret
    exact ⟨rfl, Below.refl _ _⟩
  have e2 : decide ((32 : Int) < (a0.size : Int)) = false := by simp; omega
  have hp : 0 < a0.size := by omega
  have hb0 : ((a0[0]'hp).toNat : Int) = bt a0 0 := bt_get a0 0 hp
  by_cases h3 : bt a0 0 = 45
  · rw [nameB_false (.inr (.inr (.inl h3)))]
    rw [h3] at hb0
    clear h3
    have e3 : (((a0[0]'hp).toNat : Int) == 45) = true := by simp; omega
    go_enter Tryd.func18, Tryd.ntmps18
    go_wp2
    go_ret
    exact ⟨rfl, Below.refl _ _⟩
  have e3 : (((a0[0]'hp).toNat : Int) == 45) = false := by rw [hb0]; simpa using h3
  have hlo : 1 ≤ a0.size := by omega
  have hhi : a0.size ≤ 32 := by omega
  have h3' := Lib.hid h3
  clear h1 h2 h3 hb0
  have hl : a0.size - 1 < a0.size := by omega
  have hb1 : ((a0[a0.size - 1]'hl).toNat : Int) = bt a0 ((a0.size : Int) - 1) := by rw [bt_get a0 _ hl]; congr 1; omega
  by_cases h4 : bt a0 ((a0.size : Int) - 1) = 45
  · rw [nameB_false (.inr (.inr (.inr (.inl h4))))]
    rw [h4] at hb1
    clear h4
    have e4 : (((a0[a0.size - 1]'hl).toNat : Int) == 45) = true := by simp; omega
    go_enter Tryd.func18, Tryd.ntmps18
    go_wp2
    go_ret
    exact ⟨rfl, Below.refl _ _⟩
  have e4 : (((a0[a0.size - 1]'hl).toNat : Int) == 45) = false := by rw [hb1]; simpa using h4
  have h4' := Lib.hid h4
  clear h4 hb1
  go_enter Tryd.func18, Tryd.ntmps18
  go_wp2
  go_loopg [] a0.size (fun g wx => ∃ pos : Nat, wx = w.iter a0 pos ∧ pos ≤ a0.size ∧ a0.size ≤ pos + g ∧ Aside0 (∀ j, (hj : j < pos) → (hj2 : j < a0.size) → okByte (a0[j]'hj2) = true))
  case atStart => exact ⟨0, rfl, by omega, by omega, ⟨fun j hj => by omega⟩⟩
  case round =>
    obtain ⟨pos, rfl, hps, hpg, hall⟩ := hrel
    by_cases hlt : pos < a0.size
    · cases gk with
      | zero => omega
      | succ g =>
        cases hok : okByte (a0[pos]'hlt) with
        | true =>
          have hok' := (ok_iff _).1 hok
          have ha : (a0[pos]'hlt).toNat < 128 := by
            rcases hok' with h | h
            · have := (plB_iff _).1 h; omega
            · omega
          have hall2 := Lib.hid (show ∀ j, (hj : j < pos + 1) → (hj2 : j < a0.size) → okByte (a0[j]'hj2) = true from fun j hj hj2 => by
            rcases Nat.lt_or_ge j pos with h | h
            · exact hall.out j h hj2
            · have e : j = pos := by omega
              subst e
              exact hok)
          have hnx := fun ty => run_next_ascii (P := Tryd.prog) w a0 pos ty hlt ha
          clear hall hok
          rcases hok' with h | h
          · go_wp2_with (go_at_call 48; refine (plain_any _ _).mono ?_; rintro e w' ⟨rfl, rfl⟩)
            go_roundg g
            case measure => omega
            case rel => exact ⟨pos + 1, rfl, by omega, by omega, ⟨hall2.out⟩⟩
          · cases hpl : plB ((a0[pos]'hlt).toNat : Int) with
            | true =>
              clear h
              go_wp2_with (go_at_call 48; refine (plain_any _ _).mono ?_; rintro e w' ⟨rfl, rfl⟩)
              go_roundg g
              case measure => omega
              case rel => exact ⟨pos + 1, rfl, by omega, by omega, ⟨hall2.out⟩⟩
            | false =>
              have e5 : (((a0[pos]'hlt).toNat : Int) != 45) = false := by rw [h]; rfl
              clear h
              go_wp2_with (go_at_call 48; refine (plain_any _ _).mono ?_; rintro e w' ⟨rfl, rfl⟩)
              go_roundg g
              case measure => omega
              case rel => exact ⟨pos + 1, rfl, by omega, by omega, ⟨hall2.out⟩⟩
        | false =>
          have hfin := Lib.hid (nameB_false (.inr (.inr (.inr (.inr (not_all_at a0 pos hlt hok))))))
          have hc : plB ((Utf8.decode a0 pos).1 : Int) = false ∧ ((((Utf8.decode a0 pos).1 : Nat) : Int) != 45) = true := by
            by_cases ha : (a0[pos]'hlt).toNat < 128
            · rw [decode_ascii a0 pos hlt ha]
              refine ⟨?_, ?_⟩
              · cases h : plB ((a0[pos]'hlt).toNat : Int) with
                | false => rfl
                | true => rw [(ok_iff _).2 (.inl h)] at hok; cases hok
              · rw [bne_iff_ne]
                intro h
                rw [(ok_iff _).2 (.inr h)] at hok; cases hok
            · have := (decode_high a0 pos hlt (by omega)).1
              exact ⟨plB_not _ (by omega), by rw [bne_iff_ne]; omega⟩
          obtain ⟨hc1, hc2⟩ := hc
          have hnx := fun ty => run_next_any (P := Tryd.prog) w a0 pos ty hlt
          clear hall hok
          generalize (Utf8.decode a0 pos).1 = cc at *
          generalize (Utf8.decode a0 pos).2 = dd at *
          go_wp2_with (go_at_call 48; refine (plain_any _ _).mono ?_; rintro e w' ⟨rfl, rfl⟩)
          go_ret
          exact ⟨by rw [hfin.out]; rfl, iter_below _ _⟩
    · obtain rfl : pos = a0.size := by omega
      have hfin := Lib.hid (nameB_true hlo hhi h3'.out h4'.out (all_at a0 a0.size (fun j hj => hall.out j hj hj)))
      have hnx := run_next_end (P := Tryd.prog) w a0 a0.size
      clear hall
      go_wp2
      go_ret
      exact ⟨by rw [hfin.out]; rfl, iter_below _ _⟩
end Go.Proofs.YteaiobgnhlpblaaDoor.Q
namespace Go.Proofs
open Go.Shelf
def Tryd.lays156_ren : Go.Shelf.Ren := ⟨fun | 156 => 47 | 165 => 63 | 166 => 64 | 169 => 65 | 240 => 77 | 241 => 78 | 276 => 87 | 277 => 88 | n => n, fun | 31 => 35 | 9 => 9 | 3 => 3 | 4 => 4 | 0 => 0 | 20 => 20 | 72 => 75 | 76 => 79 | 70 => 72 | 37 => 73 | 75 => 78 | 127 => 86 | 164 => 92 | 5 => 5 | 80 => 81 | n => n, fun | n => n⟩
theorem Tryd.lays156 : Go.Proofs.Lays.n156 Tryd.prog Tryd.lays156_ren := {
  mixed := by kernel_rfl
  f156 := Tryd.func47.trans (congrArg some (by kernel_rfl))
  f165 := Tryd.func63.trans (congrArg some (by kernel_rfl))
  f166 := Tryd.func64.trans (congrArg some (by kernel_rfl))
  f169 := Tryd.func65.trans (congrArg some (by kernel_rfl))
  f240 := Tryd.func77.trans (congrArg some (by kernel_rfl))
  f241 := Tryd.func78.trans (congrArg some (by kernel_rfl))
  f276 := Tryd.func87.trans (congrArg some (by kernel_rfl))
  f277 := Tryd.func88.trans (congrArg some (by kernel_rfl))
  t0 := Tryd.underlying0
  a0 := Tryd.isAgg0
  z0 := Tryd.sizeOf0
  v0 := Tryd.zeroValue0
  t3 := Tryd.underlying3
  a3 := Tryd.isAgg3
  z3 := Tryd.sizeOf3
  v3 := Tryd.zeroValue3
  t4 := Tryd.underlying4
  a4 := Tryd.isAgg4
  z4 := Tryd.sizeOf4
  v4 := Tryd.zeroValue4
  t9 := Tryd.underlying9
  a9 := Tryd.isAgg9
  z9 := Tryd.sizeOf9
  v9 := Tryd.zeroValue9
  t20 := Tryd.underlying20
  a20 := Tryd.isAgg20
  z20 := Tryd.sizeOf20
  v20 := Tryd.zeroValue20
  t31 := Tryd.underlying35
  a31 := Tryd.isAgg35
  z31 := Tryd.sizeOf35
  v31 := Tryd.zeroValue35
  t37 := Tryd.underlying73
  a37 := Tryd.isAgg73
  z37 := Tryd.sizeOf73
  v37 := Tryd.zeroValue73
  t70 := Tryd.underlying72
  a70 := Tryd.isAgg72
  z70 := Tryd.sizeOf72
  v70 := Tryd.zeroValue72
  t72 := Tryd.underlying75
  a72 := Tryd.isAgg75
  z72 := Tryd.sizeOf75
  v72 := Tryd.zeroValue75
  t75 := Tryd.underlying78
  a75 := Tryd.isAgg78
  z75 := Tryd.sizeOf78
  v75 := Tryd.zeroValue78
  t76 := Tryd.underlying79
  a76 := Tryd.isAgg79
  z76 := Tryd.sizeOf79
  v76 := Tryd.zeroValue79
  t127 := Tryd.underlying86
  a127 := Tryd.isAgg86
  z127 := Tryd.sizeOf86
  v127 := Tryd.zeroValue86
  t164 := Tryd.underlying92
  a164 := Tryd.isAgg92
  z164 := Tryd.sizeOf92
  v164 := Tryd.zeroValue92 }
theorem Tryd.Builder_Extra_156 : Builder.Extra Tryd.prog Tryd.lays156_ren := {
  sizeBuilder := by kernel_rfl
  liesBuilder := by kernel_rfl
  t5 := Tryd.underlying5
  a5 := Tryd.isAgg5
  z5 := Tryd.sizeOf5
  v5 := Tryd.zeroValue5
  infoByte := by kernel_rfl
  cellsByte := by kernel_rfl
  sizeByte := by kernel_rfl
  neB5 := by decide }
open Go.RowKit in
theorem Tryd.strings_Join_none (a : Option Addr) (c : Nat) (sep : ByteArray) (w : World) :
    Calls Tryd.prog 47 #[.slice a 0 c, .string sep] w fun e w' => e = .returned (.string ⟨#[]⟩) ∧ w' = w := Any.strings_Join_none Tryd.lays156 Tryd.Builder_Extra_156 a c sep w
open Go.RowKit in
theorem Tryd.strings_Join (bk o c : Nat) (xs : List ByteArray) (sep : ByteArray) (w : World) (hcells : ∀ (j : Nat) x, xs[j]? = some x → w.cell? ⟨bk, o + j, none⟩ = some (.string x)) (hbk : bk < w.heap.size) (hN : xs.length ≤ 140737488355328) (hcap : xs.length ≤ c) (hlen : (Lib.join (xs.map (·.data.toList)) sep.data.toList).length ≤ 140737488355328) :
    Calls Tryd.prog 47 #[.slice (some ⟨bk, o, none⟩) xs.length c, .string sep] w fun e w' => e = .returned (.string ⟨(Lib.join (xs.map (·.data.toList)) sep.data.toList).toArray⟩) ∧ Below w.heap.size w w' := Any.strings_Join Tryd.lays156 Tryd.Builder_Extra_156 bk o c xs sep w hcells hbk hN hcap hlen
def Tryd.lays219_ren : Go.Shelf.Ren := ⟨fun | 219 => 85 | 217 => 91 | 225 => 92 | 224 => 93 | 267 => 94 | 266 => 95 | 314 => 96 | n => n, fun | 9 => 9 | 3 => 3 | 4 => 4 | 5 => 5 | 46 => 99 | 146 => 96 | 51 => 95 | n => n, fun | 1 => 0 | n => n⟩
def Tryd.lays145_ren : Go.Shelf.Ren := ⟨fun | 145 => 58 | 220 => 74 | 219 => 85 | 217 => 91 | 225 => 92 | 224 => 93 | 267 => 94 | 266 => 95 | 314 => 96 | n => n, fun | 9 => 9 | 4 => 4 | 59 => 68 | 3 => 3 | 5 => 5 | 46 => 99 | 146 => 96 | 51 => 95 | n => n, fun | 1 => 0 | n => n⟩
theorem Tryd.lays145 : Go.Proofs.Lays.n145 Tryd.prog Tryd.lays145_ren := {
  mixed := by kernel_rfl
  f145 := Tryd.func58.trans (congrArg some (by kernel_rfl))
  f217 := Tryd.func91.trans (congrArg some (by kernel_rfl))
  f219 := Tryd.func85.trans (congrArg some (by kernel_rfl))
  f220 := Tryd.func74.trans (congrArg some (by kernel_rfl))
  f224 := Tryd.func93.trans (congrArg some (by kernel_rfl))
  f225 := Tryd.func92.trans (congrArg some (by kernel_rfl))
  f266 := Tryd.func95.trans (congrArg some (by kernel_rfl))
  f267 := Tryd.func94.trans (congrArg some (by kernel_rfl))
  f314 := Tryd.func96.trans (congrArg some (by kernel_rfl))
  t3 := Tryd.underlying3
  a3 := Tryd.isAgg3
  z3 := Tryd.sizeOf3
  v3 := Tryd.zeroValue3
  t4 := Tryd.underlying4
  a4 := Tryd.isAgg4
  z4 := Tryd.sizeOf4
  v4 := Tryd.zeroValue4
  t5 := Tryd.underlying5
  a5 := Tryd.isAgg5
  z5 := Tryd.sizeOf5
  v5 := Tryd.zeroValue5
  t9 := Tryd.underlying9
  a9 := Tryd.isAgg9
  z9 := Tryd.sizeOf9
  v9 := Tryd.zeroValue9
  t46 := Tryd.underlying99
  a46 := Tryd.isAgg99
  z46 := Tryd.sizeOf99
  v46 := Tryd.zeroValue99
  t51 := Tryd.underlying95
  a51 := Tryd.isAgg95
  z51 := Tryd.sizeOf95
  v51 := Tryd.zeroValue95
  t59 := Tryd.underlying68
  a59 := Tryd.isAgg68
  z59 := Tryd.sizeOf68
  v59 := Tryd.zeroValue68
  t146 := Tryd.underlying96
  a146 := Tryd.isAgg96
  z146 := Tryd.sizeOf96
  v146 := Tryd.zeroValue96
  g1 := by kernel_rfl }
open Go.RowKit Go.Lib in
theorem Tryd.strings_Cut (s sep : ByteArray) (m : Int) (w : World) (hs : s.size < 4294967281) (hm : w.cell? ⟨0, 0, none⟩ = some (.int .i64 m)) :
    Calls Tryd.prog 58 #[.string s, .string sep] w fun e w' => e = .returned (.tuple #[.string ⟨(Lib.cut s.data.toList sep.data.toList).1.toArray⟩, .string ⟨(Lib.cut s.data.toList sep.data.toList).2.1.toArray⟩, .bool (Lib.cut s.data.toList sep.data.toList).2.2]) ∧ ∃ n, w' = w.drewN n := Any.strings_Cut Tryd.lays145 s sep m w hs hm
def Tryd.lays148_ren : Go.Shelf.Ren := ⟨fun | 148 => 68 | 222 => 79 | 223 => 80 | 269 => 89 | n => n, fun | 9 => 9 | 3 => 3 | 4 => 4 | 5 => 5 | 146 => 96 | 51 => 95 | 46 => 99 | n => n, fun | n => n⟩
theorem Tryd.lays148 : Go.Proofs.Lays.n148 Tryd.prog Tryd.lays148_ren := {
  mixed := by kernel_rfl
  f148 := Tryd.func68.trans (congrArg some (by kernel_rfl))
  f222 := Tryd.func79.trans (congrArg some (by kernel_rfl))
  f223 := Tryd.func80.trans (congrArg some (by kernel_rfl))
  f269 := Tryd.func89.trans (congrArg some (by kernel_rfl))
  t3 := Tryd.underlying3
  a3 := Tryd.isAgg3
  z3 := Tryd.sizeOf3
  v3 := Tryd.zeroValue3
  t4 := Tryd.underlying4
  a4 := Tryd.isAgg4
  z4 := Tryd.sizeOf4
  v4 := Tryd.zeroValue4
  t5 := Tryd.underlying5
  a5 := Tryd.isAgg5
  z5 := Tryd.sizeOf5
  v5 := Tryd.zeroValue5
  t9 := Tryd.underlying9
  a9 := Tryd.isAgg9
  z9 := Tryd.sizeOf9
  v9 := Tryd.zeroValue9
  t46 := Tryd.underlying99
  a46 := Tryd.isAgg99
  z46 := Tryd.sizeOf99
  v46 := Tryd.zeroValue99
  t51 := Tryd.underlying95
  a51 := Tryd.isAgg95
  z51 := Tryd.sizeOf95
  v51 := Tryd.zeroValue95
  t146 := Tryd.underlying96
  a146 := Tryd.isAgg96
  z146 := Tryd.sizeOf96
  v146 := Tryd.zeroValue96 }
open Go.RowKit Go.Lib in
theorem Tryd.strings_LastIndex_one (s sub : ByteArray) (h1 : sub.size = 1) (hs : s.size < 4611686018427387904) (w : World) :
    Calls Tryd.prog 68 #[.string s, .string sub] w fun e w' => e = .returned (.int .i64 (Lib.lastIndexByte s ((sub[0]'(by omega)).toNat : Int))) ∧ w' = w := Any.strings_LastIndex_one Tryd.lays148 s sub h1 hs w
def Tryd.lays221_ren : Go.Shelf.Ren := ⟨fun | 221 => 57 | 268 => 71 | 138 => 72 | 143 => 73 | 195 => 82 | 197 => 83 | 218 => 84 | 219 => 85 | 260 => 90 | 217 => 91 | 225 => 92 | 224 => 93 | 267 => 94 | 266 => 95 | 314 => 96 | n => n, fun | 9 => 9 | 3 => 3 | 31 => 35 | 4 => 4 | 0 => 0 | 105 => 90 | 21 => 21 | 5 => 5 | 46 => 99 | 119 => 100 | 139 => 103 | 138 => 102 | 146 => 96 | 51 => 95 | n => n, fun | 1 => 0 | 3 => 1 | 4 => 2 | n => n⟩
def Tryd.lays146_ren : Go.Shelf.Ren := ⟨fun | 146 => 40 | 221 => 57 | 268 => 71 | 138 => 72 | 143 => 73 | 195 => 82 | 197 => 83 | 218 => 84 | 219 => 85 | 260 => 90 | 217 => 91 | 225 => 92 | 224 => 93 | 267 => 94 | 266 => 95 | 314 => 96 | n => n, fun | 9 => 9 | 31 => 35 | 3 => 3 | 4 => 4 | 0 => 0 | 105 => 90 | 21 => 21 | 5 => 5 | 46 => 99 | 119 => 100 | 139 => 103 | 138 => 102 | 146 => 96 | 51 => 95 | n => n, fun | 1 => 0 | 3 => 1 | 4 => 2 | n => n⟩
theorem Tryd.lays146 : Go.Proofs.Lays.n146 Tryd.prog Tryd.lays146_ren := {
  mixed := by kernel_rfl
  f138 := Tryd.func72.trans (congrArg some (by kernel_rfl))
  f143 := Tryd.func73.trans (congrArg some (by kernel_rfl))
  f146 := Tryd.func40.trans (congrArg some (by kernel_rfl))
  f195 := Tryd.func82.trans (congrArg some (by kernel_rfl))
  f197 := Tryd.func83.trans (congrArg some (by kernel_rfl))
  f217 := Tryd.func91.trans (congrArg some (by kernel_rfl))
  f218 := Tryd.func84.trans (congrArg some (by kernel_rfl))
  f219 := Tryd.func85.trans (congrArg some (by kernel_rfl))
  f221 := Tryd.func57.trans (congrArg some (by kernel_rfl))
  f224 := Tryd.func93.trans (congrArg some (by kernel_rfl))
  f225 := Tryd.func92.trans (congrArg some (by kernel_rfl))
  f260 := Tryd.func90.trans (congrArg some (by kernel_rfl))
  f266 := Tryd.func95.trans (congrArg some (by kernel_rfl))
  f267 := Tryd.func94.trans (congrArg some (by kernel_rfl))
  f268 := Tryd.func71.trans (congrArg some (by kernel_rfl))
  f314 := Tryd.func96.trans (congrArg some (by kernel_rfl))
  t0 := Tryd.underlying0
  a0 := Tryd.isAgg0
  z0 := Tryd.sizeOf0
  v0 := Tryd.zeroValue0
  t3 := Tryd.underlying3
  a3 := Tryd.isAgg3
  z3 := Tryd.sizeOf3
  v3 := Tryd.zeroValue3
  t4 := Tryd.underlying4
  a4 := Tryd.isAgg4
  z4 := Tryd.sizeOf4
  v4 := Tryd.zeroValue4
  t5 := Tryd.underlying5
  a5 := Tryd.isAgg5
  z5 := Tryd.sizeOf5
  v5 := Tryd.zeroValue5
  t9 := Tryd.underlying9
  a9 := Tryd.isAgg9
  z9 := Tryd.sizeOf9
  v9 := Tryd.zeroValue9
  t21 := Tryd.underlying21
  a21 := Tryd.isAgg21
  z21 := Tryd.sizeOf21
  v21 := Tryd.zeroValue21
  t31 := Tryd.underlying35
  a31 := Tryd.isAgg35
  z31 := Tryd.sizeOf35
  v31 := Tryd.zeroValue35
  t46 := Tryd.underlying99
  a46 := Tryd.isAgg99
  z46 := Tryd.sizeOf99
  v46 := Tryd.zeroValue99
  t51 := Tryd.underlying95
  a51 := Tryd.isAgg95
  z51 := Tryd.sizeOf95
  v51 := Tryd.zeroValue95
  t105 := Tryd.underlying90
  a105 := Tryd.isAgg90
  z105 := Tryd.sizeOf90
  v105 := Tryd.zeroValue90
  t119 := Tryd.underlying100
  a119 := Tryd.isAgg100
  z119 := Tryd.sizeOf100
  t138 := Tryd.underlying102
  a138 := Tryd.isAgg102
  z138 := Tryd.sizeOf102
  v138 := Tryd.zeroValue102
  t139 := Tryd.underlying103
  a139 := Tryd.isAgg103
  z139 := Tryd.sizeOf103
  v139 := Tryd.zeroValue103
  t146 := Tryd.underlying96
  a146 := Tryd.isAgg96
  z146 := Tryd.sizeOf96
  v146 := Tryd.zeroValue96
  g1 := by kernel_rfl
  g3 := by kernel_rfl
  g4 := by kernel_rfl }
open Go.RowKit Go.Lib in
theorem Tryd.strings_Split (s sep : ByteArray) (m : Int) (w : World) (hs : s.size < 4294967281) (hm : w.cell? ⟨0, 0, none⟩ = some (.int .i64 m)) (h1 : 1 ≤ sep.size) :
    Calls Tryd.prog 40 #[.string s, .string sep] w fun e w' =>
      e = .returned (.slice (some ⟨w.heap.size, 0, none⟩) (Lib.countB s sep + 1) (Lib.countB s sep + 1)) ∧ w' = w.alloc (.cells ((Lib.splitB sep 0 (Lib.countB s sep) s).map Value.string).toArray 9) := Any.strings_Split Tryd.lays146 (by kernel_rfl) s sep m w hs hm h1
def Tryd.laysM146_ren : Go.Shelf.Ren := ⟨fun | 146 => 40 | 221 => 57 | 268 => 71 | 138 => 72 | 143 => 73 | 195 => 82 | 197 => 83 | 218 => 84 | 219 => 85 | 260 => 90 | 217 => 91 | 225 => 92 | 224 => 93 | 267 => 94 | 266 => 95 | 314 => 96 | n => n, fun | 9 => 9 | 31 => 35 | 3 => 3 | 4 => 4 | 0 => 0 | 105 => 90 | 21 => 21 | 5 => 5 | 46 => 99 | 119 => 100 | 139 => 103 | 138 => 102 | 146 => 96 | 51 => 95 | n => n, fun | 1 => 0 | 3 => 1 | 4 => 2 | n => n⟩
theorem Tryd.laysM146 : Go.Proofs.LaysM.n146 Tryd.prog Tryd.laysM146_ren := {
  mixed := by kernel_rfl
  f138 := Tryd.func72.trans (congrArg some (by kernel_rfl))
  f143 := Tryd.func73.trans (congrArg some (by kernel_rfl))
  f146 := Tryd.func40.trans (congrArg some (by kernel_rfl))
  f195 := Tryd.func82.trans (congrArg some (by kernel_rfl))
  f197 := Tryd.func83.trans (congrArg some (by kernel_rfl))
  f217 := Tryd.func91.trans (congrArg some (by kernel_rfl))
  f218 := Tryd.func84.trans (congrArg some (by kernel_rfl))
  f219 := Tryd.func85.trans (congrArg some (by kernel_rfl))
  f221 := Tryd.func57.trans (congrArg some (by kernel_rfl))
  f224 := Tryd.func93.trans (congrArg some (by kernel_rfl))
  f225 := Tryd.func92.trans (congrArg some (by kernel_rfl))
  f260 := Tryd.func90.trans (congrArg some (by kernel_rfl))
  f266 := Tryd.func95.trans (congrArg some (by kernel_rfl))
  f267 := Tryd.func94.trans (congrArg some (by kernel_rfl))
  f268 := Tryd.func71.trans (congrArg some (by kernel_rfl))
  f314 := Tryd.func96.trans (congrArg some (by kernel_rfl))
  t0 := Tryd.underlying0
  a0 := Tryd.isAgg0
  z0 := Tryd.sizeOf0
  v0 := Tryd.zeroValue0
  t3 := Tryd.underlying3
  a3 := Tryd.isAgg3
  z3 := Tryd.sizeOf3
  v3 := Tryd.zeroValue3
  t4 := Tryd.underlying4
  a4 := Tryd.isAgg4
  z4 := Tryd.sizeOf4
  v4 := Tryd.zeroValue4
  t5 := Tryd.underlying5
  a5 := Tryd.isAgg5
  z5 := Tryd.sizeOf5
  v5 := Tryd.zeroValue5
  t9 := Tryd.underlying9
  a9 := Tryd.isAgg9
  z9 := Tryd.sizeOf9
  v9 := Tryd.zeroValue9
  t21 := Tryd.underlying21
  a21 := Tryd.isAgg21
  z21 := Tryd.sizeOf21
  v21 := Tryd.zeroValue21
  t31 := Tryd.underlying35
  a31 := Tryd.isAgg35
  z31 := Tryd.sizeOf35
  v31 := Tryd.zeroValue35
  t46 := Tryd.underlying99
  a46 := Tryd.isAgg99
  z46 := Tryd.sizeOf99
  v46 := Tryd.zeroValue99
  t51 := Tryd.underlying95
  a51 := Tryd.isAgg95
  z51 := Tryd.sizeOf95
  v51 := Tryd.zeroValue95
  t105 := Tryd.underlying90
  a105 := Tryd.isAgg90
  z105 := Tryd.sizeOf90
  v105 := Tryd.zeroValue90
  t119 := Tryd.underlying100
  a119 := Tryd.isAgg100
  z119 := Tryd.sizeOf100
  t138 := Tryd.underlying102
  a138 := Tryd.isAgg102
  z138 := Tryd.sizeOf102
  v138 := Tryd.zeroValue102
  t139 := Tryd.underlying103
  a139 := Tryd.isAgg103
  z139 := Tryd.sizeOf103
  v139 := Tryd.zeroValue103
  t146 := Tryd.underlying96
  a146 := Tryd.isAgg96
  z146 := Tryd.sizeOf96
  v146 := Tryd.zeroValue96
  g1 := by kernel_rfl
  g3 := by kernel_rfl
  g4 := by kernel_rfl
  i0 := by kernel_rfl
  i3 := by kernel_rfl
  i4 := by kernel_rfl
  i5 := by kernel_rfl
  i9 := by kernel_rfl
  i21 := by kernel_rfl
  i31 := by kernel_rfl
  i46 := by kernel_rfl
  i51 := by kernel_rfl
  i105 := by kernel_rfl
  i138 := by kernel_rfl
  i139 := by kernel_rfl
  i146 := by kernel_rfl
  m1 := by kernel_rfl
  s1_3 := fun w h => Go.Proofs.cell_of_shapedOpen_int (zero := #[.int .i64 0]) (t := 3) h (of_decide_eq_true (by kernel_rfl)) (by kernel_rfl) rfl (by kernel_rfl) (by kernel_rfl) Tryd.underlying3
  m3 := by kernel_rfl
  m4 := by kernel_rfl }
end Go.Proofs
namespace Go.Proofs.YteaiobgnhlpblaaDoor.Q
open Go.RowKit Go.Proofs.YteaiobgnhlpblaaDoorW.PrintWords Go.Proofs.YteaiobgnhlpblaaDoorW.PrintLast
set_option linter.unusedVariables false
set_option linter.unusedSimpArgs false
structure Glob (w : World) : Prop where mk :: (out : ∃ m : Int, w.cell? ⟨0, 0, none⟩ = some (.int .i64 m))
theorem Glob.below {w W : World} (h : Glob w) (hb : Below w.heap.size w W) : Glob W := by
  obtain ⟨m, hm⟩ := h.out
  exact ⟨⟨m, pw_cell_below hb hm⟩⟩
def strings_Split.f (a0 a1 : ByteArray) : Option (List ByteArray) :=
  if a0.size < 4294967281 ∧ 1 ≤ a1.size then some (Lib.splitB a1 0 (Lib.countB a0 a1) a0) else none
theorem strings_Split.calls (a0 : ByteArray) (a1 : ByteArray) (r : List ByteArray) (w : World) (h : strings_Split.f a0 a1 = some r) (hG : Glob w) :
    Calls Tryd.prog 40 #[.string a0, .string a1] w fun e w' => ∃ v0_ : Value, e = .returned (v0_) ∧ Kd.R Kd.string 9 w' w.heap.size (fun _ => True) v0_ r ∧ Below w.heap.size w w' := by
  unfold strings_Split.f at h
  split at h
  · rename_i hc
    obtain rfl := Option.some.inj h
    obtain ⟨m, hm⟩ := hG.out
    refine (Tryd.strings_Split a0 a1 m w hc.1 hm hc.2).mono ?_
    rintro e w' ⟨rfl, rfl⟩
    have hl : (Lib.splitB a1 0 (Lib.countB a0 a1) a0).length = Lib.countB a0 a1 + 1 := Lib.splitB_all a1 hc.2 0 _ a0 rfl
    have hle := Lib.countB_le a1 hc.2 a0.size a0 (Nat.le_refl _)
    refine ⟨_, rfl, ?_, (Below.refl _ _).alloc (Nat.le_refl _) _⟩
    have ho := World.ownsRow_lit (base := w.heap.size) (e := 9) (size := 1) w ((Lib.splitB a1 0 (Lib.countB a0 a1) a0).map Value.string).toArray (Lib.countB a0 a1 + 1) (Nat.le_refl _) (by unfold maxLen; omega) (by simp [hl])
    refine Kd.R_of_own (h1 := fun _ => rfl) (ok := fun _ => True) ?_ (fun _ _ => trivial)
    rw [hl]
    exact ho
  · cases h
theorem add_at (b o j : Nat) : (⟨b, o, none⟩ : Addr).add j = ⟨b, o + j, none⟩ := by unfold Addr.add; split <;> simp_all
def joinB (xs : List ByteArray) (sep : ByteArray) : ByteArray := ⟨(Lib.join (xs.map (·.data.toList)) sep.data.toList).toArray⟩
def strings_Join.f (l0 : List ByteArray) (a1 : ByteArray) : Option ByteArray :=
  if l0.length ≤ 140737488355328 ∧ (joinB l0 a1).size ≤ 140737488355328 then some (joinB l0 a1) else none
theorem strings_Join.calls (A0 : Option Addr) (c0 : Nat) (l0 : List ByteArray) (a1 : ByteArray) (r : ByteArray) (w : World) (hr0 : Kd.C Kd.string w A0 l0.length l0) (hc0 : l0.length ≤ c0) (h : strings_Join.f l0 a1 = some r) :
    Calls Tryd.prog 47 #[.slice A0 l0.length c0, .string a1] w fun e w' => e = .returned (.string r) ∧ Below w.heap.size w w' := by
  unfold strings_Join.f at h
  split at h
  · rename_i hc
    obtain rfl := Option.some.inj h
    have hrd := Kd.reads_of_C (d := ByteArray.empty) (h1 := fun _ => rfl) hr0
    rcases Nat.eq_zero_or_pos l0.length with h0 | h0
    · have hnil : l0 = [] := List.eq_nil_of_length_eq_zero h0
      subst hnil
      refine (Tryd.strings_Join_none A0 c0 a1 w).mono ?_
      rintro e w' ⟨rfl, rfl⟩
      exact ⟨rfl, Below.refl _ _⟩
    · obtain ⟨ad, rfl, hcell⟩ := hrd.2.2 h0
      have hcells : ∀ (j : Nat) x, l0[j]? = some x → w.cell? (ad.add j) = some (.string x) := by
        intro j x hx
        obtain ⟨hj, rfl⟩ := List.getElem?_eq_some_iff.1 hx
        rw [hcell j hj]
        simp [List.getD_eq_getElem?_getD, List.getElem?_eq_getElem hj]
      obtain ⟨bk, o, sp⟩ := ad
      have h00 : w.cell? ⟨bk, o, sp⟩ = some (.string (l0.getD 0 ByteArray.empty)) := hcell 0 h0
      have hsp : sp = none := by
        cases sp with
        | none => rfl
        | some x =>
          unfold World.cell? at h00
          simp at h00
          split at h00 <;> simp at h00
      subst hsp
      have hbk : bk < w.heap.size := World.block_lt_of_cell? w _ h00
      refine (Tryd.strings_Join bk o c0 l0 a1 w (fun j x hx => ?_) hbk hc.1 hc0 (by have := hc.2; unfold joinB at this; simpa [ByteArray.size] using this)).mono ?_
      · have := hcells j x hx
        rwa [add_at] at this
      · rintro e w' ⟨rfl, hb⟩
        exact ⟨rfl, hb⟩
  · cases h
def cutA (s sep : ByteArray) : ByteArray := ⟨(Lib.cut s.data.toList sep.data.toList).1.toArray⟩
def cutZ (s sep : ByteArray) : ByteArray := ⟨(Lib.cut s.data.toList sep.data.toList).2.1.toArray⟩
def cutB (s sep : ByteArray) : Bool := (Lib.cut s.data.toList sep.data.toList).2.2
def strings_Cut.f (a0 a1 : ByteArray) : Option (ByteArray × ByteArray × Bool) :=
  if a0.size < 4294967281 then some (cutA a0 a1, cutZ a0 a1, cutB a0 a1) else none
theorem strings_Cut.calls (a0 : ByteArray) (a1 : ByteArray) (r1 : ByteArray) (r2 : ByteArray) (r3 : Bool) (w : World) (h : strings_Cut.f a0 a1 = some (r1, r2, r3)) (hG : Glob w) :
    Calls Tryd.prog 58 #[.string a0, .string a1] w fun e w' => e = .returned (.tuple #[.string r1, .string r2, .bool r3]) ∧ Below w.heap.size w w' := by
  unfold strings_Cut.f at h
  split at h
  · rename_i hc
    obtain ⟨m, hm⟩ := hG.out
    simp only [Option.some.injEq, Prod.mk.injEq] at h
    obtain ⟨rfl, rfl, rfl⟩ := h
    refine (Tryd.strings_Cut a0 a1 m w hc hm).mono ?_
    rintro e w' ⟨rfl, n, rfl⟩
    exact ⟨rfl, pw_below_drewN (Below.refl _ _) n⟩
  · cases h
def strings_LastIndex.f (a0 a1 : ByteArray) : Option Int :=
  if a1.size = 1 ∧ a0.size < 4611686018427387904 then some (Lib.lastIndexByte a0 (bt a1 0)) else none
theorem strings_LastIndex.calls (a0 : ByteArray) (a1 : ByteArray) (r : Int) (w : World) (h : strings_LastIndex.f a0 a1 = some r) :
    Calls Tryd.prog 68 #[.string a0, .string a1] w fun e w' => e = .returned (.int .i64 r) ∧ Drawn0 w w' := by
  unfold strings_LastIndex.f at h
  split at h
  · rename_i hc
    obtain rfl := Option.some.inj h
    refine (Tryd.strings_LastIndex_one a0 a1 hc.1 hc.2 w).mono ?_
    rintro e w' ⟨rfl, rfl⟩
    refine ⟨?_, Drawn0.refl _⟩
    have : bt a1 0 = (((a1[0]'(by omega)).toNat : Nat) : Int) := by unfold bt; simp [hc.1]
    rw [this]
  · cases h
end Go.Proofs.YteaiobgnhlpblaaDoor.Q
namespace Go.Proofs.YteaiobgnhlpblaaDoor.Q
open Go.RowKit Go.Proofs.YteaiobgnhlpblaaDoorW.PrintWords Go.Proofs.YteaiobgnhlpblaaDoorW.PrintLast Go.Proofs.YteaiobgnhlpblaaDoorW.PrintMore
attribute [local go_sem] max2_int min2_int max_two min_two max_three min_three max_four min_four   -- for this text's walks alone
set_option linter.unusedVariables false
set_option linter.unusedSimpArgs false
mutual
def label_Split.j0 : Nat → ByteArray → Bool → Option (List ByteArray × Int)
  | 0, _, _ => none
  | k + 1, x4, x22 => if x22 = true then (some (([] : List ByteArray), 41)) else ((strings_Split.f x4 (⟨#[47]⟩ : ByteArray)).bind fun t106 => (if (t106.length : Int) > 8 then (some (([] : List ByteArray), 41)) else (label_Split.l0 k t106 t106 (t106.length : Int) 0)))
def label_Split.l0 : Nat → List ByteArray → List ByteArray → Int → Int → Option (List ByteArray × Int)
  | 0, _, _, _, _ => none
  | k + 1, x6, x28, x29, x30 => if x30 < x29 then (if 0 ≤ x30 then (if x30 < (x28.length : Int) then ((label_Name.f (rdOf ByteArray.empty x28 x30)).bind fun t110 => (if t110 = true then (label_Split.l0 k x6 x28 x29 (wrap64 (x30 + 1))) else (some (([] : List ByteArray), 41)))) else (none)) else (none)) else (some (x6, 0))
end
def label_Split.f (k : Nat) (a0 : ByteArray) : Option (List ByteArray × Int) := if a0.toList = ([47] : List UInt8) then (some (([] : List ByteArray), 0)) else ((strings_CutPrefix.f a0 (⟨#[47]⟩ : ByteArray)).bind fun bt104 => (if bt104.2 = true then (label_Split.j0 k bt104.1 (decide ((a0.size : Int) > 64))) else (label_Split.j0 k bt104.1 true)))
theorem label_Split.mono_l : ∀ k, (∀ y0 y1, LeO (label_Split.j0 k y0 y1) (label_Split.j0 (k + 1) y0 y1)) ∧ (∀ y0 y1 y2 y3, LeO (label_Split.l0 k y0 y1 y2 y3) (label_Split.l0 (k + 1) y0 y1 y2 y3))
  | 0 => ⟨fun _ _ r h => by simp [label_Split.j0] at h, fun _ _ _ _ r h => by simp [label_Split.l0] at h⟩
  | k + 1 => by
    obtain ⟨ih0, ih1⟩ := label_Split.mono_l k
    refine ⟨?_, ?_⟩
    · intro y0 y1
      unfold label_Split.j0
      repeat' first
      | (with_reducible exact ih0 _ _)
      | (with_reducible exact ih1 _ _ _ _)
      | (with_reducible exact LeO.refl _)
      | (with_reducible exact LeO.none _)
      | (with_reducible refine LeO.ite ?_ ?_)
      | (with_reducible refine LeO.bind ?_ (fun _ => ?_))
      | exact ih0 _ _
      | exact ih1 _ _ _ _
      | exact LeO.none _
      | refine LeO.ite ?_ ?_
      | refine LeO.bind ?_ (fun _ => ?_)
    · intro y0 y1 y2 y3
      unfold label_Split.l0
      repeat' first
      | (with_reducible exact ih0 _ _)
      | (with_reducible exact ih1 _ _ _ _)
      | (with_reducible exact LeO.refl _)
      | (with_reducible exact LeO.none _)
      | (with_reducible refine LeO.ite ?_ ?_)
      | (with_reducible refine LeO.bind ?_ (fun _ => ?_))
      | exact ih0 _ _
      | exact ih1 _ _ _ _
      | exact LeO.none _
      | refine LeO.ite ?_ ?_
      | refine LeO.bind ?_ (fun _ => ?_)
theorem label_Split.mono : ∀ a0 k, LeO (label_Split.f k a0) (label_Split.f (k + 1) a0) := by
  intro a0 k
  obtain ⟨ih0, ih1⟩ := label_Split.mono_l k
  unfold label_Split.f
  repeat' first
      | (with_reducible exact ih0 _ _)
      | (with_reducible exact ih1 _ _ _ _)
      | (with_reducible exact LeO.refl _)
      | (with_reducible exact LeO.none _)
      | (with_reducible refine LeO.ite ?_ ?_)
      | (with_reducible refine LeO.bind ?_ (fun _ => ?_))
      | exact ih0 _ _
      | exact ih1 _ _ _ _
      | exact LeO.none _
      | refine LeO.ite ?_ ?_
      | refine LeO.bind ?_ (fun _ => ?_)
set_option maxHeartbeats 8000000 in
set_option maxRecDepth 100000 in
theorem label_Split.calls (k : Nat) (a0 : ByteArray) (r1 : List ByteArray) (r2 : Int) (w : World) (h : label_Split.f k a0 = some (r1, r2)) (hG : Glob w) :
    Calls Tryd.prog 24 #[.string a0] w fun e w' => ∃ v0_ : Value, e = .returned (.tuple #[v0_, .int .i64 r2]) ∧ Kd.R Kd.string 9 w' w.heap.size (fun _ => True) v0_ r1 ∧ Below w.heap.size w w' := by
  have HB := Aside0.mk (Below.refl w.heap.size w)
  have H : (if a0.toList = ([47] : List UInt8) then (some (([] : List ByteArray), 0)) else ((strings_CutPrefix.f a0 (⟨#[47]⟩ : ByteArray)).bind fun bt104 => (if bt104.2 = true then (label_Split.j0 k bt104.1 (decide ((a0.size : Int) > 64))) else (label_Split.j0 k bt104.1 true)))) = some (r1, r2) := h
  clear h
  by_cases c2 : a0.toList = ([47] : List UInt8)
  · rw [if_pos c2] at H
    have c2b0 : (a0.toList == ([47] : List UInt8)) = true := beq_iff_eq.mpr c2
    have c2b1 : (a0.toList != ([47] : List UInt8)) = false := bne_eq_false_iff_eq.mpr c2
    clear c2
    simp only [Option.some.injEq, Prod.mk.injEq] at H
    obtain ⟨rfl, rfl⟩ := H
    go_enter Tryd.func24, Tryd.ntmps24
    go_wp2
    go_ret2
    exact ⟨_, by first | rfl | (simp [errW_none, errW_some] <;> rfl) | (simp [*, errW_none, errW_some] <;> rfl), by first | exact Kd.R_nil _ _ _ _ _ | exact Kd.N_nil _ _ _ _ _ | exact Kd.V_nil _ _ _ _ _ | exact Kd.Q_nil _ _ _ _ _ | exact Kd.S_nil _ _ _ _ _, by repeat (first | (with_reducible first | exact HB.out | apply below_alloc | apply pw_below_drewN | apply below_drew1) | exact HB.out)⟩
  · rw [if_neg c2] at H
    have c2b0 : (a0.toList == ([47] : List UInt8)) = false := beq_eq_false_iff_ne.mpr c2
    have c2b1 : (a0.toList != ([47] : List UInt8)) = true := bne_iff_ne.mpr c2
    replace H := Option.bind_eq_some_iff.mp H
    obtain ⟨⟨t104, t105⟩, A30, H⟩ := H
    replace H : (if t105 = true then (label_Split.j0 k t104 (decide ((a0.size : Int) > 64))) else (label_Split.j0 k t104 true)) = some (r1, r2) := H
    have A3 := Aside0.mk A30
    clear A30
    have HC4 := Aside0.mk H
    clear H
    go_enter Tryd.func24, Tryd.ntmps24
    go_upto_region 4 with (first | ((with_reducible refine gate_callee (f := 50) rfl ?_); refine goesL_ (some 13) rfl rfl Tryd.func50 (by kernel_rfl) rfl #[.string a0, .string (⟨#[47]⟩ : ByteArray)] rfl (by (try simp only [List.map_toArray, List.map_cons, List.map_nil]); first | done | rfl | (simp only [List.length_drop, List.length_take]; rfl)) ?_; (with_reducible refine (strings_CutPrefix.calls a0 (⟨#[47]⟩ : ByteArray) t104 t105 _ A3.out).mono ?_); rintro e w' ⟨rfl, ⟨nd, rfl⟩⟩; refine ⟨_, rfl, ?_⟩))
    (try simp only [Act.put, List.setIfInBounds_toArray, List.set_cons_zero, List.set_cons_succ])
    go_cut [22] (fun v22 wc => ∃ (kq : Nat) (x22_3 : Bool), v22 = .bool x22_3 ∧ Aside0 (label_Split.j0 kq t104 x22_3 = some (r1, r2)) ∧ Aside0 (kq ≤ k) ∧ Aside0 (Below w.heap.size w wc))
    case first =>
      have H := HC4.out
      clear HC4
      by_cases c5 : t105 = true
      · subst c5
        have H1 : (label_Split.j0 k t104 (decide ((a0.size : Int) > 64))) = some (r1, r2) := by rw [if_pos rfl] at H; exact H
        clear H
        have H := H1
        clear H1
        have H' := Aside0.mk H
        clear H
        go_wp2
        go_meet
        case rel => exact ⟨_, (decide ((a0.size : Int) > 64)), (by first | rfl | (simp; done) | (simp [*]; done) | (simp; rw [Bool.eq_iff_iff]; simp; done) | (rw [Bool.eq_iff_iff]; simp; done)), H', ⟨by first | omega | exact Nat.le_refl _⟩, ⟨by repeat (first | (with_reducible first | exact HB.out | apply below_alloc | apply pw_below_drewN | apply below_drew1) | exact HB.out)⟩⟩
      · replace c5 := Bool.eq_false_iff.mpr c5
        subst c5
        have H1 : (label_Split.j0 k t104 true) = some (r1, r2) := by rw [if_neg (show ¬ (false = true) by decide)] at H; exact H
        clear H
        have H := H1
        clear H1
        have H' := Aside0.mk H
        clear H
        go_wp2
        go_meet
        case rel => exact ⟨_, (true), (by first | rfl | (simp; done) | (simp [*]; done) | (simp; rw [Bool.eq_iff_iff]; simp; done) | (rw [Bool.eq_iff_iff]; simp; done)), H', ⟨by first | omega | exact Nat.le_refl _⟩, ⟨by repeat (first | (with_reducible first | exact HB.out | apply below_alloc | apply pw_below_drewN | apply below_drew1) | exact HB.out)⟩⟩
    case rest =>
      clear HC4
      try clear c2
      try clear c2b0
      try clear c2b1
      try clear p2
      try clear c5
      obtain ⟨kq, x22_3, rfl, HA, HJ3, HB⟩ := hcut
      cases kq with
      | zero => exact absurd HA.out (by simp [label_Split.j0])
      | succ kj3 =>
        have H := HA.out
        clear HA
        simp only [label_Split.j0] at H
        by_cases c6 : x22_3 = true
        · subst c6
          have H1 : (some (([] : List ByteArray), 41)) = some (r1, r2) := by rw [if_pos rfl] at H; exact H
          clear H
          have H := H1
          clear H1
          simp only [Option.some.injEq, Prod.mk.injEq] at H
          obtain ⟨rfl, rfl⟩ := H
          go_wp2
          go_ret2
          exact ⟨_, by first | rfl | (simp [errW_none, errW_some] <;> rfl) | (simp [*, errW_none, errW_some] <;> rfl), by first | exact Kd.R_nil _ _ _ _ _ | exact Kd.N_nil _ _ _ _ _ | exact Kd.V_nil _ _ _ _ _ | exact Kd.Q_nil _ _ _ _ _ | exact Kd.S_nil _ _ _ _ _, by repeat (first | (with_reducible first | exact HB.out | apply below_alloc | apply pw_below_drewN | apply below_drew1) | exact HB.out)⟩
        · replace c6 := Bool.eq_false_iff.mpr c6
          subst c6
          have H1 : ((strings_Split.f t104 (⟨#[47]⟩ : ByteArray)).bind fun t106 => (if (t106.length : Int) > 8 then (some (([] : List ByteArray), 41)) else (label_Split.l0 kj3 t106 t106 (t106.length : Int) 0))) = some (r1, r2) := by rw [if_neg (show ¬ (false = true) by decide)] at H; exact H
          clear H
          have H := H1
          clear H1
          replace H := Option.bind_eq_some_iff.mp H
          obtain ⟨t106, A70, H⟩ := H
          replace H : (if (t106.length : Int) > 8 then (some (([] : List ByteArray), 41)) else (label_Split.l0 kj3 t106 t106 (t106.length : Int) 0)) = some (r1, r2) := H
          have A7 := Aside0.mk A70
          clear A70
          by_cases c8 : (t106.length : Int) > 8
          · rw [if_pos c8] at H
            have c8b0 : decide (8 < (t106.length : Int)) = true := decide_eq_true c8
            have c8b1 : decide (8 < t106.length) = true := decide_eq_true (by omega)
            clear c8
            simp only [Option.some.injEq, Prod.mk.injEq] at H
            obtain ⟨rfl, rfl⟩ := H
            go_wp2_with (first | ((with_reducible refine gate_callee (f := 40) rfl ?_); refine goesL_ (some 24) rfl rfl Tryd.func40 (by kernel_rfl) rfl #[.string t104, .string (⟨#[47]⟩ : ByteArray)] rfl (by (try simp only [List.map_toArray, List.map_cons, List.map_nil]); first | done | rfl | (simp only [List.length_drop, List.length_take]; rfl)) ?_; (with_reducible refine (strings_Split.calls t104 (⟨#[47]⟩ : ByteArray) t106 _ A7.out (Glob.below hG (by repeat (first | (with_reducible first | exact HB.out | apply below_alloc | apply pw_below_drewN | apply below_drew1) | exact HB.out)))).mono ?_); rintro e w9 ⟨v107, rfl, ho0, hb⟩; refine ⟨_, rfl, ?_⟩; have n0_ := Aside0.mk (Kd.R_lower ho0 (below_size (by repeat (first | (with_reducible first | exact HB.out | apply below_alloc | apply pw_below_drewN | apply below_drew1) | exact HB.out)))); have n1_ := Aside0.mk (below_step (by repeat (first | (with_reducible first | exact HB.out | apply below_alloc | apply pw_below_drewN | apply below_drew1) | exact HB.out)) hb); clear HB; have HO108 := n0_; have HB := n1_; clear n0_ n1_; (try clear hb); (try clear hb2); (try clear hk); (try clear hi); (try clear ho0); obtain ⟨Ao10, co10, eo10⟩ := Kd.R_slice HO108.out; subst eo10))
            go_ret2
            exact ⟨_, by first | rfl | (simp [errW_none, errW_some] <;> rfl) | (simp [*, errW_none, errW_some] <;> rfl), by first | exact Kd.R_nil _ _ _ _ _ | exact Kd.N_nil _ _ _ _ _ | exact Kd.V_nil _ _ _ _ _ | exact Kd.Q_nil _ _ _ _ _ | exact Kd.S_nil _ _ _ _ _, by repeat (first | (with_reducible first | exact HB.out | apply below_alloc | apply pw_below_drewN | apply below_drew1) | exact HB.out)⟩
          · rw [if_neg c8] at H
            have c8b0 : decide (8 < (t106.length : Int)) = false := decide_eq_false c8
            have c8b1 : decide (8 < t106.length) = false := decide_eq_false (by omega)
            clear c8
            have H' := Aside0.mk H
            clear H
            go_wp2_with (first | ((with_reducible refine gate_callee (f := 40) rfl ?_); refine goesL_ (some 24) rfl rfl Tryd.func40 (by kernel_rfl) rfl #[.string t104, .string (⟨#[47]⟩ : ByteArray)] rfl (by (try simp only [List.map_toArray, List.map_cons, List.map_nil]); first | done | rfl | (simp only [List.length_drop, List.length_take]; rfl)) ?_; (with_reducible refine (strings_Split.calls t104 (⟨#[47]⟩ : ByteArray) t106 _ A7.out (Glob.below hG (by repeat (first | (with_reducible first | exact HB.out | apply below_alloc | apply pw_below_drewN | apply below_drew1) | exact HB.out)))).mono ?_); rintro e w11 ⟨v107, rfl, ho0, hb⟩; refine ⟨_, rfl, ?_⟩; have n0_ := Aside0.mk (Kd.R_lower ho0 (below_size (by repeat (first | (with_reducible first | exact HB.out | apply below_alloc | apply pw_below_drewN | apply below_drew1) | exact HB.out)))); have n1_ := Aside0.mk (below_step (by repeat (first | (with_reducible first | exact HB.out | apply below_alloc | apply pw_below_drewN | apply below_drew1) | exact HB.out)) hb); clear HB; have HO108 := n0_; have HB := n1_; clear n0_ n1_; (try clear hb); (try clear hb2); (try clear hk); (try clear hi); (try clear ho0); obtain ⟨Ao12, co12, eo12⟩ := Kd.R_slice HO108.out; subst eo12))
            go_loopg [30] kj3 (fun kq v30 w' => ∃ (x30_2 : Int), v30 = .int .i64 x30_2 ∧ Aside0 (label_Split.l0 kq t106 t106 (t106.length : Int) x30_2 = some (r1, r2)) ∧ Aside0 (kq ≤ kj3) ∧ Aside0 (Kd.R Kd.string 9 w' w.heap.size (fun _ => True) (.slice Ao12 t106.length co12) t106) ∧ Aside0 (Kd.R Kd.string 9 w' w.heap.size (fun _ => True) (.slice Ao12 t106.length co12) t106) ∧ Aside0 (Below w.heap.size w w'))
            case atStart => exact ⟨(0), (by first | rfl | (simp; done) | (simp [*]; done) | (simp; rw [Bool.eq_iff_iff]; simp; done) | (rw [Bool.eq_iff_iff]; simp; done)), H', ⟨Nat.le_refl _⟩, ⟨by (with_reducible repeat (first | apply Kd.R_alloc | apply Kd.R_drewN | apply Kd.R_drew)); exact HO108.out⟩, ⟨by (with_reducible repeat (first | apply Kd.R_alloc | apply Kd.R_drewN | apply Kd.R_drew)); exact HO108.out⟩, ⟨by repeat (first | (with_reducible first | exact HB.out | apply below_alloc | apply pw_below_drewN | apply below_drew1) | exact HB.out)⟩⟩
            case round =>
              clear H'
              try clear c2
              try clear c2b0
              try clear c2b1
              try clear p2
              try clear c4
              try clear c5
              try clear c6
              try clear c8
              try clear c8b0
              try clear c8b1
              try clear p2
              obtain ⟨x30_2, rfl, HA, HK2, HO_6, HO_28, HB⟩ := hrel
              cases gk with
              | zero => exact absurd HA.out (by simp [label_Split.l0])
              | succ k2 =>
                have H := HA.out
                clear HA
                simp only [label_Split.l0] at H
                by_cases c13 : x30_2 < (t106.length : Int)
                · rw [if_pos c13] at H
                  have c13b0 : decide (x30_2 < (t106.length : Int)) = true := decide_eq_true c13
                  clear c13
                  by_cases c14 : 0 ≤ x30_2
                  · rw [if_pos c14] at H
                    have c14b0 : decide (0 ≤ x30_2) = true := decide_eq_true c14
                    clear c14
                    by_cases c15 : x30_2 < (t106.length : Int)
                    · rw [if_pos c15] at H
                      have c15b0 : decide (x30_2 < (t106.length : Int)) = true := decide_eq_true c15
                      clear c15
                      replace H := Option.bind_eq_some_iff.mp H
                      obtain ⟨t110, A160, H⟩ := H
                      replace H : (if t110 = true then (label_Split.l0 k2 t106 t106 (t106.length : Int) (wrap64 (x30_2 + 1))) else (some (([] : List ByteArray), 41))) = some (r1, r2) := H
                      have A16 := Aside0.mk A160
                      clear A160
                      by_cases c17 : t110 = true
                      · subst c17
                        have H1 : (label_Split.l0 k2 t106 t106 (t106.length : Int) (wrap64 (x30_2 + 1))) = some (r1, r2) := by rw [if_pos rfl] at H; exact H
                        clear H
                        have H := H1
                        clear H1
                        have H' := Aside0.mk H
                        clear H
                        have p109 : 0 ≤ (x30_2 : Int) := of_decide_eq_true (by first | (with_reducible assumption) | assumption)
                        have q109 : x30_2 < (t106.length : Int) := of_decide_eq_true (by first | (with_reducible assumption) | assumption)
                        obtain ⟨ad109, e109, hx109_0⟩ := Kd.at_string (Kd.R_reads' HO_28.out).2.2 x30_2 p109 q109
                        cases e109
                        replace p109 := eq_true p109
                        replace q109 := eq_true q109
                        go_wp2_with (first | ((with_reducible refine gate_callee (f := 18) rfl ?_); refine goesL_ (some 35) rfl rfl Tryd.func18 (by kernel_rfl) rfl #[.string (rdOf ByteArray.empty t106 x30_2)] rfl (by (try simp only [List.map_toArray, List.map_cons, List.map_nil]); first | done | rfl | (simp only [List.length_drop, List.length_take]; rfl)) ?_; (with_reducible refine (label_Name.calls (rdOf ByteArray.empty t106 x30_2) true _ A16.out).mono ?_); rintro e w18 ⟨rfl, hb⟩; refine ⟨_, rfl, ?_⟩; have n0_ := Aside0.mk (Kd.R_below (by (with_reducible repeat (first | apply Kd.R_alloc | apply Kd.R_drewN | apply Kd.R_drew)); exact HO_6.out) hb); have n1_ := Aside0.mk (Kd.R_below (by (with_reducible repeat (first | apply Kd.R_alloc | apply Kd.R_drewN | apply Kd.R_drew)); exact HO_28.out) hb); have n2_ := Aside0.mk (below_step (by repeat (first | (with_reducible first | exact HB.out | apply below_alloc | apply pw_below_drewN | apply below_drew1) | exact HB.out)) hb); clear HO_6; clear HO_28; clear HB; have HO_6 := n0_; have HO_28 := n1_; have HB := n2_; clear n0_ n1_ n2_; (try clear hb); (try clear hb2); (try clear hk); (try clear hi)))
                        go_roundg k2
                        case measure => have := HJ3.out; have := HK2.out; omega
                        case rel => exact ⟨(wrap64 (x30_2 + 1)), (by first | rfl | (simp; done) | (simp [*]; done) | (simp; rw [Bool.eq_iff_iff]; simp; done) | (rw [Bool.eq_iff_iff]; simp; done)), H', ⟨by have := HJ3.out; have := HK2.out; omega⟩, ⟨by (with_reducible repeat (first | apply Kd.R_alloc | apply Kd.R_drewN | apply Kd.R_drew)); exact HO_6.out⟩, ⟨by (with_reducible repeat (first | apply Kd.R_alloc | apply Kd.R_drewN | apply Kd.R_drew)); exact HO_28.out⟩, ⟨by repeat (first | (with_reducible first | exact HB.out | apply below_alloc | apply pw_below_drewN | apply below_drew1) | exact HB.out)⟩⟩
                      · replace c17 := Bool.eq_false_iff.mpr c17
                        subst c17
                        have H1 : (some (([] : List ByteArray), 41)) = some (r1, r2) := by rw [if_neg (show ¬ (false = true) by decide)] at H; exact H
                        clear H
                        have H := H1
                        clear H1
                        simp only [Option.some.injEq, Prod.mk.injEq] at H
                        obtain ⟨rfl, rfl⟩ := H
                        have p109 : 0 ≤ (x30_2 : Int) := of_decide_eq_true (by first | (with_reducible assumption) | assumption)
                        have q109 : x30_2 < (t106.length : Int) := of_decide_eq_true (by first | (with_reducible assumption) | assumption)
                        obtain ⟨ad109, e109, hx109_0⟩ := Kd.at_string (Kd.R_reads' HO_28.out).2.2 x30_2 p109 q109
                        cases e109
                        replace p109 := eq_true p109
                        replace q109 := eq_true q109
                        go_wp2_with (first | ((with_reducible refine gate_callee (f := 18) rfl ?_); refine goesL_ (some 35) rfl rfl Tryd.func18 (by kernel_rfl) rfl #[.string (rdOf ByteArray.empty t106 x30_2)] rfl (by (try simp only [List.map_toArray, List.map_cons, List.map_nil]); first | done | rfl | (simp only [List.length_drop, List.length_take]; rfl)) ?_; (with_reducible refine (label_Name.calls (rdOf ByteArray.empty t106 x30_2) false _ A16.out).mono ?_); rintro e w19 ⟨rfl, hb⟩; refine ⟨_, rfl, ?_⟩; have n0_ := Aside0.mk (Kd.R_below (by (with_reducible repeat (first | apply Kd.R_alloc | apply Kd.R_drewN | apply Kd.R_drew)); exact HO_6.out) hb); have n1_ := Aside0.mk (Kd.R_below (by (with_reducible repeat (first | apply Kd.R_alloc | apply Kd.R_drewN | apply Kd.R_drew)); exact HO_28.out) hb); have n2_ := Aside0.mk (below_step (by repeat (first | (with_reducible first | exact HB.out | apply below_alloc | apply pw_below_drewN | apply below_drew1) | exact HB.out)) hb); clear HO_6; clear HO_28; clear HB; have HO_6 := n0_; have HO_28 := n1_; have HB := n2_; clear n0_ n1_ n2_; (try clear hb); (try clear hb2); (try clear hk); (try clear hi)))
                        go_ret2
                        exact ⟨_, by first | rfl | (simp [errW_none, errW_some] <;> rfl) | (simp [*, errW_none, errW_some] <;> rfl), by first | exact Kd.R_nil _ _ _ _ _ | exact Kd.N_nil _ _ _ _ _ | exact Kd.V_nil _ _ _ _ _ | exact Kd.Q_nil _ _ _ _ _ | exact Kd.S_nil _ _ _ _ _, by repeat (first | (with_reducible first | exact HB.out | apply below_alloc | apply pw_below_drewN | apply below_drew1) | exact HB.out)⟩
                    · rw [if_neg c15] at H
                      exact absurd H (by simp)
                  · rw [if_neg c14] at H
                    exact absurd H (by simp)
                · rw [if_neg c13] at H
                  have c13b0 : decide (x30_2 < (t106.length : Int)) = false := decide_eq_false c13
                  clear c13
                  simp only [Option.some.injEq, Prod.mk.injEq] at H
                  obtain ⟨rfl, rfl⟩ := H
                  go_wp2
                  go_ret2
                  exact ⟨_, by first | rfl | (simp [errW_none, errW_some] <;> rfl) | (simp [*, errW_none, errW_some] <;> rfl), by (with_reducible repeat (first | apply Kd.R_alloc | apply Kd.R_drewN | apply Kd.R_drew)); exact HO_6.out, by repeat (first | (with_reducible first | exact HB.out | apply below_alloc | apply pw_below_drewN | apply below_drew1) | exact HB.out)⟩
end Go.Proofs.YteaiobgnhlpblaaDoor.Q
namespace Go.Proofs.YteaiobgnhlpblaaDoor.Q
open Go.RowKit Go.Proofs.YteaiobgnhlpblaaDoorW.PrintWords Go.Proofs.YteaiobgnhlpblaaDoorW.PrintLast Go.Proofs.YteaiobgnhlpblaaDoorW.PrintMore
attribute [local go_sem] max2_int min2_int max_two min_two max_three min_three max_four min_four   -- for this text's walks alone
set_option linter.unusedVariables false
set_option linter.unusedSimpArgs false
def label_Path.f (k : Nat) (a0 : ByteArray) : Option (Int) := (label_Split.f k a0).bind fun bt111 => (some bt111.2)
theorem label_Path.mono : ∀ a0 k, LeO (label_Path.f k a0) (label_Path.f (k + 1) a0) := by
  intro a0 k
  unfold label_Path.f
  repeat' first
      | (with_reducible exact label_Split.mono _ _)
      | (with_reducible exact LeO.refl _)
      | (with_reducible exact LeO.none _)
      | (with_reducible refine LeO.ite ?_ ?_)
      | (with_reducible refine LeO.bind ?_ (fun _ => ?_))
      | exact label_Split.mono _ _
      | exact LeO.none _
      | refine LeO.ite ?_ ?_
      | refine LeO.bind ?_ (fun _ => ?_)
set_option maxHeartbeats 8000000 in
set_option maxRecDepth 100000 in
theorem label_Path.calls (k : Nat) (a0 : ByteArray) (r : Int) (w : World) (h : label_Path.f k a0 = some r) (hG : Glob w) :
    Calls Tryd.prog 20 #[.string a0] w fun e w' => e = .returned (.int .i64 r) ∧ Below w.heap.size w w' := by
  have HB := Aside0.mk (Below.refl w.heap.size w)
  have H : ((label_Split.f k a0).bind fun bt111 => (some bt111.2)) = some r := h
  clear h
  replace H := Option.bind_eq_some_iff.mp H
  obtain ⟨⟨t111, t112⟩, A20, H⟩ := H
  replace H : (some t112) = some r := H
  have A2 := Aside0.mk A20
  clear A20
  obtain rfl := Option.some.inj H
  go_enter Tryd.func20, Tryd.ntmps20
  go_wp2_with (first | ((with_reducible refine gate_callee (f := 24) rfl ?_); refine goesL_ (some 7) rfl rfl Tryd.func24 (by kernel_rfl) rfl #[.string a0] rfl (by (try simp only [List.map_toArray, List.map_cons, List.map_nil]); first | done | rfl | (simp only [List.length_drop, List.length_take]; rfl)) ?_; (with_reducible refine (label_Split.calls k a0 t111 t112 _ A2.out (Glob.below hG (by repeat (first | (with_reducible first | exact HB.out | apply below_alloc | apply pw_below_drewN | apply below_drew1) | exact HB.out)))).mono ?_); rintro e w3 ⟨v113, rfl, ho0, hb⟩; refine ⟨_, rfl, ?_⟩; have n0_ := Aside0.mk (Kd.R_lower ho0 (below_size (by repeat (first | (with_reducible first | exact HB.out | apply below_alloc | apply pw_below_drewN | apply below_drew1) | exact HB.out)))); have n1_ := Aside0.mk (below_step (by repeat (first | (with_reducible first | exact HB.out | apply below_alloc | apply pw_below_drewN | apply below_drew1) | exact HB.out)) hb); clear HB; have HO114 := n0_; have HB := n1_; clear n0_ n1_; (try clear hb); (try clear hb2); (try clear hk); (try clear hi); (try clear ho0)))
  go_ret
  exact ⟨by first | rfl | (simp [errW_none, errW_some] <;> rfl) | (simp [*, errW_none, errW_some] <;> rfl), by repeat (first | (with_reducible first | exact HB.out | apply below_alloc | apply pw_below_drewN | apply below_drew1) | exact HB.out)⟩
end Go.Proofs.YteaiobgnhlpblaaDoor.Q
namespace Go.Proofs.YteaiobgnhlpblaaDoor.Q
open Go.RowKit Go.Proofs.YteaiobgnhlpblaaDoorW.PrintWords Go.Proofs.YteaiobgnhlpblaaDoorW.PrintLast Go.Proofs.YteaiobgnhlpblaaDoorW.PrintMore
attribute [local go_sem] max2_int min2_int max_two min_two max_three min_three max_four min_four   -- for this text's walks alone
set_option linter.unusedVariables false
set_option linter.unusedSimpArgs false
def label_above.f (a0 : ByteArray) : Option (ByteArray) := (strings_LastIndex.f a0 (⟨#[47]⟩ : ByteArray)).bind fun t115 => (if 0 ≤ (mx 1 t115) then (if (mx 1 t115) ≤ (a0.size : Int) then (some (a0.extract 0 ((mx 1 t115) : Int).toNat)) else (none)) else (none))
set_option maxHeartbeats 8000000 in
set_option maxRecDepth 100000 in
theorem label_above.calls (a0 : ByteArray) (r : ByteArray) (w : World) (h : label_above.f a0 = some r) :
    Calls Tryd.prog 51 #[.string a0] w fun e w' => e = .returned (.string r) ∧ Below w.heap.size w w' := by
  have HB := Aside0.mk (Below.refl w.heap.size w)
  have H : ((strings_LastIndex.f a0 (⟨#[47]⟩ : ByteArray)).bind fun t115 => (if 0 ≤ (mx 1 t115) then (if (mx 1 t115) ≤ (a0.size : Int) then (some (a0.extract 0 ((mx 1 t115) : Int).toNat)) else (none)) else (none))) = some r := h
  clear h
  replace H := Option.bind_eq_some_iff.mp H
  obtain ⟨t115, A20, H⟩ := H
  replace H : (if 0 ≤ (mx 1 t115) then (if (mx 1 t115) ≤ (a0.size : Int) then (some (a0.extract 0 ((mx 1 t115) : Int).toNat)) else (none)) else (none)) = some r := H
  have A2 := Aside0.mk A20
  clear A20
  obtain ⟨ji3, hji3⟩ : ∃ j_ : Int, (mx 1 t115) = j_ := ⟨_, rfl⟩
  replace H : (if 0 ≤ (ji3) then (if (ji3) ≤ (a0.size : Int) then (some (a0.extract 0 ((ji3) : Int).toNat)) else (none)) else (none)) = some r := by first | (rw [hji3] at H; exact H) | (simp only [hji3] at H ⊢; exact H)
  (try rw [hji3] at A2)
  (try (have hji3l : 1 ≤ ji3 := by (rw [← hji3]; unfold mx; (repeat' split) <;> omega)))
  (try (have hji3m : 0 ≤ ji3 := by omega))
  have hji3_ : (if 1 < t115 then t115 else 1) = ji3 := hji3
  by_cases c4 : 0 ≤ (ji3)
  · rw [if_pos c4] at H
    have c4b0 := eq_true c4
    have c4b1 : decide (0 ≤ (ji3)) = true := decide_eq_true c4
    clear c4
    by_cases c5 : (ji3) ≤ (a0.size : Int)
    · rw [if_pos c5] at H
      have c5b0 := eq_true c5
      have c5b1 : decide ((ji3) ≤ (a0.size : Int)) = true := decide_eq_true c5
      clear c5
      obtain rfl := Option.some.inj H
      go_enter Tryd.func51, Tryd.ntmps51
      go_wp2_with (first | ((with_reducible refine gate_callee (f := 68) rfl ?_); refine goesL_ (some 5) rfl rfl Tryd.func68 (by kernel_rfl) rfl #[.string a0, .string (⟨#[47]⟩ : ByteArray)] rfl (by (try simp only [List.map_toArray, List.map_cons, List.map_nil]); first | done | rfl | (simp only [List.length_drop, List.length_take]; rfl)) ?_; (with_reducible refine (strings_LastIndex.calls a0 (⟨#[47]⟩ : ByteArray) t115 _ A2.out).mono ?_); rintro e w' ⟨rfl, ⟨nd, rfl⟩⟩; refine ⟨_, rfl, ?_⟩))
      go_ret
      exact ⟨by first | rfl | (simp [errW_none, errW_some] <;> rfl) | (simp only [← hji3]; first | rfl | (simp [errW_none, errW_some] <;> rfl)) | (simp [*, errW_none, errW_some] <;> rfl), by repeat (first | (with_reducible first | exact HB.out | apply below_alloc | apply pw_below_drewN | apply below_drew1) | exact HB.out)⟩
    · rw [if_neg c5] at H
      exact absurd H (by simp)
  · rw [if_neg c4] at H
    exact absurd H (by simp)
end Go.Proofs.YteaiobgnhlpblaaDoor.Q
namespace Go.Proofs.YteaiobgnhlpblaaDoor.Q
open Go.RowKit Go.Proofs.YteaiobgnhlpblaaDoorW.PrintWords Go.Proofs.YteaiobgnhlpblaaDoorW.PrintLast Go.Proofs.YteaiobgnhlpblaaDoorW.PrintMore
attribute [local go_sem] max2_int min2_int max_two min_two max_three min_three max_four min_four   -- for this text's walks alone
set_option linter.unusedVariables false
set_option linter.unusedSimpArgs false
def label_Line.l0 : Nat → ByteArray → List ByteArray → Option (List ByteArray × Int)
  | 0, _, _ => none
  | k + 1, x0, x5 => if x0.toList = ([47] : List UInt8) then (some (x5, 0)) else ((label_above.f x0).bind fun t120 => (if x5.length < 8796093022208 then (label_Line.l0 k t120 (x5 ++ [t120])) else (none)))
def label_Line.f (k : Nat) (a0 : ByteArray) : Option (List ByteArray × Int) := (label_Path.f k a0).bind fun t116 => (if t116 = 0 then (label_Line.l0 k a0 (([a0] : List ByteArray))) else (some (([] : List ByteArray), t116)))
theorem label_Line.mono_l : ∀ k, (∀ y0 y1, LeO (label_Line.l0 k y0 y1) (label_Line.l0 (k + 1) y0 y1))
  | 0 => fun _ _ r h => by simp [label_Line.l0] at h
  | k + 1 => by
    have ih0 := label_Line.mono_l k
    · intro y0 y1
      unfold label_Line.l0
      repeat' first
      | (with_reducible exact ih0 _ _)
      | (with_reducible exact label_Path.mono _ _)
      | (with_reducible exact LeO.refl _)
      | (with_reducible exact LeO.none _)
      | (with_reducible refine LeO.ite ?_ ?_)
      | (with_reducible refine LeO.bind ?_ (fun _ => ?_))
      | exact ih0 _ _
      | exact label_Path.mono _ _
      | exact LeO.none _
      | refine LeO.ite ?_ ?_
      | refine LeO.bind ?_ (fun _ => ?_)
theorem label_Line.mono : ∀ a0 k, LeO (label_Line.f k a0) (label_Line.f (k + 1) a0) := by
  intro a0 k
  have ih0 := label_Line.mono_l k
  unfold label_Line.f
  repeat' first
      | (with_reducible exact ih0 _ _)
      | (with_reducible exact label_Path.mono _ _)
      | (with_reducible exact LeO.refl _)
      | (with_reducible exact LeO.none _)
      | (with_reducible refine LeO.ite ?_ ?_)
      | (with_reducible refine LeO.bind ?_ (fun _ => ?_))
      | exact ih0 _ _
      | exact label_Path.mono _ _
      | exact LeO.none _
      | refine LeO.ite ?_ ?_
      | refine LeO.bind ?_ (fun _ => ?_)
set_option maxHeartbeats 8000000 in
set_option maxRecDepth 100000 in
theorem label_Line.calls (k : Nat) (a0 : ByteArray) (r1 : List ByteArray) (r2 : Int) (w : World) (h : label_Line.f k a0 = some (r1, r2)) (hG : Glob w) :
    Calls Tryd.prog 29 #[.string a0] w fun e w' => ∃ v0_ : Value, e = .returned (.tuple #[v0_, .int .i64 r2]) ∧ Kd.R Kd.string 9 w' w.heap.size (fun _ => True) v0_ r1 ∧ Below w.heap.size w w' := by
  have HB := Aside0.mk (Below.refl w.heap.size w)
  have H : ((label_Path.f k a0).bind fun t116 => (if t116 = 0 then (label_Line.l0 k a0 (([a0] : List ByteArray))) else (some (([] : List ByteArray), t116)))) = some (r1, r2) := h
  clear h
  replace H := Option.bind_eq_some_iff.mp H
  obtain ⟨t116, A20, H⟩ := H
  replace H : (if t116 = 0 then (label_Line.l0 k a0 (([a0] : List ByteArray))) else (some (([] : List ByteArray), t116))) = some (r1, r2) := H
  have A2 := Aside0.mk A20
  clear A20
  by_cases c3 : t116 = 0
  · rw [if_pos c3] at H
    have c3b0 : (t116 == 0) = true := beq_iff_eq.mpr c3
    have c3b1 : (t116 != 0) = false := bne_eq_false_iff_eq.mpr c3
    clear c3
    obtain ⟨y117, hy117⟩ : ∃ y_ : List ByteArray, y_ = (([a0] : List ByteArray)) := ⟨_, rfl⟩
    replace H : (label_Line.l0 k a0 y117) = some (r1, r2) := by first | (rw [hy117]; with_reducible exact H) | (have H2_ := (Option.bind_some _ _).symm.trans H; rw [hy117]; with_reducible exact H2_) | (have H2_ := (Option.bind_some _ _).symm.trans H; with_reducible exact H2_) | with_reducible exact H | (rw [hy117]; exact H) | exact H
    have Ny117 := Aside0.mk hy117
    clear hy117
    have H' := Aside0.mk H
    clear H
    go_enter Tryd.func29, Tryd.ntmps29
    go_wp2_with (first | ((with_reducible refine gate_callee (f := 20) rfl ?_); refine goesL_ (some 7) rfl rfl Tryd.func20 (by kernel_rfl) rfl #[.string a0] rfl (by (try simp only [List.map_toArray, List.map_cons, List.map_nil]); first | done | rfl | (simp only [List.length_drop, List.length_take]; rfl)) ?_; (with_reducible refine (label_Path.calls k a0 t116 _ A2.out (Glob.below hG (by repeat (first | (with_reducible first | exact HB.out | apply below_alloc | apply pw_below_drewN | apply below_drew1) | exact HB.out)))).mono ?_); rintro e w4 ⟨rfl, hb⟩; refine ⟨_, rfl, ?_⟩; have n0_ := Aside0.mk (below_step (by repeat (first | (with_reducible first | exact HB.out | apply below_alloc | apply pw_below_drewN | apply below_drew1) | exact HB.out)) hb); clear HB; have HB := n0_; clear n0_; (try clear hb); (try clear hb2); (try clear hk); (try clear hi)) | ((with_reducible refine gate_dst (N := 12) rfl ?_); refine Kd.R_lit Kd.string _ 9 ?hg (N := 12) ?hd (xs := ([a0] : List ByteArray)) (inner := [.string a0]) (ok := fun _ => True) (okp := fun _ => True) ?hr ?hp (fun _ hk => hk) trivial (Below.refl _ _) (Nat.le_refl _) (by simp) ?_; (case hd => rfl); (case hg => rfl); (case hr => first | (go_simp; done) | (go_simp; rfl)); (case hp => exact (Reps.one (show Kd.M Kd.string _ _ _ a0 [.string a0] from rfl) (Reps.none _ _))); intro v118 w5 ho6 hb hg_ hnew_; clear hg_ hnew_; (first | rw [← Ny117.out] at ho6 | (simp only [Int.reduceToNat] at ho6; rw [← Ny117.out] at ho6)); have n0_ := Aside0.mk (Kd.R_lower ho6 (below_size (by repeat (first | (with_reducible first | exact HB.out | apply below_alloc | apply pw_below_drewN | apply below_drew1) | exact HB.out)))); have n1_ := Aside0.mk (below_step (by repeat (first | (with_reducible first | exact HB.out | apply below_alloc | apply pw_below_drewN | apply below_drew1) | exact HB.out)) hb); clear HB; have HO119 := n0_; have HB := n1_; clear n0_ n1_; clear hb ho6))
    go_loopg [0, 5] k (fun kq v0 v5 w' => ∃ (x0_1 : ByteArray) (x5_1 : List ByteArray), v0 = .string x0_1 ∧ Aside0 (label_Line.l0 kq x0_1 x5_1 = some (r1, r2)) ∧ Aside0 (kq ≤ k) ∧ Aside0 (Kd.R Kd.string 9 w' w.heap.size (fun _ => True) v5 x5_1) ∧ Aside0 (Below w.heap.size w w'))
    case atStart => exact ⟨(a0), (y117), (by first | rfl | (simp; done) | (simp [*]; done) | (simp; rw [Bool.eq_iff_iff]; simp; done) | (rw [Bool.eq_iff_iff]; simp; done)), H', ⟨Nat.le_refl _⟩, ⟨by (with_reducible repeat (first | apply Kd.R_alloc | apply Kd.R_drewN | apply Kd.R_drew)); exact HO119.out⟩, ⟨by repeat (first | (with_reducible first | exact HB.out | apply below_alloc | apply pw_below_drewN | apply below_drew1) | exact HB.out)⟩⟩
    case round =>
      clear H'
      try clear c2
      try clear p2
      try clear c3
      try clear c3b0
      try clear c3b1
      obtain ⟨x0_1, x5_1, rfl, HA, HK1, HO_5, HB⟩ := hrel
      cases gk with
      | zero => exact absurd HA.out (by simp [label_Line.l0])
      | succ k1 =>
        have H := HA.out
        clear HA
        simp only [label_Line.l0] at H
        by_cases c7 : x0_1.toList = ([47] : List UInt8)
        · rw [if_pos c7] at H
          have c7b0 : (x0_1.toList == ([47] : List UInt8)) = true := beq_iff_eq.mpr c7
          have c7b1 : (x0_1.toList != ([47] : List UInt8)) = false := bne_eq_false_iff_eq.mpr c7
          clear c7
          simp only [Option.some.injEq, Prod.mk.injEq] at H
          obtain ⟨rfl, rfl⟩ := H
          go_wp2
          go_ret2
          exact ⟨_, by first | rfl | (simp [errW_none, errW_some] <;> rfl) | (simp [*, errW_none, errW_some] <;> rfl), by (with_reducible repeat (first | apply Kd.R_alloc | apply Kd.R_drewN | apply Kd.R_drew)); exact HO_5.out, by repeat (first | (with_reducible first | exact HB.out | apply below_alloc | apply pw_below_drewN | apply below_drew1) | exact HB.out)⟩
        · rw [if_neg c7] at H
          have c7b0 : (x0_1.toList == ([47] : List UInt8)) = false := beq_eq_false_iff_ne.mpr c7
          have c7b1 : (x0_1.toList != ([47] : List UInt8)) = true := bne_iff_ne.mpr c7
          replace H := Option.bind_eq_some_iff.mp H
          obtain ⟨t120, A80, H⟩ := H
          replace H : (if x5_1.length < 8796093022208 then (label_Line.l0 k1 t120 (x5_1 ++ [t120])) else (none)) = some (r1, r2) := H
          have A8 := Aside0.mk A80
          clear A80
          by_cases c9 : x5_1.length < 8796093022208
          · rw [if_pos c9] at H
            have LMc9 := Aside0.mk c9
            clear c9
            obtain ⟨y121, hy121⟩ : ∃ y_ : List ByteArray, y_ = (x5_1 ++ [t120]) := ⟨_, rfl⟩
            replace H : (label_Line.l0 k1 t120 y121) = some (r1, r2) := by first | (rw [hy121]; with_reducible exact H) | (have H2_ := (Option.bind_some _ _).symm.trans H; rw [hy121]; with_reducible exact H2_) | (have H2_ := (Option.bind_some _ _).symm.trans H; with_reducible exact H2_) | with_reducible exact H | (rw [hy121]; exact H) | exact H
            have Ny121 := Aside0.mk hy121
            clear hy121
            have H' := Aside0.mk H
            clear H
            go_wp2_with (first | ((with_reducible refine gate_callee (f := 51) rfl ?_); refine goesL_ (some 16) rfl rfl Tryd.func51 (by kernel_rfl) rfl #[.string x0_1] rfl (by (try simp only [List.map_toArray, List.map_cons, List.map_nil]); first | done | rfl | (simp only [List.length_drop, List.length_take]; rfl)) ?_; (with_reducible refine (label_above.calls x0_1 t120 _ A8.out).mono ?_); rintro e w10 ⟨rfl, hb⟩; refine ⟨_, rfl, ?_⟩; have n0_ := Aside0.mk (Kd.R_below (by (with_reducible repeat (first | apply Kd.R_alloc | apply Kd.R_drewN | apply Kd.R_drew)); exact HO_5.out) hb); have n1_ := Aside0.mk (below_step (by repeat (first | (with_reducible first | exact HB.out | apply below_alloc | apply pw_below_drewN | apply below_drew1) | exact HB.out)) hb); clear HO_5; clear HB; have HO_5 := n0_; have HB := n1_; clear n0_ n1_; (try clear hb); (try clear hb2); (try clear hk); (try clear hi)) | ((with_reducible refine gate_builtin (b := .append) (xs := #[.tmp 17, .tmp 19]) rfl ?_); at_builtin; refine Kd.R_append Kd.string (w0 := w) w.heap.size rfl (.tmp 17) (.tmp 19) 35 9 (.string ⟨#[]⟩) 16 rfl Tryd.underlying35 info9 rfl (by decide) (by omega) u5 x5_1 t120 [.string t120] (fun _ => True) (fun _ => False) rfl rfl ?aP (fun _ hk => hk.elim) ?aF ?aO ?aB ?aS ?aL ?_; (case aP => exact rfl); (case aB => exact (by repeat (first | (with_reducible first | exact HB.out | apply below_alloc | apply pw_below_drewN | apply below_drew1) | exact HB.out))); (case aF => exact (fun _ _ => trivial)); (case aO => exact (by (with_reducible repeat (first | apply Kd.R_alloc | apply Kd.R_drewN | apply Kd.R_drew)); exact HO_5.out)); (case aS => exact (below_size (by repeat (first | (with_reducible first | exact HB.out | apply below_alloc | apply pw_below_drewN | apply below_drew1) | exact HB.out)))); (case aL => have := LMc9.out; omega); intro v122 w11 ho hb hg hat; rw [← Ny121.out] at ho; have n0_ := Aside0.mk (hb); have n1_ := Aside0.mk (ho); clear HB; clear HO_5; have HB := n0_; have HO123 := n1_; clear n0_ n1_; clear ho hb hg hat))
            go_roundg k1
            case measure => have := HK1.out; omega
            case rel => exact ⟨(t120), (y121), (by first | rfl | (simp; done) | (simp [*]; done) | (simp; rw [Bool.eq_iff_iff]; simp; done) | (rw [Bool.eq_iff_iff]; simp; done)), H', ⟨by have := HK1.out; omega⟩, ⟨by (with_reducible repeat (first | apply Kd.R_alloc | apply Kd.R_drewN | apply Kd.R_drew)); exact HO123.out⟩, ⟨by repeat (first | (with_reducible first | exact HB.out | apply below_alloc | apply pw_below_drewN | apply below_drew1) | exact HB.out)⟩⟩
          · rw [if_neg c9] at H
            exact absurd H (by simp)
  · rw [if_neg c3] at H
    have c3b0 : (t116 == 0) = false := beq_eq_false_iff_ne.mpr c3
    have c3b1 : (t116 != 0) = true := bne_iff_ne.mpr c3
    simp only [Option.some.injEq, Prod.mk.injEq] at H
    obtain ⟨rfl, rfl⟩ := H
    go_enter Tryd.func29, Tryd.ntmps29
    go_wp2_with (first | ((with_reducible refine gate_callee (f := 20) rfl ?_); refine goesL_ (some 7) rfl rfl Tryd.func20 (by kernel_rfl) rfl #[.string a0] rfl (by (try simp only [List.map_toArray, List.map_cons, List.map_nil]); first | done | rfl | (simp only [List.length_drop, List.length_take]; rfl)) ?_; (with_reducible refine (label_Path.calls k a0 t116 _ A2.out (Glob.below hG (by repeat (first | (with_reducible first | exact HB.out | apply below_alloc | apply pw_below_drewN | apply below_drew1) | exact HB.out)))).mono ?_); rintro e w12 ⟨rfl, hb⟩; refine ⟨_, rfl, ?_⟩; have n0_ := Aside0.mk (below_step (by repeat (first | (with_reducible first | exact HB.out | apply below_alloc | apply pw_below_drewN | apply below_drew1) | exact HB.out)) hb); clear HB; have HB := n0_; clear n0_; (try clear hb); (try clear hb2); (try clear hk); (try clear hi)))
    go_ret2
    exact ⟨_, by first | rfl | (simp [errW_none, errW_some] <;> rfl) | (simp [*, errW_none, errW_some] <;> rfl), by first | exact Kd.R_nil _ _ _ _ _ | exact Kd.N_nil _ _ _ _ _ | exact Kd.V_nil _ _ _ _ _ | exact Kd.Q_nil _ _ _ _ _ | exact Kd.S_nil _ _ _ _ _, by repeat (first | (with_reducible first | exact HB.out | apply below_alloc | apply pw_below_drewN | apply below_drew1) | exact HB.out)⟩
end Go.Proofs.YteaiobgnhlpblaaDoor.Q
namespace Go.Proofs.YteaiobgnhlpblaaDoor.Q
open Go.RowKit Go.Proofs.YteaiobgnhlpblaaDoorW.PrintWords Go.Proofs.YteaiobgnhlpblaaDoorW.PrintLast Go.Proofs.YteaiobgnhlpblaaDoorW.PrintMore
attribute [local go_sem] max2_int min2_int max_two min_two max_three min_three max_four min_four   -- for this text's walks alone
set_option linter.unusedVariables false
set_option linter.unusedSimpArgs false
mutual
def label_printed.j0 : Nat → Bool → Bool → ByteArray → Int → List ByteArray → Option (ByteArray)
 | 0, _, _, _, _, _ => none
 | k + 1, x3, x22, x228000, x228001, x228002 => if x22 = true then (if x228000.size + 1 ≤ 9223372036854775807 then (if 0 < (x228002.length : Int) then (if (x228000 ++ (⟨#[61]⟩ : ByteArray)).size + (rdOf ByteArray.empty x228002 0).size ≤ 9223372036854775807 then (some ((x228000 ++ (⟨#[61]⟩ : ByteArray)) ++ (rdOf ByteArray.empty x228002 0))) else (none)) else (none)) else (none)) else (if x228001 = 1 then (label_printed.j1 k (!x3) x228000 x228001 x228002) else (label_printed.j1 k false x228000 x228001 x228002))
def label_printed.j1 : Nat → Bool → ByteArray → Int → List ByteArray → Option (ByteArray)
 | 0, _, _, _, _ => none
 | k + 1, x38, x228000, x228001, x228002 => if x38 = true then (if x228000.size + 2 ≤ 9223372036854775807 then (if 0 < (x228002.length : Int) then (if (x228000 ++ (⟨#[33, 61]⟩ : ByteArray)).size + (rdOf ByteArray.empty x228002 0).size ≤ 9223372036854775807 then (some ((x228000 ++ (⟨#[33, 61]⟩ : ByteArray)) ++ (rdOf ByteArray.empty x228002 0))) else (none)) else (none)) else (none)) else (if x228001 = 1 then (if x228000.size + 8 ≤ 9223372036854775807 then ((strings_Join.f x228002 (⟨#[32]⟩ : ByteArray)).bind fun t230 => (if (x228000 ++ (⟨#[32, 110, 111, 116, 105, 110, 32, 40]⟩ : ByteArray)).size + t230.size ≤ 9223372036854775807 then (if ((x228000 ++ (⟨#[32, 110, 111, 116, 105, 110, 32, 40]⟩ : ByteArray)) ++ t230).size + 1 ≤ 9223372036854775807 then (some (((x228000 ++ (⟨#[32, 110, 111, 116, 105, 110, 32, 40]⟩ : ByteArray)) ++ t230) ++ (⟨#[41]⟩ : ByteArray))) else (none)) else (none))) else (none)) else (if x228000.size + 5 ≤ 9223372036854775807 then ((strings_Join.f x228002 (⟨#[32]⟩ : ByteArray)).bind fun t231 => (if (x228000 ++ (⟨#[32, 105, 110, 32, 40]⟩ : ByteArray)).size + t231.size ≤ 9223372036854775807 then (if ((x228000 ++ (⟨#[32, 105, 110, 32, 40]⟩ : ByteArray)) ++ t231).size + 1 ≤ 9223372036854775807 then (some (((x228000 ++ (⟨#[32, 105, 110, 32, 40]⟩ : ByteArray)) ++ t231) ++ (⟨#[41]⟩ : ByteArray))) else (none)) else (none))) else (none)))
end
def label_printed.f (k : Nat) (a0_0 : ByteArray) (a0_1 : Int) (l0_2 : List ByteArray) : Option (ByteArray) := if a0_1 = 2 then (some a0_0) else (if a0_1 = 3 then (if 1 + a0_0.size ≤ 9223372036854775807 then (some ((⟨#[33]⟩ : ByteArray) ++ a0_0)) else (none)) else (if a0_1 = 0 then (label_printed.j0 k (decide ((l0_2.length : Int) > 1)) (!(decide ((l0_2.length : Int) > 1))) a0_0 a0_1 l0_2) else (label_printed.j0 k (decide ((l0_2.length : Int) > 1)) false a0_0 a0_1 l0_2)))
theorem label_printed.mono_l : ∀ k, (∀ y0 y1 y2 y3 y4, LeO (label_printed.j0 k y0 y1 y2 y3 y4) (label_printed.j0 (k + 1) y0 y1 y2 y3 y4)) ∧ (∀ y0 y1 y2 y3, LeO (label_printed.j1 k y0 y1 y2 y3) (label_printed.j1 (k + 1) y0 y1 y2 y3))
 | 0 => ⟨fun _ _ _ _ _ r h => by simp [label_printed.j0] at h, fun _ _ _ _ r h => by simp [label_printed.j1] at h⟩
 | k + 1 => by
  obtain ⟨ih0, ih1⟩ := label_printed.mono_l k
  refine ⟨?_, ?_⟩
  ·intro y0 y1 y2 y3 y4
   unfold label_printed.j0
   repeat' first
   | (with_reducible exact ih0 _ _ _ _ _)
   | (with_reducible exact ih1 _ _ _ _)
   | (with_reducible exact LeO.refl _)
   | (with_reducible exact LeO.none _)
   | (with_reducible refine LeO.ite ?_ ?_)
   | (with_reducible refine LeO.bind ?_ (fun _ => ?_))
   | exact ih0 _ _ _ _ _
   | exact ih1 _ _ _ _
   | exact LeO.none _
   | refine LeO.ite ?_ ?_
   | refine LeO.bind ?_ (fun _ => ?_)
  ·intro y0 y1 y2 y3
   unfold label_printed.j1
   repeat' first
   | (with_reducible exact ih0 _ _ _ _ _)
   | (with_reducible exact ih1 _ _ _ _)
   | (with_reducible exact LeO.refl _)
   | (with_reducible exact LeO.none _)
   | (with_reducible refine LeO.ite ?_ ?_)
   | (with_reducible refine LeO.bind ?_ (fun _ => ?_))
   | exact ih0 _ _ _ _ _
   | exact ih1 _ _ _ _
   | exact LeO.none _
   | refine LeO.ite ?_ ?_
   | refine LeO.bind ?_ (fun _ => ?_)
theorem label_printed.mono : ∀ a0 a1 a2 k, LeO (label_printed.f k a0 a1 a2) (label_printed.f (k + 1) a0 a1 a2) := by
 intro a0 a1 a2 k
 obtain ⟨ih0, ih1⟩ := label_printed.mono_l k
 unfold label_printed.f
 repeat' first
   | (with_reducible exact ih0 _ _ _ _ _)
   | (with_reducible exact ih1 _ _ _ _)
   | (with_reducible exact LeO.refl _)
   | (with_reducible exact LeO.none _)
   | (with_reducible refine LeO.ite ?_ ?_)
   | (with_reducible refine LeO.bind ?_ (fun _ => ?_))
   | exact ih0 _ _ _ _ _
   | exact ih1 _ _ _ _
   | exact LeO.none _
   | refine LeO.ite ?_ ?_
   | refine LeO.bind ?_ (fun _ => ?_)
def label_printed.T7 : Bool × List (List Nat × List Nat) := (true, [([], []), ([0], [0]), ([1], [1]), ([], []), ([3], [3]), ([4], [4]), ([5], [5]), ([2, 6], [2, 6]), ([7, 0, 1, 2, 3, 4, 5, 6, 7], [7])])
def label_printed.B7 : List Nat := [0, 1, 3, 0, 8, 24, 56, 127, 255]
theorem label_printed.tab7 : rtab .any (opsOf Tryd.f46 7) = label_printed.T7 := by kernel_rfl
theorem label_printed.bits7 : waitsOk label_printed.T7.2 label_printed.B7 = true := by kernel_rfl
def label_printed.T9 : Bool × List (List Nat × List Nat) := (true, [([], []), ([0], [0]), ([1], [1]), ([], []), ([3], [3]), ([4], [4]), ([5], [5]), ([2, 6], [2, 6]), ([7, 0, 1, 2, 3, 4, 5, 6, 7], [7])])
def label_printed.B9 : List Nat := [0, 1, 3, 0, 8, 24, 56, 127, 255]
theorem label_printed.tab9 : rtab .any (opsOf Tryd.f46 9) = label_printed.T9 := by kernel_rfl
theorem label_printed.bits9 : waitsOk label_printed.T9.2 label_printed.B9 = true := by kernel_rfl
def label_printed.T13 : Bool × List (List Nat × List Nat) := (true, [([], []), ([0], [0]), ([], []), ([1, 2], [1, 2]), ([], []), ([4], [4]), ([5], [5]), ([3, 6], [3, 6]), ([7], [7]), ([8, 6, 0, 1, 2, 3, 4, 5, 6, 7, 8], [8])])
def label_printed.B13 : List Nat := [0, 1, 0, 7, 0, 16, 48, 127, 255, 511]
theorem label_printed.tab13 : rtab .any (opsOf Tryd.f46 13) = label_printed.T13 := by kernel_rfl
theorem label_printed.bits13 : waitsOk label_printed.T13.2 label_printed.B13 = true := by kernel_rfl
set_option maxHeartbeats 8000000 in
set_option maxRecDepth 100000 in
theorem label_printed.calls (k : Nat) (a0_0 : ByteArray) (a0_1 : Int) (A0_2 : Option Addr) (c0_2 : Nat) (l0_2 : List ByteArray) (r : ByteArray) (w : World) (hr0_2 : Kd.C Kd.string w A0_2 l0_2.length l0_2) (hc0_2 : l0_2.length ≤ c0_2) (h : label_printed.f k a0_0 a0_1 l0_2 = some r) :
  Calls Tryd.prog 46 #[.agg #[.string a0_0, .int .i64 a0_1, .slice A0_2 l0_2.length c0_2]] w fun e w' => e = .returned (.string r) ∧ Below w.heap.size w w' := by
 have hu45 := Tryd.underlying45
 have HR0_2 := Aside0.mk hr0_2
 have HC0_2 := Aside0.mk hc0_2
 clear hr0_2 hc0_2
 have HB := Aside0.mk (Below.refl w.heap.size w)
 have H : (if a0_1 = 2 then (some a0_0) else (if a0_1 = 3 then (if 1 + a0_0.size ≤ 9223372036854775807 then (some ((⟨#[33]⟩ : ByteArray) ++ a0_0)) else (none)) else (if a0_1 = 0 then (label_printed.j0 k (decide ((l0_2.length : Int) > 1)) (!(decide ((l0_2.length : Int) > 1))) a0_0 a0_1 l0_2) else (label_printed.j0 k (decide ((l0_2.length : Int) > 1)) false a0_0 a0_1 l0_2)))) = some r := h
 clear h
 by_cases c2 : a0_1 = 2
 ·rw [if_pos c2] at H
  have c2b0 : (a0_1 == 2) = true := beq_iff_eq.mpr c2
  have c2b1 : (a0_1 != 2) = false := bne_eq_false_iff_eq.mpr c2
  clear c2
  obtain rfl := Option.some.inj H
  go_enter Tryd.func46, Tryd.ntmps46
  go_wp2_with (first | ((with_reducible refine gate_dst (N := 1) rfl ?_); refine box_event ?hg (N := 1) ?hd (cs := #[.string a0_0, .int .i64 a0_1, .slice A0_2 l0_2.length c0_2]) (t := 45) ?hr ?_; (case hd => rfl); (case hg => rfl); (case hr => first | (go_simp; done) | (go_simp; rfl)); intro gb227 hg w3 hbox hb; have n0_ := Aside0.mk (below_step (by repeat (first | (with_reducible first | exact HB.out | apply below_alloc | apply pw_below_drewN | apply below_drew1) | exact HB.out)) hb); have n1_ := Aside0.mk (hbox); have n2_ := Aside0.mk ((by rw [hg]; exact (below_size (by repeat (first | (with_reducible first | exact HB.out | apply below_alloc | apply pw_below_drewN | apply below_drew1) | exact HB.out))) : w.heap.size ≤ gb227)); have n3_ := Aside0.mk ((by rw [hg]; exact (below_size (by repeat (first | (with_reducible first | exact HB.out | apply below_alloc | apply pw_below_drewN | apply below_drew1) | exact HB.out))) : w.heap.size ≤ gb227)); clear HB; have HB := n0_; have BK227 := n1_; have GW227 := n2_; have GE227 := n3_; clear n0_ n1_ n2_ n3_; clear hb hbox hg; have hcz4_0 : w3.cell? ⟨gb227, 0, none⟩ = some (.string a0_0) := (blk_cell BK227.out 0).trans rfl; have hcz4_1 : w3.cell? ⟨gb227, 1, none⟩ = some (.int .i64 a0_1) := (blk_cell BK227.out 1).trans rfl; have hcz4_2 : w3.cell? ⟨gb227, 2, none⟩ = some (.slice A0_2 l0_2.length c0_2) := (blk_cell BK227.out 2).trans rfl; have hfz4_0 := blk_frozen BK227.out 0; have hfz4_1 := blk_frozen BK227.out 1; have hfz4_2 := blk_frozen BK227.out 2))
  go_ret
  exact ⟨by first | rfl | (simp [errW_none, errW_some] <;> rfl) | (simp [*, errW_none, errW_some] <;> rfl), by repeat (first | (with_reducible first | exact HB.out | apply below_alloc | apply pw_below_drewN | apply below_drew1 | refine below_set ?_ GE227.out) | exact HB.out)⟩
 ·rw [if_neg c2] at H
  have c2b0 : (a0_1 == 2) = false := beq_eq_false_iff_ne.mpr c2
  have c2b1 : (a0_1 != 2) = true := bne_iff_ne.mpr c2
  by_cases c5 : a0_1 = 3
  ·rw [if_pos c5] at H
   have c5b0 : (a0_1 == 3) = true := beq_iff_eq.mpr c5
   have c5b1 : (a0_1 != 3) = false := bne_eq_false_iff_eq.mpr c5
   clear c5
   by_cases c6 : 1 + a0_0.size ≤ 9223372036854775807
   ·rw [if_pos c6] at H
    have c6b0 := eq_true c6
    have c6b1 : decide (1 + a0_0.size ≤ 9223372036854775807) = true := decide_eq_true c6
    try have c6b2 : (9223372036854775807 < 1 + a0_0.size) = False := eq_false (Nat.not_lt.2 c6)
    obtain rfl := Option.some.inj H
    go_enter Tryd.func46, Tryd.ntmps46
    go_wp2_with (first | ((with_reducible refine gate_dst (N := 1) rfl ?_); refine box_event ?hg (N := 1) ?hd (cs := #[.string a0_0, .int .i64 a0_1, .slice A0_2 l0_2.length c0_2]) (t := 45) ?hr ?_; (case hd => rfl); (case hg => rfl); (case hr => first | (go_simp; done) | (go_simp; rfl)); intro gb227 hg w7 hbox hb; have n0_ := Aside0.mk (below_step (by repeat (first | (with_reducible first | exact HB.out | apply below_alloc | apply pw_below_drewN | apply below_drew1) | exact HB.out)) hb); have n1_ := Aside0.mk (hbox); have n2_ := Aside0.mk ((by rw [hg]; exact (below_size (by repeat (first | (with_reducible first | exact HB.out | apply below_alloc | apply pw_below_drewN | apply below_drew1) | exact HB.out))) : w.heap.size ≤ gb227)); have n3_ := Aside0.mk ((by rw [hg]; exact (below_size (by repeat (first | (with_reducible first | exact HB.out | apply below_alloc | apply pw_below_drewN | apply below_drew1) | exact HB.out))) : w.heap.size ≤ gb227)); clear HB; have HB := n0_; have BK227 := n1_; have GW227 := n2_; have GE227 := n3_; clear n0_ n1_ n2_ n3_; clear hb hbox hg; have hcz8_0 : w7.cell? ⟨gb227, 0, none⟩ = some (.string a0_0) := (blk_cell BK227.out 0).trans rfl; have hcz8_1 : w7.cell? ⟨gb227, 1, none⟩ = some (.int .i64 a0_1) := (blk_cell BK227.out 1).trans rfl; have hcz8_2 : w7.cell? ⟨gb227, 2, none⟩ = some (.slice A0_2 l0_2.length c0_2) := (blk_cell BK227.out 2).trans rfl; have hfz8_0 := blk_frozen BK227.out 0; have hfz8_1 := blk_frozen BK227.out 1; have hfz8_2 := blk_frozen BK227.out 2))
    go_ret
    exact ⟨by first | rfl | (simp [errW_none, errW_some] <;> rfl) | (simp [*, errW_none, errW_some] <;> rfl), by repeat (first | (with_reducible first | exact HB.out | apply below_alloc | apply pw_below_drewN | apply below_drew1 | refine below_set ?_ GE227.out) | exact HB.out)⟩
   ·rw [if_neg c6] at H
    exact absurd H (by simp)
  ·rw [if_neg c5] at H
   have c5b0 : (a0_1 == 3) = false := beq_eq_false_iff_ne.mpr c5
   have c5b1 : (a0_1 != 3) = true := bne_iff_ne.mpr c5
   have HC9 := Aside0.mk H
   clear H
   go_enter Tryd.func46, Tryd.ntmps46
   go_upto_region 6 with (first | ((with_reducible refine gate_dst (N := 1) rfl ?_); refine box_event ?hg (N := 1) ?hd (cs := #[.string a0_0, .int .i64 a0_1, .slice A0_2 l0_2.length c0_2]) (t := 45) ?hr ?_; (case hd => rfl); (case hg => rfl); (case hr => first | (go_simp; done) | (go_simp; rfl)); intro gb227 hg w10 hbox hb; have n0_ := Aside0.mk (below_step (by repeat (first | (with_reducible first | exact HB.out | apply below_alloc | apply pw_below_drewN | apply below_drew1) | exact HB.out)) hb); have n1_ := Aside0.mk (hbox); have n2_ := Aside0.mk ((by rw [hg]; exact (below_size (by repeat (first | (with_reducible first | exact HB.out | apply below_alloc | apply pw_below_drewN | apply below_drew1) | exact HB.out))) : w.heap.size ≤ gb227)); have n3_ := Aside0.mk ((by rw [hg]; exact (below_size (by repeat (first | (with_reducible first | exact HB.out | apply below_alloc | apply pw_below_drewN | apply below_drew1) | exact HB.out))) : w.heap.size ≤ gb227)); clear HB; have HB := n0_; have BK227 := n1_; have GW227 := n2_; have GE227 := n3_; clear n0_ n1_ n2_ n3_; clear hb hbox hg; have hcz11_0 : w10.cell? ⟨gb227, 0, none⟩ = some (.string a0_0) := (blk_cell BK227.out 0).trans rfl; have hcz11_1 : w10.cell? ⟨gb227, 1, none⟩ = some (.int .i64 a0_1) := (blk_cell BK227.out 1).trans rfl; have hcz11_2 : w10.cell? ⟨gb227, 2, none⟩ = some (.slice A0_2 l0_2.length c0_2) := (blk_cell BK227.out 2).trans rfl; have hfz11_0 := blk_frozen BK227.out 0; have hfz11_1 := blk_frozen BK227.out 1; have hfz11_2 := blk_frozen BK227.out 2))
   (try simp only [Act.put, List.setIfInBounds_toArray, List.set_cons_zero, List.set_cons_succ])
   go_cut [22] (fun v22 wc => ∃ (kq : Nat) (x22_8 : Bool), v22 = .bool x22_8 ∧ Aside0 (label_printed.j0 kq (decide ((l0_2.length : Int) > 1)) x22_8 a0_0 a0_1 l0_2 = some r) ∧ Aside0 (kq ≤ k) ∧ Aside0 (wc.heap[gb227]? = some (.cells #[.string a0_0, .int .i64 a0_1, (.slice A0_2 l0_2.length c0_2)] 45 (0, 0))) ∧ Aside0 (Below w.heap.size w wc))
   case first =>
    have H := HC9.out
    clear HC9
    by_cases c12 : a0_1 = 0
    ·rw [if_pos c12] at H
     have c12b0 : (a0_1 == 0) = true := beq_iff_eq.mpr c12
     have c12b1 : (a0_1 != 0) = false := bne_eq_false_iff_eq.mpr c12
     clear c12
     (first | rw [c12b0] | (simp only [i64_w, i32_w]; rw [c12b0]) | skip)
     have H' := Aside0.mk H
     clear H
     have hcz13_0 : w10.cell? ⟨gb227, 0, none⟩ = some (.string a0_0) := (blk_cell BK227.out 0).trans rfl
     have hcz13_1 : w10.cell? ⟨gb227, 1, none⟩ = some (.int .i64 a0_1) := (blk_cell BK227.out 1).trans rfl
     have hcz13_2 : w10.cell? ⟨gb227, 2, none⟩ = some (.slice A0_2 l0_2.length c0_2) := (blk_cell BK227.out 2).trans rfl
     have hfz13_0 := blk_frozen BK227.out 0
     have hfz13_1 := blk_frozen BK227.out 1
     have hfz13_2 := blk_frozen BK227.out 2
     go_wp2
     go_meet
     case rel => exact ⟨_, (!(decide ((l0_2.length : Int) > 1))), (by first | rfl | (simp; done) | (simp [*]; done) | (simp; rw [Bool.eq_iff_iff]; simp; done) | (rw [Bool.eq_iff_iff]; simp; done)), H', ⟨by first | omega | exact Nat.le_refl _⟩, ⟨by (with_reducible repeat (first | refine blk_drewN ?_ _ | refine blk_drew ?_ | refine blk_alloc ?_ _)); exact BK227.out⟩, ⟨by repeat (first | (with_reducible first | exact HB.out | apply below_alloc | apply pw_below_drewN | apply below_drew1 | refine below_set ?_ GE227.out) | exact HB.out)⟩⟩
    ·rw [if_neg c12] at H
     have c12b0 : (a0_1 == 0) = false := beq_eq_false_iff_ne.mpr c12
     have c12b1 : (a0_1 != 0) = true := bne_iff_ne.mpr c12
     (first | rw [c12b0] | (simp only [i64_w, i32_w]; rw [c12b0]) | skip)
     have H' := Aside0.mk H
     clear H
     have hcz14_0 : w10.cell? ⟨gb227, 0, none⟩ = some (.string a0_0) := (blk_cell BK227.out 0).trans rfl
     have hcz14_1 : w10.cell? ⟨gb227, 1, none⟩ = some (.int .i64 a0_1) := (blk_cell BK227.out 1).trans rfl
     have hcz14_2 : w10.cell? ⟨gb227, 2, none⟩ = some (.slice A0_2 l0_2.length c0_2) := (blk_cell BK227.out 2).trans rfl
     have hfz14_0 := blk_frozen BK227.out 0
     have hfz14_1 := blk_frozen BK227.out 1
     have hfz14_2 := blk_frozen BK227.out 2
     go_wp2
     go_meet
     case rel => exact ⟨_, (false), (by first | rfl | (simp; done) | (simp [*]; done) | (simp; rw [Bool.eq_iff_iff]; simp; done) | (rw [Bool.eq_iff_iff]; simp; done)), H', ⟨by first | omega | exact Nat.le_refl _⟩, ⟨by (with_reducible repeat (first | refine blk_drewN ?_ _ | refine blk_drew ?_ | refine blk_alloc ?_ _)); exact BK227.out⟩, ⟨by repeat (first | (with_reducible first | exact HB.out | apply below_alloc | apply pw_below_drewN | apply below_drew1 | refine below_set ?_ GE227.out) | exact HB.out)⟩⟩
   case rest =>
    clear HC9
    try clear c1
    try clear c2
    try clear c2b0
    try clear c2b1
    try clear p2
    try clear c4
    try clear c5
    try clear c5b0
    try clear c5b1
    try clear c6
    try clear c6b0
    try clear c6b1
    try clear c6b2
    try clear c12
    try clear c12b0
    try clear c12b1
    try clear hcz11_0
    try clear hcz11_1
    try clear hcz11_2
    try clear hcz13_0
    try clear hcz13_1
    try clear hcz13_2
    try clear hcz14_0
    try clear hcz14_1
    try clear hcz14_2
    try clear hcz4_0
    try clear hcz4_1
    try clear hcz4_2
    try clear hcz8_0
    try clear hcz8_1
    try clear hcz8_2
    try clear hfz11_0
    try clear hfz11_1
    try clear hfz11_2
    try clear hfz13_0
    try clear hfz13_1
    try clear hfz13_2
    try clear hfz14_0
    try clear hfz14_1
    try clear hfz14_2
    try clear hfz4_0
    try clear hfz4_1
    try clear hfz4_2
    try clear hfz8_0
    try clear hfz8_1
    try clear hfz8_2
    obtain ⟨kq, x22_8, rfl, HA, HJ8, BK227, HB⟩ := hcut
    cases kq with
    | zero => exact absurd HA.out (by simp [label_printed.j0])
    | succ kj8 =>
     have H := HA.out
     clear HA
     simp only [label_printed.j0] at H
     by_cases c15 : x22_8 = true
     ·subst c15
      have H1 : (if a0_0.size + 1 ≤ 9223372036854775807 then (if 0 < (l0_2.length : Int) then (if (a0_0 ++ (⟨#[61]⟩ : ByteArray)).size + (rdOf ByteArray.empty l0_2 0).size ≤ 9223372036854775807 then (some ((a0_0 ++ (⟨#[61]⟩ : ByteArray)) ++ (rdOf ByteArray.empty l0_2 0))) else (none)) else (none)) else (none)) = some r := by rw [if_pos rfl] at H; exact H
      clear H
      have H := H1
      clear H1
      by_cases c16 : a0_0.size + 1 ≤ 9223372036854775807
      ·rw [if_pos c16] at H
       have c16b0 := eq_true c16
       have c16b1 : decide (a0_0.size + 1 ≤ 9223372036854775807) = true := decide_eq_true c16
       try have c16b2 : (9223372036854775807 < a0_0.size + 1) = False := eq_false (Nat.not_lt.2 c16)
       by_cases c17 : 0 < (l0_2.length : Int)
       ·rw [if_pos c17] at H
        have c17b0 : decide (0 < (l0_2.length : Int)) = true := decide_eq_true c17
        have c17b1 : decide (0 < l0_2.length) = true := decide_eq_true (by omega)
        clear c17
        by_cases c18 : (a0_0 ++ (⟨#[61]⟩ : ByteArray)).size + (rdOf ByteArray.empty l0_2 0).size ≤ 9223372036854775807
        ·rw [if_pos c18] at H
         have c18b0 := eq_true c18
         have c18b1 : decide ((a0_0 ++ (⟨#[61]⟩ : ByteArray)).size + (rdOf ByteArray.empty l0_2 0).size ≤ 9223372036854775807) = true := decide_eq_true c18
         try have c18b2 : (9223372036854775807 < (a0_0 ++ (⟨#[61]⟩ : ByteArray)).size + (rdOf ByteArray.empty l0_2 0).size) = False := eq_false (Nat.not_lt.2 c18)
         try have c18b3 : (9223372036854775807 < a0_0.size + 1 + (rdOf ByteArray.empty l0_2 0).size) = False := eq_false (Nat.not_lt.2 (by have h_ := c18; simp only [ByteArray.size_append] at h_; exact h_))
         obtain rfl := Option.some.inj H
         try go_wp2
         have n0_ := Aside0.mk (blk_drew BK227.out)
         have n1_ := Aside0.mk (below_drew1 HB.out)
         clear BK227
         clear HB
         have BK227 := n0_
         have HB := n1_
         clear n0_ n1_
         have p228 : 0 ≤ (0 : Int) := (by omega)
         have q228 : 0 < (l0_2.length : Int) := of_decide_eq_true (by first | (with_reducible assumption) | assumption)
         obtain ⟨ad228, e228, hx228_0⟩ := Kd.at_string HR0_2.out 0 p228 q228
         have hw228_0 := hx228_0
         (try rw [show ((0 : Int)).toNat = 0 from rfl] at hw228_0)
         (try rw [show 0 * 1 = 0 from rfl] at hw228_0)
         (try rw [Addr.add_zero'] at hw228_0)
         cases e228
         have qi228 : (0 < l0_2.length) = True := eq_true (by omega)
         (try rw [show ((0 : Int)).toNat = 0 from rfl] at hx228_0)
         (try rw [Addr.add_zero'] at hx228_0)
         replace hx228_0 := (HB.out.cell (World.block_lt_of_cell? w _ hx228_0)).trans hx228_0
         replace p228 := eq_true p228
         replace q228 := eq_true q228
         refine start_ (n := 9) (S := fun w' => w'.cell? ⟨gb227, 0, none⟩ = some (.string a0_0) ∧ w'.cell? ⟨gb227, 1, none⟩ = some (.int .i64 a0_1) ∧ w'.cell? ⟨gb227, 2, none⟩ = some (.slice (some ad228) l0_2.length c0_2) ∧ w'.cell? ad228 = some (.string (rdOf ByteArray.empty l0_2 0))) (ds := []) #[false, false, false, false, false, false, false, false, false] (by kernel_rfl) rfl rfl ⟨(blk_cell BK227.out 0).trans rfl, (blk_cell BK227.out 1).trans rfl, (blk_cell BK227.out 2).trans rfl, ((HB.out.cell (World.block_lt_of_cell? w _ hw228_0)).trans hw228_0)⟩ (fun hHeld => ?_); refine with_tabW label_printed.tab7 label_printed.bits7 (fun HT_ HW_ => ?_)
         generalize wc.drew = w19 at BK227 HB hx228_0 hHeld ⊢
         refine pure_ (i := 0) (N := some 30) (v := ?_) (a' := ?_) #[true, false, false, false, false, false, false, false, false] rfl rfl (any_of HT_.out (by kernel_rfl)) (fun _ _ _ h => h) (Or.inl ⟨by rfl, ?_⟩) ?_ ?_
         rotate_left
         ·intro w'
          go_simp
          with_reducible rfl
         rotate_left
         ·simp only [Act.put, List.setIfInBounds_toArray, List.set_cons_zero, List.set_cons_succ, i64_w, i32_w]
          rfl
         refine pure_ (i := 3) (N := some 33) (v := ?_) (a' := ?_) #[true, false, false, true, false, false, false, false, false] rfl rfl (any_of HT_.out (by kernel_rfl)) (fun _ _ _ h => h) (Or.inl ⟨by rfl, ?_⟩) ?_ ?_
         rotate_left
         ·intro w'
          go_simp
          with_reducible rfl
         rotate_left
         ·simp only [Act.put, List.setIfInBounds_toArray, List.set_cons_zero, List.set_cons_succ, i64_w, i32_w]
          rfl
         refine take_ (i := 1) (N := some 31) (v := ?_) (a' := ?_) #[true, true, false, true, false, false, false, false, false] rfl rfl (take_ofW HT_.out HW_.out (by kernel_rfl)) (fun _ _ _ h => h) (Or.inl ⟨by rfl, ?_⟩) hHeld ?_ ?_
         rotate_left
         ·rintro w' ⟨s0, s1, s2, s3⟩
          go_simp
          with_reducible rfl
         rotate_left
         ·simp only [Act.put, List.setIfInBounds_toArray, List.set_cons_zero, List.set_cons_succ, i64_w, i32_w]
          rfl
         refine pure_ (i := 2) (N := some 32) (v := ?_) (a' := ?_) #[true, true, true, true, false, false, false, false, false] rfl rfl (any_of HT_.out (by kernel_rfl)) (fun _ _ _ h => h) (Or.inl ⟨by rfl, ?_⟩) ?_ ?_
         rotate_left
         ·intro w'
          go_simp
          with_reducible rfl
         rotate_left
         ·simp only [Act.put, List.setIfInBounds_toArray, List.set_cons_zero, List.set_cons_succ, i64_w, i32_w]
          rfl
         refine take_ (i := 4) (N := some 34) (v := ?_) (a' := ?_) #[true, true, true, true, true, false, false, false, false] rfl rfl (take_ofW HT_.out HW_.out (by kernel_rfl)) (fun _ _ _ h => h) (Or.inl ⟨by rfl, ?_⟩) hHeld ?_ ?_
         rotate_left
         ·rintro w' ⟨s0, s1, s2, s3⟩
          go_simp
          with_reducible rfl
         rotate_left
         ·simp only [Act.put, List.setIfInBounds_toArray, List.set_cons_zero, List.set_cons_succ, i64_w, i32_w]
          rfl
         refine pure_ (i := 5) (N := some 35) (v := ?_) (a' := ?_) #[true, true, true, true, true, true, false, false, false] rfl rfl (any_of HT_.out (by kernel_rfl)) (fun _ _ _ h => h) (Or.inl ⟨by rfl, ?_⟩) ?_ ?_
         rotate_left
         ·intro w'
          go_simp
          with_reducible rfl
         rotate_left
         ·simp only [Act.put, List.setIfInBounds_toArray, List.set_cons_zero, List.set_cons_succ, i64_w, i32_w]
          rfl
         refine take_ (i := 6) (N := some 36) (v := ?_) (a' := ?_) #[true, true, true, true, true, true, true, false, false] rfl rfl (take_ofW HT_.out HW_.out (by kernel_rfl)) (fun _ _ _ h => h) (Or.inl ⟨by rfl, ?_⟩) hHeld ?_ ?_
         rotate_left
         ·rintro w' ⟨s0, s1, s2, s3⟩
          go_simp
          with_reducible rfl
         rotate_left
         ·simp only [Act.put, List.setIfInBounds_toArray, List.set_cons_zero, List.set_cons_succ, i64_w, i32_w]
          rfl
         refine pure_ (i := 7) (N := some 37) (v := ?_) (a' := ?_) #[true, true, true, true, true, true, true, true, false] rfl rfl (any_of HT_.out (by kernel_rfl)) (fun _ _ _ h => h) (Or.inl ⟨by rfl, ?_⟩) ?_ ?_
         rotate_left
         ·intro w'
          go_simp
          with_reducible rfl
         rotate_left
         ·simp only [Act.put, List.setIfInBounds_toArray, List.set_cons_zero, List.set_cons_succ, i64_w, i32_w]
          rfl
         refine pure_ (i := 8) (N := some 2) (v := ?_) (a' := ?_) #[true, true, true, true, true, true, true, true, true] rfl rfl (any_of HT_.out (by kernel_rfl)) (fun _ _ _ h => h) (Or.inl ⟨by rfl, ?_⟩) ?_ ?_
         rotate_left
         ·intro w'
          go_simp
          with_reducible rfl
         rotate_left
         ·simp only [Act.put, List.setIfInBounds_toArray, List.set_cons_zero, List.set_cons_succ, i64_w, i32_w]
          rfl
         refine done_ (done_of HT_.out (by kernel_rfl)) ?_
         try go_wp2
         go_ret
         exact ⟨by first | rfl | (simp [errW_none, errW_some] <;> rfl) | (simp [*, errW_none, errW_some] <;> rfl), by repeat (first | (with_reducible first | exact HB.out | apply below_alloc | apply pw_below_drewN | apply below_drew1 | refine below_set ?_ GE227.out) | exact HB.out)⟩
        ·rw [if_neg c18] at H
         exact absurd H (by simp)
       ·rw [if_neg c17] at H
        exact absurd H (by simp)
      ·rw [if_neg c16] at H
       exact absurd H (by simp)
     ·replace c15 := Bool.eq_false_iff.mpr c15
      subst c15
      have H1 : (if a0_1 = 1 then (label_printed.j1 kj8 (!(decide ((l0_2.length : Int) > 1))) a0_0 a0_1 l0_2) else (label_printed.j1 kj8 false a0_0 a0_1 l0_2)) = some r := by rw [if_neg (show ¬ (false = true) by decide)] at H; exact H
      clear H
      have H := H1
      clear H1
      have HC20 := Aside0.mk H
      clear H
      go_upto_region 8 with (fail)
      go_cut [38] (fun v38 wc => ∃ (kq : Nat) (x38_19 : Bool), v38 = .bool x38_19 ∧ Aside0 (label_printed.j1 kq x38_19 a0_0 a0_1 l0_2 = some r) ∧ Aside0 (kq ≤ kj8) ∧ Aside0 (wc.heap[gb227]? = some (.cells #[.string a0_0, .int .i64 a0_1, (.slice A0_2 l0_2.length c0_2)] 45 (0, 0))) ∧ Aside0 (Below w.heap.size w wc))
      case first =>
       have H := HC20.out
       clear HC20
       by_cases c21 : a0_1 = 1
       ·rw [if_pos c21] at H
        have c21b0 : (a0_1 == 1) = true := beq_iff_eq.mpr c21
        have c21b1 : (a0_1 != 1) = false := bne_eq_false_iff_eq.mpr c21
        clear c21
        (first | rw [c21b0] | (simp only [i64_w, i32_w]; rw [c21b0]) | skip)
        have H' := Aside0.mk H
        clear H
        have hcz22_0 : wc.cell? ⟨gb227, 0, none⟩ = some (.string a0_0) := (blk_cell BK227.out 0).trans rfl
        have hcz22_1 : wc.cell? ⟨gb227, 1, none⟩ = some (.int .i64 a0_1) := (blk_cell BK227.out 1).trans rfl
        have hcz22_2 : wc.cell? ⟨gb227, 2, none⟩ = some (.slice A0_2 l0_2.length c0_2) := (blk_cell BK227.out 2).trans rfl
        have hfz22_0 := blk_frozen BK227.out 0
        have hfz22_1 := blk_frozen BK227.out 1
        have hfz22_2 := blk_frozen BK227.out 2
        go_wp2
        go_meet
        case rel => exact ⟨_, (!(decide ((l0_2.length : Int) > 1))), (by first | rfl | (simp; done) | (simp [*]; done) | (simp; rw [Bool.eq_iff_iff]; simp; done) | (rw [Bool.eq_iff_iff]; simp; done)), H', ⟨by have := HJ8.out; first | omega | exact Nat.le_refl _⟩, ⟨by (with_reducible repeat (first | refine blk_drewN ?_ _ | refine blk_drew ?_ | refine blk_alloc ?_ _)); exact BK227.out⟩, ⟨by repeat (first | (with_reducible first | exact HB.out | apply below_alloc | apply pw_below_drewN | apply below_drew1 | refine below_set ?_ GE227.out) | exact HB.out)⟩⟩
       ·rw [if_neg c21] at H
        have c21b0 : (a0_1 == 1) = false := beq_eq_false_iff_ne.mpr c21
        have c21b1 : (a0_1 != 1) = true := bne_iff_ne.mpr c21
        (first | rw [c21b0] | (simp only [i64_w, i32_w]; rw [c21b0]) | skip)
        have H' := Aside0.mk H
        clear H
        have hcz23_0 : wc.cell? ⟨gb227, 0, none⟩ = some (.string a0_0) := (blk_cell BK227.out 0).trans rfl
        have hcz23_1 : wc.cell? ⟨gb227, 1, none⟩ = some (.int .i64 a0_1) := (blk_cell BK227.out 1).trans rfl
        have hcz23_2 : wc.cell? ⟨gb227, 2, none⟩ = some (.slice A0_2 l0_2.length c0_2) := (blk_cell BK227.out 2).trans rfl
        have hfz23_0 := blk_frozen BK227.out 0
        have hfz23_1 := blk_frozen BK227.out 1
        have hfz23_2 := blk_frozen BK227.out 2
        go_wp2
        go_meet
        case rel => exact ⟨_, (false), (by first | rfl | (simp; done) | (simp [*]; done) | (simp; rw [Bool.eq_iff_iff]; simp; done) | (rw [Bool.eq_iff_iff]; simp; done)), H', ⟨by have := HJ8.out; first | omega | exact Nat.le_refl _⟩, ⟨by (with_reducible repeat (first | refine blk_drewN ?_ _ | refine blk_drew ?_ | refine blk_alloc ?_ _)); exact BK227.out⟩, ⟨by repeat (first | (with_reducible first | exact HB.out | apply below_alloc | apply pw_below_drewN | apply below_drew1 | refine below_set ?_ GE227.out) | exact HB.out)⟩⟩
      case rest =>
       clear HC20
       try clear c1
       try clear c2
       try clear c2b0
       try clear c2b1
       try clear p2
       try clear q2
       try clear hx2
       try clear qi2
       try clear c4
       try clear c5
       try clear c5b0
       try clear c5b1
       try clear c6
       try clear c6b0
       try clear c6b1
       try clear c6b2
       try clear c12
       try clear c12b0
       try clear c12b1
       try clear c15
       try clear c16
       try clear c16b0
       try clear c16b1
       try clear c16b2
       try clear c17
       try clear c17b0
       try clear c17b1
       try clear c18
       try clear c18b0
       try clear c18b1
       try clear c18b2
       try clear c21
       try clear c21b0
       try clear c21b1
       try clear p22
       try clear q22
       try clear hx22
       try clear qi22
       try clear hcz11_0
       try clear hcz11_1
       try clear hcz11_2
       try clear hcz13_0
       try clear hcz13_1
       try clear hcz13_2
       try clear hcz14_0
       try clear hcz14_1
       try clear hcz14_2
       try clear hcz22_0
       try clear hcz22_1
       try clear hcz22_2
       try clear hcz23_0
       try clear hcz23_1
       try clear hcz23_2
       try clear hcz4_0
       try clear hcz4_1
       try clear hcz4_2
       try clear hcz8_0
       try clear hcz8_1
       try clear hcz8_2
       try clear hfz11_0
       try clear hfz11_1
       try clear hfz11_2
       try clear hfz13_0
       try clear hfz13_1
       try clear hfz13_2
       try clear hfz14_0
       try clear hfz14_1
       try clear hfz14_2
       try clear hfz22_0
       try clear hfz22_1
       try clear hfz22_2
       try clear hfz23_0
       try clear hfz23_1
       try clear hfz23_2
       try clear hfz4_0
       try clear hfz4_1
       try clear hfz4_2
       try clear hfz8_0
       try clear hfz8_1
       try clear hfz8_2
       try clear hx228_0
       try clear p2
       try clear p228
       try clear q228
       obtain ⟨kq, x38_19, rfl, HA, HJ19, BK227, HB⟩ := hcut
       cases kq with
       | zero => exact absurd HA.out (by simp [label_printed.j1])
       | succ kj19 =>
        have H := HA.out
        clear HA
        simp only [label_printed.j1] at H
        by_cases c24 : x38_19 = true
        ·subst c24
         have H1 : (if a0_0.size + 2 ≤ 9223372036854775807 then (if 0 < (l0_2.length : Int) then (if (a0_0 ++ (⟨#[33, 61]⟩ : ByteArray)).size + (rdOf ByteArray.empty l0_2 0).size ≤ 9223372036854775807 then (some ((a0_0 ++ (⟨#[33, 61]⟩ : ByteArray)) ++ (rdOf ByteArray.empty l0_2 0))) else (none)) else (none)) else (none)) = some r := by rw [if_pos rfl] at H; exact H
         clear H
         have H := H1
         clear H1
         by_cases c25 : a0_0.size + 2 ≤ 9223372036854775807
         ·rw [if_pos c25] at H
          have c25b0 := eq_true c25
          have c25b1 : decide (a0_0.size + 2 ≤ 9223372036854775807) = true := decide_eq_true c25
          try have c25b2 : (9223372036854775807 < a0_0.size + 2) = False := eq_false (Nat.not_lt.2 c25)
          by_cases c26 : 0 < (l0_2.length : Int)
          ·rw [if_pos c26] at H
           have c26b0 : decide (0 < (l0_2.length : Int)) = true := decide_eq_true c26
           have c26b1 : decide (0 < l0_2.length) = true := decide_eq_true (by omega)
           clear c26
           by_cases c27 : (a0_0 ++ (⟨#[33, 61]⟩ : ByteArray)).size + (rdOf ByteArray.empty l0_2 0).size ≤ 9223372036854775807
           ·rw [if_pos c27] at H
            have c27b0 := eq_true c27
            have c27b1 : decide ((a0_0 ++ (⟨#[33, 61]⟩ : ByteArray)).size + (rdOf ByteArray.empty l0_2 0).size ≤ 9223372036854775807) = true := decide_eq_true c27
            try have c27b2 : (9223372036854775807 < (a0_0 ++ (⟨#[33, 61]⟩ : ByteArray)).size + (rdOf ByteArray.empty l0_2 0).size) = False := eq_false (Nat.not_lt.2 c27)
            try have c27b3 : (9223372036854775807 < a0_0.size + 2 + (rdOf ByteArray.empty l0_2 0).size) = False := eq_false (Nat.not_lt.2 (by have h_ := c27; simp only [ByteArray.size_append] at h_; exact h_))
            obtain rfl := Option.some.inj H
            try go_wp2
            have n0_ := Aside0.mk (blk_drew BK227.out)
            have n1_ := Aside0.mk (below_drew1 HB.out)
            clear BK227
            clear HB
            have BK227 := n0_
            have HB := n1_
            clear n0_ n1_
            have p229 : 0 ≤ (0 : Int) := (by omega)
            have q229 : 0 < (l0_2.length : Int) := of_decide_eq_true (by first | (with_reducible assumption) | assumption)
            obtain ⟨ad229, e229, hx229_0⟩ := Kd.at_string HR0_2.out 0 p229 q229
            have hw229_0 := hx229_0
            (try rw [show ((0 : Int)).toNat = 0 from rfl] at hw229_0)
            (try rw [show 0 * 1 = 0 from rfl] at hw229_0)
            (try rw [Addr.add_zero'] at hw229_0)
            cases e229
            have qi229 : (0 < l0_2.length) = True := eq_true (by omega)
            (try rw [show ((0 : Int)).toNat = 0 from rfl] at hx229_0)
            (try rw [Addr.add_zero'] at hx229_0)
            replace hx229_0 := (HB.out.cell (World.block_lt_of_cell? w _ hx229_0)).trans hx229_0
            replace p229 := eq_true p229
            replace q229 := eq_true q229
            refine start_ (n := 9) (S := fun w' => w'.cell? ⟨gb227, 0, none⟩ = some (.string a0_0) ∧ w'.cell? ⟨gb227, 1, none⟩ = some (.int .i64 a0_1) ∧ w'.cell? ⟨gb227, 2, none⟩ = some (.slice (some ad229) l0_2.length c0_2) ∧ w'.cell? ad229 = some (.string (rdOf ByteArray.empty l0_2 0))) (ds := []) #[false, false, false, false, false, false, false, false, false] (by kernel_rfl) rfl rfl ⟨(blk_cell BK227.out 0).trans rfl, (blk_cell BK227.out 1).trans rfl, (blk_cell BK227.out 2).trans rfl, ((HB.out.cell (World.block_lt_of_cell? w _ hw229_0)).trans hw229_0)⟩ (fun hHeld => ?_); refine with_tabW label_printed.tab9 label_printed.bits9 (fun HT_ HW_ => ?_)
            generalize wc.drew = w28 at BK227 HB hx229_0 hHeld ⊢
            refine pure_ (i := 0) (N := some 46) (v := ?_) (a' := ?_) #[true, false, false, false, false, false, false, false, false] rfl rfl (any_of HT_.out (by kernel_rfl)) (fun _ _ _ h => h) (Or.inl ⟨by rfl, ?_⟩) ?_ ?_
            rotate_left
            ·intro w'
             go_simp
             with_reducible rfl
            rotate_left
            ·simp only [Act.put, List.setIfInBounds_toArray, List.set_cons_zero, List.set_cons_succ, i64_w, i32_w]
             rfl
            refine pure_ (i := 3) (N := some 49) (v := ?_) (a' := ?_) #[true, false, false, true, false, false, false, false, false] rfl rfl (any_of HT_.out (by kernel_rfl)) (fun _ _ _ h => h) (Or.inl ⟨by rfl, ?_⟩) ?_ ?_
            rotate_left
            ·intro w'
             go_simp
             with_reducible rfl
            rotate_left
            ·simp only [Act.put, List.setIfInBounds_toArray, List.set_cons_zero, List.set_cons_succ, i64_w, i32_w]
             rfl
            refine take_ (i := 1) (N := some 47) (v := ?_) (a' := ?_) #[true, true, false, true, false, false, false, false, false] rfl rfl (take_ofW HT_.out HW_.out (by kernel_rfl)) (fun _ _ _ h => h) (Or.inl ⟨by rfl, ?_⟩) hHeld ?_ ?_
            rotate_left
            ·rintro w' ⟨s0, s1, s2, s3⟩
             go_simp
             with_reducible rfl
            rotate_left
            ·simp only [Act.put, List.setIfInBounds_toArray, List.set_cons_zero, List.set_cons_succ, i64_w, i32_w]
             rfl
            refine pure_ (i := 2) (N := some 48) (v := ?_) (a' := ?_) #[true, true, true, true, false, false, false, false, false] rfl rfl (any_of HT_.out (by kernel_rfl)) (fun _ _ _ h => h) (Or.inl ⟨by rfl, ?_⟩) ?_ ?_
            rotate_left
            ·intro w'
             go_simp
             with_reducible rfl
            rotate_left
            ·simp only [Act.put, List.setIfInBounds_toArray, List.set_cons_zero, List.set_cons_succ, i64_w, i32_w]
             rfl
            refine take_ (i := 4) (N := some 50) (v := ?_) (a' := ?_) #[true, true, true, true, true, false, false, false, false] rfl rfl (take_ofW HT_.out HW_.out (by kernel_rfl)) (fun _ _ _ h => h) (Or.inl ⟨by rfl, ?_⟩) hHeld ?_ ?_
            rotate_left
            ·rintro w' ⟨s0, s1, s2, s3⟩
             go_simp
             with_reducible rfl
            rotate_left
            ·simp only [Act.put, List.setIfInBounds_toArray, List.set_cons_zero, List.set_cons_succ, i64_w, i32_w]
             rfl
            refine pure_ (i := 5) (N := some 51) (v := ?_) (a' := ?_) #[true, true, true, true, true, true, false, false, false] rfl rfl (any_of HT_.out (by kernel_rfl)) (fun _ _ _ h => h) (Or.inl ⟨by rfl, ?_⟩) ?_ ?_
            rotate_left
            ·intro w'
             go_simp
             with_reducible rfl
            rotate_left
            ·simp only [Act.put, List.setIfInBounds_toArray, List.set_cons_zero, List.set_cons_succ, i64_w, i32_w]
             rfl
            refine take_ (i := 6) (N := some 52) (v := ?_) (a' := ?_) #[true, true, true, true, true, true, true, false, false] rfl rfl (take_ofW HT_.out HW_.out (by kernel_rfl)) (fun _ _ _ h => h) (Or.inl ⟨by rfl, ?_⟩) hHeld ?_ ?_
            rotate_left
            ·rintro w' ⟨s0, s1, s2, s3⟩
             go_simp
             with_reducible rfl
            rotate_left
            ·simp only [Act.put, List.setIfInBounds_toArray, List.set_cons_zero, List.set_cons_succ, i64_w, i32_w]
             rfl
            refine pure_ (i := 7) (N := some 53) (v := ?_) (a' := ?_) #[true, true, true, true, true, true, true, true, false] rfl rfl (any_of HT_.out (by kernel_rfl)) (fun _ _ _ h => h) (Or.inl ⟨by rfl, ?_⟩) ?_ ?_
            rotate_left
            ·intro w'
             go_simp
             with_reducible rfl
            rotate_left
            ·simp only [Act.put, List.setIfInBounds_toArray, List.set_cons_zero, List.set_cons_succ, i64_w, i32_w]
             rfl
            refine pure_ (i := 8) (N := some 2) (v := ?_) (a' := ?_) #[true, true, true, true, true, true, true, true, true] rfl rfl (any_of HT_.out (by kernel_rfl)) (fun _ _ _ h => h) (Or.inl ⟨by rfl, ?_⟩) ?_ ?_
            rotate_left
            ·intro w'
             go_simp
             with_reducible rfl
            rotate_left
            ·simp only [Act.put, List.setIfInBounds_toArray, List.set_cons_zero, List.set_cons_succ, i64_w, i32_w]
             rfl
            refine done_ (done_of HT_.out (by kernel_rfl)) ?_
            try go_wp2
            go_ret
            exact ⟨by first | rfl | (simp [errW_none, errW_some] <;> rfl) | (simp [*, errW_none, errW_some] <;> rfl), by repeat (first | (with_reducible first | exact HB.out | apply below_alloc | apply pw_below_drewN | apply below_drew1 | refine below_set ?_ GE227.out) | exact HB.out)⟩
           ·rw [if_neg c27] at H
            exact absurd H (by simp)
          ·rw [if_neg c26] at H
           exact absurd H (by simp)
         ·rw [if_neg c25] at H
          exact absurd H (by simp)
        ·replace c24 := Bool.eq_false_iff.mpr c24
         subst c24
         have H1 : (if a0_1 = 1 then (if a0_0.size + 8 ≤ 9223372036854775807 then ((strings_Join.f l0_2 (⟨#[32]⟩ : ByteArray)).bind fun t230 => (if (a0_0 ++ (⟨#[32, 110, 111, 116, 105, 110, 32, 40]⟩ : ByteArray)).size + t230.size ≤ 9223372036854775807 then (if ((a0_0 ++ (⟨#[32, 110, 111, 116, 105, 110, 32, 40]⟩ : ByteArray)) ++ t230).size + 1 ≤ 9223372036854775807 then (some (((a0_0 ++ (⟨#[32, 110, 111, 116, 105, 110, 32, 40]⟩ : ByteArray)) ++ t230) ++ (⟨#[41]⟩ : ByteArray))) else (none)) else (none))) else (none)) else (if a0_0.size + 5 ≤ 9223372036854775807 then ((strings_Join.f l0_2 (⟨#[32]⟩ : ByteArray)).bind fun t231 => (if (a0_0 ++ (⟨#[32, 105, 110, 32, 40]⟩ : ByteArray)).size + t231.size ≤ 9223372036854775807 then (if ((a0_0 ++ (⟨#[32, 105, 110, 32, 40]⟩ : ByteArray)) ++ t231).size + 1 ≤ 9223372036854775807 then (some (((a0_0 ++ (⟨#[32, 105, 110, 32, 40]⟩ : ByteArray)) ++ t231) ++ (⟨#[41]⟩ : ByteArray))) else (none)) else (none))) else (none))) = some r := by rw [if_neg (show ¬ (false = true) by decide)] at H; exact H
         clear H
         have H := H1
         clear H1
         by_cases c29 : a0_1 = 1
         ·rw [if_pos c29] at H
          have c29b0 : (a0_1 == 1) = true := beq_iff_eq.mpr c29
          have c29b1 : (a0_1 != 1) = false := bne_eq_false_iff_eq.mpr c29
          clear c29
          by_cases c30 : a0_0.size + 8 ≤ 9223372036854775807
          ·rw [if_pos c30] at H
           have c30b0 := eq_true c30
           have c30b1 : decide (a0_0.size + 8 ≤ 9223372036854775807) = true := decide_eq_true c30
           try have c30b2 : (9223372036854775807 < a0_0.size + 8) = False := eq_false (Nat.not_lt.2 c30)
           replace H := Option.bind_eq_some_iff.mp H
           obtain ⟨t230, A310, H⟩ := H
           replace H : (if (a0_0 ++ (⟨#[32, 110, 111, 116, 105, 110, 32, 40]⟩ : ByteArray)).size + t230.size ≤ 9223372036854775807 then (if ((a0_0 ++ (⟨#[32, 110, 111, 116, 105, 110, 32, 40]⟩ : ByteArray)) ++ t230).size + 1 ≤ 9223372036854775807 then (some (((a0_0 ++ (⟨#[32, 110, 111, 116, 105, 110, 32, 40]⟩ : ByteArray)) ++ t230) ++ (⟨#[41]⟩ : ByteArray))) else (none)) else (none)) = some r := H
           have A31 := Aside0.mk A310
           clear A310
           by_cases c32 : (a0_0 ++ (⟨#[32, 110, 111, 116, 105, 110, 32, 40]⟩ : ByteArray)).size + t230.size ≤ 9223372036854775807
           ·rw [if_pos c32] at H
            have c32b0 := eq_true c32
            have c32b1 : decide ((a0_0 ++ (⟨#[32, 110, 111, 116, 105, 110, 32, 40]⟩ : ByteArray)).size + t230.size ≤ 9223372036854775807) = true := decide_eq_true c32
            try have c32b2 : (9223372036854775807 < (a0_0 ++ (⟨#[32, 110, 111, 116, 105, 110, 32, 40]⟩ : ByteArray)).size + t230.size) = False := eq_false (Nat.not_lt.2 c32)
            try have c32b3 : (9223372036854775807 < a0_0.size + 8 + t230.size) = False := eq_false (Nat.not_lt.2 (by have h_ := c32; simp only [ByteArray.size_append] at h_; exact h_))
            by_cases c33 : ((a0_0 ++ (⟨#[32, 110, 111, 116, 105, 110, 32, 40]⟩ : ByteArray)) ++ t230).size + 1 ≤ 9223372036854775807
            ·rw [if_pos c33] at H
             have c33b0 := eq_true c33
             have c33b1 : decide (((a0_0 ++ (⟨#[32, 110, 111, 116, 105, 110, 32, 40]⟩ : ByteArray)) ++ t230).size + 1 ≤ 9223372036854775807) = true := decide_eq_true c33
             try have c33b2 : (9223372036854775807 < ((a0_0 ++ (⟨#[32, 110, 111, 116, 105, 110, 32, 40]⟩ : ByteArray)) ++ t230).size + 1) = False := eq_false (Nat.not_lt.2 c33)
             try have c33b3 : (9223372036854775807 < a0_0.size + 8 + t230.size + 1) = False := eq_false (Nat.not_lt.2 (by have h_ := c33; simp only [ByteArray.size_append] at h_; exact h_))
             obtain rfl := Option.some.inj H
             have hcz34_0 : wc.cell? ⟨gb227, 0, none⟩ = some (.string a0_0) := (blk_cell BK227.out 0).trans rfl
             have hcz34_1 : wc.cell? ⟨gb227, 1, none⟩ = some (.int .i64 a0_1) := (blk_cell BK227.out 1).trans rfl
             have hcz34_2 : wc.cell? ⟨gb227, 2, none⟩ = some (.slice A0_2 l0_2.length c0_2) := (blk_cell BK227.out 2).trans rfl
             have hfz34_0 := blk_frozen BK227.out 0
             have hfz34_1 := blk_frozen BK227.out 1
             have hfz34_2 := blk_frozen BK227.out 2
             try go_wp2
             have n0_ := Aside0.mk (blk_drew BK227.out)
             have n1_ := Aside0.mk (below_drew1 HB.out)
             clear BK227
             clear HB
             have BK227 := n0_
             have HB := n1_
             clear n0_ n1_
             refine start_ (n := 10) (S := fun w' => w'.cell? ⟨gb227, 0, none⟩ = some (.string a0_0) ∧ w'.cell? ⟨gb227, 1, none⟩ = some (.int .i64 a0_1) ∧ w'.cell? ⟨gb227, 2, none⟩ = some (.slice A0_2 l0_2.length c0_2)) (ds := []) #[false, false, false, false, false, false, false, false, false, false] (by kernel_rfl) rfl rfl ⟨(blk_cell BK227.out 0).trans rfl, (blk_cell BK227.out 1).trans rfl, (blk_cell BK227.out 2).trans rfl⟩ (fun hHeld => ?_); refine with_tabW label_printed.tab13 label_printed.bits13 (fun HT_ HW_ => ?_)
             generalize wc.drew = w35 at BK227 HB hHeld ⊢
             refine pure_ (i := 0) (N := some 57) (v := ?_) (a' := ?_) #[true, false, false, false, false, false, false, false, false, false] rfl rfl (any_of HT_.out (by kernel_rfl)) (fun _ _ _ h => h) (Or.inl ⟨by rfl, ?_⟩) ?_ ?_
             rotate_left
             ·intro w'
              go_simp
              with_reducible rfl
             rotate_left
             ·simp only [Act.put, List.setIfInBounds_toArray, List.set_cons_zero, List.set_cons_succ, i64_w, i32_w]
              rfl
             refine pure_ (i := 2) (N := some 59) (v := ?_) (a' := ?_) #[true, false, true, false, false, false, false, false, false, false] rfl rfl (any_of HT_.out (by kernel_rfl)) (fun _ _ _ h => h) (Or.inl ⟨by rfl, ?_⟩) ?_ ?_
             rotate_left
             ·intro w'
              go_simp
              with_reducible rfl
             rotate_left
             ·simp only [Act.put, List.setIfInBounds_toArray, List.set_cons_zero, List.set_cons_succ, i64_w, i32_w]
              rfl
             refine pure_ (i := 4) (N := some 61) (v := ?_) (a' := ?_) #[true, false, true, false, true, false, false, false, false, false] rfl rfl (any_of HT_.out (by kernel_rfl)) (fun _ _ _ h => h) (Or.inl ⟨by rfl, ?_⟩) ?_ ?_
             rotate_left
             ·intro w'
              go_simp
              with_reducible rfl
             rotate_left
             ·simp only [Act.put, List.setIfInBounds_toArray, List.set_cons_zero, List.set_cons_succ, i64_w, i32_w]
              rfl
             refine take_ (i := 1) (N := some 58) (v := ?_) (a' := ?_) #[true, true, true, false, true, false, false, false, false, false] rfl rfl (take_ofW HT_.out HW_.out (by kernel_rfl)) (fun _ _ _ h => h) (Or.inl ⟨by rfl, ?_⟩) hHeld ?_ ?_
             rotate_left
             ·rintro w' ⟨s0, s1, s2⟩
              go_simp
              with_reducible rfl
             rotate_left
             ·simp only [Act.put, List.setIfInBounds_toArray, List.set_cons_zero, List.set_cons_succ, i64_w, i32_w]
              rfl
             refine pure_ (i := 3) (N := some 60) (v := ?_) (a' := ?_) #[true, true, true, true, true, false, false, false, false, false] rfl rfl (any_of HT_.out (by kernel_rfl)) (fun _ _ _ h => h) (Or.inl ⟨by rfl, ?_⟩) ?_ ?_
             rotate_left
             ·intro w'
              go_simp
              with_reducible rfl
             rotate_left
             ·simp only [Act.put, List.setIfInBounds_toArray, List.set_cons_zero, List.set_cons_succ, i64_w, i32_w]
              rfl
             refine take_ (i := 5) (N := some 62) (v := ?_) (a' := ?_) #[true, true, true, true, true, true, false, false, false, false] rfl rfl (take_ofW HT_.out HW_.out (by kernel_rfl)) (fun _ _ _ h => h) (Or.inl ⟨by rfl, ?_⟩) hHeld ?_ ?_
             rotate_left
             ·rintro w' ⟨s0, s1, s2⟩
              go_simp
              with_reducible rfl
             rotate_left
             ·simp only [Act.put, List.setIfInBounds_toArray, List.set_cons_zero, List.set_cons_succ, i64_w, i32_w]
              rfl
             refine one_ (i := 6) (N := some 63) #[true, true, true, true, true, true, true, false, false, false] rfl rfl (one_of HT_.out (by kernel_rfl)) (by decide) (fun K hK => ?_)
             refine goes_ Tryd.func47 (by kernel_rfl) rfl #[.slice A0_2 l0_2.length c0_2, .string (⟨#[32]⟩ : ByteArray)] (by rfl) rfl rfl (by (try simp only [List.map_toArray, List.map_cons, List.map_nil]); first | done | rfl | (simp only [List.length_drop, List.length_take]; rfl)) ?_
             with_reducible refine (strings_Join.calls _ _ l0_2 (⟨#[32]⟩ : ByteArray) t230 _ ?side1 ?side2 A31.out).mono ?_
             (case side1 => repeat (first | exact (Kd.C_below HR0_2.out HB.out) | (with_reducible refine Kd.C_alloc ?_ _) | (with_reducible refine Kd.C_drewN ?_ _) | (with_reducible refine Kd.C_drew ?_)))
             (case side2 => exact HC0_2.out)
             rintro e w36 ⟨rfl, hb⟩
             refine ⟨_, rfl, ?_⟩
             have n0_ := Aside0.mk (blk_below (g := gb227) (o := .cells #[.string a0_0, .int .i64 a0_1, .slice A0_2 l0_2.length c0_2] 45 (0, 0)) (by (with_reducible repeat (first | refine blk_drewN ?_ _ | refine blk_drew ?_ | refine blk_alloc ?_ _)); exact BK227.out) hb)
             have n1_ := Aside0.mk (below_step (by repeat (first | (with_reducible first | exact HB.out | apply below_alloc | apply pw_below_drewN | apply below_drew1 | refine below_set ?_ GE227.out) | exact HB.out)) hb)
             clear BK227
             clear HB
             have BK227 := n0_
             have HB := n1_
             clear n0_ n1_
             (try clear hb)
             (try clear hb2)
             (try clear hk)
             (try clear hi)
             refine hK.out _ _ ⟨(blk_cell BK227.out 0).trans rfl, (blk_cell BK227.out 1).trans rfl, (blk_cell BK227.out 2).trans rfl⟩ (fun hHeld => ?_)
             clear hK K
             refine norm_ (a' := ?_) ?_ ?_
             rotate_left
             ·show Act.put _ (some 63) _ = _
              simp only [Act.put, List.setIfInBounds_toArray, List.set_cons_zero, List.set_cons_succ, i64_w, i32_w]
              rfl
             refine pure_ (i := 7) (N := some 64) (v := ?_) (a' := ?_) #[true, true, true, true, true, true, true, true, false, false] rfl rfl (any_of HT_.out (by kernel_rfl)) (fun _ _ _ h => h) (Or.inl ⟨by rfl, ?_⟩) ?_ ?_
             rotate_left
             ·intro w'
              go_simp
              with_reducible rfl
             rotate_left
             ·simp only [Act.put, List.setIfInBounds_toArray, List.set_cons_zero, List.set_cons_succ, i64_w, i32_w]
              rfl
             refine pure_ (i := 8) (N := some 65) (v := ?_) (a' := ?_) #[true, true, true, true, true, true, true, true, true, false] rfl rfl (any_of HT_.out (by kernel_rfl)) (fun _ _ _ h => h) (Or.inl ⟨by rfl, ?_⟩) ?_ ?_
             rotate_left
             ·intro w'
              go_simp
              with_reducible rfl
             rotate_left
             ·simp only [Act.put, List.setIfInBounds_toArray, List.set_cons_zero, List.set_cons_succ, i64_w, i32_w]
              rfl
             refine pure_ (i := 9) (N := some 2) (v := ?_) (a' := ?_) #[true, true, true, true, true, true, true, true, true, true] rfl rfl (any_of HT_.out (by kernel_rfl)) (fun _ _ _ h => h) (Or.inl ⟨by rfl, ?_⟩) ?_ ?_
             rotate_left
             ·intro w'
              go_simp
              with_reducible rfl
             rotate_left
             ·simp only [Act.put, List.setIfInBounds_toArray, List.set_cons_zero, List.set_cons_succ, i64_w, i32_w]
              rfl
             refine done_ (done_of HT_.out (by kernel_rfl)) ?_
             try go_wp2
             go_ret
             exact ⟨by first | rfl | (simp [errW_none, errW_some] <;> rfl) | (simp [*, errW_none, errW_some] <;> rfl), by repeat (first | (with_reducible first | exact HB.out | apply below_alloc | apply pw_below_drewN | apply below_drew1 | refine below_set ?_ GE227.out) | exact HB.out)⟩
            ·rw [if_neg c33] at H
             exact absurd H (by simp)
           ·rw [if_neg c32] at H
            exact absurd H (by simp)
          ·rw [if_neg c30] at H
           exact absurd H (by simp)
         ·rw [if_neg c29] at H
          have c29b0 : (a0_1 == 1) = false := beq_eq_false_iff_ne.mpr c29
          have c29b1 : (a0_1 != 1) = true := bne_iff_ne.mpr c29
          by_cases c37 : a0_0.size + 5 ≤ 9223372036854775807
          ·rw [if_pos c37] at H
           have c37b0 := eq_true c37
           have c37b1 : decide (a0_0.size + 5 ≤ 9223372036854775807) = true := decide_eq_true c37
           try have c37b2 : (9223372036854775807 < a0_0.size + 5) = False := eq_false (Nat.not_lt.2 c37)
           replace H := Option.bind_eq_some_iff.mp H
           obtain ⟨t231, A380, H⟩ := H
           replace H : (if (a0_0 ++ (⟨#[32, 105, 110, 32, 40]⟩ : ByteArray)).size + t231.size ≤ 9223372036854775807 then (if ((a0_0 ++ (⟨#[32, 105, 110, 32, 40]⟩ : ByteArray)) ++ t231).size + 1 ≤ 9223372036854775807 then (some (((a0_0 ++ (⟨#[32, 105, 110, 32, 40]⟩ : ByteArray)) ++ t231) ++ (⟨#[41]⟩ : ByteArray))) else (none)) else (none)) = some r := H
           have A38 := Aside0.mk A380
           clear A380
           by_cases c39 : (a0_0 ++ (⟨#[32, 105, 110, 32, 40]⟩ : ByteArray)).size + t231.size ≤ 9223372036854775807
           ·rw [if_pos c39] at H
            have c39b0 := eq_true c39
            have c39b1 : decide ((a0_0 ++ (⟨#[32, 105, 110, 32, 40]⟩ : ByteArray)).size + t231.size ≤ 9223372036854775807) = true := decide_eq_true c39
            try have c39b2 : (9223372036854775807 < (a0_0 ++ (⟨#[32, 105, 110, 32, 40]⟩ : ByteArray)).size + t231.size) = False := eq_false (Nat.not_lt.2 c39)
            try have c39b3 : (9223372036854775807 < a0_0.size + 5 + t231.size) = False := eq_false (Nat.not_lt.2 (by have h_ := c39; simp only [ByteArray.size_append] at h_; exact h_))
            by_cases c40 : ((a0_0 ++ (⟨#[32, 105, 110, 32, 40]⟩ : ByteArray)) ++ t231).size + 1 ≤ 9223372036854775807
            ·rw [if_pos c40] at H
             have c40b0 := eq_true c40
             have c40b1 : decide (((a0_0 ++ (⟨#[32, 105, 110, 32, 40]⟩ : ByteArray)) ++ t231).size + 1 ≤ 9223372036854775807) = true := decide_eq_true c40
             try have c40b2 : (9223372036854775807 < ((a0_0 ++ (⟨#[32, 105, 110, 32, 40]⟩ : ByteArray)) ++ t231).size + 1) = False := eq_false (Nat.not_lt.2 c40)
             try have c40b3 : (9223372036854775807 < a0_0.size + 5 + t231.size + 1) = False := eq_false (Nat.not_lt.2 (by have h_ := c40; simp only [ByteArray.size_append] at h_; exact h_))
             obtain rfl := Option.some.inj H
             have hcz41_0 : wc.cell? ⟨gb227, 0, none⟩ = some (.string a0_0) := (blk_cell BK227.out 0).trans rfl
             have hcz41_1 : wc.cell? ⟨gb227, 1, none⟩ = some (.int .i64 a0_1) := (blk_cell BK227.out 1).trans rfl
             have hcz41_2 : wc.cell? ⟨gb227, 2, none⟩ = some (.slice A0_2 l0_2.length c0_2) := (blk_cell BK227.out 2).trans rfl
             have hfz41_0 := blk_frozen BK227.out 0
             have hfz41_1 := blk_frozen BK227.out 1
             have hfz41_2 := blk_frozen BK227.out 2
             try go_wp2
             have n0_ := Aside0.mk (blk_drew BK227.out)
             have n1_ := Aside0.mk (below_drew1 HB.out)
             clear BK227
             clear HB
             have BK227 := n0_
             have HB := n1_
             clear n0_ n1_
             refine start_ (n := 10) (S := fun w' => w'.cell? ⟨gb227, 0, none⟩ = some (.string a0_0) ∧ w'.cell? ⟨gb227, 1, none⟩ = some (.int .i64 a0_1) ∧ w'.cell? ⟨gb227, 2, none⟩ = some (.slice A0_2 l0_2.length c0_2)) (ds := []) #[false, false, false, false, false, false, false, false, false, false] (by kernel_rfl) rfl rfl ⟨(blk_cell BK227.out 0).trans rfl, (blk_cell BK227.out 1).trans rfl, (blk_cell BK227.out 2).trans rfl⟩ (fun hHeld => ?_); refine with_tabW label_printed.tab13 label_printed.bits13 (fun HT_ HW_ => ?_)
             generalize wc.drew = w42 at BK227 HB hHeld ⊢
             refine pure_ (i := 0) (N := some 57) (v := ?_) (a' := ?_) #[true, false, false, false, false, false, false, false, false, false] rfl rfl (any_of HT_.out (by kernel_rfl)) (fun _ _ _ h => h) (Or.inl ⟨by rfl, ?_⟩) ?_ ?_
             rotate_left
             ·intro w'
              go_simp
              with_reducible rfl
             rotate_left
             ·simp only [Act.put, List.setIfInBounds_toArray, List.set_cons_zero, List.set_cons_succ, i64_w, i32_w]
              rfl
             refine pure_ (i := 2) (N := some 59) (v := ?_) (a' := ?_) #[true, false, true, false, false, false, false, false, false, false] rfl rfl (any_of HT_.out (by kernel_rfl)) (fun _ _ _ h => h) (Or.inl ⟨by rfl, ?_⟩) ?_ ?_
             rotate_left
             ·intro w'
              go_simp
              with_reducible rfl
             rotate_left
             ·simp only [Act.put, List.setIfInBounds_toArray, List.set_cons_zero, List.set_cons_succ, i64_w, i32_w]
              rfl
             refine pure_ (i := 4) (N := some 61) (v := ?_) (a' := ?_) #[true, false, true, false, true, false, false, false, false, false] rfl rfl (any_of HT_.out (by kernel_rfl)) (fun _ _ _ h => h) (Or.inl ⟨by rfl, ?_⟩) ?_ ?_
             rotate_left
             ·intro w'
              go_simp
              with_reducible rfl
             rotate_left
             ·simp only [Act.put, List.setIfInBounds_toArray, List.set_cons_zero, List.set_cons_succ, i64_w, i32_w]
              rfl
             refine take_ (i := 1) (N := some 58) (v := ?_) (a' := ?_) #[true, true, true, false, true, false, false, false, false, false] rfl rfl (take_ofW HT_.out HW_.out (by kernel_rfl)) (fun _ _ _ h => h) (Or.inl ⟨by rfl, ?_⟩) hHeld ?_ ?_
             rotate_left
             ·rintro w' ⟨s0, s1, s2⟩
              go_simp
              with_reducible rfl
             rotate_left
             ·simp only [Act.put, List.setIfInBounds_toArray, List.set_cons_zero, List.set_cons_succ, i64_w, i32_w]
              rfl
             refine pure_ (i := 3) (N := some 60) (v := ?_) (a' := ?_) #[true, true, true, true, true, false, false, false, false, false] rfl rfl (any_of HT_.out (by kernel_rfl)) (fun _ _ _ h => h) (Or.inl ⟨by rfl, ?_⟩) ?_ ?_
             rotate_left
             ·intro w'
              go_simp
              with_reducible rfl
             rotate_left
             ·simp only [Act.put, List.setIfInBounds_toArray, List.set_cons_zero, List.set_cons_succ, i64_w, i32_w]
              rfl
             refine take_ (i := 5) (N := some 62) (v := ?_) (a' := ?_) #[true, true, true, true, true, true, false, false, false, false] rfl rfl (take_ofW HT_.out HW_.out (by kernel_rfl)) (fun _ _ _ h => h) (Or.inl ⟨by rfl, ?_⟩) hHeld ?_ ?_
             rotate_left
             ·rintro w' ⟨s0, s1, s2⟩
              go_simp
              with_reducible rfl
             rotate_left
             ·simp only [Act.put, List.setIfInBounds_toArray, List.set_cons_zero, List.set_cons_succ, i64_w, i32_w]
              rfl
             refine one_ (i := 6) (N := some 63) #[true, true, true, true, true, true, true, false, false, false] rfl rfl (one_of HT_.out (by kernel_rfl)) (by decide) (fun K hK => ?_)
             refine goes_ Tryd.func47 (by kernel_rfl) rfl #[.slice A0_2 l0_2.length c0_2, .string (⟨#[32]⟩ : ByteArray)] (by rfl) rfl rfl (by (try simp only [List.map_toArray, List.map_cons, List.map_nil]); first | done | rfl | (simp only [List.length_drop, List.length_take]; rfl)) ?_
             with_reducible refine (strings_Join.calls _ _ l0_2 (⟨#[32]⟩ : ByteArray) t231 _ ?side1 ?side2 A38.out).mono ?_
             (case side1 => repeat (first | exact (Kd.C_below HR0_2.out HB.out) | (with_reducible refine Kd.C_alloc ?_ _) | (with_reducible refine Kd.C_drewN ?_ _) | (with_reducible refine Kd.C_drew ?_)))
             (case side2 => exact HC0_2.out)
             rintro e w43 ⟨rfl, hb⟩
             refine ⟨_, rfl, ?_⟩
             have n0_ := Aside0.mk (blk_below (g := gb227) (o := .cells #[.string a0_0, .int .i64 a0_1, .slice A0_2 l0_2.length c0_2] 45 (0, 0)) (by (with_reducible repeat (first | refine blk_drewN ?_ _ | refine blk_drew ?_ | refine blk_alloc ?_ _)); exact BK227.out) hb)
             have n1_ := Aside0.mk (below_step (by repeat (first | (with_reducible first | exact HB.out | apply below_alloc | apply pw_below_drewN | apply below_drew1 | refine below_set ?_ GE227.out) | exact HB.out)) hb)
             clear BK227
             clear HB
             have BK227 := n0_
             have HB := n1_
             clear n0_ n1_
             (try clear hb)
             (try clear hb2)
             (try clear hk)
             (try clear hi)
             refine hK.out _ _ ⟨(blk_cell BK227.out 0).trans rfl, (blk_cell BK227.out 1).trans rfl, (blk_cell BK227.out 2).trans rfl⟩ (fun hHeld => ?_)
             clear hK K
             refine norm_ (a' := ?_) ?_ ?_
             rotate_left
             ·show Act.put _ (some 63) _ = _
              simp only [Act.put, List.setIfInBounds_toArray, List.set_cons_zero, List.set_cons_succ, i64_w, i32_w]
              rfl
             refine pure_ (i := 7) (N := some 64) (v := ?_) (a' := ?_) #[true, true, true, true, true, true, true, true, false, false] rfl rfl (any_of HT_.out (by kernel_rfl)) (fun _ _ _ h => h) (Or.inl ⟨by rfl, ?_⟩) ?_ ?_
             rotate_left
             ·intro w'
              go_simp
              with_reducible rfl
             rotate_left
             ·simp only [Act.put, List.setIfInBounds_toArray, List.set_cons_zero, List.set_cons_succ, i64_w, i32_w]
              rfl
             refine pure_ (i := 8) (N := some 65) (v := ?_) (a' := ?_) #[true, true, true, true, true, true, true, true, true, false] rfl rfl (any_of HT_.out (by kernel_rfl)) (fun _ _ _ h => h) (Or.inl ⟨by rfl, ?_⟩) ?_ ?_
             rotate_left
             ·intro w'
              go_simp
              with_reducible rfl
             rotate_left
             ·simp only [Act.put, List.setIfInBounds_toArray, List.set_cons_zero, List.set_cons_succ, i64_w, i32_w]
              rfl
             refine pure_ (i := 9) (N := some 2) (v := ?_) (a' := ?_) #[true, true, true, true, true, true, true, true, true, true] rfl rfl (any_of HT_.out (by kernel_rfl)) (fun _ _ _ h => h) (Or.inl ⟨by rfl, ?_⟩) ?_ ?_
             rotate_left
             ·intro w'
              go_simp
              with_reducible rfl
             rotate_left
             ·simp only [Act.put, List.setIfInBounds_toArray, List.set_cons_zero, List.set_cons_succ, i64_w, i32_w]
              rfl
             refine done_ (done_of HT_.out (by kernel_rfl)) ?_
             try go_wp2
             go_ret
             exact ⟨by first | rfl | (simp [errW_none, errW_some] <;> rfl) | (simp [*, errW_none, errW_some] <;> rfl), by repeat (first | (with_reducible first | exact HB.out | apply below_alloc | apply pw_below_drewN | apply below_drew1 | refine below_set ?_ GE227.out) | exact HB.out)⟩
            ·rw [if_neg c40] at H
             exact absurd H (by simp)
           ·rw [if_neg c39] at H
            exact absurd H (by simp)
          ·rw [if_neg c37] at H
           exact absurd H (by simp)
end Go.Proofs.YteaiobgnhlpblaaDoor.Q
namespace Go.Proofs.YteaiobgnhlpblaaDoor.Q
open Go.RowKit Go.Proofs.YteaiobgnhlpblaaDoorW.PrintWords Go.Proofs.YteaiobgnhlpblaaDoorW.PrintLast Go.Proofs.YteaiobgnhlpblaaDoorW.PrintMore
attribute [local go_sem] max2_int min2_int max_two min_two max_three min_three max_four min_four   -- for this text's walks alone
set_option linter.unusedVariables false
set_option linter.unusedSimpArgs false
def slices_Index_string_string.l0 : Nat → List ByteArray → ByteArray → Int → Int → Option (Int)
  | 0, _, _, _, _ => none
  | k + 1, x0, x1, x7, x8 => if x8 < x7 then (if 0 ≤ x8 then (if x8 < (x0.length : Int) then (if x1.toList = (rdOf ByteArray.empty x0 x8).toList then (some x8) else (slices_Index_string_string.l0 k x0 x1 x7 (wrap64 (x8 + 1)))) else (none)) else (none)) else (some (-1))
def slices_Index_string_string.f (k : Nat) (l0 : List ByteArray) (a1 : ByteArray) : Option (Int) := slices_Index_string_string.l0 k l0 a1 (l0.length : Int) 0
theorem slices_Index_string_string.mono_l : ∀ k, (∀ y0 y1 y2 y3, LeO (slices_Index_string_string.l0 k y0 y1 y2 y3) (slices_Index_string_string.l0 (k + 1) y0 y1 y2 y3))
  | 0 => fun _ _ _ _ r h => by simp [slices_Index_string_string.l0] at h
  | k + 1 => by
    have ih0 := slices_Index_string_string.mono_l k
    · intro y0 y1 y2 y3
      unfold slices_Index_string_string.l0
      repeat' first
      | (with_reducible exact ih0 _ _ _ _)
      | (with_reducible exact LeO.refl _)
      | (with_reducible exact LeO.none _)
      | (with_reducible refine LeO.ite ?_ ?_)
      | (with_reducible refine LeO.bind ?_ (fun _ => ?_))
      | exact ih0 _ _ _ _
      | exact LeO.none _
      | refine LeO.ite ?_ ?_
      | refine LeO.bind ?_ (fun _ => ?_)
theorem slices_Index_string_string.mono : ∀ a0 a1 k, LeO (slices_Index_string_string.f k a0 a1) (slices_Index_string_string.f (k + 1) a0 a1) := by
  intro a0 a1 k
  have ih0 := slices_Index_string_string.mono_l k
  unfold slices_Index_string_string.f
  repeat' first
      | (with_reducible exact ih0 _ _ _ _)
      | (with_reducible exact LeO.refl _)
      | (with_reducible exact LeO.none _)
      | (with_reducible refine LeO.ite ?_ ?_)
      | (with_reducible refine LeO.bind ?_ (fun _ => ?_))
      | exact ih0 _ _ _ _
      | exact LeO.none _
      | refine LeO.ite ?_ ?_
      | refine LeO.bind ?_ (fun _ => ?_)
set_option maxHeartbeats 8000000 in
set_option maxRecDepth 100000 in
theorem slices_Index_string_string.calls (k : Nat) (A0 : Option Addr) (c0 : Nat) (l0 : List ByteArray) (a1 : ByteArray) (r : Int) (w : World) (hr0 : Kd.C Kd.string w A0 l0.length l0) (hc0 : l0.length ≤ c0) (h : slices_Index_string_string.f k l0 a1 = some r) :
    Calls Tryd.prog 70 #[.slice A0 l0.length c0, .string a1] w fun e w' => e = .returned (.int .i64 r) ∧ Drawn0 w w' := by
  have HR0 := Aside0.mk hr0
  have HC0 := Aside0.mk hc0
  clear hr0 hc0
  have H : (slices_Index_string_string.l0 k l0 a1 (l0.length : Int) 0) = some r := h
  clear h
  have H' := Aside0.mk H
  clear H
  go_enter Tryd.func70, Tryd.ntmps70
  go_wp2
  go_loopg [8] k (fun kq v8 w' => ∃ (x8_1 : Int), v8 = .int .i64 x8_1 ∧ Aside0 (slices_Index_string_string.l0 kq l0 a1 (l0.length : Int) x8_1 = some r) ∧ Aside0 (kq ≤ k) ∧ Drawn0 w w')
  case atStart => exact ⟨(0), (by first | rfl | (simp; done) | (simp [*]; done) | (simp; rw [Bool.eq_iff_iff]; simp; done) | (rw [Bool.eq_iff_iff]; simp; done)), H', ⟨Nat.le_refl _⟩, by repeat (first | exact Drawn0.refl _ | apply Drawn0.step)⟩
  case round =>
    clear H'
    try clear p2
    obtain ⟨x8_1, rfl, HA, HK1, ⟨m1, rfl⟩⟩ := hrel
    cases gk with
    | zero => exact absurd HA.out (by simp [slices_Index_string_string.l0])
    | succ k1 =>
      have H := HA.out
      clear HA
      simp only [slices_Index_string_string.l0] at H
      by_cases c3 : x8_1 < (l0.length : Int)
      · rw [if_pos c3] at H
        have c3b0 : decide (x8_1 < (l0.length : Int)) = true := decide_eq_true c3
        clear c3
        by_cases c4 : 0 ≤ x8_1
        · rw [if_pos c4] at H
          have c4b0 : decide (0 ≤ x8_1) = true := decide_eq_true c4
          clear c4
          by_cases c5 : x8_1 < (l0.length : Int)
          · rw [if_pos c5] at H
            have c5b0 : decide (x8_1 < (l0.length : Int)) = true := decide_eq_true c5
            clear c5
            by_cases c6 : a1.toList = (rdOf ByteArray.empty l0 x8_1).toList
            · rw [if_pos c6] at H
              have c6b0 : (a1.toList == (rdOf ByteArray.empty l0 x8_1).toList) = true := beq_iff_eq.mpr c6
              have c6b1 : (a1.toList != (rdOf ByteArray.empty l0 x8_1).toList) = false := bne_eq_false_iff_eq.mpr c6
              clear c6
              obtain rfl := Option.some.inj H
              have p552 : 0 ≤ (x8_1 : Int) := of_decide_eq_true (by first | (with_reducible assumption) | assumption)
              have q552 : x8_1 < (l0.length : Int) := of_decide_eq_true (by first | (with_reducible assumption) | assumption)
              obtain ⟨ad552, e552, hx552_0⟩ := Kd.at_string HR0.out x8_1 p552 q552
              cases e552
              replace p552 := eq_true p552
              replace q552 := eq_true q552
              go_wp2
              go_ret
              exact ⟨by first | rfl | (simp; done) | (simp [*]; done), by repeat (first | exact Drawn0.refl _ | apply Drawn0.step)⟩
            · rw [if_neg c6] at H
              have c6b0 : (a1.toList == (rdOf ByteArray.empty l0 x8_1).toList) = false := beq_eq_false_iff_ne.mpr c6
              have c6b1 : (a1.toList != (rdOf ByteArray.empty l0 x8_1).toList) = true := bne_iff_ne.mpr c6
              have H' := Aside0.mk H
              clear H
              have p552 : 0 ≤ (x8_1 : Int) := of_decide_eq_true (by first | (with_reducible assumption) | assumption)
              have q552 : x8_1 < (l0.length : Int) := of_decide_eq_true (by first | (with_reducible assumption) | assumption)
              obtain ⟨ad552, e552, hx552_0⟩ := Kd.at_string HR0.out x8_1 p552 q552
              cases e552
              replace p552 := eq_true p552
              replace q552 := eq_true q552
              go_wp2
              go_roundg k1
              case measure => have := HK1.out; omega
              case rel => exact ⟨(wrap64 (x8_1 + 1)), (by first | rfl | (simp; done) | (simp [*]; done) | (simp; rw [Bool.eq_iff_iff]; simp; done) | (rw [Bool.eq_iff_iff]; simp; done)), H', ⟨by have := HK1.out; omega⟩, by repeat (first | exact Drawn0.refl _ | apply Drawn0.step)⟩
          · rw [if_neg c5] at H
            exact absurd H (by simp)
        · rw [if_neg c4] at H
          exact absurd H (by simp)
      · rw [if_neg c3] at H
        have c3b0 : decide (x8_1 < (l0.length : Int)) = false := decide_eq_false c3
        clear c3
        obtain rfl := Option.some.inj H
        go_wp2
        go_ret
        exact ⟨by first | rfl | (simp; done) | (simp [*]; done), by repeat (first | exact Drawn0.refl _ | apply Drawn0.step)⟩
end Go.Proofs.YteaiobgnhlpblaaDoor.Q
namespace Go.Proofs.YteaiobgnhlpblaaDoor.Q
open Go.RowKit Go.Proofs.YteaiobgnhlpblaaDoorW.PrintWords Go.Proofs.YteaiobgnhlpblaaDoorW.PrintLast Go.Proofs.YteaiobgnhlpblaaDoorW.PrintMore
attribute [local go_sem] max2_int min2_int max_two min_two max_three min_three max_four min_four   -- for this text's walks alone
set_option linter.unusedVariables false
set_option linter.unusedSimpArgs false
def slices_Contains_string_string.f (k : Nat) (l0 : List ByteArray) (a1 : ByteArray) : Option (Bool) := (slices_Index_string_string.f k l0 a1).bind fun t553 => (some (decide (t553 ≥ 0)))
theorem slices_Contains_string_string.mono : ∀ a0 a1 k, LeO (slices_Contains_string_string.f k a0 a1) (slices_Contains_string_string.f (k + 1) a0 a1) := by
  intro a0 a1 k
  unfold slices_Contains_string_string.f
  repeat' first
      | (with_reducible exact slices_Index_string_string.mono _ _ _)
      | (with_reducible exact LeO.refl _)
      | (with_reducible exact LeO.none _)
      | (with_reducible refine LeO.ite ?_ ?_)
      | (with_reducible refine LeO.bind ?_ (fun _ => ?_))
      | exact slices_Index_string_string.mono _ _ _
      | exact LeO.none _
      | refine LeO.ite ?_ ?_
      | refine LeO.bind ?_ (fun _ => ?_)
set_option maxHeartbeats 8000000 in
set_option maxRecDepth 100000 in
theorem slices_Contains_string_string.calls (k : Nat) (A0 : Option Addr) (c0 : Nat) (l0 : List ByteArray) (a1 : ByteArray) (r : Bool) (w : World) (hr0 : Kd.C Kd.string w A0 l0.length l0) (hc0 : l0.length ≤ c0) (h : slices_Contains_string_string.f k l0 a1 = some r) :
    Calls Tryd.prog 55 #[.slice A0 l0.length c0, .string a1] w fun e w' => e = .returned (.bool r) ∧ Drawn0 w w' := by
  have HR0 := Aside0.mk hr0
  have HC0 := Aside0.mk hc0
  clear hr0 hc0
  have H : ((slices_Index_string_string.f k l0 a1).bind fun t553 => (some (decide (t553 ≥ 0)))) = some r := h
  clear h
  replace H := Option.bind_eq_some_iff.mp H
  obtain ⟨t553, A30, H⟩ := H
  replace H : (some (decide (t553 ≥ 0))) = some r := H
  have A3 := Aside0.mk A30
  clear A30
  obtain rfl := Option.some.inj H
  go_enter Tryd.func55, Tryd.ntmps55
  go_wp2_with (first | ((with_reducible refine gate_callee (f := 70) rfl ?_); refine goesL_ (some 7) rfl rfl Tryd.func70 (by kernel_rfl) rfl #[.slice A0 l0.length c0, .string a1] rfl (by (try simp only [List.map_toArray, List.map_cons, List.map_nil]); first | done | rfl | (simp only [List.length_drop, List.length_take]; rfl)) ?_; (with_reducible refine (slices_Index_string_string.calls k _ _ l0 a1 t553 _ ?side1 ?side2 A3.out).mono ?_); (case side1 => repeat (first | exact HR0.out | (with_reducible refine Kd.C_alloc ?_ _) | (with_reducible refine Kd.C_drewN ?_ _) | (with_reducible refine Kd.C_drew ?_))); (case side2 => exact HC0.out); rintro e w' ⟨rfl, ⟨nd, rfl⟩⟩; refine ⟨_, rfl, ?_⟩))
  go_ret
  exact ⟨by first | rfl | (simp; done) | (simp [*]; done), by repeat (first | exact Drawn0.refl _ | apply Drawn0.step)⟩
end Go.Proofs.YteaiobgnhlpblaaDoor.Q
namespace Go.Proofs.YteaiobgnhlpblaaDoor.Q
open Go.RowKit Go.Proofs.YteaiobgnhlpblaaDoorW.PrintWords Go.Proofs.YteaiobgnhlpblaaDoorW.PrintLast
set_option linter.unusedVariables false
set_option linter.unusedSimpArgs false
theorem ba_ext {a b : ByteArray} (h : a.data.toList = b.data.toList) : a = b := by
  cases a; cases b; simp only at h; congr 1; exact Array.toList_inj.1 h
theorem ba_iff (a b : ByteArray) : a.toList = b.toList ↔ a = b := by
  rw [ByteArray.toList_eq, ByteArray.toList_eq]
  exact ⟨ba_ext, fun h => by rw [h]⟩
theorem w64 (i : Nat) (h : i < 9223372036854775807) : wrap64 ((i : Int) + 1) = ((i + 1 : Nat) : Int) := by
  unfold wrap64; omega
theorem rd_at (l : List ByteArray) (i : Nat) (h : i < l.length) : rdOf ByteArray.empty l (i : Int) = l[i]'h := by
  simp [rdOf, List.getD_eq_getElem?_getD, List.getElem?_eq_getElem h]
def memB (l : List ByteArray) (x : ByteArray) : Bool := l.any fun y => decide (x = y)
theorem memB_iff (l : List ByteArray) (x : ByteArray) : memB l x = true ↔ x ∈ l := by
  unfold memB; simp
end Go.Proofs.YteaiobgnhlpblaaDoor.Q
namespace Go.Proofs.YteaiobgnhlpblaaDoor.Q
open Go.RowKit Go.Proofs.YteaiobgnhlpblaaDoorW.PrintWords Go.Proofs.YteaiobgnhlpblaaDoorW.PrintLast
set_option linter.unusedVariables false
set_option linter.unusedSimpArgs false
theorem index_loop (l : List ByteArray) (x : ByteArray) (hl : l.length < 9223372036854775807) (d : Nat) : ∀ (k i : Nat), i + d = l.length → d < k →
    ∃ r, slices_Index_string_string.l0 k l x (l.length : Int) (i : Int) = some r ∧ (decide (r ≥ 0)) = memB (l.drop i) x := by
  induction d with
  | zero =>
    intro k i hi hk
    obtain ⟨k, rfl⟩ : ∃ m, k = m + 1 := ⟨k - 1, by omega⟩
    refine ⟨-1, ?_, ?_⟩
    · simp only [slices_Index_string_string.l0]; rw [if_neg (by omega)]
    · rw [List.drop_of_length_le (by omega)]; rfl
  | succ d ih =>
    intro k i hi hk
    obtain ⟨k, rfl⟩ : ∃ m, k = m + 1 := ⟨k - 1, by omega⟩
    have hlt : i < l.length := by omega
    have hd : l.drop i = l[i] :: l.drop (i + 1) := List.drop_eq_getElem_cons hlt
    simp only [slices_Index_string_string.l0]
    rw [if_pos (by omega), if_pos (by omega), if_pos (by omega), rd_at l i hlt]
    by_cases he : x = l[i]
    · rw [if_pos ((ba_iff _ _).2 he)]
      refine ⟨i, rfl, ?_⟩
      rw [hd]
      have e1 : decide ((i : Int) ≥ 0) = true := decide_eq_true (by omega)
      have e2 : memB (l[i] :: l.drop (i + 1)) x = true := (memB_iff _ _).2 (by rw [he]; exact List.mem_cons_self)
      rw [e1, e2]
    · rw [if_neg (fun h => he ((ba_iff _ _).1 h)), w64 i (by omega)]
      obtain ⟨r, hr, hm⟩ := ih k (i + 1) (by omega) (by omega)
      refine ⟨r, hr, ?_⟩
      rw [hm, hd]
      show _ = (decide (x = l[i]) || memB (l.drop (i + 1)) x)
      rw [decide_eq_false he, Bool.false_or]
theorem contains_some (l : List ByteArray) (x : ByteArray) (hl : l.length < 9223372036854775807) : slices_Contains_string_string.f (l.length + 1) l x = some (memB l x) := by
  obtain ⟨r, hr, hm⟩ := index_loop l x hl l.length (l.length + 1) 0 (by omega) (by omega)
  unfold slices_Contains_string_string.f slices_Index_string_string.f
  have hr' : slices_Index_string_string.l0 (l.length + 1) l x (l.length : Int) 0 = some r := hr
  rw [hr', Option.bind_some, hm, List.drop_zero]
def vokB (vs : List ByteArray) (i : Nat) : Bool := (nameB (rdOf ByteArray.empty vs (i : Int)) || (decide (rdOf ByteArray.empty vs (i : Int) = ByteArray.empty) && decide (vs.length ≤ 1))) && !memB (vs.take i) (rdOf ByteArray.empty vs (i : Int))
def valsB (vs : List ByteArray) : Bool := (List.range vs.length).all (vokB vs)
def properB (key : ByteArray) (how : Int) (vs : List ByteArray) : Bool :=
  nameB key && (if how = 2 ∨ how = 3 then decide (vs.length = 0) else if how = 0 ∨ how = 1 then decide (1 ≤ vs.length) && decide (vs.length ≤ 8) && valsB vs else false)
def label_proper.f (a0_0 : ByteArray) (a0_1 : Int) (l0_2 : List ByteArray) : Option (Bool) := some (properB a0_0 a0_1 l0_2)
theorem valsB_true {vs : List ByteArray} (h : ∀ j, j < vs.length → vokB vs j = true) : valsB vs = true := by
  unfold valsB; rw [List.all_eq_true]; intro j hj; exact h j (by simpa using hj)
theorem valsB_false {vs : List ByteArray} (j : Nat) (hj : j < vs.length) (h : vokB vs j = false) : valsB vs = false := by
  unfold valsB; rw [List.all_eq_false]; exact ⟨j, by simpa using hj, by simp [h]⟩
theorem contains_at (vs : List ByteArray) (i : Nat) (hi : i ≤ vs.length) (hn : vs.length ≤ 8) (A : Option Addr) (c : Nat) (hc : vs.length ≤ c) (x : ByteArray) (w0 w : World) (hr : Kd.C Kd.string w0 A vs.length vs) (hb : Below w0.heap.size w0 w) :
    Calls Tryd.prog 55 #[.slice A i c, .string x] w fun e w' => e = .returned (.bool (memB (vs.take i) x)) ∧ Below w.heap.size w w' := by
  have hl : (vs.take i).length = i := by rw [List.length_take]; omega
  have h := slices_Contains_string_string.calls ((vs.take i).length + 1) A c (vs.take i) x (memB (vs.take i) x) w
    (by
      have hr1 := Kd.C_below hr hb
      have hrd := Kd.reads_of_C (d := ByteArray.empty) (h1 := fun _ => rfl) hr1
      refine Kd.C_of_reads (d := ByteArray.empty) (h1 := fun _ => rfl) ⟨rfl, by omega, fun hp => ?_⟩
      obtain ⟨ad, e, hcell⟩ := hrd.2.2 (by omega)
      refine ⟨ad, e, fun j hj => ?_⟩
      rw [hcell j (by omega)]
      simp [List.getD_eq_getElem?_getD, List.getElem?_take, show j < i by omega])
    (by omega) (contains_some _ x (by omega))
  rw [hl] at h
  refine h.mono ?_
  rintro e w' ⟨rfl, hd⟩
  exact ⟨rfl, hd.below⟩
theorem name_at (s : ByteArray) (w : World) : Calls Tryd.prog 18 #[.string s] w fun e w' => e = .returned (.bool (nameB s)) ∧ Below w.heap.size w w' := label_Name.calls s _ w rfl
set_option maxHeartbeats 8000000 in
set_option maxRecDepth 100000 in
theorem label_proper.calls (a0_0 : ByteArray) (a0_1 : Int) (A0_2 : Option Addr) (c0_2 : Nat) (l0_2 : List ByteArray) (r : Bool) (w : World) (hr0_2 : Kd.C Kd.string w A0_2 l0_2.length l0_2) (hc0_2 : l0_2.length ≤ c0_2) (h : label_proper.f a0_0 a0_1 l0_2 = some r) :
    Calls Tryd.prog 62 #[.agg #[.string a0_0, .int .i64 a0_1, .slice A0_2 l0_2.length c0_2]] w fun e w' => e = .returned (.bool r) ∧ Below w.heap.size w w' := by
  obtain rfl : properB a0_0 a0_1 l0_2 = r := Option.some.inj h
  clear h
  have HR := Aside0.mk hr0_2
  have HC := Aside0.mk hc0_2
  clear hr0_2 hc0_2
  have hu45 := Tryd.underlying45
  cases hn : nameB a0_0 with
  | false =>
    have hf := Lib.hid (show properB a0_0 a0_1 l0_2 = false by unfold properB; rw [hn]; rfl)
    have hn' := Lib.hid hn
    clear hn
    go_enter Tryd.func62, Tryd.ntmps62
    go_wp2_with (go_at_call 18; refine (name_at _ _).mono ?_; rintro e w1 ⟨rfl, hb⟩; rw [hn'.out])
    go_ret
    exact ⟨by rw [hf.out]; rfl, below_step ((Below.refl _ _).alloc (Nat.le_refl _) _) hb⟩
  | true =>
    have hn' := Lib.hid hn
    clear hn
    by_cases h23 : a0_1 = 2 ∨ a0_1 = 3
    · have hf := Lib.hid (show properB a0_0 a0_1 l0_2 = ((l0_2.length : Int) == 0) by
        unfold properB; rw [hn'.out, if_pos h23, Bool.true_and]
        rw [Bool.eq_iff_iff]; simp)
      rcases h23 with rfl | rfl
      · go_enter Tryd.func62, Tryd.ntmps62
        go_wp2_with (go_at_call 18; refine (name_at _ _).mono ?_; rintro e w1 ⟨rfl, hb⟩; rw [hn'.out]; have h1 := hb.cell (p := ⟨w.heap.size, 1, none⟩) (by simp); have h2 := hb.cell (p := ⟨w.heap.size, 2, none⟩) (by simp))
        go_ret
        exact ⟨by rw [hf.out]; rfl, below_step ((Below.refl _ _).alloc (Nat.le_refl _) _) hb⟩
      · go_enter Tryd.func62, Tryd.ntmps62
        go_wp2_with (go_at_call 18; refine (name_at _ _).mono ?_; rintro e w1 ⟨rfl, hb⟩; rw [hn'.out]; have h1 := hb.cell (p := ⟨w.heap.size, 1, none⟩) (by simp); have h2 := hb.cell (p := ⟨w.heap.size, 2, none⟩) (by simp))
        go_ret
        exact ⟨by rw [hf.out]; rfl, below_step ((Below.refl _ _).alloc (Nat.le_refl _) _) hb⟩
    · have e2 : (a0_1 == 2) = false := by rw [beq_eq_false_iff_ne]; intro h; exact h23 (.inl h)
      have e3 : (a0_1 == 3) = false := by rw [beq_eq_false_iff_ne]; intro h; exact h23 (.inr h)
      have h23' := Lib.hid h23
      clear h23
      by_cases h01 : a0_1 = 0 ∨ a0_1 = 1
      rotate_left
      · have hf := Lib.hid (show properB a0_0 a0_1 l0_2 = false by
          unfold properB; rw [hn'.out, if_neg h23'.out, if_neg h01]; rfl)
        have e0 : (a0_1 == 0) = false := by rw [beq_eq_false_iff_ne]; intro h; exact h01 (.inl h)
        have e1 : (a0_1 == 1) = false := by rw [beq_eq_false_iff_ne]; intro h; exact h01 (.inr h)
        clear h01
        go_enter Tryd.func62, Tryd.ntmps62
        go_wp2_with (go_at_call 18; refine (name_at _ _).mono ?_; rintro e w1 ⟨rfl, hb⟩; rw [hn'.out]; have h1 := hb.cell (p := ⟨w.heap.size, 1, none⟩) (by simp); have h2 := hb.cell (p := ⟨w.heap.size, 2, none⟩) (by simp))
        go_ret
        exact ⟨by rw [hf.out]; rfl, below_step ((Below.refl _ _).alloc (Nat.le_refl _) _) hb⟩
      clear e2 e3 h23'
      rcases h01 with rfl | rfl
      · by_cases hl1 : l0_2.length < 1
        · have hf := Lib.hid (show properB a0_0 0 l0_2 = false by
            unfold properB; rw [hn'.out, if_neg (by decide), if_pos (by decide), decide_eq_false (by omega : ¬ 1 ≤ l0_2.length)]; rfl)
          go_enter Tryd.func62, Tryd.ntmps62
          go_wp2_with (go_at_call 18; refine (name_at _ _).mono ?_; rintro e w1 ⟨rfl, hb⟩; rw [hn'.out]; have h1 := hb.cell (p := ⟨w.heap.size, 1, none⟩) (by simp); have h2 := hb.cell (p := ⟨w.heap.size, 2, none⟩) (by simp))
          go_ret
          exact ⟨by rw [hf.out]; rfl, below_step ((Below.refl _ _).alloc (Nat.le_refl _) _) hb⟩
        by_cases hl8 : 8 < l0_2.length
        · have hf := Lib.hid (show properB a0_0 0 l0_2 = false by
            unfold properB; rw [hn'.out, if_neg (by decide), if_pos (by decide), decide_eq_false (by omega : ¬ l0_2.length ≤ 8)]; simp)
          go_enter Tryd.func62, Tryd.ntmps62
          go_wp2_with (go_at_call 18; refine (name_at _ _).mono ?_; rintro e w1 ⟨rfl, hb⟩; rw [hn'.out]; have h1 := hb.cell (p := ⟨w.heap.size, 1, none⟩) (by simp); have h2 := hb.cell (p := ⟨w.heap.size, 2, none⟩) (by simp))
          go_ret
          exact ⟨by rw [hf.out]; rfl, below_step ((Below.refl _ _).alloc (Nat.le_refl _) _) hb⟩
        have hf := Lib.hid (show properB a0_0 0 l0_2 = valsB l0_2 by
            unfold properB; rw [hn'.out, if_neg (by decide), if_pos (by decide), decide_eq_true (by omega : l0_2.length ≤ 8), decide_eq_true (by omega : 1 ≤ l0_2.length)]; simp)
        have hlo : 1 ≤ l0_2.length := by omega
        have hhi : l0_2.length ≤ 8 := by omega
        clear hl1 hl8
        go_enter Tryd.func62, Tryd.ntmps62
        go_wp2_with (go_at_call 18; refine (name_at _ _).mono ?_; rintro e w1 ⟨rfl, hb⟩; rw [hn'.out]; have h1 := hb.cell (p := ⟨w.heap.size, 1, none⟩) (by simp); have h2 := hb.cell (p := ⟨w.heap.size, 2, none⟩) (by simp))
        go_loopg [3, 4, 34] l0_2.length (fun g v3 v4 v34 wr => ∃ i : Nat, v34 = .int .i64 i ∧ i ≤ l0_2.length ∧ l0_2.length ≤ i + g ∧ Aside0 (∀ j, j < i → vokB l0_2 j = true) ∧ Aside0 (wr.cell? ⟨w.heap.size, 2, none⟩ = some (.slice A0_2 l0_2.length c0_2)) ∧ Aside0 (Below w.heap.size w wr))
        case atStart => exact ⟨0, rfl, by omega, by omega, ⟨fun j hj => by omega⟩, ⟨by simpa using h2⟩, ⟨below_step ((Below.refl _ _).alloc (Nat.le_refl _) _) hb⟩⟩
        case round =>
          obtain ⟨i, rfl, hin, hig, hall, hc2, hbw⟩ := hrel
          clear h1 h2 hb
          by_cases hlt : i < l0_2.length
          · cases gk with
            | zero => omega
            | succ g =>
              have hicap : i ≤ c0_2 := by have := HC.out; omega
              obtain ⟨ad, eA, hx⟩ := Kd.at_string HR.out (i : Int) (by omega) (by omega)
              cases eA
              rw [Int.toNat_natCast] at hx
              have hx2 := (hbw.out.cell (World.block_lt_of_cell? w _ hx)).trans hx
              have hc2o := hc2.out
              have hbw2 := hbw
              have hvk : vokB l0_2 i = ((nameB (rdOf ByteArray.empty l0_2 (i : Int)) || (decide (rdOf ByteArray.empty l0_2 (i : Int) = ByteArray.empty) && decide (l0_2.length ≤ 1))) && !memB (l0_2.take i) (rdOf ByteArray.empty l0_2 (i : Int))) := rfl
              clear hx hc2 hbw
              generalize rdOf ByteArray.empty l0_2 (i : Int) = v at *
              have hon : ∀ j, j < i + 1 → vokB l0_2 i = true → vokB l0_2 j = true := fun j hj h1 => by
                rcases Nat.lt_or_ge j i with h | h
                · exact hall.out j h
                · have e : j = i := by omega
                  rw [e]; exact h1
              have HON := Lib.hid hon
              have HVK := Lib.hid hvk
              clear hon hvk hall
              cases hm : memB (l0_2.take i) v with
              | true =>
                have hmm := Lib.hid hm
                have hbad := Lib.hid (hf.out.trans (valsB_false i hlt (by rw [HVK.out, hm]; simp)))
                clear hm
                cases hnn : nameB v with
                | true =>
                  have hnm := Lib.hid hnn
                  clear hnn
                  go_wp2_with (first | (go_at_call 18; refine (name_at _ _).mono ?_; rintro e w1 ⟨rfl, hb1⟩; rw [hnm.out]; have hc3 := pw_cell_below hb1 hc2o; have hx3 := pw_cell_below hb1 hx2; have hbw3 := Aside0.mk (below_step hbw2.out hb1); clear hb1) | (go_at_call 55; refine (contains_at l0_2 i (by omega) hhi (some ad) c0_2 HC.out _ w _ HR.out hbw3.out).mono ?_; rintro e w4 ⟨rfl, hb4⟩; rw [hmm.out]; have hc5 := pw_cell_below hb4 hc3; have hbw5 := Aside0.mk (below_step hbw3.out hb4); clear hb4))
                  go_ret
                  exact ⟨by rw [hbad.out]; rfl, hbw5.out⟩
                | false =>
                  have hnm := Lib.hid hnn
                  clear hnn
                  by_cases he : v = ByteArray.empty
                  · have heL : v.toList = [] := by rw [he, ByteArray.toList_eq]; rfl
                    have hz : v.toList.isEmpty = true := by rw [heL]; rfl
                    clear he
                    by_cases h1 : 1 < l0_2.length
                    · go_wp2_with (first | (go_at_call 18; refine (name_at _ _).mono ?_; rintro e w1 ⟨rfl, hb1⟩; rw [hnm.out]; have hc3 := pw_cell_below hb1 hc2o; have hx3 := pw_cell_below hb1 hx2; have hbw3 := Aside0.mk (below_step hbw2.out hb1); clear hb1) | (go_at_call 55; refine (contains_at l0_2 i (by omega) hhi (some ad) c0_2 HC.out _ w _ HR.out hbw3.out).mono ?_; rintro e w4 ⟨rfl, hb4⟩; rw [hmm.out]; have hc5 := pw_cell_below hb4 hc3; have hbw5 := Aside0.mk (below_step hbw3.out hb4); clear hb4))
                      go_ret
                      exact ⟨by rw [hbad.out]; rfl, hbw3.out⟩
                    · go_wp2_with (first | (go_at_call 18; refine (name_at _ _).mono ?_; rintro e w1 ⟨rfl, hb1⟩; rw [hnm.out]; have hc3 := pw_cell_below hb1 hc2o; have hx3 := pw_cell_below hb1 hx2; have hbw3 := Aside0.mk (below_step hbw2.out hb1); clear hb1) | (go_at_call 55; refine (contains_at l0_2 i (by omega) hhi (some ad) c0_2 HC.out _ w _ HR.out hbw3.out).mono ?_; rintro e w4 ⟨rfl, hb4⟩; rw [hmm.out]; have hc5 := pw_cell_below hb4 hc3; have hbw5 := Aside0.mk (below_step hbw3.out hb4); clear hb4))
                      go_ret
                      exact ⟨by rw [hbad.out]; rfl, hbw5.out⟩
                  · have heL : v.toList ≠ [] := fun h => he (ba_ext (by rw [ByteArray.toList_eq] at h; rw [h]; rfl))
                    have hz : v.toList.isEmpty = false := by rw [List.isEmpty_eq_false_iff]; exact heL
                    have hz1 : (v.toList != []) = true := by simpa using heL
                    clear he heL
                    go_wp2_with (first | (go_at_call 18; refine (name_at _ _).mono ?_; rintro e w1 ⟨rfl, hb1⟩; rw [hnm.out]; have hc3 := pw_cell_below hb1 hc2o; have hx3 := pw_cell_below hb1 hx2; have hbw3 := Aside0.mk (below_step hbw2.out hb1); clear hb1) | (go_at_call 55; refine (contains_at l0_2 i (by omega) hhi (some ad) c0_2 HC.out _ w _ HR.out hbw3.out).mono ?_; rintro e w4 ⟨rfl, hb4⟩; rw [hmm.out]; have hc5 := pw_cell_below hb4 hc3; have hbw5 := Aside0.mk (below_step hbw3.out hb4); clear hb4))
                    go_ret
                    exact ⟨by rw [hbad.out]; rfl, hbw3.out⟩
              | false =>
                have hmm := Lib.hid hm
                clear hm
                cases hnn : nameB v with
                | true =>
                  have hnm := Lib.hid hnn
                  have HV := Lib.hid (show vokB l0_2 i = true by rw [HVK.out, hnn, hmm.out]; rfl)
                  clear hnn
                  go_wp2_with (first | (go_at_call 18; refine (name_at _ _).mono ?_; rintro e w1 ⟨rfl, hb1⟩; rw [hnm.out]; have hc3 := pw_cell_below hb1 hc2o; have hx3 := pw_cell_below hb1 hx2; have hbw3 := Aside0.mk (below_step hbw2.out hb1); clear hb1) | (go_at_call 55; refine (contains_at l0_2 i (by omega) hhi (some ad) c0_2 HC.out _ w _ HR.out hbw3.out).mono ?_; rintro e w4 ⟨rfl, hb4⟩; rw [hmm.out]; have hc5 := pw_cell_below hb4 hc3; have hbw5 := Aside0.mk (below_step hbw3.out hb4); clear hb4))
                  go_roundg g
                  case measure => omega
                  case rel => exact ⟨i + 1, by go_num, by omega, by omega, ⟨fun j hj => HON.out j hj HV.out⟩, ⟨hc5⟩, hbw5⟩
                | false =>
                  have hnm := Lib.hid hnn
                  by_cases he : v = ByteArray.empty
                  · have heL : v.toList = [] := by rw [he, ByteArray.toList_eq]; rfl
                    have hz : v.toList.isEmpty = true := by rw [heL]; rfl
                    by_cases h1 : 1 < l0_2.length
                    · have hbad := Lib.hid (hf.out.trans (valsB_false i hlt (by rw [HVK.out, hnn, decide_eq_false (by omega : ¬ l0_2.length ≤ 1)]; simp)))
                      clear hnn he
                      go_wp2_with (first | (go_at_call 18; refine (name_at _ _).mono ?_; rintro e w1 ⟨rfl, hb1⟩; rw [hnm.out]; have hc3 := pw_cell_below hb1 hc2o; have hx3 := pw_cell_below hb1 hx2; have hbw3 := Aside0.mk (below_step hbw2.out hb1); clear hb1) | (go_at_call 55; refine (contains_at l0_2 i (by omega) hhi (some ad) c0_2 HC.out _ w _ HR.out hbw3.out).mono ?_; rintro e w4 ⟨rfl, hb4⟩; rw [hmm.out]; have hc5 := pw_cell_below hb4 hc3; have hbw5 := Aside0.mk (below_step hbw3.out hb4); clear hb4))
                      go_ret
                      exact ⟨by rw [hbad.out]; rfl, hbw3.out⟩
                    · have HV := Lib.hid (show vokB l0_2 i = true by rw [HVK.out, hmm.out, decide_eq_true he, decide_eq_true (by omega : l0_2.length ≤ 1)]; simp)
                      clear hnn he
                      go_wp2_with (first | (go_at_call 18; refine (name_at _ _).mono ?_; rintro e w1 ⟨rfl, hb1⟩; rw [hnm.out]; have hc3 := pw_cell_below hb1 hc2o; have hx3 := pw_cell_below hb1 hx2; have hbw3 := Aside0.mk (below_step hbw2.out hb1); clear hb1) | (go_at_call 55; refine (contains_at l0_2 i (by omega) hhi (some ad) c0_2 HC.out _ w _ HR.out hbw3.out).mono ?_; rintro e w4 ⟨rfl, hb4⟩; rw [hmm.out]; have hc5 := pw_cell_below hb4 hc3; have hbw5 := Aside0.mk (below_step hbw3.out hb4); clear hb4))
                      go_roundg g
                      case measure => omega
                      case rel => exact ⟨i + 1, by go_num, by omega, by omega, ⟨fun j hj => HON.out j hj HV.out⟩, ⟨hc5⟩, hbw5⟩
                  · have heL : v.toList ≠ [] := fun h => he (ba_ext (by rw [ByteArray.toList_eq] at h; rw [h]; rfl))
                    have hz : v.toList.isEmpty = false := by rw [List.isEmpty_eq_false_iff]; exact heL
                    have hz1 : (v.toList != []) = true := by simpa using heL
                    have hbad := Lib.hid (hf.out.trans (valsB_false i hlt (by rw [HVK.out, hnn, decide_eq_false he]; simp)))
                    clear he heL hnn
                    go_wp2_with (first | (go_at_call 18; refine (name_at _ _).mono ?_; rintro e w1 ⟨rfl, hb1⟩; rw [hnm.out]; have hc3 := pw_cell_below hb1 hc2o; have hx3 := pw_cell_below hb1 hx2; have hbw3 := Aside0.mk (below_step hbw2.out hb1); clear hb1) | (go_at_call 55; refine (contains_at l0_2 i (by omega) hhi (some ad) c0_2 HC.out _ w _ HR.out hbw3.out).mono ?_; rintro e w4 ⟨rfl, hb4⟩; rw [hmm.out]; have hc5 := pw_cell_below hb4 hc3; have hbw5 := Aside0.mk (below_step hbw3.out hb4); clear hb4))
                    go_ret
                    exact ⟨by rw [hbad.out]; rfl, hbw3.out⟩
          · obtain rfl : i = l0_2.length := by omega
            have hv := Lib.hid (hf.out.trans (valsB_true (fun j hj => hall.out j hj)))
            clear hall
            go_wp2
            go_ret
            exact ⟨by rw [hv.out]; rfl, hbw.out⟩
      · by_cases hl1 : l0_2.length < 1
        · have hf := Lib.hid (show properB a0_0 1 l0_2 = false by
            unfold properB; rw [hn'.out, if_neg (by decide), if_pos (by decide), decide_eq_false (by omega : ¬ 1 ≤ l0_2.length)]; rfl)
          go_enter Tryd.func62, Tryd.ntmps62
          go_wp2_with (go_at_call 18; refine (name_at _ _).mono ?_; rintro e w1 ⟨rfl, hb⟩; rw [hn'.out]; have h1 := hb.cell (p := ⟨w.heap.size, 1, none⟩) (by simp); have h2 := hb.cell (p := ⟨w.heap.size, 2, none⟩) (by simp))
          go_ret
          exact ⟨by rw [hf.out]; rfl, below_step ((Below.refl _ _).alloc (Nat.le_refl _) _) hb⟩
        by_cases hl8 : 8 < l0_2.length
        · have hf := Lib.hid (show properB a0_0 1 l0_2 = false by
            unfold properB; rw [hn'.out, if_neg (by decide), if_pos (by decide), decide_eq_false (by omega : ¬ l0_2.length ≤ 8)]; simp)
          go_enter Tryd.func62, Tryd.ntmps62
          go_wp2_with (go_at_call 18; refine (name_at _ _).mono ?_; rintro e w1 ⟨rfl, hb⟩; rw [hn'.out]; have h1 := hb.cell (p := ⟨w.heap.size, 1, none⟩) (by simp); have h2 := hb.cell (p := ⟨w.heap.size, 2, none⟩) (by simp))
          go_ret
          exact ⟨by rw [hf.out]; rfl, below_step ((Below.refl _ _).alloc (Nat.le_refl _) _) hb⟩
        have hf := Lib.hid (show properB a0_0 1 l0_2 = valsB l0_2 by
            unfold properB; rw [hn'.out, if_neg (by decide), if_pos (by decide), decide_eq_true (by omega : l0_2.length ≤ 8), decide_eq_true (by omega : 1 ≤ l0_2.length)]; simp)
        have hlo : 1 ≤ l0_2.length := by omega
        have hhi : l0_2.length ≤ 8 := by omega
        clear hl1 hl8
        go_enter Tryd.func62, Tryd.ntmps62
        go_wp2_with (go_at_call 18; refine (name_at _ _).mono ?_; rintro e w1 ⟨rfl, hb⟩; rw [hn'.out]; have h1 := hb.cell (p := ⟨w.heap.size, 1, none⟩) (by simp); have h2 := hb.cell (p := ⟨w.heap.size, 2, none⟩) (by simp))
        go_loopg [3, 4, 34] l0_2.length (fun g v3 v4 v34 wr => ∃ i : Nat, v34 = .int .i64 i ∧ i ≤ l0_2.length ∧ l0_2.length ≤ i + g ∧ Aside0 (∀ j, j < i → vokB l0_2 j = true) ∧ Aside0 (wr.cell? ⟨w.heap.size, 2, none⟩ = some (.slice A0_2 l0_2.length c0_2)) ∧ Aside0 (Below w.heap.size w wr))
        case atStart => exact ⟨0, rfl, by omega, by omega, ⟨fun j hj => by omega⟩, ⟨by simpa using h2⟩, ⟨below_step ((Below.refl _ _).alloc (Nat.le_refl _) _) hb⟩⟩
        case round =>
          obtain ⟨i, rfl, hin, hig, hall, hc2, hbw⟩ := hrel
          clear h1 h2 hb
          by_cases hlt : i < l0_2.length
          · cases gk with
            | zero => omega
            | succ g =>
              have hicap : i ≤ c0_2 := by have := HC.out; omega
              obtain ⟨ad, eA, hx⟩ := Kd.at_string HR.out (i : Int) (by omega) (by omega)
              cases eA
              rw [Int.toNat_natCast] at hx
              have hx2 := (hbw.out.cell (World.block_lt_of_cell? w _ hx)).trans hx
              have hc2o := hc2.out
              have hbw2 := hbw
              have hvk : vokB l0_2 i = ((nameB (rdOf ByteArray.empty l0_2 (i : Int)) || (decide (rdOf ByteArray.empty l0_2 (i : Int) = ByteArray.empty) && decide (l0_2.length ≤ 1))) && !memB (l0_2.take i) (rdOf ByteArray.empty l0_2 (i : Int))) := rfl
              clear hx hc2 hbw
              generalize rdOf ByteArray.empty l0_2 (i : Int) = v at *
              have hon : ∀ j, j < i + 1 → vokB l0_2 i = true → vokB l0_2 j = true := fun j hj h1 => by
                rcases Nat.lt_or_ge j i with h | h
                · exact hall.out j h
                · have e : j = i := by omega
                  rw [e]; exact h1
              have HON := Lib.hid hon
              have HVK := Lib.hid hvk
              clear hon hvk hall
              cases hm : memB (l0_2.take i) v with
              | true =>
                have hmm := Lib.hid hm
                have hbad := Lib.hid (hf.out.trans (valsB_false i hlt (by rw [HVK.out, hm]; simp)))
                clear hm
                cases hnn : nameB v with
                | true =>
                  have hnm := Lib.hid hnn
                  clear hnn
                  go_wp2_with (first | (go_at_call 18; refine (name_at _ _).mono ?_; rintro e w1 ⟨rfl, hb1⟩; rw [hnm.out]; have hc3 := pw_cell_below hb1 hc2o; have hx3 := pw_cell_below hb1 hx2; have hbw3 := Aside0.mk (below_step hbw2.out hb1); clear hb1) | (go_at_call 55; refine (contains_at l0_2 i (by omega) hhi (some ad) c0_2 HC.out _ w _ HR.out hbw3.out).mono ?_; rintro e w4 ⟨rfl, hb4⟩; rw [hmm.out]; have hc5 := pw_cell_below hb4 hc3; have hbw5 := Aside0.mk (below_step hbw3.out hb4); clear hb4))
                  go_ret
                  exact ⟨by rw [hbad.out]; rfl, hbw5.out⟩
                | false =>
                  have hnm := Lib.hid hnn
                  clear hnn
                  by_cases he : v = ByteArray.empty
                  · have heL : v.toList = [] := by rw [he, ByteArray.toList_eq]; rfl
                    have hz : v.toList.isEmpty = true := by rw [heL]; rfl
                    clear he
                    by_cases h1 : 1 < l0_2.length
                    · go_wp2_with (first | (go_at_call 18; refine (name_at _ _).mono ?_; rintro e w1 ⟨rfl, hb1⟩; rw [hnm.out]; have hc3 := pw_cell_below hb1 hc2o; have hx3 := pw_cell_below hb1 hx2; have hbw3 := Aside0.mk (below_step hbw2.out hb1); clear hb1) | (go_at_call 55; refine (contains_at l0_2 i (by omega) hhi (some ad) c0_2 HC.out _ w _ HR.out hbw3.out).mono ?_; rintro e w4 ⟨rfl, hb4⟩; rw [hmm.out]; have hc5 := pw_cell_below hb4 hc3; have hbw5 := Aside0.mk (below_step hbw3.out hb4); clear hb4))
                      go_ret
                      exact ⟨by rw [hbad.out]; rfl, hbw3.out⟩
                    · go_wp2_with (first | (go_at_call 18; refine (name_at _ _).mono ?_; rintro e w1 ⟨rfl, hb1⟩; rw [hnm.out]; have hc3 := pw_cell_below hb1 hc2o; have hx3 := pw_cell_below hb1 hx2; have hbw3 := Aside0.mk (below_step hbw2.out hb1); clear hb1) | (go_at_call 55; refine (contains_at l0_2 i (by omega) hhi (some ad) c0_2 HC.out _ w _ HR.out hbw3.out).mono ?_; rintro e w4 ⟨rfl, hb4⟩; rw [hmm.out]; have hc5 := pw_cell_below hb4 hc3; have hbw5 := Aside0.mk (below_step hbw3.out hb4); clear hb4))
                      go_ret
                      exact ⟨by rw [hbad.out]; rfl, hbw5.out⟩
                  · have heL : v.toList ≠ [] := fun h => he (ba_ext (by rw [ByteArray.toList_eq] at h; rw [h]; rfl))
                    have hz : v.toList.isEmpty = false := by rw [List.isEmpty_eq_false_iff]; exact heL
                    have hz1 : (v.toList != []) = true := by simpa using heL
                    clear he heL
                    go_wp2_with (first | (go_at_call 18; refine (name_at _ _).mono ?_; rintro e w1 ⟨rfl, hb1⟩; rw [hnm.out]; have hc3 := pw_cell_below hb1 hc2o; have hx3 := pw_cell_below hb1 hx2; have hbw3 := Aside0.mk (below_step hbw2.out hb1); clear hb1) | (go_at_call 55; refine (contains_at l0_2 i (by omega) hhi (some ad) c0_2 HC.out _ w _ HR.out hbw3.out).mono ?_; rintro e w4 ⟨rfl, hb4⟩; rw [hmm.out]; have hc5 := pw_cell_below hb4 hc3; have hbw5 := Aside0.mk (below_step hbw3.out hb4); clear hb4))
                    go_ret
                    exact ⟨by rw [hbad.out]; rfl, hbw3.out⟩
              | false =>
                have hmm := Lib.hid hm
                clear hm
                cases hnn : nameB v with
                | true =>
                  have hnm := Lib.hid hnn
                  have HV := Lib.hid (show vokB l0_2 i = true by rw [HVK.out, hnn, hmm.out]; rfl)
                  clear hnn
                  go_wp2_with (first | (go_at_call 18; refine (name_at _ _).mono ?_; rintro e w1 ⟨rfl, hb1⟩; rw [hnm.out]; have hc3 := pw_cell_below hb1 hc2o; have hx3 := pw_cell_below hb1 hx2; have hbw3 := Aside0.mk (below_step hbw2.out hb1); clear hb1) | (go_at_call 55; refine (contains_at l0_2 i (by omega) hhi (some ad) c0_2 HC.out _ w _ HR.out hbw3.out).mono ?_; rintro e w4 ⟨rfl, hb4⟩; rw [hmm.out]; have hc5 := pw_cell_below hb4 hc3; have hbw5 := Aside0.mk (below_step hbw3.out hb4); clear hb4))
                  go_roundg g
                  case measure => omega
                  case rel => exact ⟨i + 1, by go_num, by omega, by omega, ⟨fun j hj => HON.out j hj HV.out⟩, ⟨hc5⟩, hbw5⟩
                | false =>
                  have hnm := Lib.hid hnn
                  by_cases he : v = ByteArray.empty
                  · have heL : v.toList = [] := by rw [he, ByteArray.toList_eq]; rfl
                    have hz : v.toList.isEmpty = true := by rw [heL]; rfl
                    by_cases h1 : 1 < l0_2.length
                    · have hbad := Lib.hid (hf.out.trans (valsB_false i hlt (by rw [HVK.out, hnn, decide_eq_false (by omega : ¬ l0_2.length ≤ 1)]; simp)))
                      clear hnn he
                      go_wp2_with (first | (go_at_call 18; refine (name_at _ _).mono ?_; rintro e w1 ⟨rfl, hb1⟩; rw [hnm.out]; have hc3 := pw_cell_below hb1 hc2o; have hx3 := pw_cell_below hb1 hx2; have hbw3 := Aside0.mk (below_step hbw2.out hb1); clear hb1) | (go_at_call 55; refine (contains_at l0_2 i (by omega) hhi (some ad) c0_2 HC.out _ w _ HR.out hbw3.out).mono ?_; rintro e w4 ⟨rfl, hb4⟩; rw [hmm.out]; have hc5 := pw_cell_below hb4 hc3; have hbw5 := Aside0.mk (below_step hbw3.out hb4); clear hb4))
                      go_ret
                      exact ⟨by rw [hbad.out]; rfl, hbw3.out⟩
                    · have HV := Lib.hid (show vokB l0_2 i = true by rw [HVK.out, hmm.out, decide_eq_true he, decide_eq_true (by omega : l0_2.length ≤ 1)]; simp)
                      clear hnn he
                      go_wp2_with (first | (go_at_call 18; refine (name_at _ _).mono ?_; rintro e w1 ⟨rfl, hb1⟩; rw [hnm.out]; have hc3 := pw_cell_below hb1 hc2o; have hx3 := pw_cell_below hb1 hx2; have hbw3 := Aside0.mk (below_step hbw2.out hb1); clear hb1) | (go_at_call 55; refine (contains_at l0_2 i (by omega) hhi (some ad) c0_2 HC.out _ w _ HR.out hbw3.out).mono ?_; rintro e w4 ⟨rfl, hb4⟩; rw [hmm.out]; have hc5 := pw_cell_below hb4 hc3; have hbw5 := Aside0.mk (below_step hbw3.out hb4); clear hb4))
                      go_roundg g
                      case measure => omega
                      case rel => exact ⟨i + 1, by go_num, by omega, by omega, ⟨fun j hj => HON.out j hj HV.out⟩, ⟨hc5⟩, hbw5⟩
                  · have heL : v.toList ≠ [] := fun h => he (ba_ext (by rw [ByteArray.toList_eq] at h; rw [h]; rfl))
                    have hz : v.toList.isEmpty = false := by rw [List.isEmpty_eq_false_iff]; exact heL
                    have hz1 : (v.toList != []) = true := by simpa using heL
                    have hbad := Lib.hid (hf.out.trans (valsB_false i hlt (by rw [HVK.out, hnn, decide_eq_false he]; simp)))
                    clear he heL hnn
                    go_wp2_with (first | (go_at_call 18; refine (name_at _ _).mono ?_; rintro e w1 ⟨rfl, hb1⟩; rw [hnm.out]; have hc3 := pw_cell_below hb1 hc2o; have hx3 := pw_cell_below hb1 hx2; have hbw3 := Aside0.mk (below_step hbw2.out hb1); clear hb1) | (go_at_call 55; refine (contains_at l0_2 i (by omega) hhi (some ad) c0_2 HC.out _ w _ HR.out hbw3.out).mono ?_; rintro e w4 ⟨rfl, hb4⟩; rw [hmm.out]; have hc5 := pw_cell_below hb4 hc3; have hbw5 := Aside0.mk (below_step hbw3.out hb4); clear hb4))
                    go_ret
                    exact ⟨by rw [hbad.out]; rfl, hbw3.out⟩
          · obtain rfl : i = l0_2.length := by omega
            have hv := Lib.hid (hf.out.trans (valsB_true (fun j hj => hall.out j hj)))
            clear hall
            go_wp2
            go_ret
            exact ⟨by rw [hv.out]; rfl, hbw.out⟩
end Go.Proofs.YteaiobgnhlpblaaDoor.Q
namespace Go.Proofs.YteaiobgnhlpblaaDoor.Q
open Go.RowKit Go.Proofs.YteaiobgnhlpblaaDoorW.PrintWords Go.Proofs.YteaiobgnhlpblaaDoorW.PrintLast
set_option linter.unusedVariables false
set_option linter.unusedSimpArgs false
def propB (t : S45) : Bool := properB t.f0 t.f1 t.f2
def label_all.f (l0 : List S45) : Option Bool := some (decide (l0.length ≤ 8) && l0.all propB)
set_option maxHeartbeats 4000000 in
set_option maxRecDepth 100000 in
theorem notproper_calls (a0 : ByteArray) (a1 : Int) (A : Option Addr) (c : Nat) (l : List ByteArray) (w : World) (hr : Kd.C Kd.string w A l.length l) (hc : l.length ≤ c) :
    Calls Tryd.prog 61 #[.agg #[.string a0, .int .i64 a1, .slice A l.length c]] w fun e w' => e = .returned (.bool (!properB a0 a1 l)) ∧ Below w.heap.size w w' := by
  have HR := Aside0.mk hr
  have HC := Aside0.mk hc
  clear hr hc
  have hu45 := Tryd.underlying45
  go_enter Tryd.func61, Tryd.ntmps61
  go_wp2_with (go_at_call 62; refine (label_proper.calls a0 a1 A c l (properB a0 a1 l) _ (Kd.C_below HR.out ((Below.refl _ _).alloc (Nat.le_refl _) _)) HC.out rfl).mono ?_; rintro e w' ⟨rfl, hb⟩)
  go_ret
  exact ⟨rfl, below_step ((Below.refl _ _).alloc (Nat.le_refl _) _) hb⟩
theorem all_true {l : List S45} (h : ∀ j, j < l.length → propB (rd_T45 l (j : Int)) = true) : l.all propB = true := by
  rw [List.all_eq_true]
  intro x hx
  obtain ⟨j, hj, rfl⟩ := List.getElem_of_mem hx
  have := h j hj
  simpa [rd_T45, List.getD_eq_getElem?_getD, List.getElem?_eq_getElem hj] using this
theorem all_false {l : List S45} (j : Nat) (hj : j < l.length) (h : propB (rd_T45 l (j : Int)) = false) : l.all propB = false := by
  rw [List.all_eq_false]
  refine ⟨l[j], List.getElem_mem _, ?_⟩
  have : rd_T45 l (j : Int) = l[j] := by simp [rd_T45, List.getD_eq_getElem?_getD, List.getElem?_eq_getElem hj]
  rw [this] at h
  simp [h]
def IdxPost (b : Bool) (w : World) (e : Ending) (w' : World) : Prop := ∃ r : Int, e = .returned (.int .i64 r) ∧ decide (0 ≤ r) = b ∧ Below w.heap.size w w'
set_option maxHeartbeats 4000000 in
set_option maxRecDepth 100000 in
theorem indexfunc_calls (A0 : Option Addr) (c0 : Nat) (l0 : List S45) (w : World) (hr0 : Kd.C k45 w A0 l0.length l0) (hc0 : l0.length ≤ c0) (h8 : l0.length ≤ 8) :
    Calls Tryd.prog 76 #[.slice A0 l0.length c0, .func (.func 61) #[] #[]] w (IdxPost (!l0.all propB) w) := by
  have HR := Aside0.mk hr0
  have HC := Aside0.mk hc0
  clear hr0 hc0
  have hu45 := Tryd.underlying45
  go_enter Tryd.func76, Tryd.ntmps76
  go_wp2
  go_loopg [5, 8] l0.length (fun g v5 v8 wr => ∃ i : Nat, v8 = .int .i64 i ∧ i ≤ l0.length ∧ l0.length ≤ i + g ∧ Aside0 (∀ j, j < i → propB (rd_T45 l0 (j : Int)) = true) ∧ Aside0 (Below w.heap.size w wr))
  case atStart => exact ⟨0, rfl, by omega, by omega, ⟨fun j hj => by omega⟩, ⟨Below.refl _ _⟩⟩
  case round =>
    obtain ⟨i, rfl, hin, hig, hall, hbw⟩ := hrel
    by_cases hlt : i < l0.length
    · cases gk with
      | zero => omega
      | succ g =>
        obtain ⟨ad, A2, c2, eA, hx0, hx1, hx2, hl2, hi2⟩ := at_T45 HR.out (i : Int) (by omega) (by omega)
        cases eA
        rw [Int.toNat_natCast] at hx0 hx1 hx2
        replace hx0 := (hbw.out.cell (World.block_lt_of_cell? w _ hx0)).trans hx0
        replace hx1 := (hbw.out.cell (World.block_lt_of_cell? w _ hx1)).trans hx1
        replace hx2 := (hbw.out.cell (World.block_lt_of_cell? w _ hx2)).trans hx2
        have HR2 := Aside0.mk (Kd.C_below hi2 hbw.out)
        have HC2 := Aside0.mk hl2
        have hp : propB (rd_T45 l0 (i : Int)) = properB (rd_T45 l0 (i : Int)).f0 (rd_T45 l0 (i : Int)).f1 (rd_T45 l0 (i : Int)).f2 := rfl
        have HP := Lib.hid hp
        have hon : propB (rd_T45 l0 (i : Int)) = true → ∀ j, j < i + 1 → propB (rd_T45 l0 (j : Int)) = true := fun h1 j hj => by
          rcases Nat.lt_or_ge j i with h | h
          · exact hall.out j h
          · have e : j = i := by omega
            rw [e]; exact h1
        have HON := Lib.hid hon
        clear hl2 hi2 hp hon hall
        cases hpp : properB (rd_T45 l0 (i : Int)).f0 (rd_T45 l0 (i : Int)).f1 (rd_T45 l0 (i : Int)).f2 with
        | true =>
          have HPP := Lib.hid hpp
          clear hpp
          go_wp2_with (go_at_call 61; refine (notproper_calls _ _ _ _ _ _ HR2.out HC2.out).mono ?_; rintro e w1 ⟨rfl, hb⟩; rw [HPP.out]; have hbw2 := Aside0.mk (below_step hbw.out hb); clear hb)
          go_roundg g
          case measure => omega
          case rel => exact ⟨i + 1, by go_num, by omega, by omega, ⟨HON.out (HP.out.trans HPP.out)⟩, hbw2⟩
        | false =>
          have HPP := Lib.hid hpp
          have HF := Lib.hid (all_false i hlt (HP.out.trans hpp))
          clear hpp
          go_wp2_with (go_at_call 61; refine (notproper_calls _ _ _ _ _ _ HR2.out HC2.out).mono ?_; rintro e w1 ⟨rfl, hb⟩; rw [HPP.out]; have hbw2 := Aside0.mk (below_step hbw.out hb); clear hb)
          go_ret
          exact ⟨_, rfl, by rw [HF.out]; simp, hbw2.out⟩
    · obtain rfl : i = l0.length := by omega
      have HF := Lib.hid (all_true hall.out)
      clear hall
      go_wp2
      go_ret
      exact ⟨_, rfl, by rw [HF.out]; rfl, hbw.out⟩
set_option maxHeartbeats 4000000 in
set_option maxRecDepth 100000 in
theorem containsfunc_calls (A0 : Option Addr) (c0 : Nat) (l0 : List S45) (w : World) (hr0 : Kd.C k45 w A0 l0.length l0) (hc0 : l0.length ≤ c0) (h8 : l0.length ≤ 8) :
    Calls Tryd.prog 60 #[.slice A0 l0.length c0, .func (.func 61) #[] #[]] w fun e w' => e = .returned (.bool (!l0.all propB)) ∧ Below w.heap.size w w' := by
  have HR := Aside0.mk hr0
  have HC := Aside0.mk hc0
  clear hr0 hc0
  go_enter Tryd.func60, Tryd.ntmps60
  go_wp2_with (go_at_call 76; refine (indexfunc_calls A0 c0 l0 _ HR.out HC.out h8).mono ?_; rintro e w1 ⟨r, rfl, hr, hb⟩; have HRR := Lib.hid hr; clear hr)
  go_ret
  exact ⟨by rw [← HRR.out]; rfl, hb⟩
set_option maxHeartbeats 4000000 in
set_option maxRecDepth 100000 in
theorem label_all.calls (A0 : Option Addr) (c0 : Nat) (l0 : List (S45)) (r : Bool) (w : World) (hr0 : Kd.C k45 w A0 l0.length l0) (hc0 : l0.length ≤ c0) (h : label_all.f l0 = some r) :
    Calls Tryd.prog 45 #[.slice A0 l0.length c0] w fun e w' => e = .returned (.bool r) ∧ Below w.heap.size w w' := by
  obtain rfl : (decide (l0.length ≤ 8) && l0.all propB) = r := Option.some.inj h
  clear h
  have HR := Aside0.mk hr0
  have HC := Aside0.mk hc0
  clear hr0 hc0
  by_cases h8 : l0.length ≤ 8
  · have e8 : decide ((l0.length : Int) ≤ 8) = true := by simp; omega
    have hf := Lib.hid (show (decide (l0.length ≤ 8) && l0.all propB) = l0.all propB by rw [decide_eq_true h8]; rfl)
    go_enter Tryd.func45, Tryd.ntmps45
    go_wp2_with (go_at_call 60; refine (containsfunc_calls A0 c0 l0 _ HR.out HC.out h8).mono ?_; rintro e w1 ⟨rfl, hb⟩)
    go_ret
    exact ⟨by rw [hf.out]; simp, hb⟩
  · have e8 : decide ((l0.length : Int) ≤ 8) = false := decide_eq_false (by omega)
    have hf := Lib.hid (show (decide (l0.length ≤ 8) && l0.all propB) = false by rw [decide_eq_false h8]; rfl)
    go_enter Tryd.func45, Tryd.ntmps45
    go_wp2
    go_ret
    exact ⟨by rw [hf.out]; rfl, Below.refl _ _⟩
end Go.Proofs.YteaiobgnhlpblaaDoor.Q
namespace Go.Proofs.YteaiobgnhlpblaaDoor.Q
open Go.RowKit Go.Proofs.YteaiobgnhlpblaaDoorW.PrintWords Go.Proofs.YteaiobgnhlpblaaDoorW.PrintLast Go.Proofs.YteaiobgnhlpblaaDoorW.PrintMore
attribute [local go_sem] max2_int min2_int max_two min_two max_three min_three max_four min_four   -- for this text's walks alone
set_option linter.unusedVariables false
set_option linter.unusedSimpArgs false
def label_Print.l0 : Nat → List ByteArray → List (S45) → Int → Int → Option (ByteArray × Int)
  | 0, _, _, _, _ => none
  | k + 1, x4, x10, x11, x12 => if x12 < x11 then (if 0 ≤ x12 then (if x12 < (x10.length : Int) then ((label_printed.f k ((rd_T45 x10 x12).f0) ((rd_T45 x10 x12).f1) ((rd_T45 x10 x12).f2)).bind fun t235 => (if x4.length < 8796093022208 then (label_Print.l0 k (x4 ++ [t235]) x10 x11 (wrap64 (x12 + 1))) else (none))) else (none)) else (none)) else ((strings_Join.f x4 (⟨#[44]⟩ : ByteArray)).bind fun t239 => (some (t239, 0)))
def label_Print.f (k : Nat) (l0 : List (S45)) : Option (ByteArray × Int) := (label_all.f l0).bind fun t232 => (if t232 = true then (label_Print.l0 k ([] : List ByteArray) l0 (l0.length : Int) 0) else (some ((⟨#[]⟩ : ByteArray), 43)))
theorem label_Print.mono_l : ∀ k, (∀ y0 y1 y2 y3, LeO (label_Print.l0 k y0 y1 y2 y3) (label_Print.l0 (k + 1) y0 y1 y2 y3))
  | 0 => fun _ _ _ _ r h => by simp [label_Print.l0] at h
  | k + 1 => by
    have ih0 := label_Print.mono_l k
    · intro y0 y1 y2 y3
      unfold label_Print.l0
      repeat' first
      | (with_reducible exact ih0 _ _ _ _)
      | (with_reducible exact label_printed.mono _ _ _ _)
      | (with_reducible exact LeO.refl _)
      | (with_reducible exact LeO.none _)
      | (with_reducible refine LeO.ite ?_ ?_)
      | (with_reducible refine LeO.bind ?_ (fun _ => ?_))
      | exact ih0 _ _ _ _
      | exact label_printed.mono _ _ _ _
      | exact LeO.none _
      | refine LeO.ite ?_ ?_
      | refine LeO.bind ?_ (fun _ => ?_)
theorem label_Print.mono : ∀ a0 k, LeO (label_Print.f k a0) (label_Print.f (k + 1) a0) := by
  intro a0 k
  have ih0 := label_Print.mono_l k
  unfold label_Print.f
  repeat' first
      | (with_reducible exact ih0 _ _ _ _)
      | (with_reducible exact label_printed.mono _ _ _ _)
      | (with_reducible exact LeO.refl _)
      | (with_reducible exact LeO.none _)
      | (with_reducible refine LeO.ite ?_ ?_)
      | (with_reducible refine LeO.bind ?_ (fun _ => ?_))
      | exact ih0 _ _ _ _
      | exact label_printed.mono _ _ _ _
      | exact LeO.none _
      | refine LeO.ite ?_ ?_
      | refine LeO.bind ?_ (fun _ => ?_)
set_option maxHeartbeats 8000000 in
set_option maxRecDepth 100000 in
theorem label_Print.calls (k : Nat) (A0 : Option Addr) (c0 : Nat) (l0 : List (S45)) (r1 : ByteArray) (r2 : Int) (w : World) (hr0 : Kd.C k45 w A0 l0.length l0) (hc0 : l0.length ≤ c0) (h : label_Print.f k l0 = some (r1, r2)) :
    Calls Tryd.prog 16 #[.slice A0 l0.length c0] w fun e w' => e = .returned (.tuple #[.string r1, .int .i64 r2]) ∧ Below w.heap.size w w' := by
  have hu45 := Tryd.underlying45
  have HR0 := Aside0.mk hr0
  have HC0 := Aside0.mk hc0
  clear hr0 hc0
  have HB := Aside0.mk (Below.refl w.heap.size w)
  have H : ((label_all.f l0).bind fun t232 => (if t232 = true then (label_Print.l0 k ([] : List ByteArray) l0 (l0.length : Int) 0) else (some ((⟨#[]⟩ : ByteArray), 43)))) = some (r1, r2) := h
  clear h
  replace H := Option.bind_eq_some_iff.mp H
  obtain ⟨t232, A20, H⟩ := H
  replace H : (if t232 = true then (label_Print.l0 k ([] : List ByteArray) l0 (l0.length : Int) 0) else (some ((⟨#[]⟩ : ByteArray), 43))) = some (r1, r2) := H
  have A2 := Aside0.mk A20
  clear A20
  by_cases c3 : t232 = true
  · subst c3
    have H1 : (label_Print.l0 k ([] : List ByteArray) l0 (l0.length : Int) 0) = some (r1, r2) := by rw [if_pos rfl] at H; exact H
    clear H
    have H := H1
    clear H1
    have H' := Aside0.mk H
    clear H
    go_enter Tryd.func16, Tryd.ntmps16
    go_wp2_with (first | ((with_reducible refine gate_callee (f := 45) rfl ?_); refine goesL_ (some 8) rfl rfl Tryd.func45 (by kernel_rfl) rfl #[.slice A0 l0.length c0] rfl (by (try simp only [List.map_toArray, List.map_cons, List.map_nil]); first | done | rfl | (simp only [List.length_drop, List.length_take]; rfl)) ?_; (with_reducible refine (label_all.calls _ _ l0 true _ ?side1 ?side2 A2.out).mono ?_); (case side1 => repeat (first | exact HR0.out | (with_reducible refine Kd.C_alloc ?_ _) | (with_reducible refine Kd.C_drewN ?_ _) | (with_reducible refine Kd.C_drew ?_))); (case side2 => exact HC0.out); rintro e w4 ⟨rfl, hb⟩; refine ⟨_, rfl, ?_⟩; have n0_ := Aside0.mk (below_step (by repeat (first | (with_reducible first | exact HB.out | apply below_alloc | apply pw_below_drewN | apply below_drew1) | exact HB.out)) hb); clear HB; have HB := n0_; clear n0_; (try clear hb); (try clear hb2); (try clear hk); (try clear hi)))
    go_loopg [4, 12] k (fun kq v4 v12 w' => ∃ (x4_1 : List ByteArray) (x12_1 : Int), v12 = .int .i64 x12_1 ∧ Aside0 (label_Print.l0 kq x4_1 l0 (l0.length : Int) x12_1 = some (r1, r2)) ∧ Aside0 (kq ≤ k) ∧ Aside0 (Kd.R Kd.string 9 w' w.heap.size (fun _ => True) v4 x4_1) ∧ Aside0 (Below w.heap.size w w'))
    case atStart => exact ⟨(([] : List ByteArray)), (0), (by first | rfl | (simp; done) | (simp [*]; done) | (simp; rw [Bool.eq_iff_iff]; simp; done) | (rw [Bool.eq_iff_iff]; simp; done)), H', ⟨Nat.le_refl _⟩, ⟨by first | exact Kd.R_nil _ _ _ _ _ | exact Kd.N_nil _ _ _ _ _ | exact Kd.V_nil _ _ _ _ _ | exact Kd.Q_nil _ _ _ _ _ | exact Kd.S_nil _ _ _ _ _⟩, ⟨by repeat (first | (with_reducible first | exact HB.out | apply below_alloc | apply pw_below_drewN | apply below_drew1) | exact HB.out)⟩⟩
    case round =>
      clear H'
      try clear c1
      try clear p2
      try clear c3
      try clear c4
      obtain ⟨x4_1, x12_1, rfl, HA, HK1, HO_4, HB⟩ := hrel
      cases gk with
      | zero => exact absurd HA.out (by simp [label_Print.l0])
      | succ k1 =>
        have H := HA.out
        clear HA
        simp only [label_Print.l0] at H
        by_cases c5 : x12_1 < (l0.length : Int)
        · rw [if_pos c5] at H
          have c5b0 : decide (x12_1 < (l0.length : Int)) = true := decide_eq_true c5
          clear c5
          by_cases c6 : 0 ≤ x12_1
          · rw [if_pos c6] at H
            have c6b0 : decide (0 ≤ x12_1) = true := decide_eq_true c6
            clear c6
            by_cases c7 : x12_1 < (l0.length : Int)
            · rw [if_pos c7] at H
              have c7b0 : decide (x12_1 < (l0.length : Int)) = true := decide_eq_true c7
              clear c7
              replace H := Option.bind_eq_some_iff.mp H
              obtain ⟨t235, A80, H⟩ := H
              replace H : (if x4_1.length < 8796093022208 then (label_Print.l0 k1 (x4_1 ++ [t235]) l0 (l0.length : Int) (wrap64 (x12_1 + 1))) else (none)) = some (r1, r2) := H
              have A8 := Aside0.mk A80
              clear A80
              by_cases c9 : x4_1.length < 8796093022208
              · rw [if_pos c9] at H
                have LMc9 := Aside0.mk c9
                clear c9
                obtain ⟨y236, hy236⟩ : ∃ y_ : List ByteArray, y_ = (x4_1 ++ [t235]) := ⟨_, rfl⟩
                replace H : (label_Print.l0 k1 y236 l0 (l0.length : Int) (wrap64 (x12_1 + 1))) = some (r1, r2) := by first | (rw [hy236]; with_reducible exact H) | (have H2_ := (Option.bind_some _ _).symm.trans H; rw [hy236]; with_reducible exact H2_) | (have H2_ := (Option.bind_some _ _).symm.trans H; with_reducible exact H2_) | with_reducible exact H | (rw [hy236]; exact H) | exact H
                have Ny236 := Aside0.mk hy236
                clear hy236
                have H' := Aside0.mk H
                clear H
                have p233 : 0 ≤ (x12_1 : Int) := of_decide_eq_true (by first | (with_reducible assumption) | assumption)
                have q233 : x12_1 < (l0.length : Int) := of_decide_eq_true (by first | (with_reducible assumption) | assumption)
                obtain ⟨ad233, A233_2, c233_2, e233, hx233_0, hx233_1, hx233_2, hl233_2, hi233_2⟩ := at_T45 HR0.out x12_1 p233 q233
                cases e233
                replace hx233_0 := (HB.out.cell (World.block_lt_of_cell? w _ hx233_0)).trans hx233_0
                replace hx233_1 := (HB.out.cell (World.block_lt_of_cell? w _ hx233_1)).trans hx233_1
                replace hx233_2 := (HB.out.cell (World.block_lt_of_cell? w _ hx233_2)).trans hx233_2
                have HR233_2 := Aside0.mk hi233_2
                have HC233_2 := Aside0.mk hl233_2
                clear hi233_2 hl233_2
                replace p233 := eq_true p233
                replace q233 := eq_true q233
                go_wp2_with (first | ((with_reducible refine gate_dst (N := 6) rfl ?_); refine box_event ?hg (N := 6) ?hd (cs := #[.string (⟨#[]⟩ : ByteArray), .int .i64 0, .slice none 0 0]) (t := 45) ?hr ?_; (case hd => rfl); (case hg => rfl); (case hr => first | (go_simp; done) | (go_simp; rfl)); intro gb234 hg w10 hbox hb; have n0_ := Aside0.mk (Kd.R_below (by (with_reducible repeat (first | apply Kd.R_alloc | apply Kd.R_drewN | apply Kd.R_drew)); exact HO_4.out) hb); have n1_ := Aside0.mk (below_step (by repeat (first | (with_reducible first | exact HB.out | apply below_alloc | apply pw_below_drewN | apply below_drew1) | exact HB.out)) hb); have n2_ := Aside0.mk (hbox); have n3_ := Aside0.mk ((by rw [hg]; exact (below_size (by repeat (first | (with_reducible first | exact HB.out | apply below_alloc | apply pw_below_drewN | apply below_drew1) | exact HB.out))) : w.heap.size ≤ gb234)); have n4_ := Aside0.mk ((by rw [hg]; exact (below_size (by repeat (first | (with_reducible first | exact HB.out | apply below_alloc | apply pw_below_drewN | apply below_drew1) | exact HB.out))) : w.heap.size ≤ gb234)); clear HO_4; clear HB; have HO_4 := n0_; have HB := n1_; have BK234 := n2_; have GW234 := n3_; have GE234 := n4_; clear n0_ n1_ n2_ n3_ n4_; clear hb hbox hg; have hcz11_0 : w10.cell? ⟨gb234, 0, none⟩ = some (.string (⟨#[]⟩ : ByteArray)) := (blk_cell BK234.out 0).trans rfl; have hcz11_1 : w10.cell? ⟨gb234, 1, none⟩ = some (.int .i64 0) := (blk_cell BK234.out 1).trans rfl; have hcz11_2 : w10.cell? ⟨gb234, 2, none⟩ = some (.slice none 0 0) := (blk_cell BK234.out 2).trans rfl; have hfz11_0 := blk_frozen BK234.out 0; have hfz11_1 := blk_frozen BK234.out 1; have hfz11_2 := blk_frozen BK234.out 2) | ((with_reducible refine gate_callee (f := 46) rfl ?_); refine goesL_ (some 18) rfl rfl Tryd.func46 (by kernel_rfl) rfl #[.agg #[.string ((rd_T45 l0 x12_1).f0), .int .i64 ((rd_T45 l0 x12_1).f1), .slice A233_2 ((rd_T45 l0 x12_1).f2).length c233_2]] rfl (by (try simp only [List.map_toArray, List.map_cons, List.map_nil]); first | done | rfl | (simp only [List.length_drop, List.length_take]; rfl)) ?_; (with_reducible refine (label_printed.calls k1 ((rd_T45 l0 x12_1).f0) ((rd_T45 l0 x12_1).f1) _ _ ((rd_T45 l0 x12_1).f2) t235 _ ?side1 ?side2 A8.out).mono ?_); (case side1 => exact Kd.C_below HR233_2.out (by repeat (first | (with_reducible first | exact HB.out | apply below_alloc | apply pw_below_drewN | apply below_drew1 | refine below_set ?_ GE234.out) | exact HB.out))); (case side2 => exact HC233_2.out); rintro e w12 ⟨rfl, hb⟩; refine ⟨_, rfl, ?_⟩; have n0_ := Aside0.mk (Kd.R_below (by (with_reducible repeat (first | apply Kd.R_alloc | apply Kd.R_drewN | apply Kd.R_drew)); exact (Kd.R_mono (Kd.R_far (p := ⟨gb234, 2, none⟩) (Kd.R_far (p := ⟨gb234, 1, none⟩) (Kd.R_far (p := ⟨gb234, 0, none⟩) (Kd.R_types HO_4.out BK234.out (by decide)) (fun _ hk => hk.2) (.string ((rd_T45 l0 x12_1).f0))) (fun _ hk => hk.2) (.int .i64 ((rd_T45 l0 x12_1).f1))) (fun _ hk => hk.2) (.slice A233_2 ((rd_T45 l0 x12_1).f2).length c233_2)) (fun _ h_ => h_.1))) hb); have n1_ := Aside0.mk (blk_below (g := gb234) (o := .cells #[.string ((rd_T45 l0 x12_1).f0), .int .i64 ((rd_T45 l0 x12_1).f1), .slice A233_2 ((rd_T45 l0 x12_1).f2).length c233_2] 45 (0, 0)) (by (with_reducible repeat (first | refine blk_drewN ?_ _ | refine blk_drew ?_ | refine blk_alloc ?_ _)); refine blk_put (cs := #[.string ((rd_T45 l0 x12_1).f0), .int .i64 ((rd_T45 l0 x12_1).f1), .slice none 0 0]) ?_ 2 _ rfl; (with_reducible repeat (first | refine blk_drewN ?_ _ | refine blk_drew ?_ | refine blk_alloc ?_ _)); refine blk_put (cs := #[.string ((rd_T45 l0 x12_1).f0), .int .i64 0, .slice none 0 0]) ?_ 1 _ rfl; (with_reducible repeat (first | refine blk_drewN ?_ _ | refine blk_drew ?_ | refine blk_alloc ?_ _)); refine blk_put (cs := #[.string (⟨#[]⟩ : ByteArray), .int .i64 0, .slice none 0 0]) ?_ 0 _ rfl; (with_reducible repeat (first | refine blk_drewN ?_ _ | refine blk_drew ?_ | refine blk_alloc ?_ _)); exact BK234.out) hb); have n2_ := Aside0.mk (below_step (by repeat (first | (with_reducible first | exact HB.out | apply below_alloc | apply pw_below_drewN | apply below_drew1 | refine below_set ?_ GE234.out) | exact HB.out)) hb); clear HO_4; clear BK234; clear HB; have HO_4 := n0_; have BK234 := n1_; have HB := n2_; clear n0_ n1_ n2_; (try clear hb); (try clear hb2); (try clear hk); (try clear hi)) | ((with_reducible refine gate_builtin (b := .append) (xs := #[.tmp 16, .tmp 19]) rfl ?_); at_builtin; refine Kd.R_append Kd.string (w0 := w) w.heap.size rfl (.tmp 16) (.tmp 19) 35 9 (.string ⟨#[]⟩) 16 rfl Tryd.underlying35 info9 rfl (by decide) (by omega) u4 x4_1 t235 [.string t235] (fun _ => True) (fun _ => False) rfl rfl ?aP (fun _ hk => hk.elim) ?aF ?aO ?aB ?aS ?aL ?_; (case aP => exact rfl); (case aB => exact (by repeat (first | (with_reducible first | exact HB.out | apply below_alloc | apply pw_below_drewN | apply below_drew1 | refine below_set ?_ GE234.out) | exact HB.out))); (case aF => exact (fun _ _ => trivial)); (case aO => exact (by (with_reducible repeat (first | apply Kd.R_alloc | apply Kd.R_drewN | apply Kd.R_drew)); exact HO_4.out)); (case aS => exact (below_size (by repeat (first | (with_reducible first | exact HB.out | apply below_alloc | apply pw_below_drewN | apply below_drew1 | refine below_set ?_ GE234.out) | exact HB.out)))); (case aL => have := LMc9.out; omega); intro v237 w13 ho hb hg hat; rw [← Ny236.out] at ho; have n0_ := Aside0.mk (blk_grown (g := gb234) (o := .cells #[.string ((rd_T45 l0 x12_1).f0), .int .i64 ((rd_T45 l0 x12_1).f1), .slice A233_2 ((rd_T45 l0 x12_1).f2).length c233_2] 45 (0, 0)) (by (with_reducible repeat (first | refine blk_drewN ?_ _ | refine blk_drew ?_ | refine blk_alloc ?_ _)); exact BK234.out) hg (Kd.R_ne HO_4.out BK234.out (by decide))); have n1_ := Aside0.mk (hb); have n2_ := Aside0.mk (ho); clear BK234; clear HB; clear HO_4; have BK234 := n0_; have HB := n1_; have HO238 := n2_; clear n0_ n1_ n2_; clear ho hb hg hat))
                go_roundg k1
                case measure => have := HK1.out; omega
                case rel => exact ⟨(y236), (wrap64 (x12_1 + 1)), (by first | rfl | (simp; done) | (simp [*]; done) | (simp; rw [Bool.eq_iff_iff]; simp; done) | (rw [Bool.eq_iff_iff]; simp; done)), H', ⟨by have := HK1.out; omega⟩, ⟨by (with_reducible repeat (first | apply Kd.R_alloc | apply Kd.R_drewN | apply Kd.R_drew)); exact HO238.out⟩, ⟨by repeat (first | (with_reducible first | exact HB.out | apply below_alloc | apply pw_below_drewN | apply below_drew1 | refine below_set ?_ GE234.out) | exact HB.out)⟩⟩
              · rw [if_neg c9] at H
                exact absurd H (by simp)
            · rw [if_neg c7] at H
              exact absurd H (by simp)
          · rw [if_neg c6] at H
            exact absurd H (by simp)
        · rw [if_neg c5] at H
          have c5b0 : decide (x12_1 < (l0.length : Int)) = false := decide_eq_false c5
          clear c5
          replace H := Option.bind_eq_some_iff.mp H
          obtain ⟨t239, A140, H⟩ := H
          replace H : (some (t239, 0)) = some (r1, r2) := H
          have A14 := Aside0.mk A140
          clear A140
          simp only [Option.some.injEq, Prod.mk.injEq] at H
          obtain ⟨rfl, rfl⟩ := H
          obtain ⟨Ao15, co15, eo15⟩ := Kd.R_slice HO_4.out
          subst eo15
          go_wp2_with (first | ((with_reducible refine gate_callee (f := 47) rfl ?_); refine goesL_ (some 23) rfl rfl Tryd.func47 (by kernel_rfl) rfl #[.slice Ao15 x4_1.length co15, .string (⟨#[44]⟩ : ByteArray)] rfl (by (try simp only [List.map_toArray, List.map_cons, List.map_nil]); first | done | rfl | (simp only [List.length_drop, List.length_take]; rfl)) ?_; (with_reducible refine (strings_Join.calls _ _ x4_1 (⟨#[44]⟩ : ByteArray) t239 _ ?side1 ?side2 A14.out).mono ?_); (case side1 => repeat (first | exact (Kd.R_reads' HO_4.out).2.2 | (with_reducible refine Kd.C_alloc ?_ _) | (with_reducible refine Kd.C_drewN ?_ _) | (with_reducible refine Kd.C_drew ?_))); (case side2 => exact (Kd.R_reads' HO_4.out).2.1); rintro e w16 ⟨rfl, hb⟩; refine ⟨_, rfl, ?_⟩; have n0_ := Aside0.mk (Kd.R_below (by (with_reducible repeat (first | apply Kd.R_alloc | apply Kd.R_drewN | apply Kd.R_drew)); exact HO_4.out) hb); have n1_ := Aside0.mk (below_step (by repeat (first | (with_reducible first | exact HB.out | apply below_alloc | apply pw_below_drewN | apply below_drew1) | exact HB.out)) hb); clear HO_4; clear HB; have HO_4 := n0_; have HB := n1_; clear n0_ n1_; (try clear hb); (try clear hb2); (try clear hk); (try clear hi)))
          go_ret2
          exact ⟨by first | rfl | (simp [errW_none, errW_some] <;> rfl) | (simp [*, errW_none, errW_some] <;> rfl), by repeat (first | (with_reducible first | exact HB.out | apply below_alloc | apply pw_below_drewN | apply below_drew1) | exact HB.out)⟩
  · replace c3 := Bool.eq_false_iff.mpr c3
    subst c3
    have H1 : (some ((⟨#[]⟩ : ByteArray), 43)) = some (r1, r2) := by rw [if_neg (show ¬ (false = true) by decide)] at H; exact H
    clear H
    have H := H1
    clear H1
    simp only [Option.some.injEq, Prod.mk.injEq] at H
    obtain ⟨rfl, rfl⟩ := H
    go_enter Tryd.func16, Tryd.ntmps16
    go_wp2_with (first | ((with_reducible refine gate_callee (f := 45) rfl ?_); refine goesL_ (some 8) rfl rfl Tryd.func45 (by kernel_rfl) rfl #[.slice A0 l0.length c0] rfl (by (try simp only [List.map_toArray, List.map_cons, List.map_nil]); first | done | rfl | (simp only [List.length_drop, List.length_take]; rfl)) ?_; (with_reducible refine (label_all.calls _ _ l0 false _ ?side1 ?side2 A2.out).mono ?_); (case side1 => repeat (first | exact HR0.out | (with_reducible refine Kd.C_alloc ?_ _) | (with_reducible refine Kd.C_drewN ?_ _) | (with_reducible refine Kd.C_drew ?_))); (case side2 => exact HC0.out); rintro e w17 ⟨rfl, hb⟩; refine ⟨_, rfl, ?_⟩; have n0_ := Aside0.mk (below_step (by repeat (first | (with_reducible first | exact HB.out | apply below_alloc | apply pw_below_drewN | apply below_drew1) | exact HB.out)) hb); clear HB; have HB := n0_; clear n0_; (try clear hb); (try clear hb2); (try clear hk); (try clear hi)))
    go_ret2
    exact ⟨by first | rfl | (simp [errW_none, errW_some] <;> rfl) | (simp [*, errW_none, errW_some] <;> rfl), by repeat (first | (with_reducible first | exact HB.out | apply below_alloc | apply pw_below_drewN | apply below_drew1) | exact HB.out)⟩
end Go.Proofs.YteaiobgnhlpblaaDoor.Q
namespace Go.Proofs.YteaiobgnhlpblaaDoor.Q
open Go.RowKit Go.Proofs.YteaiobgnhlpblaaDoorW.PrintWords Go.Proofs.YteaiobgnhlpblaaDoorW.PrintLast Go.Proofs.YteaiobgnhlpblaaDoorW.PrintMore
attribute [local go_sem] max2_int min2_int max_two min_two max_three min_three max_four min_four   -- for this text's walks alone
set_option linter.unusedVariables false
set_option linter.unusedSimpArgs false
def stringslite_HasSuffix.f (a0 : ByteArray) (a1 : ByteArray) : Option (Bool) := if (a0.size : Int) ≥ (a1.size : Int) then (if 0 ≤ (wrap64 ((a0.size : Int) - (a1.size : Int))) then (if (wrap64 ((a0.size : Int) - (a1.size : Int))) ≤ (a0.size : Int) then (some ((a0.extract ((wrap64 ((a0.size : Int) - (a1.size : Int))) : Int).toNat a0.size).toList == a1.toList)) else (none)) else (none)) else (some false)
set_option maxHeartbeats 8000000 in
set_option maxRecDepth 100000 in
theorem stringslite_HasSuffix.calls (a0 : ByteArray) (a1 : ByteArray) (r : Bool) (w : World) (h : stringslite_HasSuffix.f a0 a1 = some r) :
    Calls Tryd.prog 86 #[.string a0, .string a1] w fun e w' => e = .returned (.bool r) ∧ Drawn0 w w' := by
  have H : (if (a0.size : Int) ≥ (a1.size : Int) then (if 0 ≤ (wrap64 ((a0.size : Int) - (a1.size : Int))) then (if (wrap64 ((a0.size : Int) - (a1.size : Int))) ≤ (a0.size : Int) then (some ((a0.extract ((wrap64 ((a0.size : Int) - (a1.size : Int))) : Int).toNat a0.size).toList == a1.toList)) else (none)) else (none)) else (some false)) = some r := h
  clear h
  by_cases c3 : (a0.size : Int) ≥ (a1.size : Int)
  · rw [if_pos c3] at H
    have c3b0 : decide ((a1.size : Int) ≤ (a0.size : Int)) = true := decide_eq_true c3
    have c3b1 : decide (a1.size ≤ a0.size) = true := decide_eq_true (Int.ofNat_le.mp c3)
    clear c3
    obtain ⟨ji4, hji4⟩ : ∃ j_ : Int, (wrap64 ((a0.size : Int) - (a1.size : Int))) = j_ := ⟨_, rfl⟩
    replace H : (if 0 ≤ (ji4) then (if (ji4) ≤ (a0.size : Int) then (some ((a0.extract ((ji4) : Int).toNat a0.size).toList == a1.toList)) else (none)) else (none)) = some r := by first | (rw [hji4] at H; exact H) | (simp only [hji4] at H ⊢; exact H)
    have hji4w : (IntKind.i64.wrap ((a0.size : Int) - (a1.size : Int))) = ji4 := (i64_w _).trans hji4
    by_cases c5 : 0 ≤ (ji4)
    · rw [if_pos c5] at H
      have c5b0 := eq_true c5
      have c5b1 : decide (0 ≤ (ji4)) = true := decide_eq_true c5
      clear c5
      by_cases c6 : (ji4) ≤ (a0.size : Int)
      · rw [if_pos c6] at H
        have c6b0 := eq_true c6
        have c6b1 : decide ((ji4) ≤ (a0.size : Int)) = true := decide_eq_true c6
        clear c6
        obtain rfl := Option.some.inj H
        go_enter Tryd.func86, Tryd.ntmps86
        go_wp2
        go_ret
        exact ⟨by first | rfl | (simp; done) | (simp only [← hji4] <;> (first | rfl | simp)) | (simp [*]; done), by repeat (first | exact Drawn0.refl _ | apply Drawn0.step)⟩
      · rw [if_neg c6] at H
        exact absurd H (by simp)
    · rw [if_neg c5] at H
      exact absurd H (by simp)
  · rw [if_neg c3] at H
    have c3b0 : decide ((a1.size : Int) ≤ (a0.size : Int)) = false := decide_eq_false c3
    have c3b1 : decide (a1.size ≤ a0.size) = false := decide_eq_false (fun h => c3 (Int.ofNat_le.mpr h))
    clear c3
    obtain rfl := Option.some.inj H
    go_enter Tryd.func86, Tryd.ntmps86
    go_wp2
    go_ret
    exact ⟨by first | rfl | (simp; done) | (simp [*]; done), by repeat (first | exact Drawn0.refl _ | apply Drawn0.step)⟩
end Go.Proofs.YteaiobgnhlpblaaDoor.Q
namespace Go.Proofs.YteaiobgnhlpblaaDoor.Q
open Go.RowKit Go.Proofs.YteaiobgnhlpblaaDoorW.PrintWords Go.Proofs.YteaiobgnhlpblaaDoorW.PrintLast Go.Proofs.YteaiobgnhlpblaaDoorW.PrintMore
attribute [local go_sem] max2_int min2_int max_two min_two max_three min_three max_four min_four   -- for this text's walks alone
set_option linter.unusedVariables false
set_option linter.unusedSimpArgs false
def stringslite_CutSuffix.f (a0 : ByteArray) (a1 : ByteArray) : Option (ByteArray × Bool) := (stringslite_HasSuffix.f a0 a1).bind fun t554 => (if t554 = true then (if 0 ≤ (wrap64 ((a0.size : Int) - (a1.size : Int))) then (if (wrap64 ((a0.size : Int) - (a1.size : Int))) ≤ (a0.size : Int) then (some (a0.extract 0 ((wrap64 ((a0.size : Int) - (a1.size : Int))) : Int).toNat, true)) else (none)) else (none)) else (some (a0, false)))
set_option maxHeartbeats 8000000 in
set_option maxRecDepth 100000 in
theorem stringslite_CutSuffix.calls (a0 : ByteArray) (a1 : ByteArray) (r1 : ByteArray) (r2 : Bool) (w : World) (h : stringslite_CutSuffix.f a0 a1 = some (r1, r2)) :
    Calls Tryd.prog 75 #[.string a0, .string a1] w fun e w' => e = .returned (.tuple #[.string r1, .bool r2]) ∧ Drawn0 w w' := by
  have H : ((stringslite_HasSuffix.f a0 a1).bind fun t554 => (if t554 = true then (if 0 ≤ (wrap64 ((a0.size : Int) - (a1.size : Int))) then (if (wrap64 ((a0.size : Int) - (a1.size : Int))) ≤ (a0.size : Int) then (some (a0.extract 0 ((wrap64 ((a0.size : Int) - (a1.size : Int))) : Int).toNat, true)) else (none)) else (none)) else (some (a0, false)))) = some (r1, r2) := h
  clear h
  replace H := Option.bind_eq_some_iff.mp H
  obtain ⟨t554, A30, H⟩ := H
  replace H : (if t554 = true then (if 0 ≤ (wrap64 ((a0.size : Int) - (a1.size : Int))) then (if (wrap64 ((a0.size : Int) - (a1.size : Int))) ≤ (a0.size : Int) then (some (a0.extract 0 ((wrap64 ((a0.size : Int) - (a1.size : Int))) : Int).toNat, true)) else (none)) else (none)) else (some (a0, false))) = some (r1, r2) := H
  have A3 := Aside0.mk A30
  clear A30
  by_cases c4 : t554 = true
  · subst c4
    have H1 : (if 0 ≤ (wrap64 ((a0.size : Int) - (a1.size : Int))) then (if (wrap64 ((a0.size : Int) - (a1.size : Int))) ≤ (a0.size : Int) then (some (a0.extract 0 ((wrap64 ((a0.size : Int) - (a1.size : Int))) : Int).toNat, true)) else (none)) else (none)) = some (r1, r2) := by rw [if_pos rfl] at H; exact H
    clear H
    have H := H1
    clear H1
    obtain ⟨ji5, hji5⟩ : ∃ j_ : Int, (wrap64 ((a0.size : Int) - (a1.size : Int))) = j_ := ⟨_, rfl⟩
    replace H : (if 0 ≤ (ji5) then (if (ji5) ≤ (a0.size : Int) then (some (a0.extract 0 ((ji5) : Int).toNat, true)) else (none)) else (none)) = some (r1, r2) := by first | (rw [hji5] at H; exact H) | (simp only [hji5] at H ⊢; exact H)
    (try rw [hji5] at A3)
    have hji5w : (IntKind.i64.wrap ((a0.size : Int) - (a1.size : Int))) = ji5 := (i64_w _).trans hji5
    by_cases c6 : 0 ≤ (ji5)
    · rw [if_pos c6] at H
      have c6b0 := eq_true c6
      have c6b1 : decide (0 ≤ (ji5)) = true := decide_eq_true c6
      clear c6
      by_cases c7 : (ji5) ≤ (a0.size : Int)
      · rw [if_pos c7] at H
        have c7b0 := eq_true c7
        have c7b1 : decide ((ji5) ≤ (a0.size : Int)) = true := decide_eq_true c7
        clear c7
        simp only [Option.some.injEq, Prod.mk.injEq] at H
        obtain ⟨rfl, rfl⟩ := H
        go_enter Tryd.func75, Tryd.ntmps75
        go_wp2_with (first | ((with_reducible refine gate_callee (f := 86) rfl ?_); refine goesL_ (some 8) rfl rfl Tryd.func86 (by kernel_rfl) rfl #[.string a0, .string a1] rfl (by (try simp only [List.map_toArray, List.map_cons, List.map_nil]); first | done | rfl | (simp only [List.length_drop, List.length_take]; rfl)) ?_; (with_reducible refine (stringslite_HasSuffix.calls a0 a1 true _ A3.out).mono ?_); rintro e w' ⟨rfl, ⟨nd, rfl⟩⟩; refine ⟨_, rfl, ?_⟩))
        go_ret2
        exact ⟨by first | rfl | (simp; done) | (simp only [← hji5] <;> (first | rfl | simp)) | (simp [*]; done), by repeat (first | exact Drawn0.refl _ | apply Drawn0.step)⟩
      · rw [if_neg c7] at H
        exact absurd H (by simp)
    · rw [if_neg c6] at H
      exact absurd H (by simp)
  · replace c4 := Bool.eq_false_iff.mpr c4
    subst c4
    have H1 : (some (a0, false)) = some (r1, r2) := by rw [if_neg (show ¬ (false = true) by decide)] at H; exact H
    clear H
    have H := H1
    clear H1
    simp only [Option.some.injEq, Prod.mk.injEq] at H
    obtain ⟨rfl, rfl⟩ := H
    go_enter Tryd.func75, Tryd.ntmps75
    go_wp2_with (first | ((with_reducible refine gate_callee (f := 86) rfl ?_); refine goesL_ (some 8) rfl rfl Tryd.func86 (by kernel_rfl) rfl #[.string a0, .string a1] rfl (by (try simp only [List.map_toArray, List.map_cons, List.map_nil]); first | done | rfl | (simp only [List.length_drop, List.length_take]; rfl)) ?_; (with_reducible refine (stringslite_HasSuffix.calls a0 a1 false _ A3.out).mono ?_); rintro e w' ⟨rfl, ⟨nd, rfl⟩⟩; refine ⟨_, rfl, ?_⟩))
    go_ret2
    exact ⟨by first | rfl | (simp; done) | (simp [*]; done), by repeat (first | exact Drawn0.refl _ | apply Drawn0.step)⟩
end Go.Proofs.YteaiobgnhlpblaaDoor.Q
namespace Go.Proofs.YteaiobgnhlpblaaDoor.Q
open Go.RowKit Go.Proofs.YteaiobgnhlpblaaDoorW.PrintWords Go.Proofs.YteaiobgnhlpblaaDoorW.PrintLast Go.Proofs.YteaiobgnhlpblaaDoorW.PrintMore
attribute [local go_sem] max2_int min2_int max_two min_two max_three min_three max_four min_four   -- for this text's walks alone
set_option linter.unusedVariables false
set_option linter.unusedSimpArgs false
def strings_CutSuffix.f (a0 : ByteArray) (a1 : ByteArray) : Option (ByteArray × Bool) := (stringslite_CutSuffix.f a0 a1).bind fun bt555 => (some (bt555.1, bt555.2))
set_option maxHeartbeats 8000000 in
set_option maxRecDepth 100000 in
theorem strings_CutSuffix.calls (a0 : ByteArray) (a1 : ByteArray) (r1 : ByteArray) (r2 : Bool) (w : World) (h : strings_CutSuffix.f a0 a1 = some (r1, r2)) :
    Calls Tryd.prog 59 #[.string a0, .string a1] w fun e w' => e = .returned (.tuple #[.string r1, .bool r2]) ∧ Drawn0 w w' := by
  have H : ((stringslite_CutSuffix.f a0 a1).bind fun bt555 => (some (bt555.1, bt555.2))) = some (r1, r2) := h
  clear h
  replace H := Option.bind_eq_some_iff.mp H
  obtain ⟨⟨t555, t556⟩, A30, H⟩ := H
  replace H : (some (t555, t556)) = some (r1, r2) := H
  have A3 := Aside0.mk A30
  clear A30
  simp only [Option.some.injEq, Prod.mk.injEq] at H
  obtain ⟨rfl, rfl⟩ := H
  go_enter Tryd.func59, Tryd.ntmps59
  go_wp2_with (first | ((with_reducible refine gate_callee (f := 75) rfl ?_); refine goesL_ (some 8) rfl rfl Tryd.func75 (by kernel_rfl) rfl #[.string a0, .string a1] rfl (by (try simp only [List.map_toArray, List.map_cons, List.map_nil]); first | done | rfl | (simp only [List.length_drop, List.length_take]; rfl)) ?_; (with_reducible refine (stringslite_CutSuffix.calls a0 a1 t555 t556 _ A3.out).mono ?_); rintro e w' ⟨rfl, ⟨nd, rfl⟩⟩; refine ⟨_, rfl, ?_⟩))
  go_ret2
  exact ⟨by first | rfl | (simp; done) | (simp [*]; done), by repeat (first | exact Drawn0.refl _ | apply Drawn0.step)⟩
end Go.Proofs.YteaiobgnhlpblaaDoor.Q
