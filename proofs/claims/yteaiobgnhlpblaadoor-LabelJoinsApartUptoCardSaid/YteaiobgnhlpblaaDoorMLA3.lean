/- What the statement LabelJoinsApartUptoCardSaid rests on, part 3 of 3: walks and plain laws. -/
import Derived.Test.YteaiobgnhlpblaaDoorRows
import Derived.Test.YteaiobgnhlpblaaDoorCards
import Derived.Test.YteaiobgnhlpblaaDoorTie
import Derived.Test.YteaiobgnhlpblaaDoorMLA1
import Derived.Test.YteaiobgnhlpblaaDoorMLA2
import Derived.SliceStrings
import Derived.WalkKit
import Derived.ProofKit
import Derived.OpenShut
import Derived.ShutString
import Derived.ChangeOld
import Derived.Below
import Derived.SizedLaws
import Derived.Deep.DeepHandedRow
namespace Go.Proofs.YteaiobgnhlpblaaDoor.Q
open Go.RowKit Go.Proofs.YteaiobgnhlpblaaDoorW.PrintWords Go.Proofs.YteaiobgnhlpblaaDoorW.PrintLast Go.Proofs.YteaiobgnhlpblaaDoorW.PrintMore
attribute [local go_sem] max2_int min2_int max_two min_two max_three min_three max_four min_four   -- for this text's walks alone
set_option linter.unusedVariables false
set_option linter.unusedSimpArgs false

/-! ### bursarref04_Name: function 19 -/
mutual
def bursarref04_Name.j0 : Nat → ByteArray → Bool → Option (Bool)
  | 0, _, _ => none
  | k + 1, x0, x25 => if x25 = true then (some false) else (bursarref04_Name.l0 k x0 0)
def bursarref04_Name.l0 : Nat → ByteArray → Int → Option (Bool)
  | 0, _, _ => none
  | k + 1, x0, x3 => if x3 < (x0.size : Int) then (if 0 ≤ x3 then (if (bt x0 x3) ≥ 97 then (if ((bt x0 x3) ≤ 122) then (bursarref04_Name.l0 k x0 (wrap64 (x3 + 1))) else (if (bt x0 x3) ≥ 48 then (if ((bt x0 x3) ≤ 57) then (bursarref04_Name.l0 k x0 (wrap64 (x3 + 1))) else (if (bt x0 x3) = 45 then (bursarref04_Name.l0 k x0 (wrap64 (x3 + 1))) else (some false))) else (if (bt x0 x3) = 45 then (bursarref04_Name.l0 k x0 (wrap64 (x3 + 1))) else (some false)))) else (if (bt x0 x3) ≥ 48 then (if ((bt x0 x3) ≤ 57) then (bursarref04_Name.l0 k x0 (wrap64 (x3 + 1))) else (if (bt x0 x3) = 45 then (bursarref04_Name.l0 k x0 (wrap64 (x3 + 1))) else (some false))) else (if (bt x0 x3) = 45 then (bursarref04_Name.l0 k x0 (wrap64 (x3 + 1))) else (some false)))) else (none)) else (some true)
end
def bursarref04_Name.f (k : Nat) (a0 : ByteArray) : Option (Bool) := if (a0.size : Int) < 1 then (bursarref04_Name.j0 k a0 true) else (if (a0.size : Int) > 32 then (bursarref04_Name.j0 k a0 true) else (if 0 < (a0.size : Int) then (if (bt a0 0) = 45 then (bursarref04_Name.j0 k a0 true) else (if 0 ≤ (wrap64 ((a0.size : Int) - 1)) then (if (wrap64 ((a0.size : Int) - 1)) < (a0.size : Int) then (bursarref04_Name.j0 k a0 ((bt a0 (wrap64 ((a0.size : Int) - 1))) == 45)) else (none)) else (none))) else (none)))
theorem bursarref04_Name.mono_l : ∀ k, (∀ y0 y1, LeO (bursarref04_Name.j0 k y0 y1) (bursarref04_Name.j0 (k + 1) y0 y1)) ∧ (∀ y0 y1, LeO (bursarref04_Name.l0 k y0 y1) (bursarref04_Name.l0 (k + 1) y0 y1))
  | 0 => ⟨fun _ _ r h => by simp [bursarref04_Name.j0] at h, fun _ _ r h => by simp [bursarref04_Name.l0] at h⟩
  | k + 1 => by
    obtain ⟨ih0, ih1⟩ := bursarref04_Name.mono_l k
    refine ⟨?_, ?_⟩
    · intro y0 y1
      unfold bursarref04_Name.j0
      repeat' first
      | (with_reducible exact ih0 _ _)
      | (with_reducible exact ih1 _ _)
      | (with_reducible exact LeO.refl _)
      | (with_reducible exact LeO.none _)
      | (with_reducible refine LeO.ite ?_ ?_)
      | (with_reducible refine LeO.bind ?_ (fun _ => ?_))
      | exact ih0 _ _
      | exact ih1 _ _
      | exact LeO.none _
      | refine LeO.ite ?_ ?_
      | refine LeO.bind ?_ (fun _ => ?_)
    · intro y0 y1
      unfold bursarref04_Name.l0
      repeat' first
      | (with_reducible exact ih0 _ _)
      | (with_reducible exact ih1 _ _)
      | (with_reducible exact LeO.refl _)
      | (with_reducible exact LeO.none _)
      | (with_reducible refine LeO.ite ?_ ?_)
      | (with_reducible refine LeO.bind ?_ (fun _ => ?_))
      | exact ih0 _ _
      | exact ih1 _ _
      | exact LeO.none _
      | refine LeO.ite ?_ ?_
      | refine LeO.bind ?_ (fun _ => ?_)
theorem bursarref04_Name.mono : ∀ a0 k, LeO (bursarref04_Name.f k a0) (bursarref04_Name.f (k + 1) a0) := by
  intro a0 k
  obtain ⟨ih0, ih1⟩ := bursarref04_Name.mono_l k
  unfold bursarref04_Name.f
  repeat' first
      | (with_reducible exact ih0 _ _)
      | (with_reducible exact ih1 _ _)
      | (with_reducible exact LeO.refl _)
      | (with_reducible exact LeO.none _)
      | (with_reducible refine LeO.ite ?_ ?_)
      | (with_reducible refine LeO.bind ?_ (fun _ => ?_))
      | exact ih0 _ _
      | exact ih1 _ _
      | exact LeO.none _
      | refine LeO.ite ?_ ?_
      | refine LeO.bind ?_ (fun _ => ?_)
set_option maxHeartbeats 8000000 in
set_option maxRecDepth 100000 in
theorem bursarref04_Name.calls (k : Nat) (a0 : ByteArray) (r : Bool) (w : World) (h : bursarref04_Name.f k a0 = some r) :
    Calls Tryd.prog 19 #[.string a0] w fun e w' => e = .returned (.bool r) ∧ Drawn0 w w' := by
  have H : (if (a0.size : Int) < 1 then (bursarref04_Name.j0 k a0 true) else (if (a0.size : Int) > 32 then (bursarref04_Name.j0 k a0 true) else (if 0 < (a0.size : Int) then (if (bt a0 0) = 45 then (bursarref04_Name.j0 k a0 true) else (if 0 ≤ (wrap64 ((a0.size : Int) - 1)) then (if (wrap64 ((a0.size : Int) - 1)) < (a0.size : Int) then (bursarref04_Name.j0 k a0 ((bt a0 (wrap64 ((a0.size : Int) - 1))) == 45)) else (none)) else (none))) else (none)))) = some r := h
  clear h
  have HC2 := Aside0.mk H
  clear H
  go_enter Tryd.func19, Tryd.ntmps19
  go_upto_region 1 with (fail)
  go_cut [25] (fun v25 wc => ∃ (kq : Nat) (x25_1 : Bool), v25 = .bool x25_1 ∧ Aside0 (bursarref04_Name.j0 kq a0 x25_1 = some r) ∧ Aside0 (kq ≤ k) ∧ Drawn0 w wc)
  case first =>
    have H := HC2.out
    clear HC2
    by_cases c3 : (a0.size : Int) < 1
    · rw [if_pos c3] at H
      have c3b0 : decide ((a0.size : Int) < 1) = true := decide_eq_true c3
      have c3b1 : decide (a0.size < 1) = true := decide_eq_true (by omega)
      clear c3
      (first | rw [c3b0] | (simp only [i64_w, i32_w]; rw [c3b0]) | skip)
      have H' := Aside0.mk H
      clear H
      go_wp2
      go_meet
      case rel => exact ⟨_, (true), (by first | rfl | (simp; done) | (simp [*]; done) | (simp; rw [Bool.eq_iff_iff]; simp; done) | (rw [Bool.eq_iff_iff]; simp; done)), H', ⟨by first | omega | exact Nat.le_refl _⟩, by repeat (first | exact Drawn0.refl _ | apply Drawn0.step)⟩
    · rw [if_neg c3] at H
      have c3b0 : decide ((a0.size : Int) < 1) = false := decide_eq_false c3
      have c3b1 : decide (a0.size < 1) = false := decide_eq_false (by omega)
      clear c3
      (first | rw [c3b0] | (simp only [i64_w, i32_w]; rw [c3b0]) | skip)
      by_cases c4 : (a0.size : Int) > 32
      · rw [if_pos c4] at H
        have c4b0 : decide (32 < (a0.size : Int)) = true := decide_eq_true c4
        have c4b1 : decide (32 < a0.size) = true := decide_eq_true (by omega)
        clear c4
        have H' := Aside0.mk H
        clear H
        go_wp2
        go_meet
        case rel => exact ⟨_, (true), (by first | rfl | (simp; done) | (simp [*]; done) | (simp; rw [Bool.eq_iff_iff]; simp; done) | (rw [Bool.eq_iff_iff]; simp; done)), H', ⟨by first | omega | exact Nat.le_refl _⟩, by repeat (first | exact Drawn0.refl _ | apply Drawn0.step)⟩
      · rw [if_neg c4] at H
        have c4b0 : decide (32 < (a0.size : Int)) = false := decide_eq_false c4
        have c4b1 : decide (32 < a0.size) = false := decide_eq_false (by omega)
        clear c4
        by_cases c5 : 0 < (a0.size : Int)
        · rw [if_pos c5] at H
          have c5b0 : decide (0 < (a0.size : Int)) = true := decide_eq_true c5
          have c5b1 : decide (0 < a0.size) = true := decide_eq_true (by omega)
          clear c5
          by_cases c7 : (bt a0 0) = 45
          · rw [if_pos c7] at H
            have c7b0 : ((bt a0 0) == 45) = true := beq_iff_eq.mpr c7
            have c7b1 : ((bt a0 0) != 45) = false := bne_eq_false_iff_eq.mpr c7
            clear c7
            have H' := Aside0.mk H
            clear H
            have p6 : 0 ≤ (0 : Int) := (by omega)
            have q6 : 0 < a0.size := (by have : (0 : Int) < (a0.size : Int) := of_decide_eq_true (by first | (with_reducible assumption) | assumption); omega)
            have hx6 : ∀ h : 0 < a0.size, ((a0[0]'h).toNat : Int) = bt a0 0 := bt_at a0 0
            clear p6
            have qi6 : (0 < (a0.size : Int)) = True := eq_true (of_decide_eq_true (by first | (with_reducible assumption) | assumption))
            replace q6 := eq_true q6
            go_wp2
            go_meet
            case rel => exact ⟨_, (true), (by first | rfl | (simp; done) | (simp [*]; done) | (simp; rw [Bool.eq_iff_iff]; simp; done) | (rw [Bool.eq_iff_iff]; simp; done)), H', ⟨by first | omega | exact Nat.le_refl _⟩, by repeat (first | exact Drawn0.refl _ | apply Drawn0.step)⟩
          · rw [if_neg c7] at H
            have c7b0 : ((bt a0 0) == 45) = false := beq_eq_false_iff_ne.mpr c7
            have c7b1 : ((bt a0 0) != 45) = true := bne_iff_ne.mpr c7
            obtain ⟨ji8, hji8⟩ : ∃ j_ : Int, (wrap64 ((a0.size : Int) - 1)) = j_ := ⟨_, rfl⟩
            replace H : (if 0 ≤ (ji8) then (if (ji8) < (a0.size : Int) then (bursarref04_Name.j0 k a0 ((bt a0 (ji8)) == 45)) else (none)) else (none)) = some r := by first | (rw [hji8] at H; exact H) | (simp only [hji8] at H ⊢; exact H)
            have hji8w : (IntKind.i64.wrap ((a0.size : Int) - 1)) = ji8 := (i64_w _).trans hji8
            by_cases c9 : 0 ≤ (ji8)
            · rw [if_pos c9] at H
              have c9b0 : decide (0 ≤ (ji8)) = true := decide_eq_true c9
              clear c9
              by_cases c10 : (ji8) < (a0.size : Int)
              · rw [if_pos c10] at H
                have c10b0 : decide ((ji8) < (a0.size : Int)) = true := decide_eq_true c10
                clear c10
                have H' := Aside0.mk H
                clear H
                have p6 : 0 ≤ (0 : Int) := (by omega)
                have q6 : 0 < a0.size := (by have : (0 : Int) < (a0.size : Int) := of_decide_eq_true (by first | (with_reducible assumption) | assumption); omega)
                have hx6 : ∀ h : 0 < a0.size, ((a0[0]'h).toNat : Int) = bt a0 0 := bt_at a0 0
                clear p6
                have qi6 : (0 < (a0.size : Int)) = True := eq_true (of_decide_eq_true (by first | (with_reducible assumption) | assumption))
                replace q6 := eq_true q6
                have p11 : 0 ≤ ((ji8) : Int) := of_decide_eq_true (by first | (with_reducible assumption) | assumption)
                have q11 : (ji8) < (a0.size : Int) := of_decide_eq_true (by first | (with_reducible assumption) | assumption)
                have hx11 := bt_at a0 (ji8)
                replace p11 := eq_true p11
                replace q11 := eq_true q11
                go_wp2
                go_meet
                case rel => exact ⟨_, (((bt a0 (ji8)) == 45)), (by first | rfl | (simp; done) | (simp only [← hji8] <;> (first | rfl | simp)) | (simp [*]; done)), H', ⟨by first | omega | exact Nat.le_refl _⟩, by repeat (first | exact Drawn0.refl _ | apply Drawn0.step)⟩
              · rw [if_neg c10] at H
                exact absurd H (by simp)
            · rw [if_neg c9] at H
              exact absurd H (by simp)
        · rw [if_neg c5] at H
          exact absurd H (by simp)
  case rest =>
    clear HC2
    try clear c1
    try clear p1
    try clear q1
    try clear hx1
    try clear p2
    try clear c3
    try clear c3b0
    try clear c3b1
    try clear c4
    try clear c4b0
    try clear c4b1
    try clear c5
    try clear c5b0
    try clear c5b1
    try clear p6
    try clear q6
    try clear hx6
    try clear qi6
    try clear c7
    try clear c7b0
    try clear c7b1
    try clear c9
    try clear c9b0
    try clear c10
    try clear c10b0
    try clear p11
    try clear q11
    try clear hx11
    try clear p11
    try clear p6
    try clear q11
    try clear q6
    obtain ⟨kq, x25_1, rfl, HA, HJ1, ⟨mc1, rfl⟩⟩ := hcut
    cases kq with
    | zero => exact absurd HA.out (by simp [bursarref04_Name.j0])
    | succ kj1 =>
      have H := HA.out
      clear HA
      simp only [bursarref04_Name.j0] at H
      by_cases c12 : x25_1 = true
      · subst c12
        have H1 : (some false) = some r := by rw [if_pos rfl] at H; exact H
        clear H
        have H := H1
        clear H1
        obtain rfl := Option.some.inj H
        go_wp2
        go_ret
        exact ⟨by first | rfl | (simp; done) | (simp [*]; done), by repeat (first | exact Drawn0.refl _ | apply Drawn0.step)⟩
      · replace c12 := Bool.eq_false_iff.mpr c12
        subst c12
        have H1 : (bursarref04_Name.l0 kj1 a0 0) = some r := by rw [if_neg (show ¬ (false = true) by decide)] at H; exact H
        clear H
        have H := H1
        clear H1
        have H' := Aside0.mk H
        clear H
        go_wp2
        go_loopg [3] kj1 (fun kq v3 w' => ∃ (x3_2 : Int), v3 = .int .i64 x3_2 ∧ Aside0 (bursarref04_Name.l0 kq a0 x3_2 = some r) ∧ Aside0 (kq ≤ kj1) ∧ Drawn0 w w')
        case atStart => exact ⟨(0), (by first | rfl | (simp; done) | (simp [*]; done) | (simp; rw [Bool.eq_iff_iff]; simp; done) | (rw [Bool.eq_iff_iff]; simp; done)), H', ⟨Nat.le_refl _⟩, by repeat (first | exact Drawn0.refl _ | apply Drawn0.step)⟩
        case round =>
          clear H'
          try clear c1
          try clear p1
          try clear q1
          try clear hx1
          try clear p2
          try clear c3
          try clear c3b0
          try clear c3b1
          try clear c4
          try clear c4b0
          try clear c4b1
          try clear c5
          try clear c5b0
          try clear c5b1
          try clear p6
          try clear q6
          try clear hx6
          try clear qi6
          try clear c7
          try clear c7b0
          try clear c7b1
          try clear c9
          try clear c9b0
          try clear c10
          try clear c10b0
          try clear p11
          try clear q11
          try clear hx11
          try clear c12
          try clear p1
          try clear p11
          try clear p2
          try clear p6
          try clear q1
          try clear q11
          try clear q6
          obtain ⟨x3_2, rfl, HA, HK2, ⟨m2, rfl⟩⟩ := hrel
          cases gk with
          | zero => exact absurd HA.out (by simp [bursarref04_Name.l0])
          | succ k2 =>
            have H := HA.out
            clear HA
            simp only [bursarref04_Name.l0] at H
            by_cases c13 : x3_2 < (a0.size : Int)
            · rw [if_pos c13] at H
              have c13b0 : decide (x3_2 < (a0.size : Int)) = true := decide_eq_true c13
              clear c13
              by_cases c14 : 0 ≤ x3_2
              · rw [if_pos c14] at H
                have c14b0 : decide (0 ≤ x3_2) = true := decide_eq_true c14
                clear c14
                by_cases c16 : (bt a0 x3_2) ≥ 97
                · rw [if_pos c16] at H
                  have c16b0 : decide (97 ≤ (bt a0 x3_2)) = true := decide_eq_true c16
                  clear c16
                  by_cases c17 : ((bt a0 x3_2) ≤ 122)
                  · rw [if_pos c17] at H
                    have c17b0 : decide ((bt a0 x3_2) ≤ 122) = true := decide_eq_true c17
                    clear c17
                    have H' := Aside0.mk H
                    clear H
                    have p15 : 0 ≤ (x3_2 : Int) := of_decide_eq_true (by first | (with_reducible assumption) | assumption)
                    have q15 : x3_2 < (a0.size : Int) := of_decide_eq_true (by first | (with_reducible assumption) | assumption)
                    have hx15 := bt_at a0 x3_2
                    replace p15 := eq_true p15
                    replace q15 := eq_true q15
                    go_wp2
                    go_roundg k2
                    case measure => have := HJ1.out; have := HK2.out; omega
                    case rel => exact ⟨(wrap64 (x3_2 + 1)), (by first | rfl | (simp; done) | (simp [*]; done) | (simp; rw [Bool.eq_iff_iff]; simp; done) | (rw [Bool.eq_iff_iff]; simp; done)), H', ⟨by have := HJ1.out; have := HK2.out; omega⟩, by repeat (first | exact Drawn0.refl _ | apply Drawn0.step)⟩
                  · rw [if_neg c17] at H
                    have c17b0 : decide ((bt a0 x3_2) ≤ 122) = false := decide_eq_false c17
                    clear c17
                    by_cases c18 : (bt a0 x3_2) ≥ 48
                    · rw [if_pos c18] at H
                      have c18b0 : decide (48 ≤ (bt a0 x3_2)) = true := decide_eq_true c18
                      clear c18
                      by_cases c19 : ((bt a0 x3_2) ≤ 57)
                      · rw [if_pos c19] at H
                        have c19b0 : decide ((bt a0 x3_2) ≤ 57) = true := decide_eq_true c19
                        clear c19
                        have H' := Aside0.mk H
                        clear H
                        have p15 : 0 ≤ (x3_2 : Int) := of_decide_eq_true (by first | (with_reducible assumption) | assumption)
                        have q15 : x3_2 < (a0.size : Int) := of_decide_eq_true (by first | (with_reducible assumption) | assumption)
                        have hx15 := bt_at a0 x3_2
                        replace p15 := eq_true p15
                        replace q15 := eq_true q15
                        go_wp2
                        go_roundg k2
                        case measure => have := HJ1.out; have := HK2.out; omega
                        case rel => exact ⟨(wrap64 (x3_2 + 1)), (by first | rfl | (simp; done) | (simp [*]; done) | (simp; rw [Bool.eq_iff_iff]; simp; done) | (rw [Bool.eq_iff_iff]; simp; done)), H', ⟨by have := HJ1.out; have := HK2.out; omega⟩, by repeat (first | exact Drawn0.refl _ | apply Drawn0.step)⟩
                      · rw [if_neg c19] at H
                        have c19b0 : decide ((bt a0 x3_2) ≤ 57) = false := decide_eq_false c19
                        clear c19
                        by_cases c20 : (bt a0 x3_2) = 45
                        · rw [if_pos c20] at H
                          have c20b0 : ((bt a0 x3_2) == 45) = true := beq_iff_eq.mpr c20
                          have c20b1 : ((bt a0 x3_2) != 45) = false := bne_eq_false_iff_eq.mpr c20
                          clear c20
                          have H' := Aside0.mk H
                          clear H
                          have p15 : 0 ≤ (x3_2 : Int) := of_decide_eq_true (by first | (with_reducible assumption) | assumption)
                          have q15 : x3_2 < (a0.size : Int) := of_decide_eq_true (by first | (with_reducible assumption) | assumption)
                          have hx15 := bt_at a0 x3_2
                          replace p15 := eq_true p15
                          replace q15 := eq_true q15
                          go_wp2
                          go_roundg k2
                          case measure => have := HJ1.out; have := HK2.out; omega
                          case rel => exact ⟨(wrap64 (x3_2 + 1)), (by first | rfl | (simp; done) | (simp [*]; done) | (simp; rw [Bool.eq_iff_iff]; simp; done) | (rw [Bool.eq_iff_iff]; simp; done)), H', ⟨by have := HJ1.out; have := HK2.out; omega⟩, by repeat (first | exact Drawn0.refl _ | apply Drawn0.step)⟩
                        · rw [if_neg c20] at H
                          have c20b0 : ((bt a0 x3_2) == 45) = false := beq_eq_false_iff_ne.mpr c20
                          have c20b1 : ((bt a0 x3_2) != 45) = true := bne_iff_ne.mpr c20
                          obtain rfl := Option.some.inj H
                          have p15 : 0 ≤ (x3_2 : Int) := of_decide_eq_true (by first | (with_reducible assumption) | assumption)
                          have q15 : x3_2 < (a0.size : Int) := of_decide_eq_true (by first | (with_reducible assumption) | assumption)
                          have hx15 := bt_at a0 x3_2
                          replace p15 := eq_true p15
                          replace q15 := eq_true q15
                          go_wp2
                          go_ret
                          exact ⟨by first | rfl | (simp; done) | (simp [*]; done), by repeat (first | exact Drawn0.refl _ | apply Drawn0.step)⟩
                    · rw [if_neg c18] at H
                      have c18b0 : decide (48 ≤ (bt a0 x3_2)) = false := decide_eq_false c18
                      clear c18
                      by_cases c21 : (bt a0 x3_2) = 45
                      · rw [if_pos c21] at H
                        have c21b0 : ((bt a0 x3_2) == 45) = true := beq_iff_eq.mpr c21
                        have c21b1 : ((bt a0 x3_2) != 45) = false := bne_eq_false_iff_eq.mpr c21
                        clear c21
                        have H' := Aside0.mk H
                        clear H
                        have p15 : 0 ≤ (x3_2 : Int) := of_decide_eq_true (by first | (with_reducible assumption) | assumption)
                        have q15 : x3_2 < (a0.size : Int) := of_decide_eq_true (by first | (with_reducible assumption) | assumption)
                        have hx15 := bt_at a0 x3_2
                        replace p15 := eq_true p15
                        replace q15 := eq_true q15
                        go_wp2
                        go_roundg k2
                        case measure => have := HJ1.out; have := HK2.out; omega
                        case rel => exact ⟨(wrap64 (x3_2 + 1)), (by first | rfl | (simp; done) | (simp [*]; done) | (simp; rw [Bool.eq_iff_iff]; simp; done) | (rw [Bool.eq_iff_iff]; simp; done)), H', ⟨by have := HJ1.out; have := HK2.out; omega⟩, by repeat (first | exact Drawn0.refl _ | apply Drawn0.step)⟩
                      · rw [if_neg c21] at H
                        have c21b0 : ((bt a0 x3_2) == 45) = false := beq_eq_false_iff_ne.mpr c21
                        have c21b1 : ((bt a0 x3_2) != 45) = true := bne_iff_ne.mpr c21
                        obtain rfl := Option.some.inj H
                        have p15 : 0 ≤ (x3_2 : Int) := of_decide_eq_true (by first | (with_reducible assumption) | assumption)
                        have q15 : x3_2 < (a0.size : Int) := of_decide_eq_true (by first | (with_reducible assumption) | assumption)
                        have hx15 := bt_at a0 x3_2
                        replace p15 := eq_true p15
                        replace q15 := eq_true q15
                        go_wp2
                        go_ret
                        exact ⟨by first | rfl | (simp; done) | (simp [*]; done), by repeat (first | exact Drawn0.refl _ | apply Drawn0.step)⟩
                · rw [if_neg c16] at H
                  have c16b0 : decide (97 ≤ (bt a0 x3_2)) = false := decide_eq_false c16
                  clear c16
                  by_cases c22 : (bt a0 x3_2) ≥ 48
                  · rw [if_pos c22] at H
                    have c22b0 : decide (48 ≤ (bt a0 x3_2)) = true := decide_eq_true c22
                    clear c22
                    by_cases c23 : ((bt a0 x3_2) ≤ 57)
                    · rw [if_pos c23] at H
                      have c23b0 : decide ((bt a0 x3_2) ≤ 57) = true := decide_eq_true c23
                      clear c23
                      have H' := Aside0.mk H
                      clear H
                      have p15 : 0 ≤ (x3_2 : Int) := of_decide_eq_true (by first | (with_reducible assumption) | assumption)
                      have q15 : x3_2 < (a0.size : Int) := of_decide_eq_true (by first | (with_reducible assumption) | assumption)
                      have hx15 := bt_at a0 x3_2
                      replace p15 := eq_true p15
                      replace q15 := eq_true q15
                      go_wp2
                      go_roundg k2
                      case measure => have := HJ1.out; have := HK2.out; omega
                      case rel => exact ⟨(wrap64 (x3_2 + 1)), (by first | rfl | (simp; done) | (simp [*]; done) | (simp; rw [Bool.eq_iff_iff]; simp; done) | (rw [Bool.eq_iff_iff]; simp; done)), H', ⟨by have := HJ1.out; have := HK2.out; omega⟩, by repeat (first | exact Drawn0.refl _ | apply Drawn0.step)⟩
                    · rw [if_neg c23] at H
                      have c23b0 : decide ((bt a0 x3_2) ≤ 57) = false := decide_eq_false c23
                      clear c23
                      by_cases c24 : (bt a0 x3_2) = 45
                      · rw [if_pos c24] at H
                        have c24b0 : ((bt a0 x3_2) == 45) = true := beq_iff_eq.mpr c24
                        have c24b1 : ((bt a0 x3_2) != 45) = false := bne_eq_false_iff_eq.mpr c24
                        clear c24
                        have H' := Aside0.mk H
                        clear H
                        have p15 : 0 ≤ (x3_2 : Int) := of_decide_eq_true (by first | (with_reducible assumption) | assumption)
                        have q15 : x3_2 < (a0.size : Int) := of_decide_eq_true (by first | (with_reducible assumption) | assumption)
                        have hx15 := bt_at a0 x3_2
                        replace p15 := eq_true p15
                        replace q15 := eq_true q15
                        go_wp2
                        go_roundg k2
                        case measure => have := HJ1.out; have := HK2.out; omega
                        case rel => exact ⟨(wrap64 (x3_2 + 1)), (by first | rfl | (simp; done) | (simp [*]; done) | (simp; rw [Bool.eq_iff_iff]; simp; done) | (rw [Bool.eq_iff_iff]; simp; done)), H', ⟨by have := HJ1.out; have := HK2.out; omega⟩, by repeat (first | exact Drawn0.refl _ | apply Drawn0.step)⟩
                      · rw [if_neg c24] at H
                        have c24b0 : ((bt a0 x3_2) == 45) = false := beq_eq_false_iff_ne.mpr c24
                        have c24b1 : ((bt a0 x3_2) != 45) = true := bne_iff_ne.mpr c24
                        obtain rfl := Option.some.inj H
                        have p15 : 0 ≤ (x3_2 : Int) := of_decide_eq_true (by first | (with_reducible assumption) | assumption)
                        have q15 : x3_2 < (a0.size : Int) := of_decide_eq_true (by first | (with_reducible assumption) | assumption)
                        have hx15 := bt_at a0 x3_2
                        replace p15 := eq_true p15
                        replace q15 := eq_true q15
                        go_wp2
                        go_ret
                        exact ⟨by first | rfl | (simp; done) | (simp [*]; done), by repeat (first | exact Drawn0.refl _ | apply Drawn0.step)⟩
                  · rw [if_neg c22] at H
                    have c22b0 : decide (48 ≤ (bt a0 x3_2)) = false := decide_eq_false c22
                    clear c22
                    by_cases c25 : (bt a0 x3_2) = 45
                    · rw [if_pos c25] at H
                      have c25b0 : ((bt a0 x3_2) == 45) = true := beq_iff_eq.mpr c25
                      have c25b1 : ((bt a0 x3_2) != 45) = false := bne_eq_false_iff_eq.mpr c25
                      clear c25
                      have H' := Aside0.mk H
                      clear H
                      have p15 : 0 ≤ (x3_2 : Int) := of_decide_eq_true (by first | (with_reducible assumption) | assumption)
                      have q15 : x3_2 < (a0.size : Int) := of_decide_eq_true (by first | (with_reducible assumption) | assumption)
                      have hx15 := bt_at a0 x3_2
                      replace p15 := eq_true p15
                      replace q15 := eq_true q15
                      go_wp2
                      go_roundg k2
                      case measure => have := HJ1.out; have := HK2.out; omega
                      case rel => exact ⟨(wrap64 (x3_2 + 1)), (by first | rfl | (simp; done) | (simp [*]; done) | (simp; rw [Bool.eq_iff_iff]; simp; done) | (rw [Bool.eq_iff_iff]; simp; done)), H', ⟨by have := HJ1.out; have := HK2.out; omega⟩, by repeat (first | exact Drawn0.refl _ | apply Drawn0.step)⟩
                    · rw [if_neg c25] at H
                      have c25b0 : ((bt a0 x3_2) == 45) = false := beq_eq_false_iff_ne.mpr c25
                      have c25b1 : ((bt a0 x3_2) != 45) = true := bne_iff_ne.mpr c25
                      obtain rfl := Option.some.inj H
                      have p15 : 0 ≤ (x3_2 : Int) := of_decide_eq_true (by first | (with_reducible assumption) | assumption)
                      have q15 : x3_2 < (a0.size : Int) := of_decide_eq_true (by first | (with_reducible assumption) | assumption)
                      have hx15 := bt_at a0 x3_2
                      replace p15 := eq_true p15
                      replace q15 := eq_true q15
                      go_wp2
                      go_ret
                      exact ⟨by first | rfl | (simp; done) | (simp [*]; done), by repeat (first | exact Drawn0.refl _ | apply Drawn0.step)⟩
              · rw [if_neg c14] at H
                exact absurd H (by simp)
            · rw [if_neg c13] at H
              have c13b0 : decide (x3_2 < (a0.size : Int)) = false := decide_eq_false c13
              clear c13
              obtain rfl := Option.some.inj H
              go_wp2
              go_ret
              exact ⟨by first | rfl | (simp; done) | (simp [*]; done), by repeat (first | exact Drawn0.refl _ | apply Drawn0.step)⟩

end Go.Proofs.YteaiobgnhlpblaaDoor.Q
namespace Go.Proofs.YteaiobgnhlpblaaDoor.Q
open Go.RowKit Go.Proofs.YteaiobgnhlpblaaDoorW.PrintWords Go.Proofs.YteaiobgnhlpblaaDoorW.PrintLast Go.Proofs.YteaiobgnhlpblaaDoorW.PrintMore
attribute [local go_sem] max2_int min2_int max_two min_two max_three min_three max_four min_four   -- for this text's walks alone
set_option linter.unusedVariables false
set_option linter.unusedSimpArgs false

/-! ### bursarref04_pieces: function 43 -/
def bursarref04_pieces.l0 : Nat → ByteArray → Int → List ByteArray → Int → Int → Option (List ByteArray)
  | 0, _, _, _, _, _ => none
  | k + 1, x0, x1, x5, x6, x7 => if x7 ≤ (x0.size : Int) then (if x7 = (x0.size : Int) then (if 0 ≤ x6 then (if x6 ≤ x7 then (if x5.length < 8796093022208 then (bursarref04_pieces.l0 k x0 x1 (x5 ++ [x0.extract (x6 : Int).toNat (x7 : Int).toNat]) (wrap64 (x7 + 1)) (wrap64 (x7 + 1))) else (none)) else (none)) else (none)) else (if 0 ≤ x7 then (if x7 < (x0.size : Int) then (if (bt x0 x7) = x1 then (if 0 ≤ x6 then (if x6 ≤ x7 then (if x5.length < 8796093022208 then (bursarref04_pieces.l0 k x0 x1 (x5 ++ [x0.extract (x6 : Int).toNat (x7 : Int).toNat]) (wrap64 (x7 + 1)) (wrap64 (x7 + 1))) else (none)) else (none)) else (none)) else (bursarref04_pieces.l0 k x0 x1 x5 x6 (wrap64 (x7 + 1)))) else (none)) else (none))) else (some x5)
def bursarref04_pieces.f (k : Nat) (a0 : ByteArray) (a1 : Int) : Option (List ByteArray) := bursarref04_pieces.l0 k a0 a1 ([] : List ByteArray) 0 0
theorem bursarref04_pieces.mono_l : ∀ k, (∀ y0 y1 y2 y3 y4, LeO (bursarref04_pieces.l0 k y0 y1 y2 y3 y4) (bursarref04_pieces.l0 (k + 1) y0 y1 y2 y3 y4))
  | 0 => fun _ _ _ _ _ r h => by simp [bursarref04_pieces.l0] at h
  | k + 1 => by
    have ih0 := bursarref04_pieces.mono_l k
    · intro y0 y1 y2 y3 y4
      unfold bursarref04_pieces.l0
      repeat' first
      | (with_reducible exact ih0 _ _ _ _ _)
      | (with_reducible exact LeO.refl _)
      | (with_reducible exact LeO.none _)
      | (with_reducible refine LeO.ite ?_ ?_)
      | (with_reducible refine LeO.bind ?_ (fun _ => ?_))
      | exact ih0 _ _ _ _ _
      | exact LeO.none _
      | refine LeO.ite ?_ ?_
      | refine LeO.bind ?_ (fun _ => ?_)
theorem bursarref04_pieces.mono : ∀ a0 a1 k, LeO (bursarref04_pieces.f k a0 a1) (bursarref04_pieces.f (k + 1) a0 a1) := by
  intro a0 a1 k
  have ih0 := bursarref04_pieces.mono_l k
  unfold bursarref04_pieces.f
  repeat' first
      | (with_reducible exact ih0 _ _ _ _ _)
      | (with_reducible exact LeO.refl _)
      | (with_reducible exact LeO.none _)
      | (with_reducible refine LeO.ite ?_ ?_)
      | (with_reducible refine LeO.bind ?_ (fun _ => ?_))
      | exact ih0 _ _ _ _ _
      | exact LeO.none _
      | refine LeO.ite ?_ ?_
      | refine LeO.bind ?_ (fun _ => ?_)
set_option maxHeartbeats 8000000 in
set_option maxRecDepth 100000 in
theorem bursarref04_pieces.calls (k : Nat) (a0 : ByteArray) (a1 : Int) (r : List ByteArray) (w : World) (h : bursarref04_pieces.f k a0 a1 = some r) :
    Calls Tryd.prog 43 #[.string a0, .int .u8 a1] w fun e w' => ∃ v0_ : Value, e = .returned (v0_) ∧ Kd.R Kd.string 9 w' w.heap.size (fun _ => True) v0_ r ∧ Below w.heap.size w w' := by
  have HB := Aside0.mk (Below.refl w.heap.size w)
  have H : (bursarref04_pieces.l0 k a0 a1 ([] : List ByteArray) 0 0) = some r := h
  clear h
  have H' := Aside0.mk H
  clear H
  go_enter Tryd.func43, Tryd.ntmps43
  go_wp2
  go_loopg [5, 6, 7] k (fun kq v5 v6 v7 w' => ∃ (x5_1 : List ByteArray) (x6_1 : Int) (x7_1 : Int), v6 = .int .i64 x6_1 ∧ v7 = .int .i64 x7_1 ∧ Aside0 (bursarref04_pieces.l0 kq a0 a1 x5_1 x6_1 x7_1 = some r) ∧ Aside0 (kq ≤ k) ∧ Aside0 (Kd.R Kd.string 9 w' w.heap.size (fun _ => True) v5 x5_1) ∧ Aside0 (Below w.heap.size w w'))
  case atStart => exact ⟨(([] : List ByteArray)), (0), (0), (by first | rfl | (simp; done) | (simp [*]; done) | (simp; rw [Bool.eq_iff_iff]; simp; done) | (rw [Bool.eq_iff_iff]; simp; done)), (by first | rfl | (simp; done) | (simp [*]; done) | (simp; rw [Bool.eq_iff_iff]; simp; done) | (rw [Bool.eq_iff_iff]; simp; done)), H', ⟨Nat.le_refl _⟩, ⟨by first | exact Kd.R_nil _ _ _ _ _ | exact Kd.N_nil _ _ _ _ _ | exact Kd.V_nil _ _ _ _ _ | exact Kd.Q_nil _ _ _ _ _ | exact Kd.S_nil _ _ _ _ _⟩, ⟨by repeat (first | (with_reducible first | exact HB.out | apply below_alloc | apply pw_below_drewN | apply below_drew1) | exact HB.out)⟩⟩
  case round =>
    clear H'
    try clear p2
    obtain ⟨x5_1, x6_1, x7_1, rfl, rfl, HA, HK1, HO_5, HB⟩ := hrel
    cases gk with
    | zero => exact absurd HA.out (by simp [bursarref04_pieces.l0])
    | succ k1 =>
      have H := HA.out
      clear HA
      simp only [bursarref04_pieces.l0] at H
      by_cases c3 : x7_1 ≤ (a0.size : Int)
      · rw [if_pos c3] at H
        have c3b0 : decide (x7_1 ≤ (a0.size : Int)) = true := decide_eq_true c3
        clear c3
        by_cases c4 : x7_1 = (a0.size : Int)
        · rw [if_pos c4] at H
          have c4b0 : (x7_1 == (a0.size : Int)) = true := beq_iff_eq.mpr c4
          have c4b1 : (x7_1 != (a0.size : Int)) = false := bne_eq_false_iff_eq.mpr c4
          clear c4
          by_cases c5 : 0 ≤ x6_1
          · rw [if_pos c5] at H
            have c5b0 := eq_true c5
            have c5b1 : decide (0 ≤ x6_1) = true := decide_eq_true c5
            clear c5
            by_cases c6 : x6_1 ≤ x7_1
            · rw [if_pos c6] at H
              have c6b0 := eq_true c6
              have c6b1 : decide (x6_1 ≤ x7_1) = true := decide_eq_true c6
              clear c6
              have c7b0 := eq_true (of_decide_eq_true (by first | (with_reducible assumption) | assumption) : x7_1 ≤ (a0.size : Int))
              by_cases c8 : x5_1.length < 8796093022208
              · rw [if_pos c8] at H
                have LMc8 := Aside0.mk c8
                clear c8
                obtain ⟨y157, hy157⟩ : ∃ y_ : List ByteArray, y_ = (x5_1 ++ [a0.extract (x6_1 : Int).toNat (x7_1 : Int).toNat]) := ⟨_, rfl⟩
                replace H : (bursarref04_pieces.l0 k1 a0 a1 y157 (wrap64 (x7_1 + 1)) (wrap64 (x7_1 + 1))) = some r := by first | (rw [hy157]; with_reducible exact H) | (have H2_ := (Option.bind_some _ _).symm.trans H; rw [hy157]; with_reducible exact H2_) | (have H2_ := (Option.bind_some _ _).symm.trans H; with_reducible exact H2_) | with_reducible exact H | (rw [hy157]; exact H) | exact H
                have Ny157 := Aside0.mk hy157
                clear hy157
                have H' := Aside0.mk H
                clear H
                go_wp2_with (first | ((with_reducible refine gate_builtin (b := .append) (xs := #[.tmp 25, .tmp 30]) rfl ?_); at_builtin; refine Kd.R_append Kd.string (w0 := w) w.heap.size rfl (.tmp 25) (.tmp 30) 35 9 (.string ⟨#[]⟩) 16 rfl Tryd.underlying35 info9 rfl (by decide) (by omega) u5 x5_1 (a0.extract (x6_1 : Int).toNat (x7_1 : Int).toNat) [.string (a0.extract (x6_1 : Int).toNat (x7_1 : Int).toNat)] (fun _ => True) (fun _ => False) rfl rfl ?aP (fun _ hk => hk.elim) ?aF ?aO ?aB ?aS ?aL ?_; (case aP => exact rfl); (case aB => exact (by repeat (first | (with_reducible first | exact HB.out | apply below_alloc | apply pw_below_drewN | apply below_drew1) | exact HB.out))); (case aF => exact (fun _ _ => trivial)); (case aO => exact (by (with_reducible repeat (first | apply Kd.R_alloc | apply Kd.R_drewN | apply Kd.R_drew)); exact HO_5.out)); (case aS => exact (below_size (by repeat (first | (with_reducible first | exact HB.out | apply below_alloc | apply pw_below_drewN | apply below_drew1) | exact HB.out)))); (case aL => have := LMc8.out; omega); intro v158 w9 ho hb hg hat; rw [← Ny157.out] at ho; have n0_ := Aside0.mk (hb); have n1_ := Aside0.mk (ho); clear HB; clear HO_5; have HB := n0_; have HO159 := n1_; clear n0_ n1_; clear ho hb hg hat))
                go_roundg k1
                case measure => have := HK1.out; omega
                case rel => exact ⟨(y157), (wrap64 (x7_1 + 1)), (wrap64 (x7_1 + 1)), (by first | rfl | (simp; done) | (simp [*]; done) | (simp; rw [Bool.eq_iff_iff]; simp; done) | (rw [Bool.eq_iff_iff]; simp; done)), (by first | rfl | (simp; done) | (simp [*]; done) | (simp; rw [Bool.eq_iff_iff]; simp; done) | (rw [Bool.eq_iff_iff]; simp; done)), H', ⟨by have := HK1.out; omega⟩, ⟨by (with_reducible repeat (first | apply Kd.R_alloc | apply Kd.R_drewN | apply Kd.R_drew)); exact HO159.out⟩, ⟨by repeat (first | (with_reducible first | exact HB.out | apply below_alloc | apply pw_below_drewN | apply below_drew1) | exact HB.out)⟩⟩
              · rw [if_neg c8] at H
                exact absurd H (by simp)
            · rw [if_neg c6] at H
              exact absurd H (by simp)
          · rw [if_neg c5] at H
            exact absurd H (by simp)
        · rw [if_neg c4] at H
          have c4b0 : (x7_1 == (a0.size : Int)) = false := beq_eq_false_iff_ne.mpr c4
          have c4b1 : (x7_1 != (a0.size : Int)) = true := bne_iff_ne.mpr c4
          by_cases c10 : 0 ≤ x7_1
          · rw [if_pos c10] at H
            have c10b0 : decide (0 ≤ x7_1) = true := decide_eq_true c10
            clear c10
            by_cases c11 : x7_1 < (a0.size : Int)
            · rw [if_pos c11] at H
              have c11b0 : decide (x7_1 < (a0.size : Int)) = true := decide_eq_true c11
              clear c11
              by_cases c13 : (bt a0 x7_1) = a1
              · rw [if_pos c13] at H
                have c13b0 : ((bt a0 x7_1) == a1) = true := beq_iff_eq.mpr c13
                have c13b1 : ((bt a0 x7_1) != a1) = false := bne_eq_false_iff_eq.mpr c13
                clear c13
                by_cases c14 : 0 ≤ x6_1
                · rw [if_pos c14] at H
                  have c14b0 := eq_true c14
                  have c14b1 : decide (0 ≤ x6_1) = true := decide_eq_true c14
                  clear c14
                  by_cases c15 : x6_1 ≤ x7_1
                  · rw [if_pos c15] at H
                    have c15b0 := eq_true c15
                    have c15b1 : decide (x6_1 ≤ x7_1) = true := decide_eq_true c15
                    clear c15
                    have c16b0 := eq_true (of_decide_eq_true (by first | (with_reducible assumption) | assumption) : x7_1 ≤ (a0.size : Int))
                    by_cases c17 : x5_1.length < 8796093022208
                    · rw [if_pos c17] at H
                      have LMc17 := Aside0.mk c17
                      clear c17
                      obtain ⟨y160, hy160⟩ : ∃ y_ : List ByteArray, y_ = (x5_1 ++ [a0.extract (x6_1 : Int).toNat (x7_1 : Int).toNat]) := ⟨_, rfl⟩
                      replace H : (bursarref04_pieces.l0 k1 a0 a1 y160 (wrap64 (x7_1 + 1)) (wrap64 (x7_1 + 1))) = some r := by first | (rw [hy160]; with_reducible exact H) | (have H2_ := (Option.bind_some _ _).symm.trans H; rw [hy160]; with_reducible exact H2_) | (have H2_ := (Option.bind_some _ _).symm.trans H; with_reducible exact H2_) | with_reducible exact H | (rw [hy160]; exact H) | exact H
                      have Ny160 := Aside0.mk hy160
                      clear hy160
                      have H' := Aside0.mk H
                      clear H
                      have p12 : 0 ≤ (x7_1 : Int) := of_decide_eq_true (by first | (with_reducible assumption) | assumption)
                      have q12 : x7_1 < (a0.size : Int) := of_decide_eq_true (by first | (with_reducible assumption) | assumption)
                      have hx12 := bt_at a0 x7_1
                      replace p12 := eq_true p12
                      replace q12 := eq_true q12
                      go_wp2_with (first | ((with_reducible refine gate_builtin (b := .append) (xs := #[.tmp 25, .tmp 30]) rfl ?_); at_builtin; refine Kd.R_append Kd.string (w0 := w) w.heap.size rfl (.tmp 25) (.tmp 30) 35 9 (.string ⟨#[]⟩) 16 rfl Tryd.underlying35 info9 rfl (by decide) (by omega) u5 x5_1 (a0.extract (x6_1 : Int).toNat (x7_1 : Int).toNat) [.string (a0.extract (x6_1 : Int).toNat (x7_1 : Int).toNat)] (fun _ => True) (fun _ => False) rfl rfl ?aP (fun _ hk => hk.elim) ?aF ?aO ?aB ?aS ?aL ?_; (case aP => exact rfl); (case aB => exact (by repeat (first | (with_reducible first | exact HB.out | apply below_alloc | apply pw_below_drewN | apply below_drew1) | exact HB.out))); (case aF => exact (fun _ _ => trivial)); (case aO => exact (by (with_reducible repeat (first | apply Kd.R_alloc | apply Kd.R_drewN | apply Kd.R_drew)); exact HO_5.out)); (case aS => exact (below_size (by repeat (first | (with_reducible first | exact HB.out | apply below_alloc | apply pw_below_drewN | apply below_drew1) | exact HB.out)))); (case aL => have := LMc17.out; omega); intro v161 w18 ho hb hg hat; rw [← Ny160.out] at ho; have n0_ := Aside0.mk (hb); have n1_ := Aside0.mk (ho); clear HB; clear HO_5; have HB := n0_; have HO162 := n1_; clear n0_ n1_; clear ho hb hg hat))
                      go_roundg k1
                      case measure => have := HK1.out; omega
                      case rel => exact ⟨(y160), (wrap64 (x7_1 + 1)), (wrap64 (x7_1 + 1)), (by first | rfl | (simp; done) | (simp [*]; done) | (simp; rw [Bool.eq_iff_iff]; simp; done) | (rw [Bool.eq_iff_iff]; simp; done)), (by first | rfl | (simp; done) | (simp [*]; done) | (simp; rw [Bool.eq_iff_iff]; simp; done) | (rw [Bool.eq_iff_iff]; simp; done)), H', ⟨by have := HK1.out; omega⟩, ⟨by (with_reducible repeat (first | apply Kd.R_alloc | apply Kd.R_drewN | apply Kd.R_drew)); exact HO162.out⟩, ⟨by repeat (first | (with_reducible first | exact HB.out | apply below_alloc | apply pw_below_drewN | apply below_drew1) | exact HB.out)⟩⟩
                    · rw [if_neg c17] at H
                      exact absurd H (by simp)
                  · rw [if_neg c15] at H
                    exact absurd H (by simp)
                · rw [if_neg c14] at H
                  exact absurd H (by simp)
              · rw [if_neg c13] at H
                have c13b0 : ((bt a0 x7_1) == a1) = false := beq_eq_false_iff_ne.mpr c13
                have c13b1 : ((bt a0 x7_1) != a1) = true := bne_iff_ne.mpr c13
                have H' := Aside0.mk H
                clear H
                have p12 : 0 ≤ (x7_1 : Int) := of_decide_eq_true (by first | (with_reducible assumption) | assumption)
                have q12 : x7_1 < (a0.size : Int) := of_decide_eq_true (by first | (with_reducible assumption) | assumption)
                have hx12 := bt_at a0 x7_1
                replace p12 := eq_true p12
                replace q12 := eq_true q12
                go_wp2
                go_roundg k1
                case measure => have := HK1.out; omega
                case rel => exact ⟨(x5_1), (x6_1), (wrap64 (x7_1 + 1)), (by first | rfl | (simp; done) | (simp [*]; done) | (simp; rw [Bool.eq_iff_iff]; simp; done) | (rw [Bool.eq_iff_iff]; simp; done)), (by first | rfl | (simp; done) | (simp [*]; done) | (simp; rw [Bool.eq_iff_iff]; simp; done) | (rw [Bool.eq_iff_iff]; simp; done)), H', ⟨by have := HK1.out; omega⟩, ⟨by (with_reducible repeat (first | apply Kd.R_alloc | apply Kd.R_drewN | apply Kd.R_drew)); exact HO_5.out⟩, ⟨by repeat (first | (with_reducible first | exact HB.out | apply below_alloc | apply pw_below_drewN | apply below_drew1) | exact HB.out)⟩⟩
            · rw [if_neg c11] at H
              exact absurd H (by simp)
          · rw [if_neg c10] at H
            exact absurd H (by simp)
      · rw [if_neg c3] at H
        have c3b0 : decide (x7_1 ≤ (a0.size : Int)) = false := decide_eq_false c3
        clear c3
        obtain rfl := Option.some.inj H
        go_wp2
        go_ret
        exact ⟨_, by first | rfl | (simp [errW_none, errW_some] <;> rfl) | (simp [*, errW_none, errW_some] <;> rfl), by (with_reducible repeat (first | apply Kd.R_alloc | apply Kd.R_drewN | apply Kd.R_drew)); exact HO_5.out, by repeat (first | (with_reducible first | exact HB.out | apply below_alloc | apply pw_below_drewN | apply below_drew1) | exact HB.out)⟩

end Go.Proofs.YteaiobgnhlpblaaDoor.Q
namespace Go.Proofs.YteaiobgnhlpblaaDoor.Q
open Go.RowKit Go.Proofs.YteaiobgnhlpblaaDoorW.PrintWords Go.Proofs.YteaiobgnhlpblaaDoorW.PrintLast Go.Proofs.YteaiobgnhlpblaaDoorW.PrintMore
attribute [local go_sem] max2_int min2_int max_two min_two max_three min_three max_four min_four   -- for this text's walks alone
set_option linter.unusedVariables false
set_option linter.unusedSimpArgs false

/-! ### bursarref04_Split: function 25 -/
mutual
def bursarref04_Split.j0 : Nat → List ByteArray → Bool → Option (List ByteArray × Int)
  | 0, _, _ => none
  | k + 1, x4, x29 => if x29 = true then (some (([] : List ByteArray), 41)) else (bursarref04_Split.l0 k x4 1)
def bursarref04_Split.l0 : Nat → List ByteArray → Int → Option (List ByteArray × Int)
  | 0, _, _ => none
  | k + 1, x4, x5 => if x5 < (x4.length : Int) then (if 0 ≤ x5 then ((bursarref04_Name.f k (rdOf ByteArray.empty x4 x5)).bind fun t274 => (if t274 = true then (bursarref04_Split.l0 k x4 (wrap64 (x5 + 1))) else (some (([] : List ByteArray), 41)))) else (none)) else (if 1 ≤ (x4.length : Int) then (some ((x4.drop (1 : Int).toNat), 0)) else (none))
end
def bursarref04_Split.f (k : Nat) (a0 : ByteArray) : Option (List ByteArray × Int) := if a0.toList = ([47] : List UInt8) then (some (([] : List ByteArray), 0)) else ((bursarref04_pieces.f k a0 47).bind fun t269 => (if (a0.size : Int) > 64 then (bursarref04_Split.j0 k t269 true) else (if (t269.length : Int) < 2 then (bursarref04_Split.j0 k t269 true) else (if (t269.length : Int) > 9 then (bursarref04_Split.j0 k t269 true) else (if 0 < (t269.length : Int) then (bursarref04_Split.j0 k t269 ((rdOf ByteArray.empty t269 0).toList != ([] : List UInt8))) else (none))))))
theorem bursarref04_Split.mono_l : ∀ k, (∀ y0 y1, LeO (bursarref04_Split.j0 k y0 y1) (bursarref04_Split.j0 (k + 1) y0 y1)) ∧ (∀ y0 y1, LeO (bursarref04_Split.l0 k y0 y1) (bursarref04_Split.l0 (k + 1) y0 y1))
  | 0 => ⟨fun _ _ r h => by simp [bursarref04_Split.j0] at h, fun _ _ r h => by simp [bursarref04_Split.l0] at h⟩
  | k + 1 => by
    obtain ⟨ih0, ih1⟩ := bursarref04_Split.mono_l k
    refine ⟨?_, ?_⟩
    · intro y0 y1
      unfold bursarref04_Split.j0
      repeat' first
      | (with_reducible exact ih0 _ _)
      | (with_reducible exact ih1 _ _)
      | (with_reducible exact bursarref04_Name.mono _ _)
      | (with_reducible exact bursarref04_pieces.mono _ _ _)
      | (with_reducible exact LeO.refl _)
      | (with_reducible exact LeO.none _)
      | (with_reducible refine LeO.ite ?_ ?_)
      | (with_reducible refine LeO.bind ?_ (fun _ => ?_))
      | exact ih0 _ _
      | exact ih1 _ _
      | exact bursarref04_Name.mono _ _
      | exact bursarref04_pieces.mono _ _ _
      | exact LeO.none _
      | refine LeO.ite ?_ ?_
      | refine LeO.bind ?_ (fun _ => ?_)
    · intro y0 y1
      unfold bursarref04_Split.l0
      repeat' first
      | (with_reducible exact ih0 _ _)
      | (with_reducible exact ih1 _ _)
      | (with_reducible exact bursarref04_Name.mono _ _)
      | (with_reducible exact bursarref04_pieces.mono _ _ _)
      | (with_reducible exact LeO.refl _)
      | (with_reducible exact LeO.none _)
      | (with_reducible refine LeO.ite ?_ ?_)
      | (with_reducible refine LeO.bind ?_ (fun _ => ?_))
      | exact ih0 _ _
      | exact ih1 _ _
      | exact bursarref04_Name.mono _ _
      | exact bursarref04_pieces.mono _ _ _
      | exact LeO.none _
      | refine LeO.ite ?_ ?_
      | refine LeO.bind ?_ (fun _ => ?_)
theorem bursarref04_Split.mono : ∀ a0 k, LeO (bursarref04_Split.f k a0) (bursarref04_Split.f (k + 1) a0) := by
  intro a0 k
  obtain ⟨ih0, ih1⟩ := bursarref04_Split.mono_l k
  unfold bursarref04_Split.f
  repeat' first
      | (with_reducible exact ih0 _ _)
      | (with_reducible exact ih1 _ _)
      | (with_reducible exact bursarref04_Name.mono _ _)
      | (with_reducible exact bursarref04_pieces.mono _ _ _)
      | (with_reducible exact LeO.refl _)
      | (with_reducible exact LeO.none _)
      | (with_reducible refine LeO.ite ?_ ?_)
      | (with_reducible refine LeO.bind ?_ (fun _ => ?_))
      | exact ih0 _ _
      | exact ih1 _ _
      | exact bursarref04_Name.mono _ _
      | exact bursarref04_pieces.mono _ _ _
      | exact LeO.none _
      | refine LeO.ite ?_ ?_
      | refine LeO.bind ?_ (fun _ => ?_)
set_option maxHeartbeats 8000000 in
set_option maxRecDepth 100000 in
theorem bursarref04_Split.calls (k : Nat) (a0 : ByteArray) (r1 : List ByteArray) (r2 : Int) (w : World) (h : bursarref04_Split.f k a0 = some (r1, r2)) :
    Calls Tryd.prog 25 #[.string a0] w fun e w' => ∃ v0_ : Value, e = .returned (.tuple #[v0_, .int .i64 r2]) ∧ Kd.Q Kd.string 9 w' w.heap.size (fun _ => True) v0_ r1 ∧ Below w.heap.size w w' := by
  have HB := Aside0.mk (Below.refl w.heap.size w)
  have H : (if a0.toList = ([47] : List UInt8) then (some (([] : List ByteArray), 0)) else ((bursarref04_pieces.f k a0 47).bind fun t269 => (if (a0.size : Int) > 64 then (bursarref04_Split.j0 k t269 true) else (if (t269.length : Int) < 2 then (bursarref04_Split.j0 k t269 true) else (if (t269.length : Int) > 9 then (bursarref04_Split.j0 k t269 true) else (if 0 < (t269.length : Int) then (bursarref04_Split.j0 k t269 ((rdOf ByteArray.empty t269 0).toList != ([] : List UInt8))) else (none))))))) = some (r1, r2) := h
  clear h
  by_cases c2 : a0.toList = ([47] : List UInt8)
  · rw [if_pos c2] at H
    have c2b0 : (a0.toList == ([47] : List UInt8)) = true := beq_iff_eq.mpr c2
    have c2b1 : (a0.toList != ([47] : List UInt8)) = false := bne_eq_false_iff_eq.mpr c2
    clear c2
    simp only [Option.some.injEq, Prod.mk.injEq] at H
    obtain ⟨rfl, rfl⟩ := H
    go_enter Tryd.func25, Tryd.ntmps25
    go_wp2
    go_ret2
    exact ⟨_, by first | rfl | (simp [errW_none, errW_some] <;> rfl) | (simp [*, errW_none, errW_some] <;> rfl), Kd.Q_of_R (by first | exact Kd.R_nil _ _ _ _ _ | exact Kd.N_nil _ _ _ _ _ | exact Kd.V_nil _ _ _ _ _ | exact Kd.Q_nil _ _ _ _ _ | exact Kd.S_nil _ _ _ _ _), by repeat (first | (with_reducible first | exact HB.out | apply below_alloc | apply pw_below_drewN | apply below_drew1) | exact HB.out)⟩
  · rw [if_neg c2] at H
    have c2b0 : (a0.toList == ([47] : List UInt8)) = false := beq_eq_false_iff_ne.mpr c2
    have c2b1 : (a0.toList != ([47] : List UInt8)) = true := bne_iff_ne.mpr c2
    replace H := Option.bind_eq_some_iff.mp H
    obtain ⟨t269, A30, H⟩ := H
    replace H : (if (a0.size : Int) > 64 then (bursarref04_Split.j0 k t269 true) else (if (t269.length : Int) < 2 then (bursarref04_Split.j0 k t269 true) else (if (t269.length : Int) > 9 then (bursarref04_Split.j0 k t269 true) else (if 0 < (t269.length : Int) then (bursarref04_Split.j0 k t269 ((rdOf ByteArray.empty t269 0).toList != ([] : List UInt8))) else (none))))) = some (r1, r2) := H
    have A3 := Aside0.mk A30
    clear A30
    have HC4 := Aside0.mk H
    clear H
    go_enter Tryd.func25, Tryd.ntmps25
    go_upto_region 4 with (first | ((with_reducible refine gate_callee (f := 43) rfl ?_); refine goesL_ (some 10) rfl rfl Tryd.func43 (by kernel_rfl) rfl #[.string a0, .int .u8 47] rfl (by (try simp only [List.map_toArray, List.map_cons, List.map_nil]); first | done | rfl | (simp only [List.length_drop, List.length_take]; rfl)) ?_; (with_reducible refine (bursarref04_pieces.calls k a0 47 t269 _ A3.out).mono ?_); rintro e w5 ⟨v270, rfl, ho0, hb⟩; refine ⟨_, rfl, ?_⟩; have n0_ := Aside0.mk (Kd.R_lower ho0 (below_size (by repeat (first | (with_reducible first | exact HB.out | apply below_alloc | apply pw_below_drewN | apply below_drew1) | exact HB.out)))); have n1_ := Aside0.mk (below_step (by repeat (first | (with_reducible first | exact HB.out | apply below_alloc | apply pw_below_drewN | apply below_drew1) | exact HB.out)) hb); clear HB; have HO271 := n0_; have HB := n1_; clear n0_ n1_; (try clear hb); (try clear hb2); (try clear hk); (try clear hi); (try clear ho0)))
    (try simp only [Act.put, List.setIfInBounds_toArray, List.set_cons_zero, List.set_cons_succ])
    go_cut [29] (fun v29 wc => ∃ (kq : Nat) (x29_3 : Bool), v29 = .bool x29_3 ∧ Aside0 (bursarref04_Split.j0 kq t269 x29_3 = some (r1, r2)) ∧ Aside0 (kq ≤ k) ∧ Aside0 (Kd.R Kd.string 9 wc w.heap.size (fun _ => True) v270 t269) ∧ Aside0 (Below w.heap.size w wc))
    case first =>
      have H := HC4.out
      clear HC4
      by_cases c6 : (a0.size : Int) > 64
      · rw [if_pos c6] at H
        have c6b0 : decide (64 < (a0.size : Int)) = true := decide_eq_true c6
        have c6b1 : decide (64 < a0.size) = true := decide_eq_true (by omega)
        clear c6
        (first | rw [c6b0] | (simp only [i64_w, i32_w]; rw [c6b0]) | skip)
        have H' := Aside0.mk H
        clear H
        go_wp2
        go_meet
        case rel => exact ⟨_, (true), (by first | rfl | (simp; done) | (simp [*]; done) | (simp; rw [Bool.eq_iff_iff]; simp; done) | (rw [Bool.eq_iff_iff]; simp; done)), H', ⟨by first | omega | exact Nat.le_refl _⟩, ⟨by (with_reducible repeat (first | apply Kd.R_alloc | apply Kd.R_drewN | apply Kd.R_drew)); exact HO271.out⟩, ⟨by repeat (first | (with_reducible first | exact HB.out | apply below_alloc | apply pw_below_drewN | apply below_drew1) | exact HB.out)⟩⟩
      · rw [if_neg c6] at H
        have c6b0 : decide (64 < (a0.size : Int)) = false := decide_eq_false c6
        have c6b1 : decide (64 < a0.size) = false := decide_eq_false (by omega)
        clear c6
        (first | rw [c6b0] | (simp only [i64_w, i32_w]; rw [c6b0]) | skip)
        by_cases c7 : (t269.length : Int) < 2
        · rw [if_pos c7] at H
          have c7b0 : decide ((t269.length : Int) < 2) = true := decide_eq_true c7
          have c7b1 : decide (t269.length < 2) = true := decide_eq_true (by omega)
          clear c7
          have H' := Aside0.mk H
          clear H
          obtain ⟨Ao8, co8, eo8⟩ := Kd.R_slice HO271.out
          subst eo8
          go_wp2
          go_meet
          case rel => exact ⟨_, (true), (by first | rfl | (simp; done) | (simp [*]; done) | (simp; rw [Bool.eq_iff_iff]; simp; done) | (rw [Bool.eq_iff_iff]; simp; done)), H', ⟨by first | omega | exact Nat.le_refl _⟩, ⟨by (with_reducible repeat (first | apply Kd.R_alloc | apply Kd.R_drewN | apply Kd.R_drew)); exact HO271.out⟩, ⟨by repeat (first | (with_reducible first | exact HB.out | apply below_alloc | apply pw_below_drewN | apply below_drew1) | exact HB.out)⟩⟩
        · rw [if_neg c7] at H
          have c7b0 : decide ((t269.length : Int) < 2) = false := decide_eq_false c7
          have c7b1 : decide (t269.length < 2) = false := decide_eq_false (by omega)
          clear c7
          by_cases c9 : (t269.length : Int) > 9
          · rw [if_pos c9] at H
            have c9b0 : decide (9 < (t269.length : Int)) = true := decide_eq_true c9
            have c9b1 : decide (9 < t269.length) = true := decide_eq_true (by omega)
            clear c9
            have H' := Aside0.mk H
            clear H
            obtain ⟨Ao10, co10, eo10⟩ := Kd.R_slice HO271.out
            subst eo10
            go_wp2
            go_meet
            case rel => exact ⟨_, (true), (by first | rfl | (simp; done) | (simp [*]; done) | (simp; rw [Bool.eq_iff_iff]; simp; done) | (rw [Bool.eq_iff_iff]; simp; done)), H', ⟨by first | omega | exact Nat.le_refl _⟩, ⟨by (with_reducible repeat (first | apply Kd.R_alloc | apply Kd.R_drewN | apply Kd.R_drew)); exact HO271.out⟩, ⟨by repeat (first | (with_reducible first | exact HB.out | apply below_alloc | apply pw_below_drewN | apply below_drew1) | exact HB.out)⟩⟩
          · rw [if_neg c9] at H
            have c9b0 : decide (9 < (t269.length : Int)) = false := decide_eq_false c9
            have c9b1 : decide (9 < t269.length) = false := decide_eq_false (by omega)
            clear c9
            by_cases c11 : 0 < (t269.length : Int)
            · rw [if_pos c11] at H
              have c11b0 : decide (0 < (t269.length : Int)) = true := decide_eq_true c11
              have c11b1 : decide (0 < t269.length) = true := decide_eq_true (by omega)
              clear c11
              have H' := Aside0.mk H
              clear H
              obtain ⟨Ao12, co12, eo12⟩ := Kd.R_slice HO271.out
              subst eo12
              have p272 : 0 ≤ (0 : Int) := (by omega)
              have q272 : 0 < (t269.length : Int) := of_decide_eq_true (by first | (with_reducible assumption) | assumption)
              obtain ⟨ad272, e272, hx272_0⟩ := Kd.at_string (Kd.R_reads' HO271.out).2.2 0 p272 q272
              cases e272
              have qi272 : (0 < t269.length) = True := eq_true (by omega)
              (try rw [show ((0 : Int)).toNat = 0 from rfl] at hx272_0)
              (try rw [Addr.add_zero'] at hx272_0)
              replace p272 := eq_true p272
              replace q272 := eq_true q272
              go_wp2
              go_meet
              case rel => exact ⟨_, (((rdOf ByteArray.empty t269 0).toList != ([] : List UInt8))), (by first | rfl | (simp; done) | (simp [*]; done) | (simp; rw [Bool.eq_iff_iff]; simp; done) | (rw [Bool.eq_iff_iff]; simp; done)), H', ⟨by first | omega | exact Nat.le_refl _⟩, ⟨by (with_reducible repeat (first | apply Kd.R_alloc | apply Kd.R_drewN | apply Kd.R_drew)); exact HO271.out⟩, ⟨by repeat (first | (with_reducible first | exact HB.out | apply below_alloc | apply pw_below_drewN | apply below_drew1) | exact HB.out)⟩⟩
            · rw [if_neg c11] at H
              exact absurd H (by simp)
    case rest =>
      clear HC4
      try clear c1
      try clear c2
      try clear c2b0
      try clear c2b1
      try clear p2
      try clear q2
      try clear hx2
      try clear qi2
      try clear c4
      try clear c6
      try clear c6b0
      try clear c6b1
      try clear c7
      try clear c7b0
      try clear c7b1
      try clear c9
      try clear c9b0
      try clear c9b1
      try clear c11
      try clear c11b0
      try clear c11b1
      try clear hx272_0
      try clear p272
      try clear q272
      obtain ⟨kq, x29_3, rfl, HA, HJ3, HO_4, HB⟩ := hcut
      cases kq with
      | zero => exact absurd HA.out (by simp [bursarref04_Split.j0])
      | succ kj3 =>
        have H := HA.out
        clear HA
        simp only [bursarref04_Split.j0] at H
        by_cases c13 : x29_3 = true
        · subst c13
          have H1 : (some (([] : List ByteArray), 41)) = some (r1, r2) := by rw [if_pos rfl] at H; exact H
          clear H
          have H := H1
          clear H1
          simp only [Option.some.injEq, Prod.mk.injEq] at H
          obtain ⟨rfl, rfl⟩ := H
          go_wp2
          go_ret2
          exact ⟨_, by first | rfl | (simp [errW_none, errW_some] <;> rfl) | (simp [*, errW_none, errW_some] <;> rfl), Kd.Q_of_R (by first | exact Kd.R_nil _ _ _ _ _ | exact Kd.N_nil _ _ _ _ _ | exact Kd.V_nil _ _ _ _ _ | exact Kd.Q_nil _ _ _ _ _ | exact Kd.S_nil _ _ _ _ _), by repeat (first | (with_reducible first | exact HB.out | apply below_alloc | apply pw_below_drewN | apply below_drew1) | exact HB.out)⟩
        · replace c13 := Bool.eq_false_iff.mpr c13
          subst c13
          have H1 : (bursarref04_Split.l0 kj3 t269 1) = some (r1, r2) := by rw [if_neg (show ¬ (false = true) by decide)] at H; exact H
          clear H
          have H := H1
          clear H1
          have H' := Aside0.mk H
          clear H
          go_wp2
          go_loopg [5] kj3 (fun kq v5 w' => ∃ (x5_2 : Int), v5 = .int .i64 x5_2 ∧ Aside0 (bursarref04_Split.l0 kq t269 x5_2 = some (r1, r2)) ∧ Aside0 (kq ≤ kj3) ∧ Aside0 (Kd.R Kd.string 9 w' w.heap.size (fun _ => True) v270 t269) ∧ Aside0 (Below w.heap.size w w'))
          case atStart => exact ⟨(1), (by first | rfl | (simp; done) | (simp [*]; done) | (simp; rw [Bool.eq_iff_iff]; simp; done) | (rw [Bool.eq_iff_iff]; simp; done)), H', ⟨Nat.le_refl _⟩, ⟨by (with_reducible repeat (first | apply Kd.R_alloc | apply Kd.R_drewN | apply Kd.R_drew)); exact HO_4.out⟩, ⟨by repeat (first | (with_reducible first | exact HB.out | apply below_alloc | apply pw_below_drewN | apply below_drew1) | exact HB.out)⟩⟩
          case round =>
            clear H'
            try clear c1
            try clear c2
            try clear c2b0
            try clear c2b1
            try clear p2
            try clear q2
            try clear hx2
            try clear qi2
            try clear c4
            try clear c6
            try clear c6b0
            try clear c6b1
            try clear c7
            try clear c7b0
            try clear c7b1
            try clear c9
            try clear c9b0
            try clear c9b1
            try clear c11
            try clear c11b0
            try clear c11b1
            try clear c13
            try clear hx272_0
            try clear p2
            try clear p272
            try clear q2
            try clear q272
            obtain ⟨x5_2, rfl, HA, HK2, HO_4, HB⟩ := hrel
            cases gk with
            | zero => exact absurd HA.out (by simp [bursarref04_Split.l0])
            | succ k2 =>
              have H := HA.out
              clear HA
              simp only [bursarref04_Split.l0] at H
              by_cases c14 : x5_2 < (t269.length : Int)
              · rw [if_pos c14] at H
                have c14b0 : decide (x5_2 < (t269.length : Int)) = true := decide_eq_true c14
                clear c14
                by_cases c15 : 0 ≤ x5_2
                · rw [if_pos c15] at H
                  have c15b0 : decide (0 ≤ x5_2) = true := decide_eq_true c15
                  clear c15
                  replace H := Option.bind_eq_some_iff.mp H
                  obtain ⟨t274, A160, H⟩ := H
                  replace H : (if t274 = true then (bursarref04_Split.l0 k2 t269 (wrap64 (x5_2 + 1))) else (some (([] : List ByteArray), 41))) = some (r1, r2) := H
                  have A16 := Aside0.mk A160
                  clear A160
                  by_cases c17 : t274 = true
                  · subst c17
                    have H1 : (bursarref04_Split.l0 k2 t269 (wrap64 (x5_2 + 1))) = some (r1, r2) := by rw [if_pos rfl] at H; exact H
                    clear H
                    have H := H1
                    clear H1
                    have H' := Aside0.mk H
                    clear H
                    obtain ⟨Ao18, co18, eo18⟩ := Kd.R_slice HO_4.out
                    subst eo18
                    have p273 : 0 ≤ (x5_2 : Int) := of_decide_eq_true (by first | (with_reducible assumption) | assumption)
                    have q273 : x5_2 < (t269.length : Int) := of_decide_eq_true (by first | (with_reducible assumption) | assumption)
                    obtain ⟨ad273, e273, hx273_0⟩ := Kd.at_string (Kd.R_reads' HO_4.out).2.2 x5_2 p273 q273
                    cases e273
                    replace p273 := eq_true p273
                    replace q273 := eq_true q273
                    go_wp2_with (first | ((with_reducible refine gate_callee (f := 19) rfl ?_); refine goesL_ (some 40) rfl rfl Tryd.func19 (by kernel_rfl) rfl #[.string (rdOf ByteArray.empty t269 x5_2)] rfl (by (try simp only [List.map_toArray, List.map_cons, List.map_nil]); first | done | rfl | (simp only [List.length_drop, List.length_take]; rfl)) ?_; (with_reducible refine (bursarref04_Name.calls k2 (rdOf ByteArray.empty t269 x5_2) true _ A16.out).mono ?_); rintro e w' ⟨rfl, ⟨nd, rfl⟩⟩; refine ⟨_, rfl, ?_⟩))
                    go_roundg k2
                    case measure => have := HJ3.out; have := HK2.out; omega
                    case rel => exact ⟨(wrap64 (x5_2 + 1)), (by first | rfl | (simp; done) | (simp [*]; done) | (simp; rw [Bool.eq_iff_iff]; simp; done) | (rw [Bool.eq_iff_iff]; simp; done)), H', ⟨by have := HJ3.out; have := HK2.out; omega⟩, ⟨by (with_reducible repeat (first | apply Kd.R_alloc | apply Kd.R_drewN | apply Kd.R_drew)); exact HO_4.out⟩, ⟨by repeat (first | (with_reducible first | exact HB.out | apply below_alloc | apply pw_below_drewN | apply below_drew1) | exact HB.out)⟩⟩
                  · replace c17 := Bool.eq_false_iff.mpr c17
                    subst c17
                    have H1 : (some (([] : List ByteArray), 41)) = some (r1, r2) := by rw [if_neg (show ¬ (false = true) by decide)] at H; exact H
                    clear H
                    have H := H1
                    clear H1
                    simp only [Option.some.injEq, Prod.mk.injEq] at H
                    obtain ⟨rfl, rfl⟩ := H
                    obtain ⟨Ao19, co19, eo19⟩ := Kd.R_slice HO_4.out
                    subst eo19
                    have p273 : 0 ≤ (x5_2 : Int) := of_decide_eq_true (by first | (with_reducible assumption) | assumption)
                    have q273 : x5_2 < (t269.length : Int) := of_decide_eq_true (by first | (with_reducible assumption) | assumption)
                    obtain ⟨ad273, e273, hx273_0⟩ := Kd.at_string (Kd.R_reads' HO_4.out).2.2 x5_2 p273 q273
                    cases e273
                    replace p273 := eq_true p273
                    replace q273 := eq_true q273
                    go_wp2_with (first | ((with_reducible refine gate_callee (f := 19) rfl ?_); refine goesL_ (some 40) rfl rfl Tryd.func19 (by kernel_rfl) rfl #[.string (rdOf ByteArray.empty t269 x5_2)] rfl (by (try simp only [List.map_toArray, List.map_cons, List.map_nil]); first | done | rfl | (simp only [List.length_drop, List.length_take]; rfl)) ?_; (with_reducible refine (bursarref04_Name.calls k2 (rdOf ByteArray.empty t269 x5_2) false _ A16.out).mono ?_); rintro e w' ⟨rfl, ⟨nd, rfl⟩⟩; refine ⟨_, rfl, ?_⟩))
                    go_ret2
                    exact ⟨_, by first | rfl | (simp [errW_none, errW_some] <;> rfl) | (simp [*, errW_none, errW_some] <;> rfl), Kd.Q_of_R (by first | exact Kd.R_nil _ _ _ _ _ | exact Kd.N_nil _ _ _ _ _ | exact Kd.V_nil _ _ _ _ _ | exact Kd.Q_nil _ _ _ _ _ | exact Kd.S_nil _ _ _ _ _), by repeat (first | (with_reducible first | exact HB.out | apply below_alloc | apply pw_below_drewN | apply below_drew1) | exact HB.out)⟩
                · rw [if_neg c15] at H
                  exact absurd H (by simp)
              · rw [if_neg c14] at H
                have c14b0 : decide (x5_2 < (t269.length : Int)) = false := decide_eq_false c14
                clear c14
                by_cases c20 : 1 ≤ (t269.length : Int)
                · rw [if_pos c20] at H
                  have c20b0 := eq_true c20
                  have c20b1 : decide (1 ≤ (t269.length : Int)) = true := decide_eq_true c20
                  clear c20
                  obtain ⟨y275, hy275⟩ : ∃ y_ : List ByteArray, y_ = (t269.drop (1 : Int).toNat) := ⟨_, rfl⟩
                  replace H : (some (y275, 0)) = some (r1, r2) := by first | (rw [hy275]; with_reducible exact H) | (have H2_ := (Option.bind_some _ _).symm.trans H; rw [hy275]; with_reducible exact H2_) | (have H2_ := (Option.bind_some _ _).symm.trans H; with_reducible exact H2_) | with_reducible exact H | (rw [hy275]; exact H) | exact H
                  have Ny275 := Aside0.mk hy275
                  clear hy275
                  simp only [Option.some.injEq, Prod.mk.injEq] at H
                  obtain ⟨rfl, rfl⟩ := H
                  obtain ⟨Ao21, co21, eo21⟩ := Kd.R_slice HO_4.out
                  subst eo21
                  have q22 : (1 : Int) ≤ ((t269.length : Int) : Int) := of_decide_eq_true (by first | (with_reducible assumption) | assumption)
                  obtain ⟨i022, hi022, _, hsz22, _⟩ := info_parts info9
                  have hcut22 := cut_from (P := Tryd.prog) 35 9 .i64 Tryd.underlying35 hi022 1 hsz22 Ao21 t269.length co21 1 (by omega) q22
                  have hr22 := Kd.Q_drop (k := (1 : Int).toNat) (Kd.Q_of_R HO_4.out) (by omega)
                  obtain ⟨A22, hA22⟩ : ∃ A1, A1 = (if co21 = (1 : Int).toNat then Ao21 else (Ao21 : Option Addr).map (·.add ((1 : Int).toNat * 1))) := ⟨_, rfl⟩
                  obtain ⟨c22, hc22⟩ : ∃ c1, c1 = co21 - (1 : Int).toNat := ⟨_, rfl⟩
                  have hy22 : y275.length = t269.length - (1 : Int).toNat := (by rw [Ny275.out, List.length_drop])
                  rw [← Ny275.out] at hr22
                  rw [← hy22, ← hA22, ← hc22] at hcut22
                  replace hr22 : Kd.Q Kd.string 9 wr w.heap.size (fun _ => True) (.slice A22 y275.length c22) y275 := (by rw [hA22, hc22, hy22]; exact hr22)
                  have HE22 : Aside0 ((Value.slice A22 y275.length c22).ownBlock = (.slice Ao21 t269.length co21 : Value).ownBlock) := ⟨by rw [hA22]; split <;> (cases (Ao21 : Option Addr) <;> rfl)⟩
                  clear hy22 hi022 hsz22 HO_4 hA22 hc22
                  have HO277 := Aside0.mk hr22
                  clear hr22
                  replace q22 := eq_true q22
                  go_wp2
                  go_ret2
                  exact ⟨_, by first | rfl | (simp [errW_none, errW_some] <;> rfl) | (simp [*, errW_none, errW_some] <;> rfl), by (with_reducible repeat (first | apply Kd.Q_alloc | apply Kd.Q_drewN | apply Kd.Q_drew)); exact HO277.out, by repeat (first | (with_reducible first | exact HB.out | apply below_alloc | apply pw_below_drewN | apply below_drew1) | exact HB.out)⟩
                · rw [if_neg c20] at H
                  exact absurd H (by simp)

end Go.Proofs.YteaiobgnhlpblaaDoor.Q
namespace Go.Proofs.YteaiobgnhlpblaaDoor.Q
open Go.RowKit Go.Proofs.YteaiobgnhlpblaaDoorW.PrintWords Go.Proofs.YteaiobgnhlpblaaDoorW.PrintLast Go.Proofs.YteaiobgnhlpblaaDoorW.PrintMore
attribute [local go_sem] max2_int min2_int max_two min_two max_three min_three max_four min_four   -- for this text's walks alone
set_option linter.unusedVariables false
set_option linter.unusedSimpArgs false

/-! ### bursarref04_Join: function 32 -/
mutual
def bursarref04_Join.l0 : Nat → List ByteArray → ByteArray → Int → Option (ByteArray × Int)
  | 0, _, _, _ => none
  | k + 1, x0, x4, x5 => if x5 < (x0.length : Int) then (if 0 ≤ x5 then ((bursarref04_Name.f k (rdOf ByteArray.empty x0 x5)).bind fun t287 => (if t287 = true then (if x4.size + 1 ≤ 9223372036854775807 then (if (x4 ++ (⟨#[47]⟩ : ByteArray)).size + (rdOf ByteArray.empty x0 x5).size ≤ 9223372036854775807 then (bursarref04_Join.l0 k x0 ((x4 ++ (⟨#[47]⟩ : ByteArray)) ++ (rdOf ByteArray.empty x0 x5)) (wrap64 (x5 + 1))) else (none)) else (none)) else (some ((⟨#[]⟩ : ByteArray), 40)))) else (none)) else (if (x0.length : Int) > 8 then (bursarref04_Join.j1 k x4 true) else (bursarref04_Join.j1 k x4 (decide ((x4.size : Int) > 64))))
def bursarref04_Join.j1 : Nat → ByteArray → Bool → Option (ByteArray × Int)
  | 0, _, _ => none
  | k + 1, x4, x34 => if x34 = true then (some ((⟨#[]⟩ : ByteArray), 41)) else (if x4.toList = ([] : List UInt8) then (some ((⟨#[47]⟩ : ByteArray), 0)) else (some (x4, 0)))
end
def bursarref04_Join.f (k : Nat) (l0 : List ByteArray) : Option (ByteArray × Int) := bursarref04_Join.l0 k l0 (⟨#[]⟩ : ByteArray) 0
theorem bursarref04_Join.mono_l : ∀ k, (∀ y0 y1 y2, LeO (bursarref04_Join.l0 k y0 y1 y2) (bursarref04_Join.l0 (k + 1) y0 y1 y2)) ∧ (∀ y0 y1, LeO (bursarref04_Join.j1 k y0 y1) (bursarref04_Join.j1 (k + 1) y0 y1))
  | 0 => ⟨fun _ _ _ r h => by simp [bursarref04_Join.l0] at h, fun _ _ r h => by simp [bursarref04_Join.j1] at h⟩
  | k + 1 => by
    obtain ⟨ih0, ih1⟩ := bursarref04_Join.mono_l k
    refine ⟨?_, ?_⟩
    · intro y0 y1 y2
      unfold bursarref04_Join.l0
      repeat' first
      | (with_reducible exact ih0 _ _ _)
      | (with_reducible exact ih1 _ _)
      | (with_reducible exact bursarref04_Name.mono _ _)
      | (with_reducible exact LeO.refl _)
      | (with_reducible exact LeO.none _)
      | (with_reducible refine LeO.ite ?_ ?_)
      | (with_reducible refine LeO.bind ?_ (fun _ => ?_))
      | exact ih0 _ _ _
      | exact ih1 _ _
      | exact bursarref04_Name.mono _ _
      | exact LeO.none _
      | refine LeO.ite ?_ ?_
      | refine LeO.bind ?_ (fun _ => ?_)
    · intro y0 y1
      unfold bursarref04_Join.j1
      repeat' first
      | (with_reducible exact ih0 _ _ _)
      | (with_reducible exact ih1 _ _)
      | (with_reducible exact bursarref04_Name.mono _ _)
      | (with_reducible exact LeO.refl _)
      | (with_reducible exact LeO.none _)
      | (with_reducible refine LeO.ite ?_ ?_)
      | (with_reducible refine LeO.bind ?_ (fun _ => ?_))
      | exact ih0 _ _ _
      | exact ih1 _ _
      | exact bursarref04_Name.mono _ _
      | exact LeO.none _
      | refine LeO.ite ?_ ?_
      | refine LeO.bind ?_ (fun _ => ?_)
theorem bursarref04_Join.mono : ∀ a0 k, LeO (bursarref04_Join.f k a0) (bursarref04_Join.f (k + 1) a0) := by
  intro a0 k
  obtain ⟨ih0, ih1⟩ := bursarref04_Join.mono_l k
  unfold bursarref04_Join.f
  repeat' first
      | (with_reducible exact ih0 _ _ _)
      | (with_reducible exact ih1 _ _)
      | (with_reducible exact bursarref04_Name.mono _ _)
      | (with_reducible exact LeO.refl _)
      | (with_reducible exact LeO.none _)
      | (with_reducible refine LeO.ite ?_ ?_)
      | (with_reducible refine LeO.bind ?_ (fun _ => ?_))
      | exact ih0 _ _ _
      | exact ih1 _ _
      | exact bursarref04_Name.mono _ _
      | exact LeO.none _
      | refine LeO.ite ?_ ?_
      | refine LeO.bind ?_ (fun _ => ?_)
set_option maxHeartbeats 8000000 in
set_option maxRecDepth 100000 in
theorem bursarref04_Join.calls (k : Nat) (A0 : Option Addr) (c0 : Nat) (l0 : List ByteArray) (r1 : ByteArray) (r2 : Int) (w : World) (hr0 : Kd.C Kd.string w A0 l0.length l0) (hc0 : l0.length ≤ c0) (h : bursarref04_Join.f k l0 = some (r1, r2)) :
    Calls Tryd.prog 32 #[.slice A0 l0.length c0] w fun e w' => e = .returned (.tuple #[.string r1, .int .i64 r2]) ∧ Drawn0 w w' := by
  have HR0 := Aside0.mk hr0
  have HC0 := Aside0.mk hc0
  clear hr0 hc0
  have H : (bursarref04_Join.l0 k l0 (⟨#[]⟩ : ByteArray) 0) = some (r1, r2) := h
  clear h
  have H' := Aside0.mk H
  clear H
  go_enter Tryd.func32, Tryd.ntmps32
  go_wp2
  go_loopg [4, 5] k (fun kq v4 v5 w' => ∃ (x4_1 : ByteArray) (x5_1 : Int), v4 = .string x4_1 ∧ v5 = .int .i64 x5_1 ∧ Aside0 (bursarref04_Join.l0 kq l0 x4_1 x5_1 = some (r1, r2)) ∧ Aside0 (kq ≤ k) ∧ Drawn0 w w')
  case atStart => exact ⟨((⟨#[]⟩ : ByteArray)), (0), (by first | rfl | (simp; done) | (simp [*]; done) | (simp; rw [Bool.eq_iff_iff]; simp; done) | (rw [Bool.eq_iff_iff]; simp; done)), (by first | rfl | (simp; done) | (simp [*]; done) | (simp; rw [Bool.eq_iff_iff]; simp; done) | (rw [Bool.eq_iff_iff]; simp; done)), H', ⟨Nat.le_refl _⟩, by repeat (first | exact Drawn0.refl _ | apply Drawn0.step)⟩
  case round =>
    clear H'
    obtain ⟨x4_1, x5_1, rfl, rfl, HA, HK1, ⟨m1, rfl⟩⟩ := hrel
    cases gk with
    | zero => exact absurd HA.out (by simp [bursarref04_Join.l0])
    | succ k1 =>
      have H := HA.out
      clear HA
      simp only [bursarref04_Join.l0] at H
      by_cases c2 : x5_1 < (l0.length : Int)
      · rw [if_pos c2] at H
        have c2b0 : decide (x5_1 < (l0.length : Int)) = true := decide_eq_true c2
        clear c2
        by_cases c3 : 0 ≤ x5_1
        · rw [if_pos c3] at H
          have c3b0 : decide (0 ≤ x5_1) = true := decide_eq_true c3
          clear c3
          replace H := Option.bind_eq_some_iff.mp H
          obtain ⟨t287, A40, H⟩ := H
          replace H : (if t287 = true then (if x4_1.size + 1 ≤ 9223372036854775807 then (if (x4_1 ++ (⟨#[47]⟩ : ByteArray)).size + (rdOf ByteArray.empty l0 x5_1).size ≤ 9223372036854775807 then (bursarref04_Join.l0 k1 l0 ((x4_1 ++ (⟨#[47]⟩ : ByteArray)) ++ (rdOf ByteArray.empty l0 x5_1)) (wrap64 (x5_1 + 1))) else (none)) else (none)) else (some ((⟨#[]⟩ : ByteArray), 40))) = some (r1, r2) := H
          have A4 := Aside0.mk A40
          clear A40
          by_cases c5 : t287 = true
          · subst c5
            have H1 : (if x4_1.size + 1 ≤ 9223372036854775807 then (if (x4_1 ++ (⟨#[47]⟩ : ByteArray)).size + (rdOf ByteArray.empty l0 x5_1).size ≤ 9223372036854775807 then (bursarref04_Join.l0 k1 l0 ((x4_1 ++ (⟨#[47]⟩ : ByteArray)) ++ (rdOf ByteArray.empty l0 x5_1)) (wrap64 (x5_1 + 1))) else (none)) else (none)) = some (r1, r2) := by rw [if_pos rfl] at H; exact H
            clear H
            have H := H1
            clear H1
            by_cases c6 : x4_1.size + 1 ≤ 9223372036854775807
            · rw [if_pos c6] at H
              have c6b0 := eq_true c6
              have c6b1 : decide (x4_1.size + 1 ≤ 9223372036854775807) = true := decide_eq_true c6
              try have c6b2 : (9223372036854775807 < x4_1.size + 1) = False := eq_false (Nat.not_lt.2 c6)
              by_cases c7 : (x4_1 ++ (⟨#[47]⟩ : ByteArray)).size + (rdOf ByteArray.empty l0 x5_1).size ≤ 9223372036854775807
              · rw [if_pos c7] at H
                have c7b0 := eq_true c7
                have c7b1 : decide ((x4_1 ++ (⟨#[47]⟩ : ByteArray)).size + (rdOf ByteArray.empty l0 x5_1).size ≤ 9223372036854775807) = true := decide_eq_true c7
                try have c7b2 : (9223372036854775807 < (x4_1 ++ (⟨#[47]⟩ : ByteArray)).size + (rdOf ByteArray.empty l0 x5_1).size) = False := eq_false (Nat.not_lt.2 c7)
                try have c7b3 : (9223372036854775807 < x4_1.size + 1 + (rdOf ByteArray.empty l0 x5_1).size) = False := eq_false (Nat.not_lt.2 (by have h_ := c7; simp only [ByteArray.size_append] at h_; exact h_))
                have H' := Aside0.mk H
                clear H
                have p286 : 0 ≤ (x5_1 : Int) := of_decide_eq_true (by first | (with_reducible assumption) | assumption)
                have q286 : x5_1 < (l0.length : Int) := of_decide_eq_true (by first | (with_reducible assumption) | assumption)
                obtain ⟨ad286, e286, hx286_0⟩ := Kd.at_string HR0.out x5_1 p286 q286
                cases e286
                replace p286 := eq_true p286
                replace q286 := eq_true q286
                go_wp2_with (first | ((with_reducible refine gate_callee (f := 19) rfl ?_); refine goesL_ (some 17) rfl rfl Tryd.func19 (by kernel_rfl) rfl #[.string (rdOf ByteArray.empty l0 x5_1)] rfl (by (try simp only [List.map_toArray, List.map_cons, List.map_nil]); first | done | rfl | (simp only [List.length_drop, List.length_take]; rfl)) ?_; (with_reducible refine (bursarref04_Name.calls k1 (rdOf ByteArray.empty l0 x5_1) true _ A4.out).mono ?_); rintro e w' ⟨rfl, ⟨nd, rfl⟩⟩; refine ⟨_, rfl, ?_⟩; have p288 : 0 ≤ (x5_1 : Int) := of_decide_eq_true (by first | (with_reducible assumption) | assumption); have q288 : x5_1 < (l0.length : Int) := of_decide_eq_true (by first | (with_reducible assumption) | assumption); obtain ⟨ad288, e288, hx288_0⟩ := Kd.at_string HR0.out x5_1 p288 q288; obtain rfl : ad286 = ad288 := (by injection e288); replace p288 := eq_true p288; replace q288 := eq_true q288))
                go_roundg k1
                case measure => have := HK1.out; omega
                case rel => exact ⟨((x4_1 ++ (⟨#[47]⟩ : ByteArray)) ++ (rdOf ByteArray.empty l0 x5_1)), (wrap64 (x5_1 + 1)), (by first | rfl | (simp; done) | (simp [*]; done) | (simp; rw [Bool.eq_iff_iff]; simp; done) | (rw [Bool.eq_iff_iff]; simp; done)), (by first | rfl | (simp; done) | (simp [*]; done) | (simp; rw [Bool.eq_iff_iff]; simp; done) | (rw [Bool.eq_iff_iff]; simp; done)), H', ⟨by have := HK1.out; omega⟩, by repeat (first | exact Drawn0.refl _ | apply Drawn0.step)⟩
              · rw [if_neg c7] at H
                exact absurd H (by simp)
            · rw [if_neg c6] at H
              exact absurd H (by simp)
          · replace c5 := Bool.eq_false_iff.mpr c5
            subst c5
            have H1 : (some ((⟨#[]⟩ : ByteArray), 40)) = some (r1, r2) := by rw [if_neg (show ¬ (false = true) by decide)] at H; exact H
            clear H
            have H := H1
            clear H1
            simp only [Option.some.injEq, Prod.mk.injEq] at H
            obtain ⟨rfl, rfl⟩ := H
            have p286 : 0 ≤ (x5_1 : Int) := of_decide_eq_true (by first | (with_reducible assumption) | assumption)
            have q286 : x5_1 < (l0.length : Int) := of_decide_eq_true (by first | (with_reducible assumption) | assumption)
            obtain ⟨ad286, e286, hx286_0⟩ := Kd.at_string HR0.out x5_1 p286 q286
            cases e286
            replace p286 := eq_true p286
            replace q286 := eq_true q286
            go_wp2_with (first | ((with_reducible refine gate_callee (f := 19) rfl ?_); refine goesL_ (some 17) rfl rfl Tryd.func19 (by kernel_rfl) rfl #[.string (rdOf ByteArray.empty l0 x5_1)] rfl (by (try simp only [List.map_toArray, List.map_cons, List.map_nil]); first | done | rfl | (simp only [List.length_drop, List.length_take]; rfl)) ?_; (with_reducible refine (bursarref04_Name.calls k1 (rdOf ByteArray.empty l0 x5_1) false _ A4.out).mono ?_); rintro e w' ⟨rfl, ⟨nd, rfl⟩⟩; refine ⟨_, rfl, ?_⟩))
            go_ret2
            exact ⟨by first | rfl | (simp; done) | (simp [*]; done), by repeat (first | exact Drawn0.refl _ | apply Drawn0.step)⟩
        · rw [if_neg c3] at H
          exact absurd H (by simp)
      · rw [if_neg c2] at H
        have c2b0 : decide (x5_1 < (l0.length : Int)) = false := decide_eq_false c2
        clear c2
        have HC8 := Aside0.mk H
        clear H
        go_upto_region 9 with (fail)
        go_cut [34] (fun v34 wc => ∃ (kq : Nat) (x34_7 : Bool), v34 = .bool x34_7 ∧ Aside0 (bursarref04_Join.j1 kq x4_1 x34_7 = some (r1, r2)) ∧ Aside0 (kq ≤ k1) ∧ Drawn0 w wc)
        case first =>
          have H := HC8.out
          clear HC8
          by_cases c9 : (l0.length : Int) > 8
          · rw [if_pos c9] at H
            have c9b0 : decide (8 < (l0.length : Int)) = true := decide_eq_true c9
            have c9b1 : decide (8 < l0.length) = true := decide_eq_true (by omega)
            clear c9
            (first | rw [c9b0] | (simp only [i64_w, i32_w]; rw [c9b0]) | skip)
            have H' := Aside0.mk H
            clear H
            go_wp2
            go_meet
            case rel => exact ⟨_, (true), (by first | rfl | (simp; done) | (simp [*]; done) | (simp; rw [Bool.eq_iff_iff]; simp; done) | (rw [Bool.eq_iff_iff]; simp; done)), H', ⟨by have := HK1.out; first | omega | exact Nat.le_refl _⟩, by repeat (first | exact Drawn0.refl _ | apply Drawn0.step)⟩
          · rw [if_neg c9] at H
            have c9b0 : decide (8 < (l0.length : Int)) = false := decide_eq_false c9
            have c9b1 : decide (8 < l0.length) = false := decide_eq_false (by omega)
            clear c9
            (first | rw [c9b0] | (simp only [i64_w, i32_w]; rw [c9b0]) | skip)
            have H' := Aside0.mk H
            clear H
            go_wp2
            go_meet
            case rel => exact ⟨_, (decide ((x4_1.size : Int) > 64)), (by first | rfl | (simp; done) | (simp [*]; done) | (simp; rw [Bool.eq_iff_iff]; simp; done) | (rw [Bool.eq_iff_iff]; simp; done)), H', ⟨by have := HK1.out; first | omega | exact Nat.le_refl _⟩, by repeat (first | exact Drawn0.refl _ | apply Drawn0.step)⟩
        case rest =>
          clear HC8
          try clear c1
          try clear c2
          try clear c2b0
          try clear p2
          try clear q2
          try clear hx2
          try clear c3
          try clear c3b0
          try clear c5
          try clear c6
          try clear c6b0
          try clear c6b1
          try clear c6b2
          try clear p6
          try clear c7
          try clear c7b0
          try clear c7b1
          try clear c7b2
          try clear c9
          try clear c9b0
          try clear c9b1
          try clear hx286_0
          try clear hx288_0
          try clear p286
          try clear p288
          try clear q286
          try clear q288
          obtain ⟨kq, x34_7, rfl, HA, HJ7, ⟨mc7, rfl⟩⟩ := hcut
          cases kq with
          | zero => exact absurd HA.out (by simp [bursarref04_Join.j1])
          | succ kj7 =>
            have H := HA.out
            clear HA
            simp only [bursarref04_Join.j1] at H
            by_cases c10 : x34_7 = true
            · subst c10
              have H1 : (some ((⟨#[]⟩ : ByteArray), 41)) = some (r1, r2) := by rw [if_pos rfl] at H; exact H
              clear H
              have H := H1
              clear H1
              simp only [Option.some.injEq, Prod.mk.injEq] at H
              obtain ⟨rfl, rfl⟩ := H
              go_wp2
              go_ret2
              exact ⟨by first | rfl | (simp; done) | (simp [*]; done), by repeat (first | exact Drawn0.refl _ | apply Drawn0.step)⟩
            · replace c10 := Bool.eq_false_iff.mpr c10
              subst c10
              have H1 : (if x4_1.toList = ([] : List UInt8) then (some ((⟨#[47]⟩ : ByteArray), 0)) else (some (x4_1, 0))) = some (r1, r2) := by rw [if_neg (show ¬ (false = true) by decide)] at H; exact H
              clear H
              have H := H1
              clear H1
              by_cases c11 : x4_1.toList = ([] : List UInt8)
              · rw [if_pos c11] at H
                have c11b0 : (x4_1.toList == ([] : List UInt8)) = true := beq_iff_eq.mpr c11
                have c11b1 : (x4_1.toList != ([] : List UInt8)) = false := bne_eq_false_iff_eq.mpr c11
                clear c11
                simp only [Option.some.injEq, Prod.mk.injEq] at H
                obtain ⟨rfl, rfl⟩ := H
                go_wp2
                go_ret2
                exact ⟨by first | rfl | (simp; done) | (simp [*]; done), by repeat (first | exact Drawn0.refl _ | apply Drawn0.step)⟩
              · rw [if_neg c11] at H
                have c11b0 : (x4_1.toList == ([] : List UInt8)) = false := beq_eq_false_iff_ne.mpr c11
                have c11b1 : (x4_1.toList != ([] : List UInt8)) = true := bne_iff_ne.mpr c11
                simp only [Option.some.injEq, Prod.mk.injEq] at H
                obtain ⟨rfl, rfl⟩ := H
                go_wp2
                go_ret2
                exact ⟨by first | rfl | (simp; done) | (simp [*]; done), by repeat (first | exact Drawn0.refl _ | apply Drawn0.step)⟩

end Go.Proofs.YteaiobgnhlpblaaDoor.Q
namespace Go.Proofs.YteaiobgnhlpblaaDoor.Q
open Go.RowKit Go.Proofs.YteaiobgnhlpblaaDoorW.PrintWords Go.Proofs.YteaiobgnhlpblaaDoorW.PrintLast Go.Proofs.YteaiobgnhlpblaaDoorW.PrintMore
attribute [local go_sem] max2_int min2_int max_two min_two max_three min_three max_four min_four   -- for this text's walks alone
set_option linter.unusedVariables false
set_option linter.unusedSimpArgs false

/-! ### bursarref04_Line: function 30 -/
def bursarref04_Line.l0 : Nat → List ByteArray → List ByteArray → Int → Option (List ByteArray × Int)
  | 0, _, _, _ => none
  | k + 1, x4, x6, x7 => if x7 ≥ 0 then (if 0 ≤ x7 then (if x7 ≤ (x4.length : Int) then ((bursarref04_Join.f k (x4.take (x7 : Int).toNat)).bind fun bt297 => (if x6.length < 8796093022208 then (bursarref04_Line.l0 k x4 (x6 ++ [bt297.1]) (wrap64 (x7 - 1))) else (none))) else (none)) else (none)) else (some (x6, 0))
def bursarref04_Line.f (k : Nat) (a0 : ByteArray) : Option (List ByteArray × Int) := (bursarref04_Split.f k a0).bind fun bt289 => (if bt289.2 = 0 then (bursarref04_Line.l0 k bt289.1 ([] : List ByteArray) (bt289.1.length : Int)) else (some (([] : List ByteArray), bt289.2)))
theorem bursarref04_Line.mono_l : ∀ k, (∀ y0 y1 y2, LeO (bursarref04_Line.l0 k y0 y1 y2) (bursarref04_Line.l0 (k + 1) y0 y1 y2))
  | 0 => fun _ _ _ r h => by simp [bursarref04_Line.l0] at h
  | k + 1 => by
    have ih0 := bursarref04_Line.mono_l k
    · intro y0 y1 y2
      unfold bursarref04_Line.l0
      repeat' first
      | (with_reducible exact ih0 _ _ _)
      | (with_reducible exact bursarref04_Join.mono _ _)
      | (with_reducible exact bursarref04_Split.mono _ _)
      | (with_reducible exact LeO.refl _)
      | (with_reducible exact LeO.none _)
      | (with_reducible refine LeO.ite ?_ ?_)
      | (with_reducible refine LeO.bind ?_ (fun _ => ?_))
      | exact ih0 _ _ _
      | exact bursarref04_Join.mono _ _
      | exact bursarref04_Split.mono _ _
      | exact LeO.none _
      | refine LeO.ite ?_ ?_
      | refine LeO.bind ?_ (fun _ => ?_)
theorem bursarref04_Line.mono : ∀ a0 k, LeO (bursarref04_Line.f k a0) (bursarref04_Line.f (k + 1) a0) := by
  intro a0 k
  have ih0 := bursarref04_Line.mono_l k
  unfold bursarref04_Line.f
  repeat' first
      | (with_reducible exact ih0 _ _ _)
      | (with_reducible exact bursarref04_Join.mono _ _)
      | (with_reducible exact bursarref04_Split.mono _ _)
      | (with_reducible exact LeO.refl _)
      | (with_reducible exact LeO.none _)
      | (with_reducible refine LeO.ite ?_ ?_)
      | (with_reducible refine LeO.bind ?_ (fun _ => ?_))
      | exact ih0 _ _ _
      | exact bursarref04_Join.mono _ _
      | exact bursarref04_Split.mono _ _
      | exact LeO.none _
      | refine LeO.ite ?_ ?_
      | refine LeO.bind ?_ (fun _ => ?_)
set_option maxHeartbeats 8000000 in
set_option maxRecDepth 100000 in
theorem bursarref04_Line.calls (k : Nat) (a0 : ByteArray) (r1 : List ByteArray) (r2 : Int) (w : World) (h : bursarref04_Line.f k a0 = some (r1, r2)) :
    Calls Tryd.prog 30 #[.string a0] w fun e w' => ∃ v0_ : Value, e = .returned (.tuple #[v0_, .int .i64 r2]) ∧ Kd.R Kd.string 9 w' w.heap.size (fun _ => True) v0_ r1 ∧ Below w.heap.size w w' := by
  have HB := Aside0.mk (Below.refl w.heap.size w)
  have H : ((bursarref04_Split.f k a0).bind fun bt289 => (if bt289.2 = 0 then (bursarref04_Line.l0 k bt289.1 ([] : List ByteArray) (bt289.1.length : Int)) else (some (([] : List ByteArray), bt289.2)))) = some (r1, r2) := h
  clear h
  replace H := Option.bind_eq_some_iff.mp H
  obtain ⟨⟨t289, t290⟩, A20, H⟩ := H
  replace H : (if t290 = 0 then (bursarref04_Line.l0 k t289 ([] : List ByteArray) (t289.length : Int)) else (some (([] : List ByteArray), t290))) = some (r1, r2) := H
  have A2 := Aside0.mk A20
  clear A20
  by_cases c3 : t290 = 0
  · rw [if_pos c3] at H
    have c3b0 : (t290 == 0) = true := beq_iff_eq.mpr c3
    have c3b1 : (t290 != 0) = false := bne_eq_false_iff_eq.mpr c3
    clear c3
    have H' := Aside0.mk H
    clear H
    go_enter Tryd.func30, Tryd.ntmps30
    go_wp2_with (first | ((with_reducible refine gate_callee (f := 25) rfl ?_); refine goesL_ (some 12) rfl rfl Tryd.func25 (by kernel_rfl) rfl #[.string a0] rfl (by (try simp only [List.map_toArray, List.map_cons, List.map_nil]); first | done | rfl | (simp only [List.length_drop, List.length_take]; rfl)) ?_; (with_reducible refine (bursarref04_Split.calls k a0 t289 t290 _ A2.out).mono ?_); rintro e w4 ⟨v291, rfl, ho0, hb⟩; refine ⟨_, rfl, ?_⟩; have n0_ := Aside0.mk (Kd.Q_lower ho0 (below_size (by repeat (first | (with_reducible first | exact HB.out | apply below_alloc | apply pw_below_drewN | apply below_drew1) | exact HB.out)))); have n1_ := Aside0.mk (below_step (by repeat (first | (with_reducible first | exact HB.out | apply below_alloc | apply pw_below_drewN | apply below_drew1) | exact HB.out)) hb); clear HB; have HO292 := n0_; have HB := n1_; clear n0_ n1_; (try clear hb); (try clear hb2); (try clear hk); (try clear hi); (try clear ho0); obtain ⟨Ao5, co5, eo5, _⟩ := Kd.Q_slice HO292.out; subst eo5))
    go_loopg [6, 7] k (fun kq v6 v7 w' => ∃ (x6_1 : List ByteArray) (x7_1 : Int), v7 = .int .i64 x7_1 ∧ Aside0 (bursarref04_Line.l0 kq t289 x6_1 x7_1 = some (r1, r2)) ∧ Aside0 (kq ≤ k) ∧ Aside0 (Kd.Q Kd.string 9 w' w.heap.size (fun k_ => some k_ ≠ (v6 : Value).ownBlock) (.slice Ao5 t289.length co5) t289) ∧ Aside0 (Kd.R Kd.string 9 w' w.heap.size (fun k_ => some k_ ≠ ((.slice Ao5 t289.length co5) : Value).ownBlock) v6 x6_1) ∧ Aside0 (Below w.heap.size w w'))
    case atStart => exact ⟨(([] : List ByteArray)), ((t289.length : Int)), (by first | rfl | (simp; done) | (simp [*]; done) | (simp; rw [Bool.eq_iff_iff]; simp; done) | (rw [Bool.eq_iff_iff]; simp; done)), H', ⟨Nat.le_refl _⟩, ⟨by (with_reducible repeat (first | apply Kd.Q_alloc | apply Kd.Q_drewN | apply Kd.Q_drew)); exact Kd.Q_mono HO292.out (fun _ hk => (by simp [Value.ownBlock]))⟩, ⟨by first | exact Kd.R_nil _ _ _ _ _ | exact Kd.N_nil _ _ _ _ _ | exact Kd.V_nil _ _ _ _ _ | exact Kd.Q_nil _ _ _ _ _ | exact Kd.S_nil _ _ _ _ _⟩, ⟨by repeat (first | (with_reducible first | exact HB.out | apply below_alloc | apply pw_below_drewN | apply below_drew1) | exact HB.out)⟩⟩
    case round =>
      clear H'
      try clear c2
      try clear p2
      try clear c3
      try clear c3b0
      try clear c3b1
      obtain ⟨x6_1, x7_1, rfl, HA, HK1, HO_4, HO_6, HB⟩ := hrel
      cases gk with
      | zero => exact absurd HA.out (by simp [bursarref04_Line.l0])
      | succ k1 =>
        have H := HA.out
        clear HA
        simp only [bursarref04_Line.l0] at H
        by_cases c6 : x7_1 ≥ 0
        · rw [if_pos c6] at H
          have c6b0 : decide (0 ≤ x7_1) = true := decide_eq_true c6
          clear c6
          by_cases c7 : 0 ≤ x7_1
          · rw [if_pos c7] at H
            have c7b0 := eq_true c7
            have c7b1 : decide (0 ≤ x7_1) = true := decide_eq_true c7
            clear c7
            by_cases c8 : x7_1 ≤ (t289.length : Int)
            · rw [if_pos c8] at H
              have c8b0 := eq_true c8
              have c8b1 : decide (x7_1 ≤ (t289.length : Int)) = true := decide_eq_true c8
              clear c8
              obtain ⟨y293, hy293⟩ : ∃ y_ : List ByteArray, y_ = (t289.take (x7_1 : Int).toNat) := ⟨_, rfl⟩
              replace H : ((bursarref04_Join.f k1 y293).bind fun bt297 => (if x6_1.length < 8796093022208 then (bursarref04_Line.l0 k1 t289 (x6_1 ++ [bt297.1]) (wrap64 (x7_1 - 1))) else (none))) = some (r1, r2) := by first | (rw [hy293]; with_reducible exact H) | (have H2_ := (Option.bind_some _ _).symm.trans H; rw [hy293]; with_reducible exact H2_) | (have H2_ := (Option.bind_some _ _).symm.trans H; with_reducible exact H2_) | with_reducible exact H | (rw [hy293]; exact H) | exact H
              have Ny293 := Aside0.mk hy293
              clear hy293
              replace H := Option.bind_eq_some_iff.mp H
              obtain ⟨⟨t297, t298⟩, A90, H⟩ := H
              replace H : (if x6_1.length < 8796093022208 then (bursarref04_Line.l0 k1 t289 (x6_1 ++ [t297]) (wrap64 (x7_1 - 1))) else (none)) = some (r1, r2) := H
              have A9 := Aside0.mk A90
              clear A90
              by_cases c10 : x6_1.length < 8796093022208
              · rw [if_pos c10] at H
                have LMc10 := Aside0.mk c10
                clear c10
                obtain ⟨y299, hy299⟩ : ∃ y_ : List ByteArray, y_ = (x6_1 ++ [t297]) := ⟨_, rfl⟩
                replace H : (bursarref04_Line.l0 k1 t289 y299 (wrap64 (x7_1 - 1))) = some (r1, r2) := by first | (rw [hy299]; with_reducible exact H) | (have H2_ := (Option.bind_some _ _).symm.trans H; rw [hy299]; with_reducible exact H2_) | (have H2_ := (Option.bind_some _ _).symm.trans H; with_reducible exact H2_) | with_reducible exact H | (rw [hy299]; exact H) | exact H
                have Ny299 := Aside0.mk hy299
                clear hy299
                have H' := Aside0.mk H
                clear H
                have q11 : (x7_1 : Int) ≤ ((t289.length : Int) : Int) := of_decide_eq_true (by first | (with_reducible assumption) | assumption)
                obtain ⟨i011, hi011, _, hsz11, _⟩ := info_parts info9
                have hroom11 : t289.length ≤ co5 := (Kd.Q_reads' HO_4.out).2.1
                have hC11 : Kd.C Kd.string _ Ao5 t289.length t289 := (Kd.Q_reads' HO_4.out).2.2
                have hcut11 := cut_to (P := Tryd.prog) 35 9 .i64 Tryd.underlying35 hi011 Ao5 t289.length co5 x7_1 (of_decide_eq_true (by first | (with_reducible assumption) | assumption)) q11 hroom11
                have hr11 := Kd.C_take (m := (x7_1 : Int).toNat) hC11 (by omega)
                have hy11 : y293.length = (x7_1 : Int).toNat := (by rw [Ny293.out, List.length_take]; omega)
                rw [← Ny293.out] at hr11
                rw [← hy11] at hcut11
                have HR296 := Aside0.mk hr11
                have HC296 := Aside0.mk (show y293.length ≤ co5 from by omega)
                clear hr11 hC11 hroom11 hi011 hsz11
                have KY11 := Aside0.mk hy11
                clear hy11
                have KL11 := Aside0.mk (show (x7_1 : Int).toNat ≤ t289.length from by omega)
                replace q11 := eq_true q11
                go_wp2_with (first | ((with_reducible refine gate_callee (f := 32) rfl ?_); refine goesL_ (some 28) rfl rfl Tryd.func32 (by kernel_rfl) rfl #[.slice Ao5 y293.length co5] rfl (by (try simp only [List.map_toArray, List.map_cons, List.map_nil]); first | done | rfl | (simp only [List.length_drop, List.length_take]; rfl)) ?_; (with_reducible refine (bursarref04_Join.calls k1 _ _ y293 t297 t298 _ ?side1 ?side2 A9.out).mono ?_); (case side1 => repeat (first | exact (by repeat (first | (with_reducible exact HR296.out) | (with_reducible refine Kd.C_alloc ?_ _) | (with_reducible refine Kd.C_drewN ?_ _) | (with_reducible refine Kd.C_drew ?_) | exact HR296.out)) | (with_reducible refine Kd.C_alloc ?_ _) | (with_reducible refine Kd.C_drewN ?_ _) | (with_reducible refine Kd.C_drew ?_))); (case side2 => exact HC296.out); rintro e w' ⟨rfl, ⟨nd, rfl⟩⟩; refine ⟨_, rfl, ?_⟩) | ((with_reducible refine gate_builtin (b := .append) (xs := #[.tmp 31, .tmp 33]) rfl ?_); at_builtin; refine Kd.R_append Kd.string (w0 := w) w.heap.size rfl (.tmp 31) (.tmp 33) 35 9 (.string ⟨#[]⟩) 16 rfl Tryd.underlying35 info9 rfl (by decide) (by omega) u6 x6_1 t297 [.string t297] (fun k_ => some k_ ≠ (.slice Ao5 t289.length co5 : Value).ownBlock) (fun _ => False) rfl rfl ?aP (fun _ hk => hk.elim) ?aF ?aO ?aB ?aS ?aL ?_; (case aP => exact rfl); (case aB => exact (by repeat (first | (with_reducible first | exact HB.out | apply below_alloc | apply pw_below_drewN | apply below_drew1) | exact HB.out))); (case aF => exact (fun k_ hk => Kd.fresh' (Kd.Q_lt (by (with_reducible repeat (first | apply Kd.Q_alloc | apply Kd.Q_drewN | apply Kd.Q_drew)); exact HO_4.out)) k_ hk)); (case aO => exact (by (with_reducible repeat (first | apply Kd.R_alloc | apply Kd.R_drewN | apply Kd.R_drew)); exact HO_6.out)); (case aS => exact (below_size (by repeat (first | (with_reducible first | exact HB.out | apply below_alloc | apply pw_below_drewN | apply below_drew1) | exact HB.out)))); (case aL => have := LMc10.out; omega); intro v300 w12 ho hb hg hat; rw [← Ny299.out] at ho; have n0_ := Aside0.mk (Kd.Q_after (ok := (fun _ => True)) (by (with_reducible repeat (first | apply Kd.Q_alloc | apply Kd.Q_drewN | apply Kd.Q_drew)); exact Kd.Q_mono HO_4.out (fun _ hk => ⟨trivial, hk⟩)) hg hat); have n1_ := Aside0.mk (hb); have n2_ := Aside0.mk ((show Kd.C Kd.string w12 Ao5 y293.length y293 from by rw [Ny293.out]; exact Kd.C_take (m := (x7_1 : Int).toNat) ((Kd.Q_reads' (Kd.Q_after (ok := (fun _ => True)) (by (with_reducible repeat (first | apply Kd.Q_alloc | apply Kd.Q_drewN | apply Kd.Q_drew)); exact Kd.Q_mono HO_4.out (fun _ hk => ⟨trivial, hk⟩)) hg hat)).2.2) KL11.out)); have n3_ := Aside0.mk (ho); clear HO_4; clear HB; clear HR296; clear HO_6; have HO_4 := n0_; have HB := n1_; have HR296 := n2_; have HO301 := n3_; clear n0_ n1_ n2_ n3_; clear ho hb hg hat))
                go_roundg k1
                case measure => have := HK1.out; omega
                case rel => exact ⟨(y299), (wrap64 (x7_1 - 1)), (by first | rfl | (simp; done) | (simp [*]; done) | (simp; rw [Bool.eq_iff_iff]; simp; done) | (rw [Bool.eq_iff_iff]; simp; done)), H', ⟨by have := HK1.out; omega⟩, ⟨by (with_reducible repeat (first | apply Kd.Q_alloc | apply Kd.Q_drewN | apply Kd.Q_drew)); exact Kd.Q_mono HO_4.out (fun _ hk => hk.2)⟩, ⟨by (with_reducible repeat (first | apply Kd.R_alloc | apply Kd.R_drewN | apply Kd.R_drew)); exact HO301.out⟩, ⟨by repeat (first | (with_reducible first | exact HB.out | apply below_alloc | apply pw_below_drewN | apply below_drew1) | exact HB.out)⟩⟩
              · rw [if_neg c10] at H
                exact absurd H (by simp)
            · rw [if_neg c8] at H
              exact absurd H (by simp)
          · rw [if_neg c7] at H
            exact absurd H (by simp)
        · rw [if_neg c6] at H
          have c6b0 : decide (0 ≤ x7_1) = false := decide_eq_false c6
          clear c6
          simp only [Option.some.injEq, Prod.mk.injEq] at H
          obtain ⟨rfl, rfl⟩ := H
          go_wp2
          go_ret2
          exact ⟨_, by first | rfl | (simp [errW_none, errW_some] <;> rfl) | (simp [*, errW_none, errW_some] <;> rfl), by (with_reducible repeat (first | apply Kd.R_alloc | apply Kd.R_drewN | apply Kd.R_drew)); exact Kd.R_mono HO_6.out (fun _ hk => trivial), by repeat (first | (with_reducible first | exact HB.out | apply below_alloc | apply pw_below_drewN | apply below_drew1) | exact HB.out)⟩
  · rw [if_neg c3] at H
    have c3b0 : (t290 == 0) = false := beq_eq_false_iff_ne.mpr c3
    have c3b1 : (t290 != 0) = true := bne_iff_ne.mpr c3
    simp only [Option.some.injEq, Prod.mk.injEq] at H
    obtain ⟨rfl, rfl⟩ := H
    go_enter Tryd.func30, Tryd.ntmps30
    go_wp2_with (first | ((with_reducible refine gate_callee (f := 25) rfl ?_); refine goesL_ (some 12) rfl rfl Tryd.func25 (by kernel_rfl) rfl #[.string a0] rfl (by (try simp only [List.map_toArray, List.map_cons, List.map_nil]); first | done | rfl | (simp only [List.length_drop, List.length_take]; rfl)) ?_; (with_reducible refine (bursarref04_Split.calls k a0 t289 t290 _ A2.out).mono ?_); rintro e w13 ⟨v291, rfl, ho0, hb⟩; refine ⟨_, rfl, ?_⟩; have n0_ := Aside0.mk (Kd.Q_lower ho0 (below_size (by repeat (first | (with_reducible first | exact HB.out | apply below_alloc | apply pw_below_drewN | apply below_drew1) | exact HB.out)))); have n1_ := Aside0.mk (below_step (by repeat (first | (with_reducible first | exact HB.out | apply below_alloc | apply pw_below_drewN | apply below_drew1) | exact HB.out)) hb); clear HB; have HO292 := n0_; have HB := n1_; clear n0_ n1_; (try clear hb); (try clear hb2); (try clear hk); (try clear hi); (try clear ho0)))
    go_ret2
    exact ⟨_, by first | rfl | (simp [errW_none, errW_some] <;> rfl) | (simp [*, errW_none, errW_some] <;> rfl), by first | exact Kd.R_nil _ _ _ _ _ | exact Kd.N_nil _ _ _ _ _ | exact Kd.V_nil _ _ _ _ _ | exact Kd.Q_nil _ _ _ _ _ | exact Kd.S_nil _ _ _ _ _, by repeat (first | (with_reducible first | exact HB.out | apply below_alloc | apply pw_below_drewN | apply below_drew1) | exact HB.out)⟩

end Go.Proofs.YteaiobgnhlpblaaDoor.Q
namespace Go.Proofs.YteaiobgnhlpblaaDoor.Q
open Go.RowKit Go.Proofs.YteaiobgnhlpblaaDoorW.PrintWords Go.Proofs.YteaiobgnhlpblaaDoorW.PrintLast Go.Proofs.YteaiobgnhlpblaaDoorW.PrintMore
attribute [local go_sem] max2_int min2_int max_two min_two max_three min_three max_four min_four   -- for this text's walks alone
set_option linter.unusedVariables false
set_option linter.unusedSimpArgs false

/-! ### bursarref04_Under: function 23 -/
def bursarref04_Under.l0 : Nat → ByteArray → List ByteArray → Int → Option (Bool)
  | 0, _, _, _ => none
  | k + 1, x1, x5, x7 => if x7 < (x5.length : Int) then (if 0 ≤ x7 then (if (rdOf ByteArray.empty x5 x7).toList = x1.toList then (some true) else (bursarref04_Under.l0 k x1 x5 (wrap64 (x7 + 1)))) else (none)) else (some false)
def bursarref04_Under.f (k : Nat) (a0 : ByteArray) (a1 : ByteArray) : Option (Bool) := (bursarref04_Line.f k a0).bind fun bt302 => (bursarref04_Under.l0 k a1 bt302.1 0)
theorem bursarref04_Under.mono_l : ∀ k, (∀ y0 y1 y2, LeO (bursarref04_Under.l0 k y0 y1 y2) (bursarref04_Under.l0 (k + 1) y0 y1 y2))
  | 0 => fun _ _ _ r h => by simp [bursarref04_Under.l0] at h
  | k + 1 => by
    have ih0 := bursarref04_Under.mono_l k
    · intro y0 y1 y2
      unfold bursarref04_Under.l0
      repeat' first
      | (with_reducible exact ih0 _ _ _)
      | (with_reducible exact bursarref04_Line.mono _ _)
      | (with_reducible exact LeO.refl _)
      | (with_reducible exact LeO.none _)
      | (with_reducible refine LeO.ite ?_ ?_)
      | (with_reducible refine LeO.bind ?_ (fun _ => ?_))
      | exact ih0 _ _ _
      | exact bursarref04_Line.mono _ _
      | exact LeO.none _
      | refine LeO.ite ?_ ?_
      | refine LeO.bind ?_ (fun _ => ?_)
theorem bursarref04_Under.mono : ∀ a0 a1 k, LeO (bursarref04_Under.f k a0 a1) (bursarref04_Under.f (k + 1) a0 a1) := by
  intro a0 a1 k
  have ih0 := bursarref04_Under.mono_l k
  unfold bursarref04_Under.f
  repeat' first
      | (with_reducible exact ih0 _ _ _)
      | (with_reducible exact bursarref04_Line.mono _ _)
      | (with_reducible exact LeO.refl _)
      | (with_reducible exact LeO.none _)
      | (with_reducible refine LeO.ite ?_ ?_)
      | (with_reducible refine LeO.bind ?_ (fun _ => ?_))
      | exact ih0 _ _ _
      | exact bursarref04_Line.mono _ _
      | exact LeO.none _
      | refine LeO.ite ?_ ?_
      | refine LeO.bind ?_ (fun _ => ?_)
set_option maxHeartbeats 8000000 in
set_option maxRecDepth 100000 in
theorem bursarref04_Under.calls (k : Nat) (a0 : ByteArray) (a1 : ByteArray) (r : Bool) (w : World) (h : bursarref04_Under.f k a0 a1 = some r) :
    Calls Tryd.prog 23 #[.string a0, .string a1] w fun e w' => e = .returned (.bool r) ∧ Below w.heap.size w w' := by
  have HB := Aside0.mk (Below.refl w.heap.size w)
  have H : ((bursarref04_Line.f k a0).bind fun bt302 => (bursarref04_Under.l0 k a1 bt302.1 0)) = some r := h
  clear h
  replace H := Option.bind_eq_some_iff.mp H
  obtain ⟨⟨t302, t303⟩, A30, H⟩ := H
  replace H : (bursarref04_Under.l0 k a1 t302 0) = some r := H
  have A3 := Aside0.mk A30
  clear A30
  have H' := Aside0.mk H
  clear H
  go_enter Tryd.func23, Tryd.ntmps23
  go_wp2_with (first | ((with_reducible refine gate_callee (f := 30) rfl ?_); refine goesL_ (some 10) rfl rfl Tryd.func30 (by kernel_rfl) rfl #[.string a0] rfl (by (try simp only [List.map_toArray, List.map_cons, List.map_nil]); first | done | rfl | (simp only [List.length_drop, List.length_take]; rfl)) ?_; (with_reducible refine (bursarref04_Line.calls k a0 t302 t303 _ A3.out).mono ?_); rintro e w4 ⟨v304, rfl, ho0, hb⟩; refine ⟨_, rfl, ?_⟩; have n0_ := Aside0.mk (Kd.R_lower ho0 (below_size (by repeat (first | (with_reducible first | exact HB.out | apply below_alloc | apply pw_below_drewN | apply below_drew1) | exact HB.out)))); have n1_ := Aside0.mk (below_step (by repeat (first | (with_reducible first | exact HB.out | apply below_alloc | apply pw_below_drewN | apply below_drew1) | exact HB.out)) hb); clear HB; have HO305 := n0_; have HB := n1_; clear n0_ n1_; (try clear hb); (try clear hb2); (try clear hk); (try clear hi); (try clear ho0)))
  go_loopg [7] k (fun kq v7 w' => ∃ (x7_1 : Int), v7 = .int .i64 x7_1 ∧ Aside0 (bursarref04_Under.l0 kq a1 t302 x7_1 = some r) ∧ Aside0 (kq ≤ k) ∧ Aside0 (Kd.R Kd.string 9 w' w.heap.size (fun _ => True) v304 t302) ∧ Aside0 (Below w.heap.size w w'))
  case atStart => exact ⟨(0), (by first | rfl | (simp; done) | (simp [*]; done) | (simp; rw [Bool.eq_iff_iff]; simp; done) | (rw [Bool.eq_iff_iff]; simp; done)), H', ⟨Nat.le_refl _⟩, ⟨by (with_reducible repeat (first | apply Kd.R_alloc | apply Kd.R_drewN | apply Kd.R_drew)); exact HO305.out⟩, ⟨by repeat (first | (with_reducible first | exact HB.out | apply below_alloc | apply pw_below_drewN | apply below_drew1) | exact HB.out)⟩⟩
  case round =>
    clear H'
    try clear c2
    try clear p2
    try clear c3
    obtain ⟨x7_1, rfl, HA, HK1, HO_5, HB⟩ := hrel
    cases gk with
    | zero => exact absurd HA.out (by simp [bursarref04_Under.l0])
    | succ k1 =>
      have H := HA.out
      clear HA
      simp only [bursarref04_Under.l0] at H
      by_cases c5 : x7_1 < (t302.length : Int)
      · rw [if_pos c5] at H
        have c5b0 : decide (x7_1 < (t302.length : Int)) = true := decide_eq_true c5
        clear c5
        by_cases c6 : 0 ≤ x7_1
        · rw [if_pos c6] at H
          have c6b0 : decide (0 ≤ x7_1) = true := decide_eq_true c6
          clear c6
          by_cases c7 : (rdOf ByteArray.empty t302 x7_1).toList = a1.toList
          · rw [if_pos c7] at H
            have c7b0 : ((rdOf ByteArray.empty t302 x7_1).toList == a1.toList) = true := beq_iff_eq.mpr c7
            have c7b1 : ((rdOf ByteArray.empty t302 x7_1).toList != a1.toList) = false := bne_eq_false_iff_eq.mpr c7
            clear c7
            obtain rfl := Option.some.inj H
            obtain ⟨Ao8, co8, eo8⟩ := Kd.R_slice HO_5.out
            subst eo8
            have p306 : 0 ≤ (x7_1 : Int) := of_decide_eq_true (by first | (with_reducible assumption) | assumption)
            have q306 : x7_1 < (t302.length : Int) := of_decide_eq_true (by first | (with_reducible assumption) | assumption)
            obtain ⟨ad306, e306, hx306_0⟩ := Kd.at_string (Kd.R_reads' HO_5.out).2.2 x7_1 p306 q306
            cases e306
            replace p306 := eq_true p306
            replace q306 := eq_true q306
            go_wp2
            go_ret
            exact ⟨by first | rfl | (simp [errW_none, errW_some] <;> rfl) | (simp [*, errW_none, errW_some] <;> rfl), by repeat (first | (with_reducible first | exact HB.out | apply below_alloc | apply pw_below_drewN | apply below_drew1) | exact HB.out)⟩
          · rw [if_neg c7] at H
            have c7b0 : ((rdOf ByteArray.empty t302 x7_1).toList == a1.toList) = false := beq_eq_false_iff_ne.mpr c7
            have c7b1 : ((rdOf ByteArray.empty t302 x7_1).toList != a1.toList) = true := bne_iff_ne.mpr c7
            have H' := Aside0.mk H
            clear H
            obtain ⟨Ao9, co9, eo9⟩ := Kd.R_slice HO_5.out
            subst eo9
            have p306 : 0 ≤ (x7_1 : Int) := of_decide_eq_true (by first | (with_reducible assumption) | assumption)
            have q306 : x7_1 < (t302.length : Int) := of_decide_eq_true (by first | (with_reducible assumption) | assumption)
            obtain ⟨ad306, e306, hx306_0⟩ := Kd.at_string (Kd.R_reads' HO_5.out).2.2 x7_1 p306 q306
            cases e306
            replace p306 := eq_true p306
            replace q306 := eq_true q306
            go_wp2
            go_roundg k1
            case measure => have := HK1.out; omega
            case rel => exact ⟨(wrap64 (x7_1 + 1)), (by first | rfl | (simp; done) | (simp [*]; done) | (simp; rw [Bool.eq_iff_iff]; simp; done) | (rw [Bool.eq_iff_iff]; simp; done)), H', ⟨by have := HK1.out; omega⟩, ⟨by (with_reducible repeat (first | apply Kd.R_alloc | apply Kd.R_drewN | apply Kd.R_drew)); exact HO_5.out⟩, ⟨by repeat (first | (with_reducible first | exact HB.out | apply below_alloc | apply pw_below_drewN | apply below_drew1) | exact HB.out)⟩⟩
        · rw [if_neg c6] at H
          exact absurd H (by simp)
      · rw [if_neg c5] at H
        have c5b0 : decide (x7_1 < (t302.length : Int)) = false := decide_eq_false c5
        clear c5
        obtain rfl := Option.some.inj H
        obtain ⟨Ao10, co10, eo10⟩ := Kd.R_slice HO_5.out
        subst eo10
        go_wp2
        go_ret
        exact ⟨by first | rfl | (simp [errW_none, errW_some] <;> rfl) | (simp [*, errW_none, errW_some] <;> rfl), by repeat (first | (with_reducible first | exact HB.out | apply below_alloc | apply pw_below_drewN | apply below_drew1) | exact HB.out)⟩

end Go.Proofs.YteaiobgnhlpblaaDoor.Q
namespace Go.Proofs.YteaiobgnhlpblaaDoor.Q
open Go.RowKit Go.Proofs.YteaiobgnhlpblaaDoorW.PrintWords Go.Proofs.YteaiobgnhlpblaaDoorW.PrintLast Go.Proofs.YteaiobgnhlpblaaDoorW.PrintMore
attribute [local go_sem] max2_int min2_int max_two min_two max_three min_three max_four min_four   -- for this text's walks alone
set_option linter.unusedVariables false
set_option linter.unusedSimpArgs false

/-! ### label_Parent: function 27 -/
def label_Parent.f (k : Nat) (a0 : ByteArray) : Option (ByteArray × Int) := (label_Path.f k a0).bind fun t307 => (if t307 = 0 then (if a0.toList = ([47] : List UInt8) then (some ((⟨#[]⟩ : ByteArray), 143)) else ((label_above.f a0).bind fun t308 => (some (t308, 0)))) else (some ((⟨#[]⟩ : ByteArray), t307)))
theorem label_Parent.mono : ∀ a0 k, LeO (label_Parent.f k a0) (label_Parent.f (k + 1) a0) := by
  intro a0 k
  unfold label_Parent.f
  repeat' first
      | (with_reducible exact label_Path.mono _ _)
      | (with_reducible exact LeO.refl _)
      | (with_reducible exact LeO.none _)
      | (with_reducible refine LeO.ite ?_ ?_)
      | (with_reducible refine LeO.bind ?_ (fun _ => ?_))
      | exact label_Path.mono _ _
      | exact LeO.none _
      | refine LeO.ite ?_ ?_
      | refine LeO.bind ?_ (fun _ => ?_)
set_option maxHeartbeats 8000000 in
set_option maxRecDepth 100000 in
theorem label_Parent.calls (k : Nat) (a0 : ByteArray) (r1 : ByteArray) (r2 : Int) (w : World) (h : label_Parent.f k a0 = some (r1, r2)) (hG : Glob w) :
    Calls Tryd.prog 27 #[.string a0] w fun e w' => e = .returned (.tuple #[.string r1, .int .i64 r2]) ∧ Below w.heap.size w w' := by
  have HB := Aside0.mk (Below.refl w.heap.size w)
  have H : ((label_Path.f k a0).bind fun t307 => (if t307 = 0 then (if a0.toList = ([47] : List UInt8) then (some ((⟨#[]⟩ : ByteArray), 143)) else ((label_above.f a0).bind fun t308 => (some (t308, 0)))) else (some ((⟨#[]⟩ : ByteArray), t307)))) = some (r1, r2) := h
  clear h
  replace H := Option.bind_eq_some_iff.mp H
  obtain ⟨t307, A20, H⟩ := H
  replace H : (if t307 = 0 then (if a0.toList = ([47] : List UInt8) then (some ((⟨#[]⟩ : ByteArray), 143)) else ((label_above.f a0).bind fun t308 => (some (t308, 0)))) else (some ((⟨#[]⟩ : ByteArray), t307))) = some (r1, r2) := H
  have A2 := Aside0.mk A20
  clear A20
  by_cases c3 : t307 = 0
  · rw [if_pos c3] at H
    have c3b0 : (t307 == 0) = true := beq_iff_eq.mpr c3
    have c3b1 : (t307 != 0) = false := bne_eq_false_iff_eq.mpr c3
    clear c3
    by_cases c4 : a0.toList = ([47] : List UInt8)
    · rw [if_pos c4] at H
      have c4b0 : (a0.toList == ([47] : List UInt8)) = true := beq_iff_eq.mpr c4
      have c4b1 : (a0.toList != ([47] : List UInt8)) = false := bne_eq_false_iff_eq.mpr c4
      clear c4
      simp only [Option.some.injEq, Prod.mk.injEq] at H
      obtain ⟨rfl, rfl⟩ := H
      go_enter Tryd.func27, Tryd.ntmps27
      go_wp2_with (first | ((with_reducible refine gate_callee (f := 20) rfl ?_); refine goesL_ (some 6) rfl rfl Tryd.func20 (by kernel_rfl) rfl #[.string a0] rfl (by (try simp only [List.map_toArray, List.map_cons, List.map_nil]); first | done | rfl | (simp only [List.length_drop, List.length_take]; rfl)) ?_; (with_reducible refine (label_Path.calls k a0 t307 _ A2.out (Glob.below hG (by repeat (first | (with_reducible first | exact HB.out | apply below_alloc | apply pw_below_drewN | apply below_drew1) | exact HB.out)))).mono ?_); rintro e w5 ⟨rfl, hb⟩; refine ⟨_, rfl, ?_⟩; have n0_ := Aside0.mk (below_step (by repeat (first | (with_reducible first | exact HB.out | apply below_alloc | apply pw_below_drewN | apply below_drew1) | exact HB.out)) hb); clear HB; have HB := n0_; clear n0_; (try clear hb); (try clear hb2); (try clear hk); (try clear hi)))
      go_ret2
      exact ⟨by first | rfl | (simp [errW_none, errW_some] <;> rfl) | (simp [*, errW_none, errW_some] <;> rfl), by repeat (first | (with_reducible first | exact HB.out | apply below_alloc | apply pw_below_drewN | apply below_drew1) | exact HB.out)⟩
    · rw [if_neg c4] at H
      have c4b0 : (a0.toList == ([47] : List UInt8)) = false := beq_eq_false_iff_ne.mpr c4
      have c4b1 : (a0.toList != ([47] : List UInt8)) = true := bne_iff_ne.mpr c4
      replace H := Option.bind_eq_some_iff.mp H
      obtain ⟨t308, A60, H⟩ := H
      replace H : (some (t308, 0)) = some (r1, r2) := H
      have A6 := Aside0.mk A60
      clear A60
      simp only [Option.some.injEq, Prod.mk.injEq] at H
      obtain ⟨rfl, rfl⟩ := H
      go_enter Tryd.func27, Tryd.ntmps27
      go_wp2_with (first | ((with_reducible refine gate_callee (f := 20) rfl ?_); refine goesL_ (some 6) rfl rfl Tryd.func20 (by kernel_rfl) rfl #[.string a0] rfl (by (try simp only [List.map_toArray, List.map_cons, List.map_nil]); first | done | rfl | (simp only [List.length_drop, List.length_take]; rfl)) ?_; (with_reducible refine (label_Path.calls k a0 t307 _ A2.out (Glob.below hG (by repeat (first | (with_reducible first | exact HB.out | apply below_alloc | apply pw_below_drewN | apply below_drew1) | exact HB.out)))).mono ?_); rintro e w7 ⟨rfl, hb⟩; refine ⟨_, rfl, ?_⟩; have n0_ := Aside0.mk (below_step (by repeat (first | (with_reducible first | exact HB.out | apply below_alloc | apply pw_below_drewN | apply below_drew1) | exact HB.out)) hb); clear HB; have HB := n0_; clear n0_; (try clear hb); (try clear hb2); (try clear hk); (try clear hi)) | ((with_reducible refine gate_callee (f := 51) rfl ?_); refine goesL_ (some 13) rfl rfl Tryd.func51 (by kernel_rfl) rfl #[.string a0] rfl (by (try simp only [List.map_toArray, List.map_cons, List.map_nil]); first | done | rfl | (simp only [List.length_drop, List.length_take]; rfl)) ?_; (with_reducible refine (label_above.calls a0 t308 _ A6.out).mono ?_); rintro e w8 ⟨rfl, hb⟩; refine ⟨_, rfl, ?_⟩; have n0_ := Aside0.mk (below_step (by repeat (first | (with_reducible first | exact HB.out | apply below_alloc | apply pw_below_drewN | apply below_drew1) | exact HB.out)) hb); clear HB; have HB := n0_; clear n0_; (try clear hb); (try clear hb2); (try clear hk); (try clear hi)))
      go_ret2
      exact ⟨by first | rfl | (simp [errW_none, errW_some] <;> rfl) | (simp [*, errW_none, errW_some] <;> rfl), by repeat (first | (with_reducible first | exact HB.out | apply below_alloc | apply pw_below_drewN | apply below_drew1) | exact HB.out)⟩
  · rw [if_neg c3] at H
    have c3b0 : (t307 == 0) = false := beq_eq_false_iff_ne.mpr c3
    have c3b1 : (t307 != 0) = true := bne_iff_ne.mpr c3
    simp only [Option.some.injEq, Prod.mk.injEq] at H
    obtain ⟨rfl, rfl⟩ := H
    go_enter Tryd.func27, Tryd.ntmps27
    go_wp2_with (first | ((with_reducible refine gate_callee (f := 20) rfl ?_); refine goesL_ (some 6) rfl rfl Tryd.func20 (by kernel_rfl) rfl #[.string a0] rfl (by (try simp only [List.map_toArray, List.map_cons, List.map_nil]); first | done | rfl | (simp only [List.length_drop, List.length_take]; rfl)) ?_; (with_reducible refine (label_Path.calls k a0 t307 _ A2.out (Glob.below hG (by repeat (first | (with_reducible first | exact HB.out | apply below_alloc | apply pw_below_drewN | apply below_drew1) | exact HB.out)))).mono ?_); rintro e w9 ⟨rfl, hb⟩; refine ⟨_, rfl, ?_⟩; have n0_ := Aside0.mk (below_step (by repeat (first | (with_reducible first | exact HB.out | apply below_alloc | apply pw_below_drewN | apply below_drew1) | exact HB.out)) hb); clear HB; have HB := n0_; clear n0_; (try clear hb); (try clear hb2); (try clear hk); (try clear hi)))
    go_ret2
    exact ⟨by first | rfl | (simp [errW_none, errW_some] <;> rfl) | (simp [*, errW_none, errW_some] <;> rfl), by repeat (first | (with_reducible first | exact HB.out | apply below_alloc | apply pw_below_drewN | apply below_drew1) | exact HB.out)⟩

end Go.Proofs.YteaiobgnhlpblaaDoor.Q
namespace Go.Proofs.YteaiobgnhlpblaaDoor.Q
open Go.RowKit Go.Proofs.YteaiobgnhlpblaaDoorW.PrintWords Go.Proofs.YteaiobgnhlpblaaDoorW.PrintLast Go.Proofs.YteaiobgnhlpblaaDoorW.PrintMore
attribute [local go_sem] max2_int min2_int max_two min_two max_three min_three max_four min_four   -- for this text's walks alone
set_option linter.unusedVariables false
set_option linter.unusedSimpArgs false

/-! ### bursarref04_Parent: function 28 -/
def bursarref04_Parent.f (k : Nat) (a0 : ByteArray) : Option (ByteArray × Int) := (bursarref04_Line.f k a0).bind fun bt309 => (if bt309.2 = 0 then (if (bt309.1.length : Int) = 1 then (some ((⟨#[]⟩ : ByteArray), 143)) else (if 1 < (bt309.1.length : Int) then (some (rdOf ByteArray.empty bt309.1 1, 0)) else (none))) else (some ((⟨#[]⟩ : ByteArray), bt309.2)))
theorem bursarref04_Parent.mono : ∀ a0 k, LeO (bursarref04_Parent.f k a0) (bursarref04_Parent.f (k + 1) a0) := by
  intro a0 k
  unfold bursarref04_Parent.f
  repeat' first
      | (with_reducible exact bursarref04_Line.mono _ _)
      | (with_reducible exact LeO.refl _)
      | (with_reducible exact LeO.none _)
      | (with_reducible refine LeO.ite ?_ ?_)
      | (with_reducible refine LeO.bind ?_ (fun _ => ?_))
      | exact bursarref04_Line.mono _ _
      | exact LeO.none _
      | refine LeO.ite ?_ ?_
      | refine LeO.bind ?_ (fun _ => ?_)
set_option maxHeartbeats 8000000 in
set_option maxRecDepth 100000 in
theorem bursarref04_Parent.calls (k : Nat) (a0 : ByteArray) (r1 : ByteArray) (r2 : Int) (w : World) (h : bursarref04_Parent.f k a0 = some (r1, r2)) :
    Calls Tryd.prog 28 #[.string a0] w fun e w' => e = .returned (.tuple #[.string r1, .int .i64 r2]) ∧ Below w.heap.size w w' := by
  have HB := Aside0.mk (Below.refl w.heap.size w)
  have H : ((bursarref04_Line.f k a0).bind fun bt309 => (if bt309.2 = 0 then (if (bt309.1.length : Int) = 1 then (some ((⟨#[]⟩ : ByteArray), 143)) else (if 1 < (bt309.1.length : Int) then (some (rdOf ByteArray.empty bt309.1 1, 0)) else (none))) else (some ((⟨#[]⟩ : ByteArray), bt309.2)))) = some (r1, r2) := h
  clear h
  replace H := Option.bind_eq_some_iff.mp H
  obtain ⟨⟨t309, t310⟩, A20, H⟩ := H
  replace H : (if t310 = 0 then (if (t309.length : Int) = 1 then (some ((⟨#[]⟩ : ByteArray), 143)) else (if 1 < (t309.length : Int) then (some (rdOf ByteArray.empty t309 1, 0)) else (none))) else (some ((⟨#[]⟩ : ByteArray), t310))) = some (r1, r2) := H
  have A2 := Aside0.mk A20
  clear A20
  by_cases c3 : t310 = 0
  · rw [if_pos c3] at H
    have c3b0 : (t310 == 0) = true := beq_iff_eq.mpr c3
    have c3b1 : (t310 != 0) = false := bne_eq_false_iff_eq.mpr c3
    clear c3
    by_cases c4 : (t309.length : Int) = 1
    · rw [if_pos c4] at H
      have c4b0 : ((t309.length : Int) == 1) = true := beq_iff_eq.mpr c4
      have c4b1 : ((t309.length : Int) != 1) = false := bne_eq_false_iff_eq.mpr c4
      clear c4
      simp only [Option.some.injEq, Prod.mk.injEq] at H
      obtain ⟨rfl, rfl⟩ := H
      go_enter Tryd.func28, Tryd.ntmps28
      go_wp2_with (first | ((with_reducible refine gate_callee (f := 30) rfl ?_); refine goesL_ (some 8) rfl rfl Tryd.func30 (by kernel_rfl) rfl #[.string a0] rfl (by (try simp only [List.map_toArray, List.map_cons, List.map_nil]); first | done | rfl | (simp only [List.length_drop, List.length_take]; rfl)) ?_; (with_reducible refine (bursarref04_Line.calls k a0 t309 t310 _ A2.out).mono ?_); rintro e w5 ⟨v311, rfl, ho0, hb⟩; refine ⟨_, rfl, ?_⟩; have n0_ := Aside0.mk (Kd.R_lower ho0 (below_size (by repeat (first | (with_reducible first | exact HB.out | apply below_alloc | apply pw_below_drewN | apply below_drew1) | exact HB.out)))); have n1_ := Aside0.mk (below_step (by repeat (first | (with_reducible first | exact HB.out | apply below_alloc | apply pw_below_drewN | apply below_drew1) | exact HB.out)) hb); clear HB; have HO312 := n0_; have HB := n1_; clear n0_ n1_; (try clear hb); (try clear hb2); (try clear hk); (try clear hi); (try clear ho0); obtain ⟨Ao6, co6, eo6⟩ := Kd.R_slice HO312.out; subst eo6))
      go_ret2
      exact ⟨by first | rfl | (simp [errW_none, errW_some] <;> rfl) | (simp [*, errW_none, errW_some] <;> rfl), by repeat (first | (with_reducible first | exact HB.out | apply below_alloc | apply pw_below_drewN | apply below_drew1) | exact HB.out)⟩
    · rw [if_neg c4] at H
      have c4b0 : ((t309.length : Int) == 1) = false := beq_eq_false_iff_ne.mpr c4
      have c4b1 : ((t309.length : Int) != 1) = true := bne_iff_ne.mpr c4
      by_cases c7 : 1 < (t309.length : Int)
      · rw [if_pos c7] at H
        have c7b0 : decide (1 < (t309.length : Int)) = true := decide_eq_true c7
        have c7b1 : decide (1 < t309.length) = true := decide_eq_true (by omega)
        clear c7
        simp only [Option.some.injEq, Prod.mk.injEq] at H
        obtain ⟨rfl, rfl⟩ := H
        go_enter Tryd.func28, Tryd.ntmps28
        go_wp2_with (first | ((with_reducible refine gate_callee (f := 30) rfl ?_); refine goesL_ (some 8) rfl rfl Tryd.func30 (by kernel_rfl) rfl #[.string a0] rfl (by (try simp only [List.map_toArray, List.map_cons, List.map_nil]); first | done | rfl | (simp only [List.length_drop, List.length_take]; rfl)) ?_; (with_reducible refine (bursarref04_Line.calls k a0 t309 t310 _ A2.out).mono ?_); rintro e w8 ⟨v311, rfl, ho0, hb⟩; refine ⟨_, rfl, ?_⟩; have n0_ := Aside0.mk (Kd.R_lower ho0 (below_size (by repeat (first | (with_reducible first | exact HB.out | apply below_alloc | apply pw_below_drewN | apply below_drew1) | exact HB.out)))); have n1_ := Aside0.mk (below_step (by repeat (first | (with_reducible first | exact HB.out | apply below_alloc | apply pw_below_drewN | apply below_drew1) | exact HB.out)) hb); clear HB; have HO312 := n0_; have HB := n1_; clear n0_ n1_; (try clear hb); (try clear hb2); (try clear hk); (try clear hi); (try clear ho0); obtain ⟨Ao9, co9, eo9⟩ := Kd.R_slice HO312.out; subst eo9; have p313 : 0 ≤ (1 : Int) := (by omega); have q313 : 1 < (t309.length : Int) := of_decide_eq_true (by first | (with_reducible assumption) | assumption); obtain ⟨ad313, e313, hx313_0⟩ := Kd.at_string (Kd.R_reads' HO312.out).2.2 1 p313 q313; cases e313; (try simp only [show (1 : Int).toNat = 1 from rfl, Nat.reduceMul, Nat.reduceEqDiff, Go.Addr.add, ↓reduceIte] at hx313_0); have qi313 : (1 < t309.length) = True := eq_true (by omega); (try rw [show ((1 : Int)).toNat = 1 from rfl] at hx313_0); replace p313 := eq_true p313; replace q313 := eq_true q313))
        go_ret2
        exact ⟨by first | rfl | (simp [errW_none, errW_some] <;> rfl) | (simp [*, errW_none, errW_some] <;> rfl), by repeat (first | (with_reducible first | exact HB.out | apply below_alloc | apply pw_below_drewN | apply below_drew1) | exact HB.out)⟩
      · rw [if_neg c7] at H
        exact absurd H (by simp)
  · rw [if_neg c3] at H
    have c3b0 : (t310 == 0) = false := beq_eq_false_iff_ne.mpr c3
    have c3b1 : (t310 != 0) = true := bne_iff_ne.mpr c3
    simp only [Option.some.injEq, Prod.mk.injEq] at H
    obtain ⟨rfl, rfl⟩ := H
    go_enter Tryd.func28, Tryd.ntmps28
    go_wp2_with (first | ((with_reducible refine gate_callee (f := 30) rfl ?_); refine goesL_ (some 8) rfl rfl Tryd.func30 (by kernel_rfl) rfl #[.string a0] rfl (by (try simp only [List.map_toArray, List.map_cons, List.map_nil]); first | done | rfl | (simp only [List.length_drop, List.length_take]; rfl)) ?_; (with_reducible refine (bursarref04_Line.calls k a0 t309 t310 _ A2.out).mono ?_); rintro e w10 ⟨v311, rfl, ho0, hb⟩; refine ⟨_, rfl, ?_⟩; have n0_ := Aside0.mk (Kd.R_lower ho0 (below_size (by repeat (first | (with_reducible first | exact HB.out | apply below_alloc | apply pw_below_drewN | apply below_drew1) | exact HB.out)))); have n1_ := Aside0.mk (below_step (by repeat (first | (with_reducible first | exact HB.out | apply below_alloc | apply pw_below_drewN | apply below_drew1) | exact HB.out)) hb); clear HB; have HO312 := n0_; have HB := n1_; clear n0_ n1_; (try clear hb); (try clear hb2); (try clear hk); (try clear hi); (try clear ho0)))
    go_ret2
    exact ⟨by first | rfl | (simp [errW_none, errW_some] <;> rfl) | (simp [*, errW_none, errW_some] <;> rfl), by repeat (first | (with_reducible first | exact HB.out | apply below_alloc | apply pw_below_drewN | apply below_drew1) | exact HB.out)⟩

end Go.Proofs.YteaiobgnhlpblaaDoor.Q
namespace Go.Proofs.YteaiobgnhlpblaaDoor.Q
open Go.RowKit Go.Proofs.YteaiobgnhlpblaaDoorW.PrintWords Go.Proofs.YteaiobgnhlpblaaDoorW.PrintLast Go.Proofs.YteaiobgnhlpblaaDoorW.PrintMore
attribute [local go_sem] max2_int min2_int max_two min_two max_three min_three max_four min_four   -- for this text's walks alone
set_option linter.unusedVariables false
set_option linter.unusedSimpArgs false

/-! ### bursarref04_Path: function 21 -/
def bursarref04_Path.f (k : Nat) (a0 : ByteArray) : Option (Int) := (bursarref04_Split.f k a0).bind fun bt278 => (some bt278.2)
theorem bursarref04_Path.mono : ∀ a0 k, LeO (bursarref04_Path.f k a0) (bursarref04_Path.f (k + 1) a0) := by
  intro a0 k
  unfold bursarref04_Path.f
  repeat' first
      | (with_reducible exact bursarref04_Split.mono _ _)
      | (with_reducible exact LeO.refl _)
      | (with_reducible exact LeO.none _)
      | (with_reducible refine LeO.ite ?_ ?_)
      | (with_reducible refine LeO.bind ?_ (fun _ => ?_))
      | exact bursarref04_Split.mono _ _
      | exact LeO.none _
      | refine LeO.ite ?_ ?_
      | refine LeO.bind ?_ (fun _ => ?_)
set_option maxHeartbeats 8000000 in
set_option maxRecDepth 100000 in
theorem bursarref04_Path.calls (k : Nat) (a0 : ByteArray) (r : Int) (w : World) (h : bursarref04_Path.f k a0 = some r) :
    Calls Tryd.prog 21 #[.string a0] w fun e w' => e = .returned (.int .i64 r) ∧ Below w.heap.size w w' := by
  have HB := Aside0.mk (Below.refl w.heap.size w)
  have H : ((bursarref04_Split.f k a0).bind fun bt278 => (some bt278.2)) = some r := h
  clear h
  replace H := Option.bind_eq_some_iff.mp H
  obtain ⟨⟨t278, t279⟩, A20, H⟩ := H
  replace H : (some t279) = some r := H
  have A2 := Aside0.mk A20
  clear A20
  obtain rfl := Option.some.inj H
  go_enter Tryd.func21, Tryd.ntmps21
  go_wp2_with (first | ((with_reducible refine gate_callee (f := 25) rfl ?_); refine goesL_ (some 7) rfl rfl Tryd.func25 (by kernel_rfl) rfl #[.string a0] rfl (by (try simp only [List.map_toArray, List.map_cons, List.map_nil]); first | done | rfl | (simp only [List.length_drop, List.length_take]; rfl)) ?_; (with_reducible refine (bursarref04_Split.calls k a0 t278 t279 _ A2.out).mono ?_); rintro e w3 ⟨v280, rfl, ho0, hb⟩; refine ⟨_, rfl, ?_⟩; have n0_ := Aside0.mk (Kd.Q_lower ho0 (below_size (by repeat (first | (with_reducible first | exact HB.out | apply below_alloc | apply pw_below_drewN | apply below_drew1) | exact HB.out)))); have n1_ := Aside0.mk (below_step (by repeat (first | (with_reducible first | exact HB.out | apply below_alloc | apply pw_below_drewN | apply below_drew1) | exact HB.out)) hb); clear HB; have HO281 := n0_; have HB := n1_; clear n0_ n1_; (try clear hb); (try clear hb2); (try clear hk); (try clear hi); (try clear ho0)))
  go_ret
  exact ⟨by first | rfl | (simp [errW_none, errW_some] <;> rfl) | (simp [*, errW_none, errW_some] <;> rfl), by repeat (first | (with_reducible first | exact HB.out | apply below_alloc | apply pw_below_drewN | apply below_drew1) | exact HB.out)⟩

end Go.Proofs.YteaiobgnhlpblaaDoor.Q
/- Plain lists: a text cut at each c, names and paths. No program. -/
namespace Go.Proofs.YteaiobgnhlpblaaDoor.Pl

/-- l cut at each c. -/
def pcs (c : UInt8) : List UInt8 → List (List UInt8)
  | [] => [[]]
  | x :: l => if x = c then [] :: pcs c l else match pcs c l with
    | [] => [[x]]
    | p :: r => (x :: p) :: r

theorem pcs_ne (c : UInt8) (l : List UInt8) : pcs c l ≠ [] := by
  cases l with
  | nil => simp [pcs]
  | cons x l =>
    unfold pcs
    split
    · simp
    · split <;> simp
theorem pcs_hit (c : UInt8) (l : List UInt8) : pcs c (c :: l) = [] :: pcs c l := by simp [pcs]
theorem pcs_cons (c x : UInt8) (l : List UInt8) (h : x ≠ c) : ∃ p r, pcs c l = p :: r ∧ pcs c (x :: l) = (x :: p) :: r := by
  cases hp : pcs c l with
  | nil => exact absurd hp (pcs_ne c l)
  | cons p r => exact ⟨p, r, rfl, by simp [pcs, h, hp]⟩
/-- A stretch without c, then c. -/
theorem pcs_app (c : UInt8) (n l : List UInt8) (h : c ∉ n) : pcs c (n ++ c :: l) = n :: pcs c l := by
  induction n with
  | nil => simp [pcs]
  | cons x n ih =>
    have hx : x ≠ c := fun e => h (by simp [e])
    have hn : c ∉ n := fun e => h (by simp [e])
    simp [pcs, hx, ih hn]
theorem pcs_one (c : UInt8) (n : List UInt8) (h : c ∉ n) : pcs c n = [n] := by
  induction n with
  | nil => simp [pcs]
  | cons x n ih =>
    have hx : x ≠ c := fun e => h (by simp [e])
    have hn : c ∉ n := fun e => h (by simp [e])
    simp [pcs, hx, ih hn]
theorem pcs_free (c : UInt8) (l : List UInt8) : ∀ p ∈ pcs c l, c ∉ p := by
  induction l with
  | nil => simp [pcs]
  | cons x l ih =>
    by_cases h : x = c
    · subst h
      rw [pcs_hit]
      intro p hp
      rcases List.mem_cons.1 hp with rfl | hp
      · simp
      · exact ih p hp
    · obtain ⟨p, r, h1, h2⟩ := pcs_cons c x l h
      rw [h2]
      rw [h1] at ih
      intro q hq
      rcases List.mem_cons.1 hq with rfl | hq
      · have := ih p List.mem_cons_self
        simp [Ne.symm h, this]
      · exact ih q (List.mem_cons_of_mem _ hq)
/-- Each piece with a c ahead of it: the text with one ahead. -/
theorem pcs_flat (c : UInt8) (l : List UInt8) : ((pcs c l).map (c :: ·)).flatten = c :: l := by
  induction l with
  | nil => simp [pcs]
  | cons x l ih =>
    by_cases h : x = c
    · subst h
      rw [pcs_hit]
      simp only [List.map_cons, List.flatten_cons, ih]
      rfl
    · obtain ⟨p, r, h1, h2⟩ := pcs_cons c x l h
      rw [h2]
      rw [h1] at ih
      simp only [List.map_cons, List.flatten_cons] at ih ⊢
      have := List.cons.inj ih
      show c :: (x :: p) ++ _ = c :: x :: l
      rw [← this.2]
      rfl
theorem pcs_length_le (c : UInt8) (l : List UInt8) : (pcs c l).length ≤ l.length + 1 := by
  induction l with
  | nil => simp [pcs]
  | cons x l ih =>
    by_cases h : x = c
    · subst h; rw [pcs_hit]; simp; omega
    · obtain ⟨p, r, h1, h2⟩ := pcs_cons c x l h
      rw [h2]; rw [h1] at ih; simp at ih ⊢; omega
/-- The pieces of names, each with a c ahead of it (the first c off). -/
theorem pcs_of_names (c : UInt8) (n : List UInt8) (ns : List (List UInt8)) (h : ∀ p ∈ n :: ns, c ∉ p) : pcs c (n ++ (ns.map (c :: ·)).flatten) = n :: ns := by
  induction ns generalizing n with
  | nil => simp [pcs_one c n (h n (by simp))]
  | cons m ns ih =>
    have := ih m (fun p hp => h p (List.mem_cons_of_mem _ hp))
    simp only [List.map_cons, List.flatten_cons, List.cons_append]
    rw [pcs_app c n _ (h n (by simp)), this]

/-- The path of names. -/
def flat (ns : List (List UInt8)) : List UInt8 := (ns.map (47 :: ·)).flatten
def pathL (ns : List (List UInt8)) : List UInt8 := if ns = [] then [47] else flat ns
theorem flat_nil : flat [] = [] := rfl
theorem flat_cons (n : List UInt8) (ns : List (List UInt8)) : flat (n :: ns) = 47 :: (n ++ flat ns) := by simp [flat]
theorem flat_append (a b : List (List UInt8)) : flat (a ++ b) = flat a ++ flat b := by simp [flat]
theorem flat_length (ns : List (List UInt8)) : ns.length ≤ (flat ns).length := by
  induction ns with
  | nil => simp [flat]
  | cons n ns ih => rw [flat_cons]; simp; omega
theorem flat_inj : ∀ (a b : List (List UInt8)), (∀ p ∈ a, (47 : UInt8) ∉ p) → (∀ p ∈ b, (47 : UInt8) ∉ p) → flat a = flat b → a = b := by
  intro a b ha hb h
  cases a with
  | nil =>
    cases b with
    | nil => rfl
    | cons m ms => rw [flat_nil, flat_cons] at h; cases h
  | cons n ns =>
    cases b with
    | nil => rw [flat_nil, flat_cons] at h; cases h
    | cons m ms =>
      rw [flat_cons, flat_cons] at h
      have h' := (List.cons.inj h).2
      have e1 := pcs_of_names 47 n ns ha
      have e2 := pcs_of_names 47 m ms hb
      rw [← e1, ← e2]
      congr 1
/-- A path and a stroke ahead of another path: its names begin the other's. -/
theorem flat_prefix : ∀ (ms ns : List (List UInt8)), (∀ p ∈ ms, (47 : UInt8) ∉ p) → (∀ p ∈ ns, (47 : UInt8) ∉ p) → (flat ms ++ [47]) <+: flat ns → ms <+: ns := by
  intro ms
  induction ms with
  | nil => intro ns _ _ _; exact List.nil_prefix
  | cons m ms ih =>
    intro ns hm hn h
    cases ns with
    | nil =>
      obtain ⟨t, ht⟩ := h
      rw [flat_cons, flat_nil] at ht
      simp at ht
    | cons n ns =>
      rw [flat_cons, flat_cons] at h
      obtain ⟨t, ht⟩ := h
      simp only [List.cons_append, List.append_assoc, List.cons.injEq, true_and] at ht
      -- m ++ (flat ms ++ ([47] ++ t)) = n ++ flat ns
      have e1 : pcs 47 (m ++ (flat ms ++ ([47] ++ t))) = m :: pcs 47 ((flat ms ++ ([47] ++ t)).tail) := by
        cases ms with
        | nil => simp only [flat_nil, List.nil_append, List.cons_append, List.tail_cons]; exact pcs_app 47 m t (hm m (by simp))
        | cons q qs => rw [flat_cons]; simp only [List.cons_append, List.tail_cons]; exact pcs_app 47 m _ (hm m (by simp))
      have e2 := pcs_of_names 47 n ns hn
      have e3 : n ++ flat ns = n ++ (ns.map (47 :: ·)).flatten := rfl
      have ht' : m ++ (flat ms ++ ([47] ++ t)) = n ++ flat ns := ht
      rw [ht', e3, e2] at e1
      have hmn : n = m := (List.cons.inj e1).1
      subst hmn
      have h4 : flat ms ++ ([47] ++ t) = flat ns := List.append_cancel_left ht'
      have h5 := ih ns (fun p hp => hm p (List.mem_cons_of_mem _ hp)) (fun p hp => hn p (List.mem_cons_of_mem _ hp)) ⟨t, by rw [← h4]; simp⟩
      obtain ⟨u, rfl⟩ := h5
      exact ⟨u, by simp⟩
theorem prefix_flat {ms ns : List (List UInt8)} (h : ms <+: ns) (hne : ms ≠ ns) : (flat ms ++ [47]) <+: flat ns := by
  obtain ⟨u, rfl⟩ := h
  cases u with
  | nil => simp at hne
  | cons x u =>
    rw [flat_append, flat_cons]
    exact ⟨x ++ flat u, by simp⟩
end Go.Proofs.YteaiobgnhlpblaaDoor.Pl
/- What the printed functions on names and paths come to, in plain lists. -/
namespace Go.Proofs.YteaiobgnhlpblaaDoor.Q
open Go.RowKit Go.Proofs.YteaiobgnhlpblaaDoorW.PrintWords Go.Proofs.YteaiobgnhlpblaaDoorW.PrintLast Go.Proofs.YteaiobgnhlpblaaDoor.Pl
set_option linter.unusedVariables false
set_option linter.unusedSimpArgs false

def toB (l : List UInt8) : ByteArray := ⟨l.toArray⟩
theorem toB_list (l : List UInt8) : (toB l).data.toList = l := rfl
theorem toB_of (s : ByteArray) : toB s.data.toList = s := ba_ext rfl
theorem toB_inj {a b : List UInt8} (h : toB a = toB b) : a = b := by rw [← toB_list a, h, toB_list]
theorem toB_size (l : List UInt8) : (toB l).size = l.length := by simp [toB, ByteArray.size]
theorem size_list (s : ByteArray) : s.data.toList.length = s.size := by rw [Array.length_toList]; rfl
theorem lit_list {s : ByteArray} {l : List UInt8} : s.toList = l ↔ s.data.toList = l := by rw [ByteArray.toList_eq]
def nameL (l : List UInt8) : Bool := nameB (toB l)

/-! ### names -/
theorem nstep (k : Nat) (s : ByteArray) (i : Nat) (h : i < s.size) : bursarref04_Name.l0 (k + 1) s (i : Int) = if okByte (s[i]'h) = true then bursarref04_Name.l0 k s (wrap64 ((i : Int) + 1)) else some false := by
  have hb := bt_get s i h
  have hok := ok_iff (s[i]'h)
  rw [plB_iff, hb] at hok
  simp only [bursarref04_Name.l0]
  rw [if_pos (by omega), if_pos (by omega)]
  by_cases ho : okByte (s[i]'h) = true
  · rw [if_pos ho]
    have := hok.1 ho
    repeat' split
    all_goals first | rfl | (exfalso; omega)
  · rw [if_neg ho]
    have hn := fun h => ho (hok.2 h)
    repeat' split
    all_goals first | rfl | (exfalso; exact hn (by omega))
theorem nloop (s : ByteArray) (hs : s.size ≤ 1048576) (d : Nat) : ∀ i : Nat, i + d = s.size → Ev (fun k => bursarref04_Name.l0 k s (i : Int)) ((s.data.toList.drop i).all okByte) := by
  induction d with
  | zero =>
    intro i hi
    refine Ev.step (f := fun _ => some true) (fun k => ?_) ?_
    · simp only [bursarref04_Name.l0]; rw [if_neg (by omega)]
    · rw [List.drop_of_length_le (by rw [size_list]; omega)]; exact Ev.now true
  | succ d ih =>
    intro i hi
    have hlt : i < s.size := by omega
    have hl : i < s.data.toList.length := by rw [size_list]; exact hlt
    have hd : s.data.toList.drop i = s[i]'hlt :: s.data.toList.drop (i + 1) := List.drop_eq_getElem_cons hl
    rw [hd, List.all_cons]
    cases ho : okByte (s[i]'hlt) with
    | true =>
      rw [Bool.true_and]
      refine Ev.step (fun k => ?_) (ih (i + 1) (by omega))
      rw [nstep k s i hlt, if_pos ho, w64 i (by omega)]
    | false =>
      refine Ev.step (f := fun _ => some false) (fun k => ?_) (Ev.now false)
      rw [nstep k s i hlt, if_neg (by rw [ho]; decide)]
theorem name_ev (s : ByteArray) : Ev (fun k => bursarref04_Name.f k s) (nameB s) := by
  have hfalse : Ev (fun k => bursarref04_Name.j0 k s true) false := Ev.step (f := fun _ => some false) (fun k => by simp [bursarref04_Name.j0]) (Ev.now false)
  by_cases h1 : s.size < 1
  · rw [nameB_false (.inl h1)]
    refine Ev.congr (f := fun k => bursarref04_Name.j0 k s true) (fun k => ?_) hfalse
    unfold bursarref04_Name.f; rw [if_pos (by omega)]
  by_cases h2 : 32 < s.size
  · rw [nameB_false (.inr (.inl h2))]
    refine Ev.congr (f := fun k => bursarref04_Name.j0 k s true) (fun k => ?_) hfalse
    unfold bursarref04_Name.f; rw [if_neg (by omega), if_pos (by omega)]
  by_cases h3 : bt s 0 = 45
  · rw [nameB_false (.inr (.inr (.inl h3)))]
    refine Ev.congr (f := fun k => bursarref04_Name.j0 k s true) (fun k => ?_) hfalse
    unfold bursarref04_Name.f; rw [if_neg (by omega), if_neg (by omega), if_pos (by omega), if_pos h3]
  have hw : wrap64 ((s.size : Int) - 1) = (s.size : Int) - 1 := by unfold wrap64; omega
  by_cases h4 : bt s ((s.size : Int) - 1) = 45
  · rw [nameB_false (.inr (.inr (.inr (.inl h4))))]
    refine Ev.congr (f := fun k => bursarref04_Name.j0 k s true) (fun k => ?_) hfalse
    unfold bursarref04_Name.f
    rw [if_neg (by omega), if_neg (by omega), if_pos (by omega), if_neg h3, hw, if_pos (by omega), if_pos (by omega), h4]; rfl
  have hv : nameB s = s.data.toList.all okByte := by
    cases h : s.data.toList.all okByte with
    | true => exact nameB_true (by omega) (by omega) h3 h4 h
    | false => exact nameB_false (.inr (.inr (.inr (.inr h))))
  rw [hv]
  refine Ev.congr (f := fun k => bursarref04_Name.j0 k s false) (fun k => ?_) ?_
  · unfold bursarref04_Name.f
    have e : (bt s ((s.size : Int) - 1) == 45) = false := by rw [beq_eq_false_iff_ne]; exact h4
    rw [if_neg (by omega), if_neg (by omega), if_pos (by omega), if_neg h3, hw, if_pos (by omega), if_pos (by omega), e]
  · refine Ev.step (f := fun k => bursarref04_Name.l0 k s 0) (fun k => by simp [bursarref04_Name.j0]) ?_
    exact nloop s (by omega) s.size 0 (by omega)
theorem name_free {l : List UInt8} (h : nameL l = true) : (47 : UInt8) ∉ l := by
  intro hm
  have : (toB l).data.toList.all okByte = false := by
    rw [List.all_eq_false]
    exact ⟨47, hm, by decide⟩
  unfold nameL at h
  rw [nameB_false (.inr (.inr (.inr (.inr this))))] at h
  cases h
theorem name_size {s : ByteArray} (h : nameB s = true) : 1 ≤ s.size ∧ s.size ≤ 32 := by
  unfold nameB at h
  simp only [Bool.and_eq_true, decide_eq_true_eq] at h
  exact ⟨h.1.1.1.1, h.1.1.1.2⟩

/-! ### pieces -/
theorem drop_cons (s : ByteArray) (i : Nat) (h : i < s.size) : s.data.toList.drop i = s[i]'h :: s.data.toList.drop (i + 1) :=
  List.drop_eq_getElem_cons (by rw [size_list]; exact h)
theorem ext_list (s : ByteArray) (a b : Nat) : (s.extract a b).data.toList = (s.data.toList.take b).drop a := by
  rw [List.drop_take]
  simp
/-- What is left of the pieces where the present one began at 'from'. -/
def rest (c : UInt8) (s : ByteArray) (from_ i : Nat) : List (List UInt8) := match pcs c (s.data.toList.drop i) with
  | [] => []
  | p :: r => (((s.data.toList.take i).drop from_) ++ p) :: r
theorem take_drop_succ (s : ByteArray) (f i : Nat) (hf : f ≤ i) (h : i < s.size) : (s.data.toList.take (i + 1)).drop f = (s.data.toList.take i).drop f ++ [s[i]'h] := by
  have hl : i < s.data.toList.length := by rw [size_list]; exact h
  rw [List.take_succ_eq_append_getElem hl, List.drop_append_of_le_length (by rw [List.length_take]; omega)]
  rfl
theorem ploop (s : ByteArray) (c : UInt8) (hs : s.size ≤ 1048576) (d : Nat) : ∀ (i f : Nat) (acc : List ByteArray), i + d = s.size → f ≤ i → acc.length ≤ i →
    Ev (fun k => bursarref04_pieces.l0 k s (c.toNat : Int) acc (f : Int) (i : Int)) (acc ++ (rest c s f i).map toB) := by
  induction d with
  | zero =>
    intro i f acc hi hf ha
    refine Ev.step (f := fun k => bursarref04_pieces.l0 k s (c.toNat : Int) (acc ++ [s.extract f i]) (((i + 1 : Nat)) : Int) (((i + 1 : Nat)) : Int)) (fun k => ?_) ?_
    · simp only [bursarref04_pieces.l0]
      rw [if_pos (by omega), if_pos (by omega), if_pos (by omega), if_pos (by omega), if_pos (by omega), w64 i (by omega), Int.toNat_natCast, Int.toNat_natCast]
    · refine Ev.step (f := fun _ => some (acc ++ [s.extract f i])) (fun k => ?_) ?_
      · simp only [bursarref04_pieces.l0]; rw [if_neg (by omega)]
      · have e : rest c s f i = [(s.data.toList.take i).drop f] := by
          unfold rest
          rw [List.drop_of_length_le (by rw [size_list]; omega)]
          simp [pcs]
        rw [e, List.map_cons, List.map_nil, ← ext_list, toB_of]
        exact Ev.now _
  | succ d ih =>
    intro i f acc hi hf ha
    have hlt : i < s.size := by omega
    have hb := bt_get s i hlt
    by_cases hc : s[i]'hlt = c
    · have e : rest c s f i = ((s.data.toList.take i).drop f) :: rest c s (i + 1) (i + 1) := by
        unfold rest
        rw [drop_cons s i hlt, hc, pcs_hit]
        cases hp : pcs c (s.data.toList.drop (i + 1)) with
        | nil => exact absurd hp (pcs_ne _ _)
        | cons p r => simp [hp]
      refine Ev.step (f := fun k => bursarref04_pieces.l0 k s (c.toNat : Int) (acc ++ [s.extract f i]) (((i + 1 : Nat)) : Int) (((i + 1 : Nat)) : Int)) (fun k => ?_) ?_
      · simp only [bursarref04_pieces.l0]
        rw [if_pos (by omega), if_neg (by omega), if_pos (by omega), if_pos (by omega), if_pos (by rw [← hb, hc]), if_pos (by omega), if_pos (by omega), if_pos (by omega), w64 i (by omega), Int.toNat_natCast, Int.toNat_natCast]
      · rw [e, List.map_cons, ← ext_list, toB_of]
        have := ih (i + 1) (i + 1) (acc ++ [s.extract f i]) (by omega) (by omega) (by simp; omega)
        simpa using this
    · have e : rest c s f i = rest c s f (i + 1) := by
        obtain ⟨p, r, h1, h2⟩ := pcs_cons c (s[i]'hlt) (s.data.toList.drop (i + 1)) hc
        unfold rest
        rw [drop_cons s i hlt, h2, h1, take_drop_succ s f i hf hlt]
        simp
      rw [e]
      refine Ev.step (fun k => ?_) (ih (i + 1) f acc (by omega) (by omega) (by omega))
      have hne : ¬ bt s (i : Int) = (c.toNat : Int) := fun h => hc (by rw [← hb] at h; exact UInt8.toNat_inj.1 (by omega))
      simp only [bursarref04_pieces.l0]
      rw [if_pos (by omega), if_neg (by omega), if_pos (by omega), if_pos (by omega), if_neg hne, w64 i (by omega)]
theorem pieces_ev (s : ByteArray) (c : UInt8) (hs : s.size ≤ 1048576) : Ev (fun k => bursarref04_pieces.f k s (c.toNat : Int)) ((pcs c s.data.toList).map toB) := by
  have h := ploop s c hs s.size 0 0 [] (by omega) (by omega) (by simp)
  have e : rest c s 0 0 = pcs c s.data.toList := by
    unfold rest
    simp only [List.drop_zero, List.take_zero]
    cases hp : pcs c s.data.toList with
    | nil => exact absurd hp (pcs_ne _ _)
    | cons p r => simp
  rw [e, List.nil_append] at h
  exact h
end Go.Proofs.YteaiobgnhlpblaaDoor.Q
/- Split, Path, Line, Parent, Under: what the program's and the document's come to: the same. -/
namespace Go.Proofs.YteaiobgnhlpblaaDoor.Q
open Go.RowKit Go.Proofs.YteaiobgnhlpblaaDoorW.PrintWords Go.Proofs.YteaiobgnhlpblaaDoorW.PrintLast Go.Proofs.YteaiobgnhlpblaaDoor.Pl
set_option linter.unusedVariables false
set_option linter.unusedSimpArgs false

/-! ### strings.Split at one byte -/
theorem splitK_ne (c x : UInt8) (h : x ≠ c) (l : List UInt8) (k : Nat) : ∃ p r, Lib.splitK [c] 0 k l = p :: r ∧ Lib.splitK [c] 0 k (x :: l) = (x :: p) :: r := by
  cases k with
  | zero => exact ⟨l, [], rfl, rfl⟩
  | succ k =>
    have hp : ([c] : List UInt8).isPrefixOf (x :: l) = false := by simp [List.isPrefixOf, Ne.symm h]
    have hix : Lib.index (x :: l) [c] = if Lib.index l [c] == -1 then -1 else Lib.index l [c] + 1 := by rw [Lib.index, hp]; simp
    unfold Lib.splitK
    by_cases hm : (Lib.index l [c] == -1) = true
    · rw [hix, if_pos hm, if_pos hm]
      exact ⟨l, [], rfl, by rw [if_pos (by decide)]⟩
    · have hge := Lib.index_ge l [c]
      have hne : Lib.index l [c] ≠ -1 := fun e => hm (beq_iff_eq.2 e)
      obtain ⟨i, hi⟩ : ∃ i : Nat, Lib.index l [c] = i := ⟨(Lib.index l [c]).toNat, by omega⟩
      rw [hix, if_neg hm, if_neg hm, hi]
      refine ⟨_, _, rfl, ?_⟩
      rw [if_neg (by simp; omega), show ((i : Int) + 1).toNat = i + 1 by omega, Int.toNat_natCast]
      simp [Nat.add_right_comm]
theorem splitK_pcs (c : UInt8) (l : List UInt8) : Lib.splitK [c] 0 (Lib.count l [c]) l = pcs c l := by
  induction l with
  | nil => rw [Lib.count_miss (by simp [Lib.index])]; rfl
  | cons x l ih =>
    by_cases h : x = c
    · subst h
      rw [Lib.count_cons_eq, Nat.add_comm]
      have hix : Lib.index (x :: l) [x] = 0 := by rw [Lib.index]; simp [List.isPrefixOf]
      unfold Lib.splitK
      rw [hix, pcs_hit, ← ih]
      simp
    · rw [Lib.count_cons_ne x c l h]
      obtain ⟨p, r, h1, h2⟩ := splitK_ne c x h l (Lib.count l [c])
      obtain ⟨p', r', h3, h4⟩ := pcs_cons c x l h
      rw [h2, h4]
      rw [h1, h3] at ih
      rw [(List.cons.inj ih).1, (List.cons.inj ih).2]
theorem map_toB (l : List ByteArray) : (l.map (·.data.toList)).map toB = l := by
  simp [List.map_map, Function.comp_def, toB_of]
theorem split_some (s : ByteArray) (c : UInt8) (h : s.size < 4294967281) : strings_Split.f s (⟨#[c]⟩ : ByteArray) = some ((pcs c s.data.toList).map toB) := by
  unfold strings_Split.f
  rw [if_pos ⟨h, Nat.le_refl 1⟩, ← splitK_pcs c s.data.toList, ← map_toB (Lib.splitB _ _ _ _), Lib.splitB_data]

/-! ### Split -/
def splitS (s : ByteArray) : List ByteArray × Int :=
  if s.data.toList = [47] then ([], 0) else
  match s.data.toList with
  | [] => ([], 41)
  | c :: r => if c = 47 ∧ s.size ≤ 64 ∧ (pcs 47 r).length ≤ 8 ∧ (pcs 47 r).all nameL = true then ((pcs 47 r).map toB, 0) else ([], 41)
theorem rd_map (l : List (List UInt8)) (i : Nat) (h : i < l.length) : rdOf ByteArray.empty (l.map toB) (i : Int) = toB (l[i]'h) := by
  rw [rd_at _ i (by simpa using h)]; simp
theorem drop_at {α : Type} (l : List α) (i : Nat) (h : i < l.length) : l.drop i = l[i]'h :: l.drop (i + 1) := List.drop_eq_getElem_cons h
theorem rsloop (l : List (List UInt8)) (hl : l.length ≤ 2000000) (h1 : 1 ≤ l.length) (d : Nat) : ∀ i : Nat, i + d = l.length → 1 ≤ i →
    Ev (fun k => bursarref04_Split.l0 k (l.map toB) (i : Int)) (if (l.drop i).all nameL = true then ((l.drop 1).map toB, 0) else ([], 41)) := by
  induction d with
  | zero =>
    intro i hi _
    rw [List.drop_of_length_le (by omega)]
    refine Ev.step (f := fun _ => some ((l.drop 1).map toB, 0)) (fun k => ?_) (Ev.now _)
    simp only [bursarref04_Split.l0]
    rw [if_neg (by simp; omega), if_pos (by simp; omega)]
    simp
  | succ d ih =>
    intro i hi h0
    have hlt : i < l.length := by omega
    rw [drop_at l i hlt, List.all_cons]
    refine Ev.step (fun k => ?_) (Ev.bind (name_ev (toB l[i])) (f := fun k t => if t = true then bursarref04_Split.l0 k (l.map toB) ((i + 1 : Nat) : Int) else some ([], 41)) ?_)
    · simp only [bursarref04_Split.l0]
      rw [if_pos (by simp; omega), if_pos (by omega), rd_map l i hlt, w64 i (by omega)]
    · show Ev (fun k => if nameL l[i] = true then _ else _) _
      cases hn : nameL l[i] with
      | true =>
        have := ih (i + 1) (by omega) (by omega)
        simpa using this
      | false => simpa using Ev.now (([], 41) : List ByteArray × Int)
theorem refSplit_ev (s : ByteArray) (hs : s.size ≤ 1048576) : Ev (fun k => bursarref04_Split.f k s) (splitS s) := by
  have hbad : ∀ l, Ev (fun k => bursarref04_Split.j0 k l true) ([], 41) := fun l => Ev.step (f := fun _ => some ([], 41)) (fun k => by simp [bursarref04_Split.j0]) (Ev.now _)
  unfold splitS
  by_cases hr : s.data.toList = [47]
  · rw [if_pos hr]
    refine Ev.congr (f := fun _ => some ([], 0)) (fun k => ?_) (Ev.now _)
    unfold bursarref04_Split.f; rw [if_pos (lit_list.2 hr)]
  rw [if_neg hr]
  have hp := pieces_ev s 47 hs
  have hlen := pcs_length_le 47 s.data.toList
  rw [size_list] at hlen
  refine Ev.congr (f := fun k => (bursarref04_pieces.f k s 47).bind fun t => if (s.size : Int) > 64 then bursarref04_Split.j0 k t true else if (t.length : Int) < 2 then bursarref04_Split.j0 k t true else if (t.length : Int) > 9 then bursarref04_Split.j0 k t true else if 0 < (t.length : Int) then bursarref04_Split.j0 k t ((rdOf ByteArray.empty t 0).toList != ([] : List UInt8)) else none) (fun k => ?_) ?_
  · unfold bursarref04_Split.f; rw [if_neg (fun h => hr (lit_list.1 h))]
  refine Ev.bind hp ?_
  simp only [List.length_map]
  by_cases h64 : s.size > 64
  · rw [show (match s.data.toList with | [] => (([] : List ByteArray), (41 : Int)) | c :: r => if c = 47 ∧ s.size ≤ 64 ∧ (pcs 47 r).length ≤ 8 ∧ (pcs 47 r).all nameL = true then ((pcs 47 r).map toB, 0) else ([], 41)) = ([], 41) by
      cases s.data.toList with
      | nil => rfl
      | cons c r => exact if_neg (fun h => by omega)]
    refine Ev.congr (fun k => ?_) (hbad ((pcs 47 s.data.toList).map toB))
    rw [if_pos (by omega)]
  cases hl : s.data.toList with
  | nil =>
    refine Ev.congr (fun k => ?_) (hbad ((pcs 47 []).map toB))
    rw [if_neg (by omega), if_pos (by simp [pcs])]
  | cons c r =>
    by_cases hc : c = 47
    · subst hc
      rw [pcs_hit]
      have hn1 : 1 ≤ (pcs 47 r).length := by
        cases h : pcs 47 r with
        | nil => exact absurd h (pcs_ne _ _)
        | cons _ _ => simp
      by_cases h8 : (pcs 47 r).length ≤ 8
      · have h := rsloop ([] :: pcs 47 r) (by simp; omega) (by simp) (pcs 47 r).length 1 (by simp; omega) (by omega)
        simp only [List.drop_succ_cons, List.drop_zero] at h
        have e : (if (47 : UInt8) = 47 ∧ s.size ≤ 64 ∧ (pcs 47 r).length ≤ 8 ∧ (pcs 47 r).all nameL = true then ((pcs 47 r).map toB, (0 : Int)) else ([], 41)) = (if (pcs 47 r).all nameL = true then ((pcs 47 r).map toB, (0 : Int)) else ([], 41)) := by
          by_cases ha : (pcs 47 r).all nameL = true
          · rw [if_pos ⟨rfl, by omega, h8, ha⟩, if_pos ha]
          · rw [if_neg (fun h => ha h.2.2.2), if_neg ha]
        show Ev _ (if (47 : UInt8) = 47 ∧ s.size ≤ 64 ∧ (pcs 47 r).length ≤ 8 ∧ (pcs 47 r).all nameL = true then ((pcs 47 r).map toB, (0 : Int)) else ([], 41))
        rw [e]
        refine Ev.congr (f := fun k => bursarref04_Split.j0 k (([] :: pcs 47 r).map toB) false) (fun k => ?_) (Ev.step (fun k => ?_) h)
        · have e0 : ((rdOf ByteArray.empty (([] :: pcs 47 r).map toB) 0).toList != ([] : List UInt8)) = false := by
            have := rd_map ([] :: pcs 47 r) 0 (by simp)
            rw [show (0 : Int) = ((0 : Nat) : Int) from rfl, this, ByteArray.toList_eq]
            rfl
          rw [if_neg (by omega), if_neg (by simp; omega), if_neg (by simp; omega), if_pos (by simp), e0]
        · simp [bursarref04_Split.j0]
      · show Ev _ (if (47 : UInt8) = 47 ∧ s.size ≤ 64 ∧ (pcs 47 r).length ≤ 8 ∧ (pcs 47 r).all nameL = true then ((pcs 47 r).map toB, (0 : Int)) else ([], 41))
        rw [if_neg (fun h => h8 h.2.2.1)]
        refine Ev.congr (fun k => ?_) (hbad (([] :: pcs 47 r).map toB))
        rw [if_neg (by omega), if_neg (by simp; omega), if_pos (by simp; omega)]
    · show Ev _ (if c = 47 ∧ s.size ≤ 64 ∧ (pcs 47 r).length ≤ 8 ∧ (pcs 47 r).all nameL = true then ((pcs 47 r).map toB, (0 : Int)) else ([], 41))
      rw [if_neg (fun h => hc h.1)]
      obtain ⟨p, q, h1, h2⟩ := pcs_cons 47 c r hc
      rw [h2]
      by_cases hq2 : ((c :: p) :: q).length < 2
      · refine Ev.congr (fun k => ?_) (hbad (((c :: p) :: q).map toB))
        rw [if_neg (by omega), if_pos (by omega)]
      by_cases hq9 : ((c :: p) :: q).length > 9
      · refine Ev.congr (fun k => ?_) (hbad (((c :: p) :: q).map toB))
        rw [if_neg (by omega), if_neg (by omega), if_pos (by omega)]
      · refine Ev.congr (fun k => ?_) (hbad (((c :: p) :: q).map toB))
        have e0 : ((rdOf ByteArray.empty (((c :: p) :: q).map toB) 0).toList != ([] : List UInt8)) = true := by
          have := rd_map ((c :: p) :: q) 0 (by simp)
          rw [show (0 : Int) = ((0 : Nat) : Int) from rfl, this, ByteArray.toList_eq]
          rfl
        rw [if_neg (by omega), if_neg (by omega), if_neg (by omega), if_pos (by simp), e0]
end Go.Proofs.YteaiobgnhlpblaaDoor.Q
/- Split, Path, Line, Parent, Under: what the program's and the document's come to: the same (second part). -/
namespace Go.Proofs.YteaiobgnhlpblaaDoor.Q
open Go.RowKit Go.Proofs.YteaiobgnhlpblaaDoorW.PrintWords Go.Proofs.YteaiobgnhlpblaaDoorW.PrintLast Go.Proofs.YteaiobgnhlpblaaDoor.Pl
set_option linter.unusedVariables false
set_option linter.unusedSimpArgs false

theorem hasPrefix_lite (s p : ByteArray) : stringslite_HasPrefix.f s p = some (decide (p.data.toList <+: s.data.toList)) := by
  unfold stringslite_HasPrefix.f
  by_cases h : (s.size : Int) ≥ (p.size : Int)
  · rw [if_pos h, if_pos (by omega), if_pos (by omega)]
    congr 1
    rw [ByteArray.toList_eq, ByteArray.toList_eq, Int.toNat_natCast, ext_list, List.drop_zero, Bool.eq_iff_iff]
    simp only [beq_iff_eq, decide_eq_true_eq]
    rw [List.prefix_iff_eq_take, size_list]
    exact eq_comm
  · rw [if_neg h]
    congr 1
    rw [eq_comm, decide_eq_false_iff_not]
    intro hp
    have := hp.length_le
    rw [size_list, size_list] at this
    omega
theorem hasPrefix_some (s p : ByteArray) : strings_HasPrefix.f s p = some (decide (p.data.toList <+: s.data.toList)) := by
  unfold strings_HasPrefix.f
  rw [hasPrefix_lite]; rfl
theorem cutPrefix_yes (s p : ByteArray) (h : p.data.toList <+: s.data.toList) : strings_CutPrefix.f s p = some (toB (s.data.toList.drop p.size), true) := by
  have hle := h.length_le
  rw [size_list, size_list] at hle
  unfold strings_CutPrefix.f stringslite_CutPrefix.f
  rw [hasPrefix_lite, decide_eq_true h, Option.bind_some, if_pos rfl, if_pos (by omega), if_pos (by omega), Option.bind_some]
  simp only [Int.toNat_natCast]
  congr 2
  apply ba_ext
  rw [ext_list, toB_list, List.take_of_length_le (by rw [size_list]; omega)]
theorem cutPrefix_no (s p : ByteArray) (h : ¬ p.data.toList <+: s.data.toList) : strings_CutPrefix.f s p = some (s, false) := by
  unfold strings_CutPrefix.f stringslite_CutPrefix.f
  rw [hasPrefix_lite, decide_eq_false h, Option.bind_some, if_neg (by decide), Option.bind_some]

theorem lsloop (x6 : List ByteArray) (l : List (List UInt8)) (hl : l.length ≤ 2000000) (d : Nat) : ∀ i : Nat, i + d = l.length →
    Ev (fun k => label_Split.l0 k x6 (l.map toB) (l.length : Int) (i : Int)) (if (l.drop i).all nameL = true then (x6, 0) else ([], 41)) := by
  induction d with
  | zero =>
    intro i hi
    rw [List.drop_of_length_le (by omega)]
    refine Ev.step (f := fun _ => some (x6, 0)) (fun k => ?_) (Ev.now _)
    simp only [label_Split.l0]
    rw [if_neg (by omega)]
  | succ d ih =>
    intro i hi
    have hlt : i < l.length := by omega
    rw [drop_at l i hlt, List.all_cons]
    have e : label_Name.f (toB l[i]) = some (nameL l[i]) := rfl
    cases hn : nameL l[i] with
    | true =>
      rw [Bool.true_and]
      refine Ev.step (fun k => ?_) (ih (i + 1) (by omega))
      simp only [label_Split.l0]
      rw [if_pos (by omega), if_pos (by omega), if_pos (by simp; omega), rd_map l i hlt, e, hn, Option.bind_some, if_pos rfl, w64 i (by omega)]
    | false =>
      refine Ev.step (f := fun _ => some ([], 41)) (fun k => ?_) (Ev.now _)
      simp only [label_Split.l0]
      rw [if_pos (by omega), if_pos (by omega), if_pos (by simp; omega), rd_map l i hlt, e, hn, Option.bind_some, if_neg (by decide)]
theorem split_ev (s : ByteArray) : Ev (fun k => label_Split.f k s) (splitS s) := by
  have hbad : ∀ l, Ev (fun k => label_Split.j0 k l true) ([], 41) := fun l => Ev.step (f := fun _ => some ([], 41)) (fun k => by simp [label_Split.j0]) (Ev.now _)
  unfold splitS
  by_cases hr : s.data.toList = [47]
  · rw [if_pos hr]
    refine Ev.congr (f := fun _ => some ([], 0)) (fun k => ?_) (Ev.now _)
    unfold label_Split.f; rw [if_pos (lit_list.2 hr)]
  rw [if_neg hr]
  have hno : ∀ (h : ¬ (⟨#[47]⟩ : ByteArray).data.toList <+: s.data.toList), Ev (fun k => label_Split.f k s) ([], 41) := fun h => by
    refine Ev.congr (fun k => ?_) (hbad s)
    unfold label_Split.f; rw [if_neg (fun h => hr (lit_list.1 h)), cutPrefix_no s _ h, Option.bind_some, if_neg (by simp)]
  cases hl : s.data.toList with
  | nil => exact hno (by rw [hl]; simp)
  | cons c r =>
    show Ev _ (if c = 47 ∧ s.size ≤ 64 ∧ (pcs 47 r).length ≤ 8 ∧ (pcs 47 r).all nameL = true then ((pcs 47 r).map toB, (0 : Int)) else ([], 41))
    by_cases hc : c = 47
    rotate_left
    · rw [if_neg (fun h => hc h.1)]
      exact hno (by rw [hl]; intro h; simp at h; exact hc h.symm)
    subst hc
    have hcut := cutPrefix_yes s (⟨#[47]⟩ : ByteArray) (by rw [hl]; simp)
    have h1 : s.data.toList.drop (⟨#[47]⟩ : ByteArray).size = r := by rw [hl]; rfl
    rw [h1] at hcut
    by_cases h64 : s.size ≤ 64
    rotate_left
    · rw [if_neg (fun h => h64 h.2.1)]
      refine Ev.congr (fun k => ?_) (hbad (toB r))
      unfold label_Split.f
      rw [if_neg (fun h => hr (lit_list.1 h)), hcut, Option.bind_some, if_pos rfl, decide_eq_true (by omega)]
    have hsp := split_some (toB r) 47 (by rw [toB_size]; have := size_list s; rw [hl] at this; simp at this; omega)
    rw [toB_list] at hsp
    by_cases h8 : (pcs 47 r).length ≤ 8
    · have e : (if (47 : UInt8) = 47 ∧ s.size ≤ 64 ∧ (pcs 47 r).length ≤ 8 ∧ (pcs 47 r).all nameL = true then ((pcs 47 r).map toB, (0 : Int)) else ([], 41)) = (if (pcs 47 r).all nameL = true then ((pcs 47 r).map toB, (0 : Int)) else ([], 41)) := by
        by_cases ha : (pcs 47 r).all nameL = true
        · rw [if_pos ⟨rfl, h64, h8, ha⟩, if_pos ha]
        · rw [if_neg (fun h => ha h.2.2.2), if_neg ha]
      rw [e]
      have h := lsloop ((pcs 47 r).map toB) (pcs 47 r) (by omega) (pcs 47 r).length 0 (by omega)
      rw [List.drop_zero] at h
      refine Ev.congr (f := fun k => label_Split.j0 k (toB r) false) (fun k => ?_) (Ev.step (fun k => ?_) h)
      · unfold label_Split.f
        rw [if_neg (fun h => hr (lit_list.1 h)), hcut, Option.bind_some, if_pos rfl, decide_eq_false (by omega)]
      · simp only [label_Split.j0]
        rw [if_neg (by decide), hsp, Option.bind_some, if_neg (by simp; omega)]
        simp
    · rw [if_neg (fun h => h8 h.2.2.1)]
      refine Ev.congr (f := fun k => label_Split.j0 k (toB r) false) (fun k => ?_) (Ev.step (f := fun _ => some ([], 41)) (fun k => ?_) (Ev.now _))
      · unfold label_Split.f
        rw [if_neg (fun h => hr (lit_list.1 h)), hcut, Option.bind_some, if_pos rfl, decide_eq_false (by omega)]
      · simp only [label_Split.j0]
        rw [if_neg (by decide), hsp, Option.bind_some, if_pos (by simp; omega)]

/-! ### Path; what a path is -/
def pathS (s : ByteArray) : Int := (splitS s).2
theorem path_ev (s : ByteArray) : Ev (fun k => label_Path.f k s) (pathS s) :=
  Ev.congr (fun k => rfl) (Ev.bind (split_ev s) (f := fun (_ : Nat) (b : List ByteArray × Int) => some b.2) (Ev.now _))
theorem refPath_ev (s : ByteArray) (hs : s.size ≤ 1048576) : Ev (fun k => bursarref04_Path.f k s) (pathS s) :=
  Ev.congr (fun k => rfl) (Ev.bind (refSplit_ev s hs) (f := fun (_ : Nat) (b : List ByteArray × Int) => some b.2) (Ev.now _))
/-- These names make a path. -/
structure IsPath (s : ByteArray) (ns : List (List UInt8)) : Prop where
  list : s.data.toList = pathL ns
  most : ns.length ≤ 8
  size : s.size ≤ 64
  names : ns.all nameL = true
theorem IsPath.free {s : ByteArray} {ns : List (List UInt8)} (h : IsPath s ns) : ∀ p ∈ ns, (47 : UInt8) ∉ p := fun p hp => name_free (List.all_eq_true.1 h.names p hp)
theorem isPath_of (s : ByteArray) (ns : List (List UInt8)) (h : IsPath s ns) : splitS s = (ns.map toB, 0) := by
  unfold splitS
  cases ns with
  | nil => rw [h.list]; rfl
  | cons n ns =>
    have hl : s.data.toList = 47 :: (n ++ flat ns) := by rw [h.list]; unfold pathL; rw [if_neg (by simp), flat_cons]
    have hp : pcs 47 (n ++ flat ns) = n :: ns := pcs_of_names 47 n ns h.free
    have hn : n ≠ [] := by
      intro e
      have := List.all_eq_true.1 h.names n (by simp)
      rw [e] at this
      exact absurd this (by decide)
    rw [if_neg (by rw [hl]; intro e; simp at e; exact hn e.1), hl]
    show (if (47 : UInt8) = 47 ∧ s.size ≤ 64 ∧ (pcs 47 (n ++ flat ns)).length ≤ 8 ∧ (pcs 47 (n ++ flat ns)).all nameL = true then ((pcs 47 (n ++ flat ns)).map toB, (0 : Int)) else ([], 41)) = _
    rw [hp, if_pos ⟨rfl, h.size, h.most, h.names⟩]
theorem path_cases (s : ByteArray) : (∃ ns, IsPath s ns ∧ splitS s = (ns.map toB, 0)) ∨ ((∀ ns, ¬ IsPath s ns) ∧ splitS s = ([], 41)) := by
  by_cases h : ∃ ns, IsPath s ns
  · obtain ⟨ns, h⟩ := h
    exact .inl ⟨ns, h, isPath_of s ns h⟩
  · have hn : ∀ ns, ¬ IsPath s ns := fun ns hp => h ⟨ns, hp⟩
    refine .inr ⟨hn, ?_⟩
    unfold splitS
    by_cases hr : s.data.toList = [47]
    · exact absurd ⟨by rw [hr]; rfl, by simp, by rw [← size_list, hr]; simp, rfl⟩ (hn [])
    rw [if_neg hr]
    cases hl : s.data.toList with
    | nil => rfl
    | cons c r =>
      show (if c = 47 ∧ s.size ≤ 64 ∧ (pcs 47 r).length ≤ 8 ∧ (pcs 47 r).all nameL = true then ((pcs 47 r).map toB, (0 : Int)) else ([], 41)) = _
      by_cases hc : c = 47 ∧ s.size ≤ 64 ∧ (pcs 47 r).length ≤ 8 ∧ (pcs 47 r).all nameL = true
      · obtain ⟨rfl, h1, h2, h3⟩ := hc
        refine absurd ⟨?_, h2, h1, h3⟩ (hn (pcs 47 r))
        rw [hl]
        unfold pathL flat
        rw [if_neg (pcs_ne _ _), pcs_flat]
      · rw [if_neg hc]
end Go.Proofs.YteaiobgnhlpblaaDoor.Q
/- above, Join, Line, Parent, Under: the program's and the document's. -/
namespace Go.Proofs.YteaiobgnhlpblaaDoor.Q
open Go.RowKit Go.Proofs.YteaiobgnhlpblaaDoorW.PrintWords Go.Proofs.YteaiobgnhlpblaaDoorW.PrintLast Go.Proofs.YteaiobgnhlpblaaDoor.Pl
set_option linter.unusedVariables false
set_option linter.unusedSimpArgs false

theorem name_ne {n : List UInt8} (h : nameL n = true) : n ≠ [] := by
  intro e; rw [e] at h; exact absurd h (by decide)
theorem bang_list (s : ByteArray) (j : Nat) (h : j < s.size) : s.data[j]! = s.data.toList[j]'(by rw [size_list]; exact h) := by
  have h' : j < s.data.size := h
  rw [getElem!_pos s.data j h', Array.getElem_toList]
theorem last_stroke (s : ByteArray) (a n : List UInt8) (hs : s.data.toList = a ++ 47 :: n) (hn : (47 : UInt8) ∉ n) : Lib.lastIndexByte s 47 = (a.length : Int) := by
  have hsz := size_list s
  rw [hs] at hsz
  simp at hsz
  have hget : ∀ j (h : j < s.size), s.data[j]! = (a ++ 47 :: n)[j]'(by simp; omega) := fun j h => by
    rw [bang_list s j h]; congr 1
  rcases Lib.lastIndexByte_spec s 47 with ⟨_, h⟩ | ⟨i, hi, e, hc, hafter⟩
  · have := h a.length (by omega)
    rw [hget a.length (by omega)] at this
    simp at this
  · rw [e]
    rcases Nat.lt_trichotomy i a.length with h | h | h
    · have := hafter a.length h (by omega)
      rw [hget a.length (by omega)] at this
      simp at this
    · rw [h]
    · rw [hget i hi] at hc
      rw [List.getElem_append_right (by omega)] at hc
      obtain ⟨j, hj⟩ : ∃ j, i - a.length = j + 1 := ⟨i - a.length - 1, by omega⟩
      simp only [hj, List.getElem_cons_succ] at hc
      have : n[j]'(by omega) = 47 := UInt8.toNat_inj.1 (by rw [show (47 : UInt8).toNat = 47 from rfl]; omega)
      exact absurd (by rw [← this]; exact List.getElem_mem _) hn
theorem flat_snoc (ms : List (List UInt8)) (n : List UInt8) : flat (ms ++ [n]) = flat ms ++ 47 :: n := by rw [flat_append, flat_cons, flat_nil]; simp
theorem above_some (s : ByteArray) (ms : List (List UInt8)) (n : List UInt8) (h : IsPath s (ms ++ [n])) : label_above.f s = some (toB (pathL ms)) := by
  have hn : (47 : UInt8) ∉ n := h.free n (by simp)
  have hs : s.data.toList = flat ms ++ 47 :: n := by rw [h.list]; unfold pathL; rw [if_neg (by simp), flat_snoc]
  have hsz := size_list s
  rw [hs] at hsz
  simp at hsz
  have h64 := h.size
  have hl : strings_LastIndex.f s (⟨#[47]⟩ : ByteArray) = some ((flat ms).length : Int) := by
    unfold strings_LastIndex.f
    rw [if_pos ⟨rfl, by omega⟩]
    have : bt (⟨#[47]⟩ : ByteArray) 0 = 47 := by decide
    rw [this, last_stroke s _ n hs hn]
  unfold label_above.f
  rw [hl, Option.bind_some]
  unfold pathL
  by_cases hm : ms = []
  · subst hm
    rw [if_pos rfl, flat_nil]
    simp only [List.length_nil, mx]
    rw [if_pos (by decide), if_pos (by omega)]
    congr 1
    apply ba_ext
    rw [ext_list, hs, flat_nil]
    simp [toB]
  · rw [if_neg hm]
    have hpos : 1 ≤ (flat ms).length := by
      have h0 := flat_length ms
      cases ms with
      | nil => exact absurd rfl hm
      | cons _ _ => simp at h0; omega
    have hmx : mx 1 ((flat ms).length : Int) = ((flat ms).length : Int) := by unfold mx; split <;> omega
    rw [hmx, if_pos (by omega), if_pos (by omega)]
    congr 1
    apply ba_ext
    rw [ext_list, hs, Int.toNat_natCast, toB_list]
    simp

/-- The lines: of these names' first i, and all above. -/
def upto (ns : List (List UInt8)) : Nat → List ByteArray
  | 0 => [toB (pathL [])]
  | i + 1 => toB (pathL (ns.take (i + 1))) :: upto ns i
theorem upto_length (ns : List (List UInt8)) : ∀ i, (upto ns i).length = i + 1
  | 0 => rfl
  | i + 1 => by simp [upto, upto_length ns i]
theorem pathL_length_le (ns : List (List UInt8)) (i : Nat) (h : 1 ≤ i) : (pathL (ns.take i)).length ≤ (pathL ns).length := by
  unfold pathL
  by_cases hn : ns = []
  · subst hn; simp
  rw [if_neg hn]
  have hp : (flat (ns.take i)).length ≤ (flat ns).length := by
    conv => rhs; rw [← List.take_append_drop i ns, flat_append]
    simp
  split
  · rename_i h0
    cases ns with
    | nil => exact absurd rfl hn
    | cons a b => rw [flat_cons]; simp
  · exact hp
theorem isPath_take {s : ByteArray} {ns : List (List UInt8)} (h : IsPath s ns) (i : Nat) : IsPath (toB (pathL (ns.take i))) (ns.take i) := by
  refine ⟨toB_list _, by have := h.most; rw [List.length_take]; omega, ?_, ?_⟩
  · rw [toB_size]
    rcases Nat.eq_zero_or_pos i with h0 | h0
    · subst h0; simp [pathL]
    · have := pathL_length_le ns i h0
      have h1 := size_list s
      rw [h.list] at h1
      have := h.size
      omega
  · have := h.names
    rw [List.all_eq_true] at this ⊢
    exact fun x hx => this x (List.mem_of_mem_take hx)
theorem take_snoc (ns : List (List UInt8)) (i : Nat) (h : i < ns.length) : ns.take (i + 1) = ns.take i ++ [ns[i]'h] := List.take_succ_eq_append_getElem h
theorem pathL_ne_root {ns : List (List UInt8)} (hn : ns.all nameL = true) (h : ns ≠ []) : pathL ns ≠ [47] := by
  unfold pathL
  rw [if_neg h]
  cases ns with
  | nil => exact absurd rfl h
  | cons n ns =>
    rw [flat_cons]
    intro e
    have : n = [] := by simp at e; exact e.1
    exact name_ne (List.all_eq_true.1 hn n (by simp)) this
theorem lineloop (s : ByteArray) (ns : List (List UInt8)) (h : IsPath s ns) : ∀ (i : Nat) (acc : List ByteArray), i ≤ ns.length → acc.length + i ≤ 1000 →
    Ev (fun k => label_Line.l0 k (toB (pathL (ns.take i))) acc) (acc ++ (upto ns i).tail, 0) := by
  intro i
  induction i with
  | zero =>
    intro acc _ _
    refine Ev.step (f := fun _ => some (acc, 0)) (fun k => ?_) (by rw [show (upto ns 0).tail = [] from rfl, List.append_nil]; exact Ev.now _)
    simp only [label_Line.l0]
    exact if_pos (lit_list.2 rfl)
  | succ i ih =>
    intro acc hi ha
    have hp := isPath_take h (i + 1)
    have hne : pathL (ns.take (i + 1)) ≠ [47] := pathL_ne_root hp.names (by intro e; have h0 : (ns.take (i + 1)).length = 0 := (by rw [e]; rfl); rw [List.length_take] at h0; omega)
    have hab := above_some _ (ns.take i) (ns[i]'(by omega)) (by rw [← take_snoc ns i (by omega)]; exact hp)
    have := ih (acc ++ [toB (pathL (ns.take i))]) (by omega) (by simp; omega)
    have e : acc ++ [toB (pathL (ns.take i))] ++ (upto ns i).tail = acc ++ (upto ns (i + 1)).tail := by
      cases i with
      | zero => simp [upto]
      | succ i => simp [upto]
    rw [e] at this
    refine Ev.step (fun k => ?_) this
    simp only [label_Line.l0]
    rw [if_neg (fun h => hne (lit_list.1 h)), hab, Option.bind_some, if_pos (by omega)]
def lineS (s : ByteArray) : List ByteArray × Int := if (splitS s).2 = 0 then (upto ((splitS s).1.map (·.data.toList)) (splitS s).1.length, 0) else ([], (splitS s).2)
theorem map_list (ns : List (List UInt8)) : (ns.map toB).map (·.data.toList) = ns := by simp [List.map_map, Function.comp_def, toB_list]
theorem lineS_path {s : ByteArray} {ns : List (List UInt8)} (h : IsPath s ns) : lineS s = (upto ns ns.length, 0) := by
  unfold lineS
  rw [isPath_of s ns h, if_pos rfl, map_list, List.length_map]
theorem lineS_bad {s : ByteArray} (h : ∀ ns, ¬ IsPath s ns) : lineS s = ([], 41) := by
  rcases path_cases s with ⟨ns, h', _⟩ | ⟨_, e⟩
  · exact absurd h' (h ns)
  · unfold lineS; rw [e]; rfl
theorem pathS_path {s : ByteArray} {ns : List (List UInt8)} (h : IsPath s ns) : pathS s = 0 := by unfold pathS; rw [isPath_of s ns h]
theorem pathS_bad {s : ByteArray} (h : ∀ ns, ¬ IsPath s ns) : pathS s = 41 := by
  rcases path_cases s with ⟨ns, h', _⟩ | ⟨_, e⟩
  · exact absurd h' (h ns)
  · unfold pathS; rw [e]
theorem upto_head (ns : List (List UInt8)) (i : Nat) : upto ns i = toB (pathL (ns.take i)) :: (upto ns i).tail := by cases i <;> simp [upto]
theorem s_of {s : ByteArray} {ns : List (List UInt8)} (h : IsPath s ns) : s = toB (pathL ns) := by rw [← h.list, toB_of]
theorem line_ev (s : ByteArray) : Ev (fun k => label_Line.f k s) (lineS s) := by
  rcases path_cases s with ⟨ns, h, _⟩ | ⟨hb, _⟩
  · rw [lineS_path h]
    have hp := path_ev s
    rw [pathS_path h] at hp
    have hl := lineloop s ns h ns.length [s] (Nat.le_refl _) (by have := h.most; simp; omega)
    rw [List.take_length, ← s_of h] at hl
    have e : [s] ++ (upto ns ns.length).tail = upto ns ns.length := by
      conv => rhs; rw [upto_head, List.take_length, ← s_of h]
      rfl
    rw [e] at hl
    refine Ev.congr (fun k => rfl) (Ev.bind hp (f := fun k (t : Int) => if t = 0 then label_Line.l0 k s [s] else some ([], t)) ?_)
    simpa using hl
  · rw [lineS_bad hb]
    have hp := path_ev s
    rw [pathS_bad hb] at hp
    refine Ev.congr (fun k => rfl) (Ev.bind hp (f := fun k (t : Int) => if t = 0 then label_Line.l0 k s [s] else some ([], t)) ?_)
    simpa using Ev.now (([], 41) : List ByteArray × Int)

/-! ### Join -/
def joinS (ns : List (List UInt8)) : ByteArray × Int := if ns.all nameL = true then (if ns.length ≤ 8 ∧ (flat ns).length ≤ 64 then (toB (pathL ns), 0) else (⟨#[]⟩, 41)) else (⟨#[]⟩, 40)
theorem flat_take_le (ns : List (List UInt8)) (i : Nat) : (flat (ns.take i)).length ≤ (flat ns).length := by
  conv => rhs; rw [← List.take_append_drop i ns, flat_append]
  simp
theorem toB_app (a b : List UInt8) : toB a ++ toB b = toB (a ++ b) := by
  apply ba_ext
  rw [toB_list]
  simp [toB]
theorem rjloop (ns : List (List UInt8)) (hl : ns.length ≤ 2000000) (hb : (flat ns).length ≤ 4000000) (d : Nat) : ∀ i : Nat, i + d = ns.length → (ns.take i).all nameL = true →
    Ev (fun k => bursarref04_Join.l0 k (ns.map toB) (toB (flat (ns.take i))) (i : Int)) (joinS ns) := by
  induction d with
  | zero =>
    intro i hi hall
    have hi' : i = ns.length := by omega
    subst hi'
    rw [List.take_length] at hall ⊢
    unfold joinS
    rw [if_pos hall]
    by_cases h8 : ns.length ≤ 8
    · by_cases h64 : (flat ns).length ≤ 64
      · rw [if_pos ⟨h8, h64⟩]
        refine Ev.step (f := fun k => bursarref04_Join.j1 k (toB (flat ns)) false) (fun k => ?_) (Ev.step (f := fun _ => some (toB (pathL ns), 0)) (fun k => ?_) (Ev.now _))
        · simp only [bursarref04_Join.l0]
          rw [if_neg (by simp), if_neg (by simp; omega), decide_eq_false (by rw [toB_size]; omega)]
        · simp only [bursarref04_Join.j1]
          rw [if_neg (by decide)]
          unfold pathL
          by_cases hn : ns = []
          · subst hn
            exact (if_pos (lit_list.2 rfl)).trans rfl
          · rw [if_neg (fun e => by
              have e' := lit_list.1 e
              rw [toB_list] at e'
              have := flat_length ns
              rw [e'] at this
              cases ns with
              | nil => exact hn rfl
              | cons _ _ => simp at this), if_neg hn]
      · rw [if_neg (fun h => h64 h.2)]
        refine Ev.step (f := fun k => bursarref04_Join.j1 k (toB (flat ns)) true) (fun k => ?_) (Ev.step (f := fun _ => some (⟨#[]⟩, 41)) (fun k => ?_) (Ev.now _))
        · simp only [bursarref04_Join.l0]
          rw [if_neg (by simp), if_neg (by simp; omega), decide_eq_true (by rw [toB_size]; omega)]
        · simp [bursarref04_Join.j1]
    · rw [if_neg (fun h => h8 h.1)]
      refine Ev.step (f := fun k => bursarref04_Join.j1 k (toB (flat ns)) true) (fun k => ?_) (Ev.step (f := fun _ => some (⟨#[]⟩, 41)) (fun k => ?_) (Ev.now _))
      · simp only [bursarref04_Join.l0]
        rw [if_neg (by simp), if_pos (by simp; omega)]
      · simp [bursarref04_Join.j1]
  | succ d ih =>
    intro i hi hall
    have hlt : i < ns.length := by omega
    have hf1 := flat_take_le ns (i + 1)
    rw [take_snoc ns i hlt, flat_snoc] at hf1
    simp at hf1
    refine Ev.step (fun k => ?_) (Ev.bind (name_ev (toB ns[i])) (f := fun k t => if t = true then (if (toB (flat (ns.take i))).size + 1 ≤ 9223372036854775807 then (if ((toB (flat (ns.take i))) ++ (⟨#[47]⟩ : ByteArray)).size + (toB ns[i]).size ≤ 9223372036854775807 then bursarref04_Join.l0 k (ns.map toB) (((toB (flat (ns.take i))) ++ (⟨#[47]⟩ : ByteArray)) ++ (toB ns[i])) ((i + 1 : Nat) : Int) else none) else none) else some (⟨#[]⟩, 40)) ?_)
    · simp only [bursarref04_Join.l0]
      rw [if_pos (by simp; omega), if_pos (by omega), rd_map ns i hlt, w64 i (by omega)]
    · show Ev (fun k => if nameL ns[i] = true then _ else _) _
      cases hn : nameL ns[i] with
      | true =>
        have hall2 : (ns.take (i + 1)).all nameL = true := by rw [take_snoc ns i hlt, List.all_append, hall]; simp [hn]
        have := ih (i + 1) (by omega) hall2
        have e : ((toB (flat (ns.take i))) ++ (⟨#[47]⟩ : ByteArray)) ++ (toB ns[i]) = toB (flat (ns.take (i + 1))) := by
          rw [take_snoc ns i hlt, flat_snoc, show (⟨#[47]⟩ : ByteArray) = toB [47] from rfl, toB_app, toB_app]
          simp
        refine Ev.congr (fun k => ?_) this
        rw [if_pos rfl, if_pos (by rw [toB_size]; omega), if_pos (by rw [show (⟨#[47]⟩ : ByteArray) = toB [47] from rfl, toB_app, toB_size, toB_size]; simp; omega), e]
      | false =>
        have hna : ¬ ns.all nameL = true := by
          rw [List.all_eq_true]
          intro h
          have := h ns[i] (List.getElem_mem _)
          rw [hn] at this; cases this
        have : joinS ns = (⟨#[]⟩, 40) := by unfold joinS; rw [if_neg hna]
        rw [this]
        simpa using Ev.now ((⟨#[]⟩, 40) : ByteArray × Int)
theorem refJoin_ev (ns : List (List UInt8)) (hl : ns.length ≤ 2000000) (hb : (flat ns).length ≤ 4000000) : Ev (fun k => bursarref04_Join.f k (ns.map toB)) (joinS ns) :=
  rjloop ns hl hb ns.length 0 (by omega) rfl
end Go.Proofs.YteaiobgnhlpblaaDoor.Q
/- Line, Under, Parent, same texts: the document's answers, and that the program's are the same. -/
namespace Go.Proofs.YteaiobgnhlpblaaDoor.Q
open Go.RowKit Go.Proofs.YteaiobgnhlpblaaDoorW.PrintWords Go.Proofs.YteaiobgnhlpblaaDoorW.PrintLast Go.Proofs.YteaiobgnhlpblaaDoor.Pl
set_option linter.unusedVariables false
set_option linter.unusedSimpArgs false

theorem join_take {s : ByteArray} {ns : List (List UInt8)} (h : IsPath s ns) (i : Nat) : Ev (fun k => bursarref04_Join.f k ((ns.map toB).take i)) (toB (pathL (ns.take i)), 0) := by
  have hp := isPath_take h i
  have hf : (flat (ns.take i)).length ≤ 64 := by
    have h1 := hp.size
    rw [toB_size] at h1
    unfold pathL at h1
    split at h1
    · rename_i h0; rw [h0, flat_nil]; simp
    · exact h1
  have hj := refJoin_ev (ns.take i) (by have := hp.most; omega) (by omega)
  rw [List.map_take] at hj
  unfold joinS at hj
  rw [if_pos hp.names, if_pos ⟨hp.most, hf⟩] at hj
  exact hj
theorem rlineloop (s : ByteArray) (ns : List (List UInt8)) (h : IsPath s ns) : ∀ (i : Nat) (acc : List ByteArray), i ≤ ns.length → acc.length + i ≤ 1000 →
    Ev (fun k => bursarref04_Line.l0 k (ns.map toB) acc (i : Int)) (acc ++ upto ns i, 0) := by
  have hw : ∀ i : Nat, wrap64 (((i + 1 : Nat) : Int) - 1) = (i : Int) ∨ 1000 < i := fun i => by
    rcases Nat.lt_or_ge 1000 i with h | h
    · exact .inr h
    · left; unfold wrap64; omega
  intro i
  induction i with
  | zero =>
    intro acc _ ha
    refine Ev.step (fun k => ?_) (Ev.bind (join_take h 0) (f := fun k b => if acc.length < 8796093022208 then bursarref04_Line.l0 k (ns.map toB) (acc ++ [b.1]) (-1) else none) ?_)
    · simp only [bursarref04_Line.l0]
      rw [if_pos (by omega), if_pos (by omega), if_pos (by simp), show wrap64 (((0 : Nat) : Int) - 1) = -1 by unfold wrap64; omega]
      rfl
    · refine Ev.congr (f := fun k => bursarref04_Line.l0 k (ns.map toB) (acc ++ [toB (pathL (ns.take 0))]) (-1)) (fun k => if_pos (by omega)) ?_
      refine Ev.step (f := fun _ => some (acc ++ upto ns 0, 0)) (fun k => ?_) (Ev.now _)
      simp only [bursarref04_Line.l0]
      rw [if_neg (by omega)]
      rfl
  | succ i ih =>
    intro acc hi ha
    have hih := ih (acc ++ [toB (pathL (ns.take (i + 1)))]) (by omega) (by simp; omega)
    have e : acc ++ [toB (pathL (ns.take (i + 1)))] ++ upto ns i = acc ++ upto ns (i + 1) := by simp [upto]
    rw [e] at hih
    have hw' : wrap64 (((i + 1 : Nat) : Int) - 1) = (i : Int) := (hw i).elim id (fun h => by omega)
    refine Ev.step (fun k => ?_) (Ev.bind (join_take h (i + 1)) (f := fun k b => if acc.length < 8796093022208 then bursarref04_Line.l0 k (ns.map toB) (acc ++ [b.1]) (i : Int) else none) ?_)
    · simp only [bursarref04_Line.l0]
      rw [if_pos (by omega), if_pos (by omega), if_pos (by simp; omega), hw', Int.toNat_natCast]
    · exact Ev.congr (fun k => if_pos (by omega)) hih
theorem refLine_ev (s : ByteArray) (hs : s.size ≤ 1048576) : Ev (fun k => bursarref04_Line.f k s) (lineS s) := by
  rcases path_cases s with ⟨ns, h, hsp⟩ | ⟨hb, hsp⟩
  · rw [lineS_path h]
    have hp := refSplit_ev s hs
    rw [hsp] at hp
    have hl := rlineloop s ns h ns.length [] (Nat.le_refl _) (by have := h.most; simp; omega)
    rw [List.nil_append] at hl
    refine Ev.congr (fun k => rfl) (Ev.bind hp (f := fun k (b : List ByteArray × Int) => if b.2 = 0 then bursarref04_Line.l0 k b.1 [] (b.1.length : Int) else some ([], b.2)) ?_)
    simpa using hl
  · rw [lineS_bad hb]
    have hp := refSplit_ev s hs
    rw [hsp] at hp
    refine Ev.congr (fun k => rfl) (Ev.bind hp (f := fun k (b : List ByteArray × Int) => if b.2 = 0 then bursarref04_Line.l0 k b.1 [] (b.1.length : Int) else some ([], b.2)) ?_)
    simpa using Ev.now (([], 41) : List ByteArray × Int)

/-! ### Under -/
def underS (s t : ByteArray) : Bool := memB (lineS s).1 t
theorem ruloop (t : ByteArray) (l : List ByteArray) (hl : l.length ≤ 2000000) (d : Nat) : ∀ i : Nat, i + d = l.length → Ev (fun k => bursarref04_Under.l0 k t l (i : Int)) (memB (l.drop i) t) := by
  induction d with
  | zero =>
    intro i hi
    refine Ev.step (f := fun _ => some false) (fun k => ?_) (by rw [List.drop_of_length_le (by omega)]; exact Ev.now _)
    simp only [bursarref04_Under.l0]; rw [if_neg (by omega)]
  | succ d ih =>
    intro i hi
    have hlt : i < l.length := by omega
    rw [drop_at l i hlt]
    show Ev _ (decide (t = l[i]) || memB (l.drop (i + 1)) t)
    by_cases he : t = l[i]
    · rw [decide_eq_true he, Bool.true_or]
      refine Ev.step (f := fun _ => some true) (fun k => ?_) (Ev.now _)
      simp only [bursarref04_Under.l0]
      rw [if_pos (by omega), if_pos (by omega), rd_at l i hlt, if_pos ((ba_iff _ _).2 he.symm)]
    · rw [decide_eq_false he, Bool.false_or]
      refine Ev.step (fun k => ?_) (ih (i + 1) (by omega))
      simp only [bursarref04_Under.l0]
      rw [if_pos (by omega), if_pos (by omega), rd_at l i hlt, if_neg (fun h => he ((ba_iff _ _).1 h).symm), w64 i (by omega)]
theorem line_len (s : ByteArray) : (lineS s).1.length ≤ 9 := by
  rcases path_cases s with ⟨ns, h, _⟩ | ⟨hb, _⟩
  · rw [lineS_path h]; show (upto ns ns.length).length ≤ 9; rw [upto_length]; have := h.most; omega
  · rw [lineS_bad hb]; simp
theorem refUnder_ev (s t : ByteArray) (hs : s.size ≤ 1048576) : Ev (fun k => bursarref04_Under.f k s t) (underS s t) := by
  have h := ruloop t (lineS s).1 (by have := line_len s; omega) (lineS s).1.length 0 (by omega)
  rw [List.drop_zero] at h
  exact Ev.congr (fun k => rfl) (Ev.bind (refLine_ev s hs) (f := fun k (b : List ByteArray × Int) => bursarref04_Under.l0 k t b.1 0) h)
theorem mem_upto (ns : List (List UInt8)) (t : ByteArray) : ∀ i, t ∈ upto ns i ↔ ∃ j, j ≤ i ∧ t = toB (pathL (ns.take j)) := by
  intro i
  induction i with
  | zero =>
    constructor
    · intro h; exact ⟨0, Nat.le_refl _, by simpa [upto] using h⟩
    · rintro ⟨j, hj, rfl⟩
      have : j = 0 := by omega
      subst this; simp [upto]
  | succ i ih =>
    rw [upto, List.mem_cons, ih]
    constructor
    · rintro (h | ⟨j, hj, h⟩)
      · exact ⟨i + 1, Nat.le_refl _, h⟩
      · exact ⟨j, by omega, h⟩
    · rintro ⟨j, hj, h⟩
      rcases Nat.lt_or_ge j (i + 1) with h1 | h1
      · exact .inr ⟨j, by omega, h⟩
      · have : j = i + 1 := by omega
        subst this; exact .inl h
theorem pathL_inj {a b : List (List UInt8)} (ha : a.all nameL = true) (hb : b.all nameL = true) (h : pathL a = pathL b) : a = b := by
  by_cases h1 : a = []
  · subst h1
    by_cases h2 : b = []
    · exact h2.symm
    · exact absurd h.symm (pathL_ne_root hb h2)
  · by_cases h2 : b = []
    · subst h2; exact absurd h (pathL_ne_root ha h1)
    · unfold pathL at h
      rw [if_neg h1, if_neg h2] at h
      exact flat_inj a b (fun p hp => name_free (List.all_eq_true.1 ha p hp)) (fun p hp => name_free (List.all_eq_true.1 hb p hp)) h
theorem isPath_unique {s : ByteArray} {a b : List (List UInt8)} (ha : IsPath s a) (hb : IsPath s b) : a = b :=
  pathL_inj ha.names hb.names (by rw [← ha.list, hb.list])
theorem mem_line {s t : ByteArray} {ns ms : List (List UInt8)} (h : IsPath s ns) (ht : IsPath t ms) : t ∈ upto ns ns.length ↔ ms <+: ns := by
  rw [mem_upto]
  constructor
  · rintro ⟨j, hj, e⟩
    have := isPath_unique ht (by rw [e]; exact isPath_take h j)
    rw [this]; exact List.take_prefix _ _
  · intro hp
    refine ⟨ms.length, hp.length_le, ?_⟩
    rw [← List.prefix_iff_eq_take.1 hp]
    exact s_of ht
theorem under_ev (s t : ByteArray) (ht9 : t.size + 1 ≤ 9223372036854775807) : Ev (fun k => label_Under.f k s t) (underS s t) := by
  have hbody : ∀ (b : Bool) (hp : pathS s = 0) (hq : pathS t = 0) (hb : (if t.toList = ([47] : List UInt8) then some true else if s.toList = t.toList then some true else if t.size + 1 ≤ 9223372036854775807 then (strings_HasPrefix.f s (t ++ (⟨#[47]⟩ : ByteArray))).bind fun t285 => some t285 else none) = some b), Ev (fun k => label_Under.f k s t) b := fun b hp hq hb => by
    refine Ev.congr (fun k => rfl) (Ev.bind (path_ev s) (f := fun k (x : Int) => if x = 0 then (label_Path.f k t).bind fun y => (if y = 0 then (if t.toList = ([47] : List UInt8) then some true else if s.toList = t.toList then some true else if t.size + 1 ≤ 9223372036854775807 then (strings_HasPrefix.f s (t ++ (⟨#[47]⟩ : ByteArray))).bind fun t285 => some t285 else none) else some false) else some false) ?_)
    rw [hp]
    refine Ev.congr (fun k => if_pos rfl) (Ev.bind (path_ev t) ?_)
    rw [hq]
    refine Ev.congr (fun k => if_pos rfl) ?_
    rw [hb]
    exact Ev.now _
  have hno : (pathS s ≠ 0 ∨ pathS t ≠ 0) → Ev (fun k => label_Under.f k s t) false := fun h => by
    refine Ev.congr (fun k => rfl) (Ev.bind (path_ev s) (f := fun k (x : Int) => if x = 0 then (label_Path.f k t).bind fun y => (if y = 0 then (if t.toList = ([47] : List UInt8) then some true else if s.toList = t.toList then some true else if t.size + 1 ≤ 9223372036854775807 then (strings_HasPrefix.f s (t ++ (⟨#[47]⟩ : ByteArray))).bind fun t285 => some t285 else none) else some false) else some false) ?_)
    by_cases hp : pathS s = 0
    · have hq := h.resolve_left (fun h => h hp)
      rw [hp]
      refine Ev.congr (fun k => if_pos rfl) (Ev.bind (path_ev t) ?_)
      exact Ev.congr (fun k => if_neg hq) (Ev.now _)
    · exact Ev.congr (fun k => if_neg hp) (Ev.now _)
  unfold underS
  rcases path_cases s with ⟨ns, h, _⟩ | ⟨hb, _⟩
  rotate_left
  · rw [lineS_bad hb]
    exact hno (.inl (by rw [pathS_bad hb]; decide))
  rw [lineS_path h]
  rcases path_cases t with ⟨ms, h', _⟩ | ⟨hb, _⟩
  rotate_left
  · have hn : memB (upto ns ns.length) t = false := by
      cases hm : memB (upto ns ns.length) t with
      | false => rfl
      | true =>
        obtain ⟨j, _, e⟩ := (mem_upto ns t ns.length).1 ((memB_iff _ _).1 hm)
        exact absurd (by rw [e]; exact isPath_take h j) (hb (ns.take j))
    show Ev _ (memB (upto ns ns.length) t)
    rw [hn]
    exact hno (.inr (by rw [pathS_bad hb]; decide))
  show Ev _ (memB (upto ns ns.length) t)
  have hm : memB (upto ns ns.length) t = decide (ms <+: ns) := by
    rw [Bool.eq_iff_iff, memB_iff, mem_line h h', decide_eq_true_eq]
  rw [hm]
  refine hbody _ (pathS_path h) (pathS_path h') ?_
  by_cases hr : ms = []
  · subst hr
    have e0 : t.toList = ([47] : List UInt8) := lit_list.2 h'.list
    rw [if_pos e0, decide_eq_true List.nil_prefix]
  have hr' : ¬ t.toList = ([47] : List UInt8) := fun e => pathL_ne_root h'.names hr (by rw [← h'.list]; exact lit_list.1 e)
  rw [if_neg hr']
  by_cases he : ms = ns
  · subst he
    rw [if_pos (by rw [ba_iff, s_of h, s_of h']), decide_eq_true (List.prefix_refl _)]
  have he' : ¬ s.toList = t.toList := fun e => he (isPath_unique (by rw [(ba_iff _ _).1 e]; exact h') h)
  rw [if_neg he', if_pos (by omega), hasPrefix_some]
  show some _ = some _
  congr 1
  have hns : ns ≠ [] ∨ ns = [] := by by_cases h : ns = []; exact .inr h; exact .inl h
  have e1 : (t ++ (⟨#[47]⟩ : ByteArray)).data.toList = flat ms ++ [47] := by
    rw [s_of h', show (⟨#[47]⟩ : ByteArray) = toB [47] from rfl, toB_app, toB_list]
    unfold pathL; rw [if_neg hr]
  rw [e1, Bool.eq_iff_iff, decide_eq_true_eq, decide_eq_true_eq, h.list]
  rcases hns with hns | hns
  · unfold pathL
    rw [if_neg hns]
    exact ⟨flat_prefix ms ns h'.free h.free, fun hp => prefix_flat hp he⟩
  · subst hns
    constructor
    · intro hp
      have := hp.length_le
      have h2 := flat_length ms
      have : ms.length = 0 := by
        simp [pathL] at this
        cases ms with
        | nil => rfl
        | cons a b => simp at h2; rw [this] at h2; simp at h2
      exact absurd (List.eq_nil_of_length_eq_zero this) hr
    · intro hp
      exact absurd (List.prefix_nil.1 hp) hr

/-! ### Parent -/
def parentS (s : ByteArray) : ByteArray × Int := if (lineS s).2 = 0 then (if (lineS s).1.length = 1 then (⟨#[]⟩, 143) else (rdOf ByteArray.empty (lineS s).1 1, 0)) else (⟨#[]⟩, (lineS s).2)
theorem refParent_ev (s : ByteArray) (hs : s.size ≤ 1048576) : Ev (fun k => bursarref04_Parent.f k s) (parentS s) := by
  refine Ev.congr (fun k => rfl) (Ev.bind (refLine_ev s hs) (f := fun k (b : List ByteArray × Int) => if b.2 = 0 then (if (b.1.length : Int) = 1 then some ((⟨#[]⟩ : ByteArray), (143 : Int)) else if 1 < (b.1.length : Int) then some (rdOf ByteArray.empty b.1 1, 0) else none) else some (⟨#[]⟩, b.2)) ?_)
  unfold parentS
  rcases path_cases s with ⟨ns, h, _⟩ | ⟨hb, _⟩
  · rw [lineS_path h]
    by_cases h0 : ns.length + 1 = 1
    · refine Ev.congr (f := fun _ => some (⟨#[]⟩, 143)) (fun k => ?_) (by rw [if_pos rfl, if_pos (by rw [upto_length]; exact h0)]; exact Ev.now _)
      rw [if_pos rfl, if_pos (by rw [upto_length]; omega)]
    · refine Ev.congr (f := fun _ => some (rdOf ByteArray.empty (upto ns ns.length) 1, 0)) (fun k => ?_) (by rw [if_pos rfl, if_neg (by rw [upto_length]; exact h0)]; exact Ev.now _)
      rw [if_pos rfl, if_neg (by rw [upto_length]; omega), if_pos (by rw [upto_length]; omega)]
  · rw [lineS_bad hb]
    exact Ev.now _
theorem parentS_path {s : ByteArray} {ms : List (List UInt8)} {n : List UInt8} (h : IsPath s (ms ++ [n])) : parentS s = (toB (pathL ms), 0) := by
  unfold parentS
  rw [lineS_path h]
  rw [if_pos rfl, if_neg (by rw [upto_length]; simp)]
  have hlen : (ms ++ [n]).length = ms.length + 1 := by simp
  rw [hlen]
  have h1 : (ms ++ [n]).take (ms.length) = ms := by simp
  have e : upto (ms ++ [n]) (ms.length + 1) = toB (pathL ((ms ++ [n]).take (ms.length + 1))) :: upto (ms ++ [n]) ms.length := rfl
  rw [e]
  rw [upto_head (ms ++ [n]) ms.length, h1]
  rfl
theorem parent_ev (s : ByteArray) : Ev (fun k => label_Parent.f k s) (parentS s) := by
  refine Ev.congr (fun k => rfl) (Ev.bind (path_ev s) (f := fun k (x : Int) => if x = 0 then (if s.toList = ([47] : List UInt8) then some ((⟨#[]⟩ : ByteArray), (143 : Int)) else (label_above.f s).bind fun t => some (t, 0)) else some (⟨#[]⟩, x)) ?_)
  rcases path_cases s with ⟨ns, h, _⟩ | ⟨hb, _⟩
  · rw [pathS_path h]
    rcases List.eq_nil_or_concat ns with h0 | ⟨ms, n, h0⟩
    · subst h0
      have : parentS s = (⟨#[]⟩, 143) := by unfold parentS; rw [lineS_path h]; rfl
      rw [this]
      refine Ev.congr (f := fun _ => some (⟨#[]⟩, 143)) (fun k => ?_) (Ev.now _)
      have e0 : s.toList = ([47] : List UInt8) := lit_list.2 h.list
      rw [if_pos rfl, if_pos e0]
    · rw [List.concat_eq_append] at h0
      subst h0
      rw [parentS_path h]
      have hr' : ¬ s.toList = ([47] : List UInt8) := fun e => pathL_ne_root h.names (by simp) (by rw [← h.list]; exact lit_list.1 e)
      refine Ev.congr (f := fun _ => some (toB (pathL ms), 0)) (fun k => ?_) (Ev.now _)
      rw [if_pos rfl, if_neg hr', above_some s ms n h, Option.bind_some]
  · rw [pathS_bad hb]
    have : parentS s = (⟨#[]⟩, 41) := by unfold parentS; rw [lineS_bad hb]; rfl
    rw [this]
    exact Ev.congr (fun k => if_neg (by decide)) (Ev.now _)

/-! ### same texts -/
theorem stloop (l : List ByteArray) (hl : l.length ≤ 2000000) (d : Nat) : ∀ i : Nat, i + d = l.length → Ev (fun k => bursarlaw04_sameTexts.l0 k l l (i : Int)) true := by
  induction d with
  | zero =>
    intro i hi
    refine Ev.step (f := fun _ => some true) (fun k => ?_) (Ev.now _)
    simp only [bursarlaw04_sameTexts.l0]; rw [if_neg (by omega)]
  | succ d ih =>
    intro i hi
    refine Ev.step (fun k => ?_) (ih (i + 1) (by omega))
    simp only [bursarlaw04_sameTexts.l0]
    rw [if_pos (by omega), if_pos (by omega), if_pos (by omega), if_pos trivial, w64 i (by omega)]
theorem same_ev (l : List ByteArray) (hl : l.length ≤ 2000000) : Ev (fun k => bursarlaw04_sameTexts.f k l l) true :=
  Ev.congr (fun k => if_pos rfl) (stloop l hl l.length 0 (by omega))
end Go.Proofs.YteaiobgnhlpblaaDoor.Q
/- label.Join is the document's Join. -/
namespace Go.Proofs.YteaiobgnhlpblaaDoor.Q
open Go.RowKit Go.Proofs.YteaiobgnhlpblaaDoorW.PrintWords Go.Proofs.YteaiobgnhlpblaaDoorW.PrintLast Go.Proofs.YteaiobgnhlpblaaDoor.Pl
set_option linter.unusedVariables false
set_option linter.unusedSimpArgs false

theorem fixed_ev : Ev (fun k => bursarlaw04_fixed.f k) true := Ev.of (fun k => bursarlaw04_fixed.mono k) (k := 60) (by decide +kernel)
theorem lj1 (ns : List (List UInt8)) (hl : ns.length ≤ 8) (hn : ns.all nameL = true) (d : Nat) : ∀ i : Nat, i + d = ns.length →
    Ev (fun k => label_Join.l1 k (toB (flat (ns.take i))) (ns.map toB) (ns.length : Int) (i : Int)) (if (flat ns).length ≤ 64 then (toB (pathL ns), 0) else (⟨#[]⟩, 41)) := by
  have hb : (flat ns).length ≤ 400 := by
    have : ∀ l : List (List UInt8), l.all nameL = true → (flat l).length ≤ 33 * l.length := by
      intro l
      induction l with
      | nil => intro _; simp [flat]
      | cons n l ih =>
        intro h
        rw [List.all_cons, Bool.and_eq_true] at h
        have := ih h.2
        have hs := (name_size h.1).2
        rw [toB_size] at hs
        rw [flat_cons]
        simp; omega
    have := this ns hn
    omega
  induction d with
  | zero =>
    intro i hi
    have hi' : i = ns.length := by omega
    subst hi'
    rw [List.take_length]
    by_cases h64 : (flat ns).length ≤ 64
    · rw [if_pos h64]
      refine Ev.step (f := fun _ => some (toB (pathL ns), 0)) (fun k => ?_) (Ev.now _)
      simp only [label_Join.l1]
      rw [if_neg (by omega), if_neg (by rw [toB_size]; omega)]
      unfold pathL
      by_cases h0 : ns = []
      · subst h0
        exact (if_pos (lit_list.2 rfl)).trans rfl
      · rw [if_neg (fun e => by
          have e' := lit_list.1 e
          rw [toB_list] at e'
          have h1 := flat_length ns
          rw [e'] at h1
          cases ns with
          | nil => exact h0 rfl
          | cons _ _ => simp at h1), if_neg h0]
    · rw [if_neg h64]
      refine Ev.step (f := fun _ => some (⟨#[]⟩, 41)) (fun k => ?_) (Ev.now _)
      simp only [label_Join.l1]
      rw [if_neg (by omega), if_pos (by rw [toB_size]; omega)]
  | succ d ih =>
    intro i hi
    have hlt : i < ns.length := by omega
    have hf1 := flat_take_le ns (i + 1)
    rw [take_snoc ns i hlt, flat_snoc] at hf1
    simp at hf1
    have e0 : (⟨#[47]⟩ : ByteArray) ++ toB ns[i] = toB (47 :: ns[i]) := by rw [show (⟨#[47]⟩ : ByteArray) = toB [47] from rfl, toB_app]; rfl
    have e : toB (flat (ns.take i)) ++ toB (47 :: ns[i]) = toB (flat (ns.take (i + 1))) := by rw [toB_app, take_snoc ns i hlt, flat_snoc]
    refine Ev.step (fun k => ?_) (ih (i + 1) (by omega))
    simp only [label_Join.l1]
    rw [if_pos (by omega), if_pos (by omega), if_pos (by simp; omega), rd_map ns i hlt, if_pos (by rw [toB_size]; omega), e0, if_pos (by rw [toB_size, toB_size]; simp; omega), e, w64 i (by omega)]
theorem lj0 (ns : List (List UInt8)) (hl : ns.length ≤ 140737488355328) (d : Nat) : ∀ i : Nat, i + d = ns.length → (ns.take i).all nameL = true →
    Ev (fun k => label_Join.l0 k (ns.map toB) (⟨#[]⟩ : ByteArray) (ns.map toB) (ns.length : Int) (i : Int)) (joinS ns) := by
  induction d with
  | zero =>
    intro i hi hall
    have hi' : i = ns.length := by omega
    subst hi'
    rw [List.take_length] at hall
    unfold joinS
    rw [if_pos hall]
    by_cases h8 : ns.length ≤ 8
    · have h := lj1 ns h8 hall ns.length 0 (by omega)
      have e : (if ns.length ≤ 8 ∧ (flat ns).length ≤ 64 then (toB (pathL ns), (0 : Int)) else (⟨#[]⟩, 41)) = (if (flat ns).length ≤ 64 then (toB (pathL ns), (0 : Int)) else (⟨#[]⟩, 41)) := by
        by_cases h64 : (flat ns).length ≤ 64
        · rw [if_pos ⟨h8, h64⟩, if_pos h64]
        · rw [if_neg (fun h => h64 h.2), if_neg h64]
      rw [e]
      refine Ev.step (fun k => ?_) h
      simp only [label_Join.l0]
      rw [if_neg (by omega), if_neg (by simp; omega)]
      simp [flat_nil]
      rfl
    · rw [if_neg (fun h => h8 h.1)]
      refine Ev.step (f := fun _ => some (⟨#[]⟩, 41)) (fun k => ?_) (Ev.now _)
      simp only [label_Join.l0]
      rw [if_neg (by omega), if_pos (by simp; omega)]
  | succ d ih =>
    intro i hi hall
    have hlt : i < ns.length := by omega
    have e : label_Name.f (toB ns[i]) = some (nameL ns[i]) := rfl
    cases hn : nameL ns[i] with
    | true =>
      refine Ev.step (fun k => ?_) (ih (i + 1) (by omega) (by rw [take_snoc ns i hlt, List.all_append, hall]; simp [hn]))
      simp only [label_Join.l0]
      rw [if_pos (by omega), if_pos (by omega), if_pos (by simp; omega), rd_map ns i hlt, e, hn, Option.bind_some, if_pos rfl, w64 i (by omega)]
    | false =>
      have hna : ¬ ns.all nameL = true := by
        rw [List.all_eq_true]
        intro h
        have := h ns[i] (List.getElem_mem _)
        rw [hn] at this; cases this
      have : joinS ns = (⟨#[]⟩, 40) := by unfold joinS; rw [if_neg hna]
      rw [this]
      refine Ev.step (f := fun _ => some (⟨#[]⟩, 40)) (fun k => ?_) (Ev.now _)
      simp only [label_Join.l0]
      rw [if_pos (by omega), if_pos (by omega), if_pos (by simp; omega), rd_map ns i hlt, e, hn, Option.bind_some, if_neg (by decide)]
theorem join_ev (ns : List (List UInt8)) (hl : ns.length ≤ 140737488355328) : Ev (fun k => label_Join.f k (ns.map toB)) (joinS ns) := by
  have h := lj0 ns hl ns.length 0 (by omega) rfl
  refine Ev.congr (fun k => ?_) h
  unfold label_Join.f
  simp
end Go.Proofs.YteaiobgnhlpblaaDoor.Q
/- A list of texts that is handed in: opened; its bulk. -/
namespace Go.Proofs.YteaiobgnhlpblaaDoor.Q
open Go.RowKit Go.Proofs.YteaiobgnhlpblaaDoorW.PrintWords Go.Proofs.YteaiobgnhlpblaaDoorW.PrintLast Go.Proofs.YteaiobgnhlpblaaDoor.Pl Go.ChangeShapes
set_option linter.unusedVariables false
set_option linter.unusedSimpArgs false

def StrsD {H : Type} (d : DataW H) (l : List ByteArray) : Prop := (d = .nil ∧ l = []) ∨ ∃ r, d = .slice (strs l) r
theorem strs_open {H : Type} {enc : TypeId × Value → H} {P : Program} {w : World} {base : Nat} {spare : Nat → Bool} {held : Bool} {t e : TypeId} {A : Option Addr} {len cap : Nat} {d : DataW H} {ps : List MemPlace}
    (ht : P.underlying t = some (.slice e)) (he : P.underlying e = some .string) (hc : P.cellsOf e = 1) (h : ∃ m, DataW.trod enc P w base spare held m t [.slice A len cap] = some (d, ps)) :
    ∃ l : List ByteArray, len = l.length ∧ Kd.C Kd.string w A l.length l ∧ l.length ≤ cap ∧ StrsD d l ∧ l.length ≤ maxLen := by
  obtain ⟨m, h⟩ := h
  rcases open_strings ht he hc h with ⟨hcs, hx⟩ | ⟨a, len', cap', ss, hcs, _, hl, hm, hz, hx, hcell, hsz⟩
  · injection hcs with h1 _
    injection h1 with h1 h2 h3
    subst h1 h2 h3
    injection hx with hx _
    exact ⟨[], rfl, ⟨rfl, by decide, fun h => absurd h (by decide)⟩, Nat.le_refl _, .inl ⟨hx, rfl⟩, Nat.zero_le _⟩
  · injection hcs with h1 _
    injection h1 with h1 h2 h3
    subst h1 h2 h3
    injection hx with hx _
    have hle : len ≤ ss.length := by rw [hz]; split <;> omega
    have hll : (ss.take len).length = len := by rw [List.length_take]; omega
    have h63 : maxLen ≤ 9223372036854775807 := by decide
    refine ⟨ss.take len, hll.symm, ?_, by omega, .inr ⟨_, hx⟩, by omega⟩
    rw [hll]
    refine Kd.C_of_reads (d := ByteArray.empty) ⟨hll, by omega, fun h0 => ⟨a, rfl, fun j hj => ?_⟩⟩
    rw [hcell j (by omega)]
    congr 2
    rw [List.getD_eq_getElem?_getD, List.getD_eq_getElem?_getD, List.getElem?_take, if_pos hj]
def Small (l : List ByteArray) : Prop := l.length + (l.map (·.size)).sum ≤ 1048576
theorem bulk_strs {H : Type} : ∀ l : List ByteArray, Rows.uptoBulkAll (strs l : List (DataW H)) = l.length + (l.map (·.size)).sum
  | [] => rfl
  | s :: l => by
    have ih := bulk_strs (H := H) l
    have e : Rows.uptoBulkAll (strs (s :: l) : List (DataW H)) = s.data.toList.length + 1 + Rows.uptoBulkAll (strs l : List (DataW H)) := by
      simp only [strs, List.map_cons, Rows.uptoBulkAll, Rows.uptoBulk]
    rw [e, ih, size_list]
    simp
    omega
theorem small_of {H : Type} {d : DataW H} {l : List ByteArray} (h : StrsD d l) (hb : Rows.uptoBulk d ≤ 1048576) : Small l := by
  unfold Small
  rcases h with ⟨rfl, rfl⟩ | ⟨r, rfl⟩
  · decide
  · have e : Rows.uptoBulk (.slice (strs l) r : DataW H) = Rows.uptoBulkAll (strs l : List (DataW H)) + Rows.uptoBulkAll r + 1 := by simp only [Rows.uptoBulk]
    rw [e, bulk_strs] at hb
    omega
theorem flat_sum : ∀ ns : List (List UInt8), (flat ns).length = ns.length + (ns.map List.length).sum
  | [] => rfl
  | n :: ns => by rw [flat_cons]; simp [flat_sum ns]; omega
theorem small_lists (l : List ByteArray) (h : Small l) : ∃ ns : List (List UInt8), l = ns.map toB ∧ ns.length ≤ 1048576 ∧ (flat ns).length ≤ 1048576 := by
  refine ⟨l.map (·.data.toList), (map_toB l).symm, ?_, ?_⟩
  · unfold Small at h; simp; omega
  · rw [flat_sum, List.map_map]
    unfold Small at h
    have e : l.map (List.length ∘ (·.data.toList)) = l.map (·.size) := List.map_congr_left (fun s _ => size_list s)
    rw [e]
    simpa using h
end Go.Proofs.YteaiobgnhlpblaaDoor.Q
/- LabelJoinsApart, its plain statement: of any texts of bulk at most 1048576. -/
namespace Go.Proofs.YteaiobgnhlpblaaDoor.Pure
open Go.RowKit Go.Proofs.YteaiobgnhlpblaaDoorW.PrintWords Go.Proofs.YteaiobgnhlpblaaDoorW.PrintLast Go.Proofs.YteaiobgnhlpblaaDoor.Q Go.Proofs.YteaiobgnhlpblaaDoor.Pl
set_option linter.unusedVariables false
set_option linter.unusedSimpArgs false

theorem ja_l0 (ns : List (List UInt8)) (h1 : ns.length ≤ 1048576) (h2 : (flat ns).length ≤ 1048576) (d : Nat) : ∀ i : Nat, i + d = ns.length → (ns.take i).all nameL = true →
    Ev (fun k => bursarlaw04_LabelJoinsApart.l0 k (ns.map toB) ((flat (ns.take i)).length : Int) (i : Int)) true := by
  induction d with
  | zero =>
    intro i hi hall
    have hi' : i = ns.length := by omega
    subst hi'
    rw [List.take_length] at hall ⊢
    have hj : Ev (fun k => bursarlaw04_LabelJoinsApart.j1 k (ns.map toB) ((flat ns).length : Int) (joinS ns).1 (joinS ns).2 (if ns.length ≤ 8 ∧ (flat ns).length ≤ 64 then false else true)) true := by
      by_cases hc : ns.length ≤ 8 ∧ (flat ns).length ≤ 64
      · have hjs : joinS ns = (toB (pathL ns), 0) := by unfold joinS; rw [if_pos hall, if_pos hc]
        have hp : IsPath (toB (pathL ns)) ns := by
          refine ⟨toB_list _, hc.1, ?_, hall⟩
          rw [toB_size]; unfold pathL; split
          · simp
          · exact hc.2
        rw [if_pos hc, hjs]
        refine Ev.step (f := fun k => (label_Split.f k (toB (pathL ns))).bind fun bt363 => if bt363.2 = 0 then ((bursarlaw04_sameTexts.f k bt363.1 (ns.map toB)).bind fun t367 => if t367 = true then (if ((toB (pathL ns)).size : Int) = ((flat ns).length : Int) then some true else some ((toB (pathL ns)).toList == ([47] : List UInt8))) else some false) else some false) (fun k => ?_) ?_
        · simp only [bursarlaw04_LabelJoinsApart.j1]
          rw [if_neg (by decide)]
          all_goals (congr 1; try (funext x; rw [if_pos trivial]))
        · refine Ev.bind (split_ev _) ?_
          rw [isPath_of _ ns hp]
          refine Ev.congr (fun k => if_pos rfl) ?_
          refine Ev.bind (same_ev _ (by simp; omega)) ?_
          refine Ev.congr (fun k => if_pos rfl) ?_
          by_cases h0 : ns = []
          · subst h0
            refine Ev.congr (fun k => if_neg (by rw [toB_size]; decide)) ?_
            have : ((toB (pathL [])).toList == ([47] : List UInt8)) = true := beq_iff_eq.2 (lit_list.2 rfl)
            rw [this]
            exact Ev.now _
          · refine Ev.congr (fun k => if_pos (by rw [toB_size]; unfold pathL; rw [if_neg h0])) (Ev.now _)
      · have hjs : joinS ns = (⟨#[]⟩, 41) := by unfold joinS; rw [if_pos hall, if_neg hc]
        rw [if_neg hc, hjs]
        refine Ev.step (f := fun _ => some true) (fun k => ?_) (Ev.now _)
        simp only [bursarlaw04_LabelJoinsApart.j1]
        rw [if_pos trivial, if_pos trivial]
        congr 1
        exact beq_iff_eq.2 (lit_list.2 rfl)
    refine Ev.step (f := fun k => (label_Join.f k (ns.map toB)).bind fun x => bursarlaw04_LabelJoinsApart.j1 k (ns.map toB) ((flat ns).length : Int) x.1 x.2 (if ns.length ≤ 8 ∧ (flat ns).length ≤ 64 then false else true)) (fun k => ?_) (Ev.bind (join_ev ns (by omega)) hj)
    simp only [bursarlaw04_LabelJoinsApart.l0]
    rw [if_neg (by simp)]
    congr 1
    funext x
    by_cases h8 : ns.length ≤ 8
    · rw [if_neg (by simp; omega)]
      congr 1
      by_cases h64 : (flat ns).length ≤ 64
      · rw [if_pos ⟨h8, h64⟩]; exact decide_eq_false (by omega)
      · rw [if_neg (fun h => h64 h.2)]; exact decide_eq_true (by omega)
    · rw [if_pos (by simp; omega), if_neg (fun h => h8 h.1)]
  | succ d ih =>
    intro i hi hall
    have hlt : i < ns.length := by omega
    have e : label_Name.f (toB ns[i]) = some (nameL ns[i]) := rfl
    have hf := flat_take_le ns (i + 1)
    rw [take_snoc ns i hlt, flat_snoc] at hf
    simp at hf
    cases hn : nameL ns[i] with
    | true =>
      have hih := ih (i + 1) (by omega) (by rw [take_snoc ns i hlt, List.all_append, hall]; simp [hn])
      refine Ev.step (fun k => ?_) hih
      simp only [bursarlaw04_LabelJoinsApart.l0]
      rw [if_pos (by simp; omega), if_pos (by omega), rd_map ns i hlt, e, hn, Option.bind_some, if_pos rfl, w64 i (by omega), toB_size]
      congr 1
      rw [take_snoc ns i hlt, flat_snoc]
      simp
      unfold wrap64
      omega
    | false =>
      have hna : ¬ ns.all nameL = true := by
        rw [List.all_eq_true]
        intro h
        have := h ns[i] (List.getElem_mem _)
        rw [hn] at this; cases this
      have hjs : joinS ns = (⟨#[]⟩, 40) := by unfold joinS; rw [if_neg hna]
      refine Ev.step (f := fun k => (label_Join.f k (ns.map toB)).bind fun x => some (x.2 == 40)) (fun k => ?_) (Ev.bind (join_ev ns (by omega)) ?_)
      · simp only [bursarlaw04_LabelJoinsApart.l0]
        rw [if_pos (by simp; omega), if_pos (by omega), rd_map ns i hlt, e, hn, Option.bind_some, if_neg (by decide)]
      · rw [hjs]; exact Ev.now _
theorem LabelJoinsApart (l : List ByteArray) (hl : Small l) : ∃ k, bursarlaw04_LabelJoinsApart.f k l = some true := by
  refine Ev.rounds ?_
  obtain ⟨ns, rfl, h1, h2⟩ := small_lists l hl
  refine Ev.congr (fun k => rfl) (Ev.bind fixed_ev (f := fun k t445 => _) ?_)
  refine Ev.congr (fun k => if_pos rfl) ?_
  exact ja_l0 ns h1 h2 ns.length 0 (by omega) rfl
end Go.Proofs.YteaiobgnhlpblaaDoor.Pure
/- bursar/bursarlaw04.LabelJoinsApart, inputs of bulk at most 1048576: the row and its tied card, out of its plain statement (YteaiobgnhlpblaaDoorEPLabelJoinsApart) and the walk. -/
namespace Go.Proofs.YteaiobgnhlpblaaDoor.labelJoinsApart
open Go.ChangeShapes Go.WideShapes Go.ChangeAt Go.RowKit
open Go.ChangeMaps (open_string shut_string)
set_option linter.unusedVariables false
set_option linter.unusedSimpArgs false
theorem own : ownKnob Tryd.prog.godebug = none := by kernel_rfl
theorem laidOut : laidOutB Tryd.prog = true := by kernel_rfl
theorem contract (H : Type) (enc : TypeId × Value → H) (W : World) (base : Nat) (args : Array Value) (ds gs : List (DataW H)) (before : List MemPlace)
    (hval0 : ∀ (j : Nat) t v, Tryd.f7.params[j]? = some t → args[j]? = some v → Value.okWide Tryd.prog W .any base t v)
    (hW : DataW.Whole enc Tryd.prog Tryd.f7.params.toList Rows.labelJoinsApartSpec.vars false W args.toList ds gs before)
    (hk : Rows.uptoSmall H (ds ++ gs) = true)
    (hsh : W.ShapedOpen Tryd.prog)
    : Calls Tryd.prog 7 args W fun e W' => ∃ v, e = .returned v ∧ Rows.labelJoinsApartSpec.post enc Tryd.prog Tryd.f7 false true false false W args v W' := by
  have hval : ∀ (j : Nat) t v, Tryd.f7.params[j]? = some t → args[j]? = some v → Value.okWide Tryd.prog W .any base t v := hval0
  have hW' := hW
  obtain ⟨p, q, hA0, hV, rfl, hfz, hnd⟩ := hW
  have hA : DataW.TrodAll enc Tryd.prog W 0 (fun _ => true) true Tryd.f7.params.toList args.toList ds p := hA0
  rw [Tryd.params7] at hA hval
  obtain ⟨v0, vs0, d0, ds0, p0, q0, hargs, rfl, rfl, h0, r0⟩ := trodAll_cons hA
  obtain ⟨rfl, rfl, rfl⟩ := trodAll_nil r0
  obtain rfl : args = #[v0] := by cases args; simp_all
  obtain ⟨rfl, rfl⟩ := trodVars_none hV
  obtain ⟨A0, len0, cap0, rfl⟩ := okWide_slice Tryd.underlying35 (hval 0 35 v0 rfl rfl)
  have k0 := h0
  have lt0 : ∀ x ∈ p0, x.block < W.heap.size := by obtain ⟨m, hm⟩ := k0; exact DataW.trod_lt m _ _ _ hm
  obtain ⟨l0, rfl, hr0, hc0, hz0, hm0⟩ := Q.strs_open Tryd.underlying35 Tryd.underlying9 (by kernel_rfl) h0
  have hb := of_decide_eq_true hk
  simp only [List.append_nil, List.cons_append, List.nil_append, Rows.uptoBulkAll, Rows.uptoBulk, Array.length_toList] at hb
  have c0 : Q.Small l0 := Q.small_of hz0 (by omega)
  obtain ⟨k, hp⟩ := Pure.LabelJoinsApart l0 c0
  refine (Q.bursarlaw04_LabelJoinsApart.calls k A0 cap0 l0 true W hr0 hc0 hp ⟨Tryd.laysM146.s1_3 W hsh⟩).mono fun e W' ⟨he, bel⟩ => ?_
  subst he
  exact ⟨_, rfl, _, _, _, [], _, [], hW', trodAll_mk1 (shut_bool Tryd.underlying4 _), (trodAll_cons_mk (Below.trod laidOut (by kernel_rfl) (of_decide_eq_true (by kernel_rfl)) k0 bel lt0) trodAll_mk0), rfl, bel.frame _, fun h => by cases h⟩
noncomputable def tab1 : Obj → Obj
  | .cells _ t frozen => .cells (Go.Pinned.utf8FirstZ.map fun (n : Nat) => Value.int .u8 (n : Int)).toArray t frozen
  | o => o
noncomputable def tab2 : Obj → Obj
  | .cells _ t frozen => .cells #[.int .u8 128, .int .u8 191, .int .u8 160, .int .u8 191, .int .u8 128, .int .u8 159, .int .u8 144, .int .u8 191, .int .u8 128, .int .u8 143, .int .u8 0, .int .u8 0, .int .u8 0, .int .u8 0, .int .u8 0, .int .u8 0, .int .u8 0, .int .u8 0, .int .u8 0, .int .u8 0, .int .u8 0, .int .u8 0, .int .u8 0, .int .u8 0, .int .u8 0, .int .u8 0, .int .u8 0, .int .u8 0, .int .u8 0, .int .u8 0, .int .u8 0, .int .u8 0] t frozen
  | o => o
/-- A world for the witness: the settled one, utf8's two tables laid. -/
noncomputable def laidWorld (os : Os) : World :=
  { World.holding Tryd.prog os ⟨#[], #[], []⟩ with heap := ((World.holding Tryd.prog os ⟨#[], #[], []⟩).heap.modify 1 tab1).modify 2 tab2 }
theorem laid_met (os : Os) : laidMet Tryd.prog Rows.labelJoinsApartRow.laid ((laidWorld os).forCall (fun _ _ => 0) ⟨#[], #[.slice none 0 0], []⟩).memory :=
  laidMet_of_run' 8 (by kernel_rfl) (by kernel_rfl)
theorem reads (os : Os) {H : Type} (enc : TypeId × Value → H) : ∃ places, DataW.whole enc Tryd.prog ((laidWorld os).forCall (fun _ _ => 0) ⟨#[], #[.slice none 0 0], []⟩).memory Tryd.f7.params.toList Rows.labelJoinsApartSpec.vars false (#[.slice none 0 0] : Array Value).toList 8 = some ([.nil], [], places) :=
  ⟨[], by kernel_rfl⟩

set_option maxRecDepth 100000 in
theorem lifted (os : Os) (started : os.Started) (H : Type) (enc : TypeId × Value → H) (F : Stop.Interp) :
    ReturnsInHanded {} Tryd.checked os 7 .any ((Rows.OpenSpec.upto Rows.labelJoinsApartSpec).preRow enc Tryd.prog Tryd.f7 Rows.labelJoinsApartUptoRow.domain false Rows.labelJoinsApartUptoRow.laid) (((Rows.OpenSpec.upto Rows.labelJoinsApartSpec).at F).post enc Tryd.prog Tryd.f7 false true false false) := by
  obtain ⟨places, hx⟩ := reads os enc
  refine returnsInHanded_of_row (C := Tryd.checked) (s := Rows.OpenSpec.upto Rows.labelJoinsApartSpec) own started (by kernel_rfl) Tryd.func7
    (witness_row_at (enc := enc) (C := Tryd.checked) false (laidWorld os) #[.slice none 0 0] rfl (by kernel_rfl) (by kernel_rfl) (by kernel_rfl)
      (OpenSpec.preRow_of_cond 8 hx (by kernel_rfl) (fun k hk => by cases hk; kernel_rfl) (by kernel_rfl) (laid_met os))) ?_
  intro W base args ds gs before hval hW _ hcond hsz _ hsh _
  exact contract H enc W base args ds gs before hval hW (hcond _ rfl) hsh
theorem said : Rows.LabelJoinsApartUptoSaid :=
  OpenClaim.holds_of_cond 7 Tryd.f7 rfl rfl rfl rfl rfl rfl rfl ⟨rfl, rfl, rfl, rfl, rfl⟩ rfl rfl rfl rfl rfl (by kernel_rfl) Tryd.func7 (by kernel_rfl)
    (of_decide_eq_true (by kernel_rfl)) (by unfold Func.isWrapper; first | (rw [if_pos (by decide +kernel)]; kernel_rfl) | (rw [if_neg (by decide +kernel)]; exact ⟨rfl, rfl⟩))
    (fun os started H enc _ F => by rw [OpenClaim.pre_eq_preRow]; exact lifted os started H enc F)
theorem plain (f : FuncId) (fn : Func) (hf : Tryd.pinned.checked.prog.funcNamed "bursar/bursarlaw04.LabelJoinsApart" = some f) (hfn : Tryd.pinned.checked.prog.funcs[f]? = some fn) :
    false = Tryd.pinned.checked.prog.looks [] ∧ ∀ (j : Nat) t, fn.params[j]? = some t → Tryd.pinned.checked.prog.wantsStandIn t = false := by
  obtain rfl : f = 7 := Option.some.inj ((show Tryd.prog.funcNamed "bursar/bursarlaw04.LabelJoinsApart" = some 7 by kernel_rfl).symm.trans hf) |>.symm
  obtain rfl : fn = Tryd.f7 := (Option.some.inj (Tryd.func7.symm.trans hfn)).symm
  refine ⟨by kernel_rfl, fun j t ht => ?_⟩
  rw [Tryd.params7] at ht
  have hall : ∀ x ∈ [35], Tryd.prog.wantsStandIn x = false := by
    intro x hx; simp only [List.mem_cons, List.mem_nil_iff, or_false] at hx; rcases hx with rfl <;> kernel_rfl
  exact hall t (by simpa using Array.mem_of_getElem? ht)
theorem card : Rows.LabelJoinsApartUptoCardSaid :=
  Claim7.holds_tied_plain_at .later [] _ _ _ _ said (fun _ h => by cases h) (by kernel_rfl) (fun _ h => by cases h) labelJoinsApartUpto_row_tie rfl ⟨rfl, rfl⟩ (by kernel_rfl) rfl plain (by kernel_rfl)
#print axioms card
end Go.Proofs.YteaiobgnhlpblaaDoor.labelJoinsApart
namespace Go.Proofs.YteaiobgnhlpblaaDoor
/-- The card, under a short name, for the claim. -/
theorem labelJoinsApart_holds : Rows.LabelJoinsApartUptoCardSaid := labelJoinsApart.card
end Go.Proofs.YteaiobgnhlpblaaDoor
