/- What the statement QuantScalesCardSaid rests on, part 5 of 5: walks and plain laws; what of the printer's words it leans on. -/
import Derived.Test.YtejgbdclhlolkaaGreatDoorRows
import Derived.Test.YtejgbdclhlolkaaGreatDoorCards
import Derived.Test.YtejgbdclhlolkaaGreatDoorTie
import Derived.Test.YtejgbdclhlolkaaGreatDoorMQC3
import Derived.Test.YtejgbdclhlolkaaGreatDoorMQC4
import Derived.Laws.BitsLemmas
import Derived.Lib.ItoaNum
import Derived.LaidSub
import Derived.Lib.LaidTab
import Derived.ChangeSame
import Derived.WalkKit
import Derived.ProofKit
import Derived.OpenShut
import Derived.ShutString
import Derived.ChangeOld
import Derived.Below
import Derived.SizedLaws
import Derived.Deep.DeepHandedRow
import Derived.LaidMore
namespace Go.Proofs.YtejgbdclhlolkaaGreatDoor.Q
open Go.RowKit Go.Proofs.YtejgbdclhlolkaaGreatDoorW.PrintWords Go.Proofs.YtejgbdclhlolkaaGreatDoorW.PrintLast Go.Proofs.YtejgbdclhlolkaaGreatDoorW.PrintMore
attribute [local go_sem] max2_int min2_int max_two min_two max_three min_three max_four min_four   -- for this text's walks alone
set_option linter.unusedVariables false
set_option linter.unusedSimpArgs false
mutual
def bursarlaw03_QuantScales.j0 : Nat → Int → Int → Int → Int → Int → Bool → Option (Bool)
  | 0, _, _, _, _, _, _ => none
  | k + 1, x0, x1, x2, x7, x8, x34 => if x34 = true then (if x7 = 0 then (some (x8 == 1)) else (some false)) else ((bits_Mul64.f (IntKind.u64.wrap (x0)) (IntKind.u64.wrap (x1))).bind fun bt283 => (if x8 = 0 then ((bits_Mul64.f (IntKind.u64.wrap (x7)) (IntKind.u64.wrap (x2))).bind fun bt285 => (if bt285.1 > bt283.1 then (bursarlaw03_QuantScales.j1 k x2 x7 bt283.1 bt283.2 true) else (if bt285.1 = bt283.1 then (bursarlaw03_QuantScales.j1 k x2 x7 bt283.1 bt283.2 (decide (bt285.2 ≥ bt283.2))) else (bursarlaw03_QuantScales.j1 k x2 x7 bt283.1 bt283.2 false)))) else ((bits_Mul64.f 9223372036854775807 (IntKind.u64.wrap (x2))).bind fun bt289 => (if x7 = 0 then (if x8 = 7 then (if bt289.1 < bt283.1 then (some true) else (if bt289.1 = bt283.1 then (some (decide (bt289.2 < bt283.2))) else (some false))) else (some false)) else (some false)))))
def bursarlaw03_QuantScales.j1 : Nat → Int → Int → Int → Int → Bool → Option (Bool)
  | 0, _, _, _, _, _ => none
  | k + 1, x2, x7, x9, x10, x13 => if x7 < 0 then (bursarlaw03_QuantScales.j2 k x2 x7 x9 x10 true) else (if x13 = true then (bursarlaw03_QuantScales.j2 k x2 x7 x9 x10 (x7 == 0)) else (bursarlaw03_QuantScales.j2 k x2 x7 x9 x10 true))
def bursarlaw03_QuantScales.j2 : Nat → Int → Int → Int → Int → Bool → Option (Bool)
  | 0, _, _, _, _, _ => none
  | k + 1, x2, x7, x9, x10, x81 => if x81 = true then (if x7 = 0 then (if x9 = 0 then (some (x10 == 0)) else (some false)) else (some false)) else ((bits_Mul64.f (IntKind.u64.wrap (wrap64 (x7 - 1))) (IntKind.u64.wrap (x2))).bind fun bt287 => (if bt287.1 < x9 then (some true) else (if bt287.1 = x9 then (some (decide (bt287.2 < x10))) else (some false))))
end
def bursarlaw03_QuantScales.f (k : Nat) (a0 : Int) (a1 : Int) (a2 : Int) : Option (Bool) := (bursarlaw03_known.f k).bind fun t280 => (if t280 = true then ((quant_Scale.f k a0 a1 a2).bind fun bt281 => (if a0 < 0 then (bursarlaw03_QuantScales.j0 k a0 a1 a2 bt281.1 bt281.2 true) else (if a1 < 0 then (bursarlaw03_QuantScales.j0 k a0 a1 a2 bt281.1 bt281.2 true) else (bursarlaw03_QuantScales.j0 k a0 a1 a2 bt281.1 bt281.2 (decide (a2 < 1)))))) else (some false))
theorem bursarlaw03_QuantScales.mono_l : ∀ k, (∀ y0 y1 y2 y3 y4 y5, LeO (bursarlaw03_QuantScales.j0 k y0 y1 y2 y3 y4 y5) (bursarlaw03_QuantScales.j0 (k + 1) y0 y1 y2 y3 y4 y5)) ∧ (∀ y0 y1 y2 y3 y4, LeO (bursarlaw03_QuantScales.j1 k y0 y1 y2 y3 y4) (bursarlaw03_QuantScales.j1 (k + 1) y0 y1 y2 y3 y4)) ∧ (∀ y0 y1 y2 y3 y4, LeO (bursarlaw03_QuantScales.j2 k y0 y1 y2 y3 y4) (bursarlaw03_QuantScales.j2 (k + 1) y0 y1 y2 y3 y4))
  | 0 => ⟨fun _ _ _ _ _ _ r h => by simp [bursarlaw03_QuantScales.j0] at h, fun _ _ _ _ _ r h => by simp [bursarlaw03_QuantScales.j1] at h, fun _ _ _ _ _ r h => by simp [bursarlaw03_QuantScales.j2] at h⟩
  | k + 1 => by
    obtain ⟨ih0, ih1, ih2⟩ := bursarlaw03_QuantScales.mono_l k
    refine ⟨?_, ?_, ?_⟩
    · intro y0 y1 y2 y3 y4 y5
      unfold bursarlaw03_QuantScales.j0
      repeat' first
      | (with_reducible exact ih0 _ _ _ _ _ _)
      | (with_reducible exact ih1 _ _ _ _ _)
      | (with_reducible exact ih2 _ _ _ _ _)
      | (with_reducible exact bursarlaw03_known.mono _)
      | (with_reducible exact quant_Scale.mono _ _ _ _)
      | (with_reducible exact LeO.refl _)
      | (with_reducible exact LeO.none _)
      | (with_reducible refine LeO.ite ?_ ?_)
      | (with_reducible refine LeO.bind ?_ (fun _ => ?_))
      | exact ih0 _ _ _ _ _ _
      | exact ih1 _ _ _ _ _
      | exact ih2 _ _ _ _ _
      | exact bursarlaw03_known.mono _
      | exact quant_Scale.mono _ _ _ _
      | exact LeO.none _
      | refine LeO.ite ?_ ?_
      | refine LeO.bind ?_ (fun _ => ?_)
    · intro y0 y1 y2 y3 y4
      unfold bursarlaw03_QuantScales.j1
      repeat' first
      | (with_reducible exact ih0 _ _ _ _ _ _)
      | (with_reducible exact ih1 _ _ _ _ _)
      | (with_reducible exact ih2 _ _ _ _ _)
      | (with_reducible exact bursarlaw03_known.mono _)
      | (with_reducible exact quant_Scale.mono _ _ _ _)
      | (with_reducible exact LeO.refl _)
      | (with_reducible exact LeO.none _)
      | (with_reducible refine LeO.ite ?_ ?_)
      | (with_reducible refine LeO.bind ?_ (fun _ => ?_))
      | exact ih0 _ _ _ _ _ _
      | exact ih1 _ _ _ _ _
      | exact ih2 _ _ _ _ _
      | exact bursarlaw03_known.mono _
      | exact quant_Scale.mono _ _ _ _
      | exact LeO.none _
      | refine LeO.ite ?_ ?_
      | refine LeO.bind ?_ (fun _ => ?_)
    · intro y0 y1 y2 y3 y4
      unfold bursarlaw03_QuantScales.j2
      repeat' first
      | (with_reducible exact ih0 _ _ _ _ _ _)
      | (with_reducible exact ih1 _ _ _ _ _)
      | (with_reducible exact ih2 _ _ _ _ _)
      | (with_reducible exact bursarlaw03_known.mono _)
      | (with_reducible exact quant_Scale.mono _ _ _ _)
      | (with_reducible exact LeO.refl _)
      | (with_reducible exact LeO.none _)
      | (with_reducible refine LeO.ite ?_ ?_)
      | (with_reducible refine LeO.bind ?_ (fun _ => ?_))
      | exact ih0 _ _ _ _ _ _
      | exact ih1 _ _ _ _ _
      | exact ih2 _ _ _ _ _
      | exact bursarlaw03_known.mono _
      | exact quant_Scale.mono _ _ _ _
      | exact LeO.none _
      | refine LeO.ite ?_ ?_
      | refine LeO.bind ?_ (fun _ => ?_)
theorem bursarlaw03_QuantScales.mono : ∀ a0 a1 a2 k, LeO (bursarlaw03_QuantScales.f k a0 a1 a2) (bursarlaw03_QuantScales.f (k + 1) a0 a1 a2) := by
  intro a0 a1 a2 k
  obtain ⟨ih0, ih1, ih2⟩ := bursarlaw03_QuantScales.mono_l k
  unfold bursarlaw03_QuantScales.f
  repeat' first
      | (with_reducible exact ih0 _ _ _ _ _ _)
      | (with_reducible exact ih1 _ _ _ _ _)
      | (with_reducible exact ih2 _ _ _ _ _)
      | (with_reducible exact bursarlaw03_known.mono _)
      | (with_reducible exact quant_Scale.mono _ _ _ _)
      | (with_reducible exact LeO.refl _)
      | (with_reducible exact LeO.none _)
      | (with_reducible refine LeO.ite ?_ ?_)
      | (with_reducible refine LeO.bind ?_ (fun _ => ?_))
      | exact ih0 _ _ _ _ _ _
      | exact ih1 _ _ _ _ _
      | exact ih2 _ _ _ _ _
      | exact bursarlaw03_known.mono _
      | exact quant_Scale.mono _ _ _ _
      | exact LeO.none _
      | refine LeO.ite ?_ ?_
      | refine LeO.bind ?_ (fun _ => ?_)
set_option maxHeartbeats 8000000 in
set_option maxRecDepth 100000 in
theorem bursarlaw03_QuantScales.calls (k : Nat) (a0 : Int) (a1 : Int) (a2 : Int) (r : Bool) (w : World) (h : bursarlaw03_QuantScales.f k a0 a1 a2 = some r) (hG : Glob w) :
    Calls Tryz.prog 9 #[.int .i64 a0, .int .i64 a1, .int .i64 a2] w fun e w' => e = .returned (.bool r) ∧ Below w.heap.size w w' := by
  have HB := Aside0.mk (Below.refl w.heap.size w)
  have H : ((bursarlaw03_known.f k).bind fun t280 => (if t280 = true then ((quant_Scale.f k a0 a1 a2).bind fun bt281 => (if a0 < 0 then (bursarlaw03_QuantScales.j0 k a0 a1 a2 bt281.1 bt281.2 true) else (if a1 < 0 then (bursarlaw03_QuantScales.j0 k a0 a1 a2 bt281.1 bt281.2 true) else (bursarlaw03_QuantScales.j0 k a0 a1 a2 bt281.1 bt281.2 (decide (a2 < 1)))))) else (some false))) = some r := h
  clear h
  replace H := Option.bind_eq_some_iff.mp H
  obtain ⟨t280, A40, H⟩ := H
  replace H : (if t280 = true then ((quant_Scale.f k a0 a1 a2).bind fun bt281 => (if a0 < 0 then (bursarlaw03_QuantScales.j0 k a0 a1 a2 bt281.1 bt281.2 true) else (if a1 < 0 then (bursarlaw03_QuantScales.j0 k a0 a1 a2 bt281.1 bt281.2 true) else (bursarlaw03_QuantScales.j0 k a0 a1 a2 bt281.1 bt281.2 (decide (a2 < 1)))))) else (some false)) = some r := H
  have A4 := Aside0.mk A40
  clear A40
  by_cases c5 : t280 = true
  · subst c5
    have H1 : ((quant_Scale.f k a0 a1 a2).bind fun bt281 => (if a0 < 0 then (bursarlaw03_QuantScales.j0 k a0 a1 a2 bt281.1 bt281.2 true) else (if a1 < 0 then (bursarlaw03_QuantScales.j0 k a0 a1 a2 bt281.1 bt281.2 true) else (bursarlaw03_QuantScales.j0 k a0 a1 a2 bt281.1 bt281.2 (decide (a2 < 1)))))) = some r := by rw [if_pos rfl] at H; exact H
    clear H
    have H := H1
    clear H1
    replace H := Option.bind_eq_some_iff.mp H
    obtain ⟨⟨t281, t282⟩, A60, H⟩ := H
    replace H : (if a0 < 0 then (bursarlaw03_QuantScales.j0 k a0 a1 a2 t281 t282 true) else (if a1 < 0 then (bursarlaw03_QuantScales.j0 k a0 a1 a2 t281 t282 true) else (bursarlaw03_QuantScales.j0 k a0 a1 a2 t281 t282 (decide (a2 < 1))))) = some r := H
    have A6 := Aside0.mk A60
    clear A60
    have HC7 := Aside0.mk H
    clear H
    go_enter Tryz.func9, Tryz.ntmps9
    go_upto_region 4 with (first | ((with_reducible refine gate_callee (f := 16) rfl ?_); refine goesL_ (some 16) rfl rfl Tryz.func16 (by kernel_rfl) rfl #[] rfl (by (try simp only [List.map_toArray, List.map_cons, List.map_nil]); first | done | rfl | (simp only [List.length_drop, List.length_take]; rfl)) ?_; (with_reducible refine (bursarlaw03_known.calls k  true _ A4.out (Glob.below hG (by repeat (first | (with_reducible first | exact HB.out | apply below_alloc | apply pw_below_drewN | apply below_drew1) | exact HB.out)))).mono ?_); rintro e w8 ⟨rfl, hb⟩; refine ⟨_, rfl, ?_⟩; have n0_ := Aside0.mk (below_step (by repeat (first | (with_reducible first | exact HB.out | apply below_alloc | apply pw_below_drewN | apply below_drew1) | exact HB.out)) hb); clear HB; have HB := n0_; clear n0_; (try clear hb); (try clear hb2); (try clear hk); (try clear hi)) | ((with_reducible refine gate_callee (f := 28) rfl ?_); refine goesL_ (some 22) rfl rfl Tryz.func28 (by kernel_rfl) rfl #[.int .i64 a0, .int .i64 a1, .int .i64 a2] rfl (by (try simp only [List.map_toArray, List.map_cons, List.map_nil]); first | done | rfl | (simp only [List.length_drop, List.length_take]; rfl)) ?_; (with_reducible refine (quant_Scale.calls k a0 a1 a2 t281 t282 _ A6.out).mono ?_); rintro e w' ⟨rfl, ⟨nd, rfl⟩⟩; refine ⟨_, rfl, ?_⟩))
    (try simp only [Act.put, List.setIfInBounds_toArray, List.set_cons_zero, List.set_cons_succ])
    go_cut [34] (fun v34 wc => ∃ (kq : Nat) (x34_6 : Bool), v34 = .bool x34_6 ∧ Aside0 (bursarlaw03_QuantScales.j0 kq a0 a1 a2 t281 t282 x34_6 = some r) ∧ Aside0 (kq ≤ k) ∧ Aside0 (Below w.heap.size w wc))
    case first =>
      have H := HC7.out
      clear HC7
      by_cases c9 : a0 < 0
      · rw [if_pos c9] at H
        have c9b0 : decide (a0 < 0) = true := decide_eq_true c9
        clear c9
        (first | rw [c9b0] | (simp only [i64_w, i32_w]; rw [c9b0]) | skip)
        have H' := Aside0.mk H
        clear H
        go_wp2
        go_meet
        case rel => exact ⟨_, (true), (by first | rfl | (simp; done) | (simp [*]; done) | (simp; rw [Bool.eq_iff_iff]; simp; done) | (rw [Bool.eq_iff_iff]; simp; done)), H', ⟨by first | omega | exact Nat.le_refl _⟩, ⟨by repeat (first | (with_reducible first | exact HB.out | apply below_alloc | apply pw_below_drewN | apply below_drew1) | exact HB.out)⟩⟩
      · rw [if_neg c9] at H
        have c9b0 : decide (a0 < 0) = false := decide_eq_false c9
        clear c9
        (first | rw [c9b0] | (simp only [i64_w, i32_w]; rw [c9b0]) | skip)
        by_cases c10 : a1 < 0
        · rw [if_pos c10] at H
          have c10b0 : decide (a1 < 0) = true := decide_eq_true c10
          clear c10
          have H' := Aside0.mk H
          clear H
          go_wp2
          go_meet
          case rel => exact ⟨_, (true), (by first | rfl | (simp; done) | (simp [*]; done) | (simp; rw [Bool.eq_iff_iff]; simp; done) | (rw [Bool.eq_iff_iff]; simp; done)), H', ⟨by first | omega | exact Nat.le_refl _⟩, ⟨by repeat (first | (with_reducible first | exact HB.out | apply below_alloc | apply pw_below_drewN | apply below_drew1) | exact HB.out)⟩⟩
        · rw [if_neg c10] at H
          have c10b0 : decide (a1 < 0) = false := decide_eq_false c10
          clear c10
          have H' := Aside0.mk H
          clear H
          go_wp2
          go_meet
          case rel => exact ⟨_, (decide (a2 < 1)), (by first | rfl | (simp; done) | (simp [*]; done) | (simp; rw [Bool.eq_iff_iff]; simp; done) | (rw [Bool.eq_iff_iff]; simp; done)), H', ⟨by first | omega | exact Nat.le_refl _⟩, ⟨by repeat (first | (with_reducible first | exact HB.out | apply below_alloc | apply pw_below_drewN | apply below_drew1) | exact HB.out)⟩⟩
    case rest =>
      clear HC7
      try clear c1
      try clear c2
      try clear p2
      try clear c5
      try clear c9
      try clear c9b0
      try clear c10
      try clear c10b0
      obtain ⟨kq, x34_6, rfl, HA, HJ6, HB⟩ := hcut
      cases kq with
      | zero => exact absurd HA.out (by simp [bursarlaw03_QuantScales.j0])
      | succ kj6 =>
        have H := HA.out
        clear HA
        simp only [bursarlaw03_QuantScales.j0] at H
        by_cases c11 : x34_6 = true
        · subst c11
          have H1 : (if t281 = 0 then (some (t282 == 1)) else (some false)) = some r := by rw [if_pos rfl] at H; exact H
          clear H
          have H := H1
          clear H1
          by_cases c12 : t281 = 0
          · rw [if_pos c12] at H
            have c12b0 : (t281 == 0) = true := beq_iff_eq.mpr c12
            have c12b1 : (t281 != 0) = false := bne_eq_false_iff_eq.mpr c12
            clear c12
            obtain rfl := Option.some.inj H
            go_wp2
            go_ret
            exact ⟨by first | rfl | (simp [errW_none, errW_some] <;> rfl) | (simp [*, errW_none, errW_some] <;> rfl), by repeat (first | (with_reducible first | exact HB.out | apply below_alloc | apply pw_below_drewN | apply below_drew1) | exact HB.out)⟩
          · rw [if_neg c12] at H
            have c12b0 : (t281 == 0) = false := beq_eq_false_iff_ne.mpr c12
            have c12b1 : (t281 != 0) = true := bne_iff_ne.mpr c12
            obtain rfl := Option.some.inj H
            go_wp2
            go_ret
            exact ⟨by first | rfl | (simp [errW_none, errW_some] <;> rfl) | (simp [*, errW_none, errW_some] <;> rfl), by repeat (first | (with_reducible first | exact HB.out | apply below_alloc | apply pw_below_drewN | apply below_drew1) | exact HB.out)⟩
        · replace c11 := Bool.eq_false_iff.mpr c11
          subst c11
          have H1 : ((bits_Mul64.f (IntKind.u64.wrap (a0)) (IntKind.u64.wrap (a1))).bind fun bt283 => (if t282 = 0 then ((bits_Mul64.f (IntKind.u64.wrap (t281)) (IntKind.u64.wrap (a2))).bind fun bt285 => (if bt285.1 > bt283.1 then (bursarlaw03_QuantScales.j1 kj6 a2 t281 bt283.1 bt283.2 true) else (if bt285.1 = bt283.1 then (bursarlaw03_QuantScales.j1 kj6 a2 t281 bt283.1 bt283.2 (decide (bt285.2 ≥ bt283.2))) else (bursarlaw03_QuantScales.j1 kj6 a2 t281 bt283.1 bt283.2 false)))) else ((bits_Mul64.f 9223372036854775807 (IntKind.u64.wrap (a2))).bind fun bt289 => (if t281 = 0 then (if t282 = 7 then (if bt289.1 < bt283.1 then (some true) else (if bt289.1 = bt283.1 then (some (decide (bt289.2 < bt283.2))) else (some false))) else (some false)) else (some false))))) = some r := by rw [if_neg (show ¬ (false = true) by decide)] at H; exact H
          clear H
          have H := H1
          clear H1
          replace H := Option.bind_eq_some_iff.mp H
          obtain ⟨⟨t283, t284⟩, A130, H⟩ := H
          replace H : (if t282 = 0 then ((bits_Mul64.f (IntKind.u64.wrap (t281)) (IntKind.u64.wrap (a2))).bind fun bt285 => (if bt285.1 > t283 then (bursarlaw03_QuantScales.j1 kj6 a2 t281 t283 t284 true) else (if bt285.1 = t283 then (bursarlaw03_QuantScales.j1 kj6 a2 t281 t283 t284 (decide (bt285.2 ≥ t284))) else (bursarlaw03_QuantScales.j1 kj6 a2 t281 t283 t284 false)))) else ((bits_Mul64.f 9223372036854775807 (IntKind.u64.wrap (a2))).bind fun bt289 => (if t281 = 0 then (if t282 = 7 then (if bt289.1 < t283 then (some true) else (if bt289.1 = t283 then (some (decide (bt289.2 < t284))) else (some false))) else (some false)) else (some false)))) = some r := H
          have A13 := Aside0.mk A130
          clear A130
          by_cases c14 : t282 = 0
          · rw [if_pos c14] at H
            have c14b0 : (t282 == 0) = true := beq_iff_eq.mpr c14
            have c14b1 : (t282 != 0) = false := bne_eq_false_iff_eq.mpr c14
            clear c14
            replace H := Option.bind_eq_some_iff.mp H
            obtain ⟨⟨t285, t286⟩, A150, H⟩ := H
            replace H : (if t285 > t283 then (bursarlaw03_QuantScales.j1 kj6 a2 t281 t283 t284 true) else (if t285 = t283 then (bursarlaw03_QuantScales.j1 kj6 a2 t281 t283 t284 (decide (t286 ≥ t284))) else (bursarlaw03_QuantScales.j1 kj6 a2 t281 t283 t284 false))) = some r := H
            have A15 := Aside0.mk A150
            clear A150
            have HC16 := Aside0.mk H
            clear H
            go_upto_region 9 with (first | ((with_reducible refine gate_callee (f := 24) rfl ?_); refine goesL_ (some 46) rfl rfl Tryz.func24 (by kernel_rfl) rfl #[.int .u64 (IntKind.u64.wrap (a0)), .int .u64 (IntKind.u64.wrap (a1))] rfl (by (try simp only [List.map_toArray, List.map_cons, List.map_nil]); first | done | rfl | (simp only [List.length_drop, List.length_take]; rfl)) ?_; (with_reducible refine (bits_Mul64.calls (IntKind.u64.wrap (a0)) (IntKind.u64.wrap (a1)) t283 t284 _ A13.out).mono ?_); rintro e w' ⟨rfl, ⟨nd, rfl⟩⟩; refine ⟨_, rfl, ?_⟩) | ((with_reducible refine gate_callee (f := 24) rfl ?_); refine goesL_ (some 56) rfl rfl Tryz.func24 (by kernel_rfl) rfl #[.int .u64 (IntKind.u64.wrap (t281)), .int .u64 (IntKind.u64.wrap (a2))] rfl (by (try simp only [List.map_toArray, List.map_cons, List.map_nil]); first | done | rfl | (simp only [List.length_drop, List.length_take]; rfl)) ?_; (with_reducible refine (bits_Mul64.calls (IntKind.u64.wrap (t281)) (IntKind.u64.wrap (a2)) t285 t286 _ A15.out).mono ?_); rintro e w' ⟨rfl, ⟨nd, rfl⟩⟩; refine ⟨_, rfl, ?_⟩))
            (try simp only [Act.put, List.setIfInBounds_toArray, List.set_cons_zero, List.set_cons_succ])
            go_cut [13] (fun v13 wc => ∃ (kq : Nat) (x13_15 : Bool), v13 = .bool x13_15 ∧ Aside0 (bursarlaw03_QuantScales.j1 kq a2 t281 t283 t284 x13_15 = some r) ∧ Aside0 (kq ≤ kj6) ∧ Aside0 (Below w.heap.size w wc))
            case first =>
              have H := HC16.out
              clear HC16
              by_cases c17 : t285 > t283
              · rw [if_pos c17] at H
                have c17b0 : decide (t283 < t285) = true := decide_eq_true c17
                clear c17
                (first | rw [c17b0] | (simp only [i64_w, i32_w]; rw [c17b0]) | skip)
                have H' := Aside0.mk H
                clear H
                go_wp2
                go_meet
                case rel => exact ⟨_, (true), (by first | rfl | (simp; done) | (simp [*]; done) | (simp; rw [Bool.eq_iff_iff]; simp; done) | (rw [Bool.eq_iff_iff]; simp; done)), H', ⟨by have := HJ6.out; first | omega | exact Nat.le_refl _⟩, ⟨by repeat (first | (with_reducible first | exact HB.out | apply below_alloc | apply pw_below_drewN | apply below_drew1) | exact HB.out)⟩⟩
              · rw [if_neg c17] at H
                have c17b0 : decide (t283 < t285) = false := decide_eq_false c17
                clear c17
                (first | rw [c17b0] | (simp only [i64_w, i32_w]; rw [c17b0]) | skip)
                by_cases c18 : t285 = t283
                · rw [if_pos c18] at H
                  have c18b0 : (t285 == t283) = true := beq_iff_eq.mpr c18
                  have c18b1 : (t285 != t283) = false := bne_eq_false_iff_eq.mpr c18
                  clear c18
                  have H' := Aside0.mk H
                  clear H
                  go_wp2
                  go_meet
                  case rel => exact ⟨_, (decide (t286 ≥ t284)), (by first | rfl | (simp; done) | (simp [*]; done) | (simp; rw [Bool.eq_iff_iff]; simp; done) | (rw [Bool.eq_iff_iff]; simp; done)), H', ⟨by have := HJ6.out; first | omega | exact Nat.le_refl _⟩, ⟨by repeat (first | (with_reducible first | exact HB.out | apply below_alloc | apply pw_below_drewN | apply below_drew1) | exact HB.out)⟩⟩
                · rw [if_neg c18] at H
                  have c18b0 : (t285 == t283) = false := beq_eq_false_iff_ne.mpr c18
                  have c18b1 : (t285 != t283) = true := bne_iff_ne.mpr c18
                  have H' := Aside0.mk H
                  clear H
                  go_wp2
                  go_meet
                  case rel => exact ⟨_, (false), (by first | rfl | (simp; done) | (simp [*]; done) | (simp; rw [Bool.eq_iff_iff]; simp; done) | (rw [Bool.eq_iff_iff]; simp; done)), H', ⟨by have := HJ6.out; first | omega | exact Nat.le_refl _⟩, ⟨by repeat (first | (with_reducible first | exact HB.out | apply below_alloc | apply pw_below_drewN | apply below_drew1) | exact HB.out)⟩⟩
            case rest =>
              clear HC16
              try clear c1
              try clear c2
              try clear p2
              try clear c5
              try clear c9
              try clear c9b0
              try clear c10
              try clear c10b0
              try clear c11
              try clear c12
              try clear c12b0
              try clear c12b1
              try clear c14
              try clear c14b0
              try clear c14b1
              try clear c16
              try clear c17
              try clear c17b0
              try clear c18
              try clear c18b0
              try clear c18b1
              try clear p2
              obtain ⟨kq, x13_15, rfl, HA, HJ15, HB⟩ := hcut
              cases kq with
              | zero => exact absurd HA.out (by simp [bursarlaw03_QuantScales.j1])
              | succ kj15 =>
                have H := HA.out
                clear HA
                simp only [bursarlaw03_QuantScales.j1] at H
                have HC19 := Aside0.mk H
                clear H
                go_upto_region 10 with (fail)
                go_cut [81] (fun v81 wc => ∃ (kq : Nat) (x81_18 : Bool), v81 = .bool x81_18 ∧ Aside0 (bursarlaw03_QuantScales.j2 kq a2 t281 t283 t284 x81_18 = some r) ∧ Aside0 (kq ≤ kj15) ∧ Aside0 (Below w.heap.size w wc))
                case first =>
                  have H := HC19.out
                  clear HC19
                  by_cases c20 : t281 < 0
                  · rw [if_pos c20] at H
                    have c20b0 : decide (t281 < 0) = true := decide_eq_true c20
                    clear c20
                    (first | rw [c20b0] | (simp only [i64_w, i32_w]; rw [c20b0]) | skip)
                    have H' := Aside0.mk H
                    clear H
                    go_wp2
                    go_meet
                    case rel => exact ⟨_, (true), (by first | rfl | (simp; done) | (simp [*]; done) | (simp; rw [Bool.eq_iff_iff]; simp; done) | (rw [Bool.eq_iff_iff]; simp; done)), H', ⟨by have := HJ6.out; have := HJ15.out; first | omega | exact Nat.le_refl _⟩, ⟨by repeat (first | (with_reducible first | exact HB.out | apply below_alloc | apply pw_below_drewN | apply below_drew1) | exact HB.out)⟩⟩
                  · rw [if_neg c20] at H
                    have c20b0 : decide (t281 < 0) = false := decide_eq_false c20
                    clear c20
                    (first | rw [c20b0] | (simp only [i64_w, i32_w]; rw [c20b0]) | skip)
                    by_cases c21 : x13_15 = true
                    · subst c21
                      have H1 : (bursarlaw03_QuantScales.j2 kj15 a2 t281 t283 t284 (t281 == 0)) = some r := by rw [if_pos rfl] at H; exact H
                      clear H
                      have H := H1
                      clear H1
                      have H' := Aside0.mk H
                      clear H
                      go_wp2
                      go_meet
                      case rel => exact ⟨_, ((t281 == 0)), (by first | rfl | (simp; done) | (simp [*]; done) | (simp; rw [Bool.eq_iff_iff]; simp; done) | (rw [Bool.eq_iff_iff]; simp; done)), H', ⟨by have := HJ6.out; have := HJ15.out; first | omega | exact Nat.le_refl _⟩, ⟨by repeat (first | (with_reducible first | exact HB.out | apply below_alloc | apply pw_below_drewN | apply below_drew1) | exact HB.out)⟩⟩
                    · replace c21 := Bool.eq_false_iff.mpr c21
                      subst c21
                      have H1 : (bursarlaw03_QuantScales.j2 kj15 a2 t281 t283 t284 true) = some r := by rw [if_neg (show ¬ (false = true) by decide)] at H; exact H
                      clear H
                      have H := H1
                      clear H1
                      have H' := Aside0.mk H
                      clear H
                      go_wp2
                      go_meet
                      case rel => exact ⟨_, (true), (by first | rfl | (simp; done) | (simp [*]; done) | (simp; rw [Bool.eq_iff_iff]; simp; done) | (rw [Bool.eq_iff_iff]; simp; done)), H', ⟨by have := HJ6.out; have := HJ15.out; first | omega | exact Nat.le_refl _⟩, ⟨by repeat (first | (with_reducible first | exact HB.out | apply below_alloc | apply pw_below_drewN | apply below_drew1) | exact HB.out)⟩⟩
                case rest =>
                  clear HC19
                  try clear c1
                  try clear c2
                  try clear p2
                  try clear c5
                  try clear c9
                  try clear c9b0
                  try clear c10
                  try clear c10b0
                  try clear c11
                  try clear c12
                  try clear c12b0
                  try clear c12b1
                  try clear c14
                  try clear c14b0
                  try clear c14b1
                  try clear c16
                  try clear c17
                  try clear c17b0
                  try clear c18
                  try clear c18b0
                  try clear c18b1
                  try clear c20
                  try clear c20b0
                  try clear c21
                  try clear p2
                  obtain ⟨kq, x81_18, rfl, HA, HJ18, HB⟩ := hcut
                  cases kq with
                  | zero => exact absurd HA.out (by simp [bursarlaw03_QuantScales.j2])
                  | succ kj18 =>
                    have H := HA.out
                    clear HA
                    simp only [bursarlaw03_QuantScales.j2] at H
                    by_cases c22 : x81_18 = true
                    · subst c22
                      have H1 : (if t281 = 0 then (if t283 = 0 then (some (t284 == 0)) else (some false)) else (some false)) = some r := by rw [if_pos rfl] at H; exact H
                      clear H
                      have H := H1
                      clear H1
                      by_cases c23 : t281 = 0
                      · rw [if_pos c23] at H
                        have c23b0 : (t281 == 0) = true := beq_iff_eq.mpr c23
                        have c23b1 : (t281 != 0) = false := bne_eq_false_iff_eq.mpr c23
                        clear c23
                        by_cases c24 : t283 = 0
                        · rw [if_pos c24] at H
                          have c24b0 : (t283 == 0) = true := beq_iff_eq.mpr c24
                          have c24b1 : (t283 != 0) = false := bne_eq_false_iff_eq.mpr c24
                          clear c24
                          obtain rfl := Option.some.inj H
                          go_wp2
                          go_ret
                          exact ⟨by first | rfl | (simp [errW_none, errW_some] <;> rfl) | (simp [*, errW_none, errW_some] <;> rfl), by repeat (first | (with_reducible first | exact HB.out | apply below_alloc | apply pw_below_drewN | apply below_drew1) | exact HB.out)⟩
                        · rw [if_neg c24] at H
                          have c24b0 : (t283 == 0) = false := beq_eq_false_iff_ne.mpr c24
                          have c24b1 : (t283 != 0) = true := bne_iff_ne.mpr c24
                          obtain rfl := Option.some.inj H
                          go_wp2
                          go_ret
                          exact ⟨by first | rfl | (simp [errW_none, errW_some] <;> rfl) | (simp [*, errW_none, errW_some] <;> rfl), by repeat (first | (with_reducible first | exact HB.out | apply below_alloc | apply pw_below_drewN | apply below_drew1) | exact HB.out)⟩
                      · rw [if_neg c23] at H
                        have c23b0 : (t281 == 0) = false := beq_eq_false_iff_ne.mpr c23
                        have c23b1 : (t281 != 0) = true := bne_iff_ne.mpr c23
                        obtain rfl := Option.some.inj H
                        go_wp2
                        go_ret
                        exact ⟨by first | rfl | (simp [errW_none, errW_some] <;> rfl) | (simp [*, errW_none, errW_some] <;> rfl), by repeat (first | (with_reducible first | exact HB.out | apply below_alloc | apply pw_below_drewN | apply below_drew1) | exact HB.out)⟩
                    · replace c22 := Bool.eq_false_iff.mpr c22
                      subst c22
                      have H1 : ((bits_Mul64.f (IntKind.u64.wrap (wrap64 (t281 - 1))) (IntKind.u64.wrap (a2))).bind fun bt287 => (if bt287.1 < t283 then (some true) else (if bt287.1 = t283 then (some (decide (bt287.2 < t284))) else (some false)))) = some r := by rw [if_neg (show ¬ (false = true) by decide)] at H; exact H
                      clear H
                      have H := H1
                      clear H1
                      replace H := Option.bind_eq_some_iff.mp H
                      obtain ⟨⟨t287, t288⟩, A250, H⟩ := H
                      replace H : (if t287 < t283 then (some true) else (if t287 = t283 then (some (decide (t288 < t284))) else (some false))) = some r := H
                      have A25 := Aside0.mk A250
                      clear A250
                      by_cases c26 : t287 < t283
                      · rw [if_pos c26] at H
                        have c26b0 : decide (t287 < t283) = true := decide_eq_true c26
                        clear c26
                        obtain rfl := Option.some.inj H
                        go_wp2_with (first | ((with_reducible refine gate_callee (f := 24) rfl ?_); refine goesL_ (some 98) rfl rfl Tryz.func24 (by kernel_rfl) rfl #[.int .u64 (IntKind.u64.wrap (wrap64 (t281 - 1))), .int .u64 (IntKind.u64.wrap (a2))] rfl (by (try simp only [List.map_toArray, List.map_cons, List.map_nil]); first | done | rfl | (simp only [List.length_drop, List.length_take]; rfl)) ?_; (with_reducible refine (bits_Mul64.calls (IntKind.u64.wrap (wrap64 (t281 - 1))) (IntKind.u64.wrap (a2)) t287 t288 _ A25.out).mono ?_); rintro e w' ⟨rfl, ⟨nd, rfl⟩⟩; refine ⟨_, rfl, ?_⟩))
                        go_ret
                        exact ⟨by first | rfl | (simp [errW_none, errW_some] <;> rfl) | (simp [*, errW_none, errW_some] <;> rfl), by repeat (first | (with_reducible first | exact HB.out | apply below_alloc | apply pw_below_drewN | apply below_drew1) | exact HB.out)⟩
                      · rw [if_neg c26] at H
                        have c26b0 : decide (t287 < t283) = false := decide_eq_false c26
                        clear c26
                        by_cases c27 : t287 = t283
                        · rw [if_pos c27] at H
                          have c27b0 : (t287 == t283) = true := beq_iff_eq.mpr c27
                          have c27b1 : (t287 != t283) = false := bne_eq_false_iff_eq.mpr c27
                          clear c27
                          obtain rfl := Option.some.inj H
                          go_wp2_with (first | ((with_reducible refine gate_callee (f := 24) rfl ?_); refine goesL_ (some 98) rfl rfl Tryz.func24 (by kernel_rfl) rfl #[.int .u64 (IntKind.u64.wrap (wrap64 (t281 - 1))), .int .u64 (IntKind.u64.wrap (a2))] rfl (by (try simp only [List.map_toArray, List.map_cons, List.map_nil]); first | done | rfl | (simp only [List.length_drop, List.length_take]; rfl)) ?_; (with_reducible refine (bits_Mul64.calls (IntKind.u64.wrap (wrap64 (t281 - 1))) (IntKind.u64.wrap (a2)) t287 t288 _ A25.out).mono ?_); rintro e w' ⟨rfl, ⟨nd, rfl⟩⟩; refine ⟨_, rfl, ?_⟩))
                          go_ret
                          exact ⟨by first | rfl | (simp [errW_none, errW_some] <;> rfl) | (simp [*, errW_none, errW_some] <;> rfl), by repeat (first | (with_reducible first | exact HB.out | apply below_alloc | apply pw_below_drewN | apply below_drew1) | exact HB.out)⟩
                        · rw [if_neg c27] at H
                          have c27b0 : (t287 == t283) = false := beq_eq_false_iff_ne.mpr c27
                          have c27b1 : (t287 != t283) = true := bne_iff_ne.mpr c27
                          obtain rfl := Option.some.inj H
                          go_wp2_with (first | ((with_reducible refine gate_callee (f := 24) rfl ?_); refine goesL_ (some 98) rfl rfl Tryz.func24 (by kernel_rfl) rfl #[.int .u64 (IntKind.u64.wrap (wrap64 (t281 - 1))), .int .u64 (IntKind.u64.wrap (a2))] rfl (by (try simp only [List.map_toArray, List.map_cons, List.map_nil]); first | done | rfl | (simp only [List.length_drop, List.length_take]; rfl)) ?_; (with_reducible refine (bits_Mul64.calls (IntKind.u64.wrap (wrap64 (t281 - 1))) (IntKind.u64.wrap (a2)) t287 t288 _ A25.out).mono ?_); rintro e w' ⟨rfl, ⟨nd, rfl⟩⟩; refine ⟨_, rfl, ?_⟩))
                          go_ret
                          exact ⟨by first | rfl | (simp [errW_none, errW_some] <;> rfl) | (simp [*, errW_none, errW_some] <;> rfl), by repeat (first | (with_reducible first | exact HB.out | apply below_alloc | apply pw_below_drewN | apply below_drew1) | exact HB.out)⟩
          · rw [if_neg c14] at H
            have c14b0 : (t282 == 0) = false := beq_eq_false_iff_ne.mpr c14
            have c14b1 : (t282 != 0) = true := bne_iff_ne.mpr c14
            replace H := Option.bind_eq_some_iff.mp H
            obtain ⟨⟨t289, t290⟩, A280, H⟩ := H
            replace H : (if t281 = 0 then (if t282 = 7 then (if t289 < t283 then (some true) else (if t289 = t283 then (some (decide (t290 < t284))) else (some false))) else (some false)) else (some false)) = some r := H
            have A28 := Aside0.mk A280
            clear A280
            by_cases c29 : t281 = 0
            · rw [if_pos c29] at H
              have c29b0 : (t281 == 0) = true := beq_iff_eq.mpr c29
              have c29b1 : (t281 != 0) = false := bne_eq_false_iff_eq.mpr c29
              clear c29
              by_cases c30 : t282 = 7
              · rw [if_pos c30] at H
                have c30b0 : (t282 == 7) = true := beq_iff_eq.mpr c30
                have c30b1 : (t282 != 7) = false := bne_eq_false_iff_eq.mpr c30
                clear c30
                by_cases c31 : t289 < t283
                · rw [if_pos c31] at H
                  have c31b0 : decide (t289 < t283) = true := decide_eq_true c31
                  clear c31
                  obtain rfl := Option.some.inj H
                  go_wp2_with (first | ((with_reducible refine gate_callee (f := 24) rfl ?_); refine goesL_ (some 46) rfl rfl Tryz.func24 (by kernel_rfl) rfl #[.int .u64 (IntKind.u64.wrap (a0)), .int .u64 (IntKind.u64.wrap (a1))] rfl (by (try simp only [List.map_toArray, List.map_cons, List.map_nil]); first | done | rfl | (simp only [List.length_drop, List.length_take]; rfl)) ?_; (with_reducible refine (bits_Mul64.calls (IntKind.u64.wrap (a0)) (IntKind.u64.wrap (a1)) t283 t284 _ A13.out).mono ?_); rintro e w' ⟨rfl, ⟨nd, rfl⟩⟩; refine ⟨_, rfl, ?_⟩) | ((with_reducible refine gate_callee (f := 24) rfl ?_); refine goesL_ (some 117) rfl rfl Tryz.func24 (by kernel_rfl) rfl #[.int .u64 9223372036854775807, .int .u64 (IntKind.u64.wrap (a2))] rfl (by (try simp only [List.map_toArray, List.map_cons, List.map_nil]); first | done | rfl | (simp only [List.length_drop, List.length_take]; rfl)) ?_; (with_reducible refine (bits_Mul64.calls 9223372036854775807 (IntKind.u64.wrap (a2)) t289 t290 _ A28.out).mono ?_); rintro e w' ⟨rfl, ⟨nd, rfl⟩⟩; refine ⟨_, rfl, ?_⟩))
                  go_ret
                  exact ⟨by first | rfl | (simp [errW_none, errW_some] <;> rfl) | (simp [*, errW_none, errW_some] <;> rfl), by repeat (first | (with_reducible first | exact HB.out | apply below_alloc | apply pw_below_drewN | apply below_drew1) | exact HB.out)⟩
                · rw [if_neg c31] at H
                  have c31b0 : decide (t289 < t283) = false := decide_eq_false c31
                  clear c31
                  by_cases c32 : t289 = t283
                  · rw [if_pos c32] at H
                    have c32b0 : (t289 == t283) = true := beq_iff_eq.mpr c32
                    have c32b1 : (t289 != t283) = false := bne_eq_false_iff_eq.mpr c32
                    clear c32
                    obtain rfl := Option.some.inj H
                    go_wp2_with (first | ((with_reducible refine gate_callee (f := 24) rfl ?_); refine goesL_ (some 46) rfl rfl Tryz.func24 (by kernel_rfl) rfl #[.int .u64 (IntKind.u64.wrap (a0)), .int .u64 (IntKind.u64.wrap (a1))] rfl (by (try simp only [List.map_toArray, List.map_cons, List.map_nil]); first | done | rfl | (simp only [List.length_drop, List.length_take]; rfl)) ?_; (with_reducible refine (bits_Mul64.calls (IntKind.u64.wrap (a0)) (IntKind.u64.wrap (a1)) t283 t284 _ A13.out).mono ?_); rintro e w' ⟨rfl, ⟨nd, rfl⟩⟩; refine ⟨_, rfl, ?_⟩) | ((with_reducible refine gate_callee (f := 24) rfl ?_); refine goesL_ (some 117) rfl rfl Tryz.func24 (by kernel_rfl) rfl #[.int .u64 9223372036854775807, .int .u64 (IntKind.u64.wrap (a2))] rfl (by (try simp only [List.map_toArray, List.map_cons, List.map_nil]); first | done | rfl | (simp only [List.length_drop, List.length_take]; rfl)) ?_; (with_reducible refine (bits_Mul64.calls 9223372036854775807 (IntKind.u64.wrap (a2)) t289 t290 _ A28.out).mono ?_); rintro e w' ⟨rfl, ⟨nd, rfl⟩⟩; refine ⟨_, rfl, ?_⟩))
                    go_ret
                    exact ⟨by first | rfl | (simp [errW_none, errW_some] <;> rfl) | (simp [*, errW_none, errW_some] <;> rfl), by repeat (first | (with_reducible first | exact HB.out | apply below_alloc | apply pw_below_drewN | apply below_drew1) | exact HB.out)⟩
                  · rw [if_neg c32] at H
                    have c32b0 : (t289 == t283) = false := beq_eq_false_iff_ne.mpr c32
                    have c32b1 : (t289 != t283) = true := bne_iff_ne.mpr c32
                    obtain rfl := Option.some.inj H
                    go_wp2_with (first | ((with_reducible refine gate_callee (f := 24) rfl ?_); refine goesL_ (some 46) rfl rfl Tryz.func24 (by kernel_rfl) rfl #[.int .u64 (IntKind.u64.wrap (a0)), .int .u64 (IntKind.u64.wrap (a1))] rfl (by (try simp only [List.map_toArray, List.map_cons, List.map_nil]); first | done | rfl | (simp only [List.length_drop, List.length_take]; rfl)) ?_; (with_reducible refine (bits_Mul64.calls (IntKind.u64.wrap (a0)) (IntKind.u64.wrap (a1)) t283 t284 _ A13.out).mono ?_); rintro e w' ⟨rfl, ⟨nd, rfl⟩⟩; refine ⟨_, rfl, ?_⟩) | ((with_reducible refine gate_callee (f := 24) rfl ?_); refine goesL_ (some 117) rfl rfl Tryz.func24 (by kernel_rfl) rfl #[.int .u64 9223372036854775807, .int .u64 (IntKind.u64.wrap (a2))] rfl (by (try simp only [List.map_toArray, List.map_cons, List.map_nil]); first | done | rfl | (simp only [List.length_drop, List.length_take]; rfl)) ?_; (with_reducible refine (bits_Mul64.calls 9223372036854775807 (IntKind.u64.wrap (a2)) t289 t290 _ A28.out).mono ?_); rintro e w' ⟨rfl, ⟨nd, rfl⟩⟩; refine ⟨_, rfl, ?_⟩))
                    go_ret
                    exact ⟨by first | rfl | (simp [errW_none, errW_some] <;> rfl) | (simp [*, errW_none, errW_some] <;> rfl), by repeat (first | (with_reducible first | exact HB.out | apply below_alloc | apply pw_below_drewN | apply below_drew1) | exact HB.out)⟩
              · rw [if_neg c30] at H
                have c30b0 : (t282 == 7) = false := beq_eq_false_iff_ne.mpr c30
                have c30b1 : (t282 != 7) = true := bne_iff_ne.mpr c30
                obtain rfl := Option.some.inj H
                go_wp2_with (first | ((with_reducible refine gate_callee (f := 24) rfl ?_); refine goesL_ (some 46) rfl rfl Tryz.func24 (by kernel_rfl) rfl #[.int .u64 (IntKind.u64.wrap (a0)), .int .u64 (IntKind.u64.wrap (a1))] rfl (by (try simp only [List.map_toArray, List.map_cons, List.map_nil]); first | done | rfl | (simp only [List.length_drop, List.length_take]; rfl)) ?_; (with_reducible refine (bits_Mul64.calls (IntKind.u64.wrap (a0)) (IntKind.u64.wrap (a1)) t283 t284 _ A13.out).mono ?_); rintro e w' ⟨rfl, ⟨nd, rfl⟩⟩; refine ⟨_, rfl, ?_⟩) | ((with_reducible refine gate_callee (f := 24) rfl ?_); refine goesL_ (some 117) rfl rfl Tryz.func24 (by kernel_rfl) rfl #[.int .u64 9223372036854775807, .int .u64 (IntKind.u64.wrap (a2))] rfl (by (try simp only [List.map_toArray, List.map_cons, List.map_nil]); first | done | rfl | (simp only [List.length_drop, List.length_take]; rfl)) ?_; (with_reducible refine (bits_Mul64.calls 9223372036854775807 (IntKind.u64.wrap (a2)) t289 t290 _ A28.out).mono ?_); rintro e w' ⟨rfl, ⟨nd, rfl⟩⟩; refine ⟨_, rfl, ?_⟩))
                go_ret
                exact ⟨by first | rfl | (simp [errW_none, errW_some] <;> rfl) | (simp [*, errW_none, errW_some] <;> rfl), by repeat (first | (with_reducible first | exact HB.out | apply below_alloc | apply pw_below_drewN | apply below_drew1) | exact HB.out)⟩
            · rw [if_neg c29] at H
              have c29b0 : (t281 == 0) = false := beq_eq_false_iff_ne.mpr c29
              have c29b1 : (t281 != 0) = true := bne_iff_ne.mpr c29
              obtain rfl := Option.some.inj H
              go_wp2_with (first | ((with_reducible refine gate_callee (f := 24) rfl ?_); refine goesL_ (some 46) rfl rfl Tryz.func24 (by kernel_rfl) rfl #[.int .u64 (IntKind.u64.wrap (a0)), .int .u64 (IntKind.u64.wrap (a1))] rfl (by (try simp only [List.map_toArray, List.map_cons, List.map_nil]); first | done | rfl | (simp only [List.length_drop, List.length_take]; rfl)) ?_; (with_reducible refine (bits_Mul64.calls (IntKind.u64.wrap (a0)) (IntKind.u64.wrap (a1)) t283 t284 _ A13.out).mono ?_); rintro e w' ⟨rfl, ⟨nd, rfl⟩⟩; refine ⟨_, rfl, ?_⟩) | ((with_reducible refine gate_callee (f := 24) rfl ?_); refine goesL_ (some 117) rfl rfl Tryz.func24 (by kernel_rfl) rfl #[.int .u64 9223372036854775807, .int .u64 (IntKind.u64.wrap (a2))] rfl (by (try simp only [List.map_toArray, List.map_cons, List.map_nil]); first | done | rfl | (simp only [List.length_drop, List.length_take]; rfl)) ?_; (with_reducible refine (bits_Mul64.calls 9223372036854775807 (IntKind.u64.wrap (a2)) t289 t290 _ A28.out).mono ?_); rintro e w' ⟨rfl, ⟨nd, rfl⟩⟩; refine ⟨_, rfl, ?_⟩))
              go_ret
              exact ⟨by first | rfl | (simp [errW_none, errW_some] <;> rfl) | (simp [*, errW_none, errW_some] <;> rfl), by repeat (first | (with_reducible first | exact HB.out | apply below_alloc | apply pw_below_drewN | apply below_drew1) | exact HB.out)⟩
  · replace c5 := Bool.eq_false_iff.mpr c5
    subst c5
    have H1 : (some false) = some r := by rw [if_neg (show ¬ (false = true) by decide)] at H; exact H
    clear H
    have H := H1
    clear H1
    obtain rfl := Option.some.inj H
    go_enter Tryz.func9, Tryz.ntmps9
    go_wp2_with (first | ((with_reducible refine gate_callee (f := 16) rfl ?_); refine goesL_ (some 16) rfl rfl Tryz.func16 (by kernel_rfl) rfl #[] rfl (by (try simp only [List.map_toArray, List.map_cons, List.map_nil]); first | done | rfl | (simp only [List.length_drop, List.length_take]; rfl)) ?_; (with_reducible refine (bursarlaw03_known.calls k  false _ A4.out (Glob.below hG (by repeat (first | (with_reducible first | exact HB.out | apply below_alloc | apply pw_below_drewN | apply below_drew1) | exact HB.out)))).mono ?_); rintro e w33 ⟨rfl, hb⟩; refine ⟨_, rfl, ?_⟩; have n0_ := Aside0.mk (below_step (by repeat (first | (with_reducible first | exact HB.out | apply below_alloc | apply pw_below_drewN | apply below_drew1) | exact HB.out)) hb); clear HB; have HB := n0_; clear n0_; (try clear hb); (try clear hb2); (try clear hk); (try clear hi)))
    go_ret
    exact ⟨by first | rfl | (simp [errW_none, errW_some] <;> rfl) | (simp [*, errW_none, errW_some] <;> rfl), by repeat (first | (with_reducible first | exact HB.out | apply below_alloc | apply pw_below_drewN | apply below_drew1) | exact HB.out)⟩
end Go.Proofs.YtejgbdclhlolkaaGreatDoor.Q
namespace Go.Proofs.YtejgbdclhlolkaaGreatDoor.Q
open Go.RowKit Go.Proofs.YtejgbdclhlolkaaGreatDoorW.PrintWords Go.Proofs.YtejgbdclhlolkaaGreatDoorW.PrintLast
set_option linter.unusedVariables false
set_option linter.unusedSimpArgs false
set_option maxRecDepth 100000 in
theorem known_at : bursarlaw03_known.f 60 = some true := by decide +kernel
theorem known_ev : Ev (fun k => bursarlaw03_known.f k) true := Ev.of bursarlaw03_known.mono known_at
end Go.Proofs.YtejgbdclhlolkaaGreatDoor.Q
namespace Go.Proofs.DivLaw
theorem digit_is (v1 v0 u n q r : Nat) (hq : q * v1 + r = u) (h : q * v0 ≤ 4294967296 * r + n) (hge : (u * 4294967296 + n) / (v1 * 4294967296 + v0) ≤ q) (hv : 0 < v1) :
    q = (u * 4294967296 + n) / (v1 * 4294967296 + v0) := by
  refine Nat.le_antisymm ?_ hge
  rw [Nat.le_div_iff_mul_le (by omega)]
  have e : q * (v1 * 4294967296 + v0) = (q * v1) * 4294967296 + q * v0 := by rw [Nat.mul_add, Nat.mul_assoc]
  rw [e]
  generalize q * v1 = p at *
  generalize q * v0 = s at *
  omega
theorem digit_less (v1 v0 u n q r : Nat) (hq : q * v1 + r = u) (h : 4294967296 * r + n < q * v0) (hv : 0 < v1) :
    (u * 4294967296 + n) / (v1 * 4294967296 + v0) < q := by
  rw [Nat.div_lt_iff_lt_mul (by omega)]
  have e : q * (v1 * 4294967296 + v0) = (q * v1) * 4294967296 + q * v0 := by rw [Nat.mul_add, Nat.mul_assoc]
  rw [e]
  generalize q * v1 = p at *
  generalize q * v0 = s at *
  omega
theorem digit_big (v1 v0 u n : Nat) (hu : u < v1 * 4294967296 + v0) (hn : n < 4294967296) (hv : 0 < v1) :
    (u * 4294967296 + n) / (v1 * 4294967296 + v0) < 4294967296 := by
  rw [Nat.div_lt_iff_lt_mul (by omega)]
  omega
theorem guess_le (v1 v0 u : Nat) (hu : u < v1 * 4294967296 + v0) (h0 : v0 < 4294967296) (hv : 2147483648 ≤ v1) : u / v1 ≤ 4294967297 := by
  have : u / v1 < 4294967298 := by
    rw [Nat.div_lt_iff_lt_mul (by omega)]
    omega
  omega
theorem guess_ge (v1 v0 u n : Nat) (hn : n < 4294967296) (hv : 0 < v1) : (u * 4294967296 + n) / (v1 * 4294967296 + v0) ≤ u / v1 := by
  rw [Nat.le_div_iff_mul_le hv]
  have h := Nat.div_mul_le_self (u * 4294967296 + n) (v1 * 4294967296 + v0)
  generalize (u * 4294967296 + n) / (v1 * 4294967296 + v0) = q at *
  have e : q * (v1 * 4294967296 + v0) = (q * v1) * 4294967296 + q * v0 := by rw [Nat.mul_add, Nat.mul_assoc]
  rw [e] at h
  generalize q * v1 = p at *
  generalize q * v0 = s at *
  omega
theorem two_digits (V u n m q1 q0 : Nat) (hV : 0 < V) (h1 : q1 = (u * 4294967296 + n) / V) (h0 : q0 = ((u * 4294967296 + n - q1 * V) * 4294967296 + m) / V) (hm : m < 4294967296) :
    q1 * 4294967296 + q0 = (u * 18446744073709551616 + n * 4294967296 + m) / V ∧
    (u * 4294967296 + n - q1 * V) * 4294967296 + m - q0 * V = (u * 18446744073709551616 + n * 4294967296 + m) % V := by
  have hd1 : q1 * V ≤ u * 4294967296 + n := by rw [h1]; exact Nat.div_mul_le_self _ _
  have hd0 : q0 * V ≤ (u * 4294967296 + n - q1 * V) * 4294967296 + m := by rw [h0]; exact Nat.div_mul_le_self _ _
  have hl0 : (u * 4294967296 + n - q1 * V) * 4294967296 + m < q0 * V + V := by
    have := Nat.lt_div_mul_add hV (a := (u * 4294967296 + n - q1 * V) * 4294967296 + m)
    rw [← h0] at this
    exact this
  have e : (q1 * 4294967296 + q0) * V = (q1 * V) * 4294967296 + q0 * V := by rw [Nat.add_mul, Nat.mul_right_comm]
  have hN : u * 18446744073709551616 + n * 4294967296 + m = (q1 * 4294967296 + q0) * V + ((u * 4294967296 + n - q1 * V) * 4294967296 + m - q0 * V) := by
    rw [e]
    generalize q1 * V = p at *
    generalize q0 * V = s at *
    omega
  have hr : (u * 4294967296 + n - q1 * V) * 4294967296 + m - q0 * V < V := by
    generalize q1 * V = p at *
    generalize q0 * V = s at *
    omega
  constructor
  · rw [hN, Nat.mul_comm (q1 * 4294967296 + q0) V, Nat.mul_add_div hV, Nat.div_eq_of_lt hr, Nat.add_zero]
  · rw [hN, Nat.mul_comm (q1 * 4294967296 + q0) V, Nat.mul_add_mod, Nat.mod_eq_of_lt hr]
end Go.Proofs.DivLaw
namespace Go.Proofs.YtejgbdclhlolkaaGreatDoor.Q
open Go.RowKit Go.Proofs.YtejgbdclhlolkaaGreatDoorW.PrintWords Go.Proofs.YtejgbdclhlolkaaGreatDoorW.PrintLast Go.Proofs.YtejgbdclhlolkaaGreatDoorW.PrintMore Go.Proofs.DivLaw
set_option linter.unusedVariables false
set_option linter.unusedSimpArgs false
theorem u64w (x : Int) : IntKind.u64.wrap x = x % 18446744073709551616 := by simp [IntKind.wrap, IntKind.bits, IntKind.signed]
theorem u64i {x : Int} (h0 : 0 ≤ x) (h1 : x < 18446744073709551616) : IntKind.u64.wrap x = x := by rw [u64w]; omega
theorem u64n {n : Nat} (h1 : n < 18446744073709551616) : IntKind.u64.wrap (n : Int) = n := u64i (by omega) (by omega)
theorem w64i {i : Int} (h0 : -9223372036854775808 ≤ i) (h1 : i ≤ 9223372036854775807) : wrap64 i = i := by unfold wrap64; omega
theorem mul_bound {a b : Nat} (ha : a ≤ 4294967296) (hb : b < 4294967296) : a * b < 18446744073709551616 := by
  have : a * b ≤ 4294967296 * b := Nat.mul_le_mul_right _ ha
  omega
theorem rest_is (u n p y : Nat) (h : p ≤ u * 4294967296 + n) (hy : u * 4294967296 + n - p < 18446744073709551616) :
    IntKind.u64.wrap (IntKind.u64.wrap (IntKind.u64.wrap ((u : Int) * 4294967296) + (n : Int)) - IntKind.u64.wrap (p : Int)) = ((u * 4294967296 + n - p : Nat) : Int) := by
  rw [u64w, u64w, u64w, u64w]; omega
theorem div_l1 (V1 V0 R m s y q1 : Nat) (hy : y = V1 * 4294967296 + V0) (hV1 : 2147483648 ≤ V1) (hV1' : V1 < 4294967296) (hV0 : V0 < 4294967296) (hm : m < 4294967296) (hR : R < y) (hq1 : q1 < 4294967296) :
    ∀ q r : Nat, q * V1 + r = R → r < 4294967296 → (R * 4294967296 + m) / y ≤ q → q ≤ 4294967297 →
      Ev (fun k => bits_Div64.l1 k (y : Int) (s : Int) (V1 : Int) (V0 : Int) (m : Int) (q1 : Int) (r : Int) (R : Int) (q : Int))
        (((q1 * 4294967296 + (R * 4294967296 + m) / y : Nat) : Int), shr .u64 ((R * 4294967296 + m - (R * 4294967296 + m) / y * y : Nat) : Int) (s : Int)) := by
  intro q
  have hfin : ∀ g : Nat, g = (R * 4294967296 + m) / y → (if (0 : Int) ≤ (s : Int) then some (IntKind.u64.wrap ((IntKind.u64.wrap ((q1 : Int) * 4294967296)) + (g : Int)), shr .u64 (IntKind.u64.wrap ((IntKind.u64.wrap ((IntKind.u64.wrap ((R : Int) * 4294967296)) + (m : Int))) - (IntKind.u64.wrap ((g : Int) * (y : Int))))) (s : Int)) else none)
      = some (((q1 * 4294967296 + (R * 4294967296 + m) / y : Nat) : Int), shr .u64 ((R * 4294967296 + m - (R * 4294967296 + m) / y * y : Nat) : Int) (s : Int)) := by
    intro g hg
    have hle := Nat.div_mul_le_self (R * 4294967296 + m) y
    have hlt := Nat.lt_div_mul_add (a := R * 4294967296 + m) (b := y) (by omega)
    have hbig := digit_big V1 V0 R m (by omega) hm (by omega)
    rw [← hy] at hbig
    rw [← hg] at hle hlt hbig ⊢
    rw [if_pos (by omega), ← Int.natCast_mul, rest_is R m (g * y) y (by omega) (by omega), u64w, u64w]
    congr 2
    omega
  induction q with
  | zero =>
    intro r hq hr hge hle
    have hQ : 0 = (R * 4294967296 + m) / y := (Nat.le_zero.1 hge).symm
    refine Ev.step (f := fun k => bits_Div64.j4 k (y : Int) (s : Int) (V1 : Int) (V0 : Int) (m : Int) (q1 : Int) (r : Int) (R : Int) ((0 : Nat) : Int) false) (fun k => ?_) (Ev.step (f := fun _ => some _) (fun k => ?_) (Ev.now _))
    · simp only [bits_Div64.l1]
      rw [if_neg (by omega), u64w, u64w, u64w, decide_eq_false (by omega)]
    · simp only [bits_Div64.j4]
      rw [if_neg Bool.false_ne_true]
      exact hfin 0 hQ
  | succ q ih =>
    intro r hq hr hge hle
    by_cases ht : 4294967296 ≤ q + 1 ∨ 4294967296 * r + m < (q + 1) * V0
    · have hge' : (R * 4294967296 + m) / y ≤ q := by
        have : (R * 4294967296 + m) / y < q + 1 := by
          rcases ht with h | h
          · have := digit_big V1 V0 R m (by omega) hm (by omega)
            rw [← hy] at this; omega
          · have := digit_less V1 V0 R m (q + 1) r hq h (by omega)
            rw [← hy] at this; exact this
        omega
      rw [Nat.succ_mul] at hq
      refine Ev.step (f := fun k => bits_Div64.j4 k (y : Int) (s : Int) (V1 : Int) (V0 : Int) (m : Int) (q1 : Int) (r : Int) (R : Int) ((q + 1 : Nat) : Int) true) (fun k => ?_) ?_
      · simp only [bits_Div64.l1]
        by_cases h : 4294967296 ≤ q + 1
        · rw [if_pos (by omega)]
        · rw [if_neg (by omega)]
          have hb := mul_bound (a := q + 1) (b := V0) (by omega) hV0
          have h2 : 4294967296 * r + m < (q + 1) * V0 := by omega
          rw [← Int.natCast_mul, u64n hb, u64w, u64w, decide_eq_true (by omega)]
      · by_cases hbr : 4294967296 ≤ r + V1
        · have hQ : q = (R * 4294967296 + m) / y := by
            rw [hy] at hge' ⊢
            refine digit_is V1 V0 R m q (r + V1) (by omega) ?_ hge' (by omega)
            have := mul_bound (a := q) (b := V0) (by omega) hV0
            omega
          refine Ev.step (f := fun _ => some _) (fun k => ?_) (Ev.now _)
          simp only [bits_Div64.j4]
          rw [if_pos trivial, u64i (x := (r : Int) + (V1 : Int)) (by omega) (by omega), if_pos (by omega), u64i (x := ((q + 1 : Nat) : Int) - 1) (by omega) (by omega), show ((q + 1 : Nat) : Int) - 1 = (q : Int) by omega]
          exact hfin q hQ
        · refine Ev.step (f := fun k => bits_Div64.l1 k (y : Int) (s : Int) (V1 : Int) (V0 : Int) (m : Int) (q1 : Int) ((r + V1 : Nat) : Int) (R : Int) (q : Int)) (fun k => ?_) (ih (r + V1) (by omega) (by omega) hge' (by omega))
          simp only [bits_Div64.j4]
          rw [if_pos trivial, u64i (x := (r : Int) + (V1 : Int)) (by omega) (by omega), if_neg (by omega), u64i (x := ((q + 1 : Nat) : Int) - 1) (by omega) (by omega), show ((q + 1 : Nat) : Int) - 1 = (q : Int) by omega]
          rfl
    · have hQ : q + 1 = (R * 4294967296 + m) / y := by
        rw [hy] at hge ⊢
        exact digit_is V1 V0 R m (q + 1) r hq (by omega) hge (by omega)
      refine Ev.step (f := fun k => bits_Div64.j4 k (y : Int) (s : Int) (V1 : Int) (V0 : Int) (m : Int) (q1 : Int) (r : Int) (R : Int) ((q + 1 : Nat) : Int) false) (fun k => ?_) (Ev.step (f := fun _ => some _) (fun k => ?_) (Ev.now _))
      · simp only [bits_Div64.l1]
        have hb := mul_bound (a := q + 1) (b := V0) (by omega) hV0
        rw [if_neg (by omega), ← Int.natCast_mul, u64n hb, u64w, u64w, decide_eq_false (by omega)]
      · simp only [bits_Div64.j4]
        rw [if_neg Bool.false_ne_true]
        exact hfin (q + 1) hQ
theorem div_l0 {α : Type} (V1 V0 u n m s y : Nat) (hy : y = V1 * 4294967296 + V0) (hV1 : 2147483648 ≤ V1) (hV1' : V1 < 4294967296) (hV0 : V0 < 4294967296) (hn : n < 4294967296) (hu : u < y) (res : Int × Int)
    (hK : Ev (fun k => bits_Div64.j2 k (y : Int) (s : Int) (V1 : Int) (V0 : Int) (u : Int) (n : Int) (m : Int) (((u * 4294967296 + n) / y : Nat) : Int)) res) :
    ∀ q r : Nat, q * V1 + r = u → r < 4294967296 → (u * 4294967296 + n) / y ≤ q → q ≤ 4294967297 →
      Ev (fun k => bits_Div64.l0 k (y : Int) (s : Int) (V1 : Int) (V0 : Int) (u : Int) (n : Int) (m : Int) (q : Int) (r : Int)) res := by
  intro q
  induction q with
  | zero =>
    intro r hq hr hge hle
    have hQ : 0 = (u * 4294967296 + n) / y := (Nat.le_zero.1 hge).symm
    rw [← hQ] at hK
    refine Ev.step (f := fun k => bits_Div64.j1 k (y : Int) (s : Int) (V1 : Int) (V0 : Int) (u : Int) (n : Int) (m : Int) ((0 : Nat) : Int) (r : Int) false) (fun k => ?_) (Ev.step (fun k => ?_) hK)
    · simp only [bits_Div64.l0]
      rw [if_neg (by omega), u64w, u64w, u64w, decide_eq_false (by omega)]
    · simp only [bits_Div64.j1]
      rw [if_neg Bool.false_ne_true]
  | succ q ih =>
    intro r hq hr hge hle
    by_cases ht : 4294967296 ≤ q + 1 ∨ 4294967296 * r + n < (q + 1) * V0
    · have hge' : (u * 4294967296 + n) / y ≤ q := by
        have : (u * 4294967296 + n) / y < q + 1 := by
          rcases ht with h | h
          · have := digit_big V1 V0 u n (by omega) hn (by omega)
            rw [← hy] at this; omega
          · have := digit_less V1 V0 u n (q + 1) r hq h (by omega)
            rw [← hy] at this; exact this
        omega
      rw [Nat.succ_mul] at hq
      refine Ev.step (f := fun k => bits_Div64.j1 k (y : Int) (s : Int) (V1 : Int) (V0 : Int) (u : Int) (n : Int) (m : Int) ((q + 1 : Nat) : Int) (r : Int) true) (fun k => ?_) ?_
      · simp only [bits_Div64.l0]
        by_cases h : 4294967296 ≤ q + 1
        · rw [if_pos (by omega)]
        · rw [if_neg (by omega)]
          have hb := mul_bound (a := q + 1) (b := V0) (by omega) hV0
          have h2 : 4294967296 * r + n < (q + 1) * V0 := by omega
          rw [← Int.natCast_mul, u64n hb, u64w, u64w, decide_eq_true (by omega)]
      · by_cases hbr : 4294967296 ≤ r + V1
        · have hQ : q = (u * 4294967296 + n) / y := by
            rw [hy] at hge' ⊢
            refine digit_is V1 V0 u n q (r + V1) (by omega) ?_ hge' (by omega)
            have := mul_bound (a := q) (b := V0) (by omega) hV0
            omega
          rw [← hQ] at hK
          refine Ev.step (fun k => ?_) hK
          simp only [bits_Div64.j1]
          rw [if_pos trivial, u64i (x := (r : Int) + (V1 : Int)) (by omega) (by omega), if_pos (by omega), u64i (x := ((q + 1 : Nat) : Int) - 1) (by omega) (by omega), show ((q + 1 : Nat) : Int) - 1 = (q : Int) by omega]
        · refine Ev.step (f := fun k => bits_Div64.l0 k (y : Int) (s : Int) (V1 : Int) (V0 : Int) (u : Int) (n : Int) (m : Int) (q : Int) ((r + V1 : Nat) : Int)) (fun k => ?_) (ih (r + V1) (by omega) (by omega) hge' (by omega))
          simp only [bits_Div64.j1]
          rw [if_pos trivial, u64i (x := (r : Int) + (V1 : Int)) (by omega) (by omega), if_neg (by omega), u64i (x := ((q + 1 : Nat) : Int) - 1) (by omega) (by omega), show ((q + 1 : Nat) : Int) - 1 = (q : Int) by omega]
          rfl
    · have hQ : q + 1 = (u * 4294967296 + n) / y := by
        rw [hy] at hge ⊢
        exact digit_is V1 V0 u n (q + 1) r hq (by omega) hge (by omega)
      rw [← hQ] at hK
      refine Ev.step (f := fun k => bits_Div64.j1 k (y : Int) (s : Int) (V1 : Int) (V0 : Int) (u : Int) (n : Int) (m : Int) ((q + 1 : Nat) : Int) (r : Int) false) (fun k => ?_) (Ev.step (fun k => ?_) hK)
      · simp only [bits_Div64.l0]
        have hb := mul_bound (a := q + 1) (b := V0) (by omega) hV0
        rw [if_neg (by omega), ← Int.natCast_mul, u64n hb, u64w, u64w, decide_eq_false (by omega)]
      · simp only [bits_Div64.j1]
        rw [if_neg Bool.false_ne_true]
theorem div_j2 (V1 V0 u n m s y : Nat) (hy : y = V1 * 4294967296 + V0) (hV1 : 2147483648 ≤ V1) (hV1' : V1 < 4294967296) (hV0 : V0 < 4294967296) (hn : n < 4294967296) (hm : m < 4294967296) (hu : u < y) :
    Ev (fun k => bits_Div64.j2 k (y : Int) (s : Int) (V1 : Int) (V0 : Int) (u : Int) (n : Int) (m : Int) (((u * 4294967296 + n) / y : Nat) : Int))
      ((((u * 18446744073709551616 + n * 4294967296 + m) / y : Nat) : Int), shr .u64 (((u * 18446744073709551616 + n * 4294967296 + m) % y : Nat) : Int) (s : Int)) := by
  have hle := Nat.div_mul_le_self (u * 4294967296 + n) y
  have hlt := Nat.lt_div_mul_add (a := u * 4294967296 + n) (b := y) (by omega)
  have hbig := digit_big V1 V0 u n (by omega) hn (by omega)
  rw [← hy] at hbig
  have two := two_digits y u n m ((u * 4294967296 + n) / y) (((u * 4294967296 + n - (u * 4294967296 + n) / y * y) * 4294967296 + m) / y) (by omega) rfl rfl hm
  obtain ⟨q1, hq⟩ : ∃ q1, q1 = (u * 4294967296 + n) / y := ⟨_, rfl⟩
  rw [← hq] at hle hlt hbig two ⊢
  obtain ⟨R, hR⟩ : ∃ R, R = u * 4294967296 + n - q1 * y := ⟨_, rfl⟩
  rw [← hR] at two
  have hRy : R < y := by omega
  have hR1 : R / V1 * V1 + (R - R / V1 * V1) = R := by have := Nat.div_mul_le_self R V1; omega
  have hr : R - R / V1 * V1 < V1 := by have := Nat.lt_div_mul_add (a := R) (b := V1) (by omega); omega
  have hg := guess_ge V1 V0 R m hm (by omega)
  rw [← hy] at hg
  have hgl := guess_le V1 V0 R (by omega) hV0 hV1
  have key := div_l1 V1 V0 R m s y q1 hy hV1 hV1' hV0 hm hRy hbig (R / V1) (R - R / V1 * V1) hR1 (by omega) hg hgl
  rw [two.1, two.2] at key
  refine Ev.step (fun k => ?_) key
  simp only [bits_Div64.j2]
  have e1 : IntKind.u64.wrap (IntKind.u64.wrap (IntKind.u64.wrap ((u : Int) * 4294967296) + (n : Int)) - IntKind.u64.wrap ((q1 : Int) * (y : Int))) = (R : Int) := by
    rw [← Int.natCast_mul, rest_is u n (q1 * y) y hle (by omega), hR]
  rw [if_neg (by omega), e1, Int.tdiv_eq_ediv_of_nonneg (by omega), ← Int.natCast_ediv, u64n (n := R / V1) (by omega), ← Int.natCast_mul]
  have hle2 := Nat.div_mul_le_self R V1
  rw [u64n (n := R / V1 * V1) (by omega), u64i (by omega) (by omega), ← Int.natCast_sub hle2]
theorem and_mask (x : Nat) (h : x < 18446744073709551616) : Go.bits .and .u64 (x : Int) 4294967295 = ((x % 4294967296 : Nat) : Int) := by
  have h1 := (bits_nat .u64 64 (by decide) (fun n h0 h1 => by rw [u64w]; omega) x 4294967295 (by omega) (by decide)).1
  have e : x &&& 4294967295 = x % 4294967296 := Nat.and_two_pow_sub_one_eq_mod x 32
  rw [e] at h1
  exact h1
theorem or_join (a b s : Nat) (hb : b < 2 ^ s) (h : a * 2 ^ s + b < 18446744073709551616) : Go.bits .or .u64 ((a * 2 ^ s : Nat) : Int) (b : Int) = ((a * 2 ^ s + b : Nat) : Int) := by
  have h1 := (bits_nat .u64 64 (by decide) (fun n h0 h1 => by rw [u64w]; omega) (a * 2 ^ s) b (by omega) (by omega)).2
  have e : a * 2 ^ s ||| b = a * 2 ^ s + b := by rw [Nat.mul_comm, Nat.two_pow_add_eq_or_of_lt hb]
  rw [e] at h1
  exact h1
theorem shl_nat (x s : Nat) (hs : s ≤ 64) : shl .u64 (x : Int) (s : Int) = ((x * 2 ^ s % 18446744073709551616 : Nat) : Int) := by
  unfold shl
  have e : min (s : Int).toNat IntKind.u64.bits = s := by show min (s : Int).toNat 64 = s; omega
  rw [e, u64w]
  have e2 : (x : Int) * 2 ^ s = ((x * 2 ^ s : Nat) : Int) := by simp
  rw [e2]
  omega
theorem shr_nat (x s : Nat) (hs : s ≤ 64) : shr .u64 (x : Int) (s : Int) = ((x / 2 ^ s : Nat) : Int) := by
  unfold shr
  have e : min (s : Int).toNat IntKind.u64.bits = s := by show min (s : Int).toNat 64 = s; omega
  rw [e]
  have e2 : ((2 : Int) ^ s) = ((2 ^ s : Nat) : Int) := by simp
  rw [e2, ← Int.natCast_ediv]
theorem shift_sum (P T hi lo : Nat) (hPT : P * T = 18446744073709551616) (hT : 0 < T) :
    (hi * P + lo / T) * 18446744073709551616 + lo * P % 18446744073709551616 = P * (hi * 18446744073709551616 + lo) := by
  have e1 : lo * P % 18446744073709551616 = lo % T * P := by rw [← hPT, Nat.mul_comm P T, Nat.mul_mod_mul_right]
  have e2 := Nat.div_add_mod lo T
  rw [e1, ← hPT]
  generalize lo / T = a at *
  generalize lo % T = b at *
  rw [← e2]
  simp only [Nat.mul_add, Nat.add_mul]
  have : hi * P * (P * T) = P * (hi * (P * T)) := by rw [Nat.mul_comm hi P, Nat.mul_assoc]
  have : a * (P * T) = P * (T * a) := by rw [Nat.mul_comm a (P * T), Nat.mul_assoc]
  have : b * P = P * b := Nat.mul_comm b P
  omega
theorem pow_split (s : Nat) (hs : s ≤ 64) : 2 ^ s * 2 ^ (64 - s) = 18446744073709551616 := by
  rw [← Nat.pow_add, show s + (64 - s) = 64 by omega]
theorem div_ev (hi lo d : Nat) (hd : 0 < d) (hd64 : d < 18446744073709551616) (hhi : hi < d) (hlo : lo < 18446744073709551616) :
    Ev (fun k => bits_Div64.f k (hi : Int) (lo : Int) (d : Int)) ((((hi * 18446744073709551616 + lo) / d : Nat) : Int), (((hi * 18446744073709551616 + lo) % d : Nat) : Int)) := by
  by_cases h0 : hi = 0
  · subst h0
    refine Ev.congr (f := fun _ => some _) (fun k => ?_) (Ev.now _)
    unfold bits_Div64.f
    rw [if_neg (by omega), if_neg (by omega), if_pos (by omega), Int.tdiv_eq_ediv_of_nonneg (by omega), Int.tmod_eq_emod_of_nonneg (by omega), ← Int.natCast_ediv, ← Int.natCast_emod, u64n (Nat.lt_of_le_of_lt (Nat.div_le_self _ _) hlo)]
    simp
  · obtain ⟨hL1, hL2, hL3⟩ := Lib.bitLenAux_bounds 64 d (by omega) (by omega)
    have hL64 : Lib.bitLenAux 64 d ≤ 64 := by
      rcases Nat.lt_or_ge 64 (Lib.bitLenAux 64 d) with h | h
      · have := Nat.pow_le_pow_right (n := 2) (by decide) (show 64 ≤ Lib.bitLenAux 64 d - 1 by omega)
        omega
      · exact h
    have hLZ : bits_LeadingZeros64.f (d : Int) = some ((64 - Lib.bitLenAux 64 d : Nat) : Int) := by
      unfold bits_LeadingZeros64.f
      rw [if_pos ⟨by omega, by omega⟩]
      congr 1
      show (64 : Int) - (Lib.bitLenAux 64 (d : Int).toNat : Int) = _
      rw [Int.toNat_natCast]
      omega
    generalize Lib.bitLenAux 64 d = L at *
    obtain ⟨s, hs⟩ : ∃ s, s = 64 - L := ⟨_, rfl⟩
    rw [← hs] at hLZ
    have hs64 : s ≤ 63 := by omega
    have hPT := pow_split s (by omega)
    have hLs : 2 ^ (L - 1) * 2 ^ s = 9223372036854775808 := by rw [← Nat.pow_add, show L - 1 + s = 63 by omega]
    have hLs2 : 2 ^ L * 2 ^ s = 18446744073709551616 := by rw [← Nat.pow_add, show L + s = 64 by omega]
    have hy1 : 9223372036854775808 ≤ d * 2 ^ s := by rw [← hLs]; exact Nat.mul_le_mul_right _ hL2
    have hP : 0 < 2 ^ s := Nat.two_pow_pos s
    have hT : 0 < 2 ^ (64 - s) := Nat.two_pow_pos _
    have hy2 : d * 2 ^ s < 18446744073709551616 := by rw [← hLs2]; exact Nat.mul_lt_mul_of_pos_right hL3 hP
    have hloT : lo / 2 ^ (64 - s) < 2 ^ s := by rw [Nat.div_lt_iff_lt_mul hT, hPT]; exact hlo
    have hhy : hi * 2 ^ s + 2 ^ s ≤ d * 2 ^ s := by rw [← Nat.succ_mul]; exact Nat.mul_le_mul_right _ hhi
    have hsum := shift_sum (2 ^ s) (2 ^ (64 - s)) hi lo hPT hT
    have hor := or_join hi (lo / 2 ^ (64 - s)) s hloT (by omega)
    have hshl1 := shl_nat d s (by omega)
    have hshl2 := shl_nat hi s (by omega)
    have hshl3 := shl_nat lo s (by omega)
    have hshr1 := shr_nat lo (64 - s) (by omega)
    rw [Nat.mod_eq_of_lt hy2] at hshl1
    rw [Nat.mod_eq_of_lt (by omega)] at hshl2
    have hquo : (2 ^ s * (hi * 18446744073709551616 + lo)) / (d * 2 ^ s) = (hi * 18446744073709551616 + lo) / d := by rw [Nat.mul_comm d, Nat.mul_div_mul_left _ _ hP]
    have hrem : (2 ^ s * (hi * 18446744073709551616 + lo)) % (d * 2 ^ s) / 2 ^ s = (hi * 18446744073709551616 + lo) % d := by rw [Nat.mul_comm d, Nat.mul_mod_mul_left, Nat.mul_div_cancel_left _ hP]
    have hx : lo * 2 ^ s % 18446744073709551616 < 18446744073709551616 := Nat.mod_lt _ (by decide)
    obtain ⟨N, hN⟩ : ∃ N, N = hi * 18446744073709551616 + lo := ⟨_, rfl⟩
    obtain ⟨x, hxx⟩ : ∃ x, x = lo * 2 ^ s % 18446744073709551616 := ⟨_, rfl⟩
    obtain ⟨y, hyy⟩ : ∃ y, y = d * 2 ^ s := ⟨_, rfl⟩
    obtain ⟨u, huu⟩ : ∃ u, u = hi * 2 ^ s + lo / 2 ^ (64 - s) := ⟨_, rfl⟩
    rw [← hN] at hsum hquo hrem ⊢
    rw [← hxx] at hsum hshl3 hx
    rw [← hyy] at hy1 hy2 hhy hshl1 hquo hrem
    rw [← huu] at hsum hor
    have hu : u < y := by omega
    have hV1 : 2147483648 ≤ y / 4294967296 := by omega
    have hj := div_j2 (y / 4294967296) (y % 4294967296) u (x / 4294967296) (x % 4294967296) s y (Nat.div_add_mod' y 4294967296).symm hV1 (by omega) (by omega) (by omega) (by omega) hu
    rw [show u * 18446744073709551616 + x / 4294967296 * 4294967296 + x % 4294967296 = 2 ^ s * N by rw [Nat.add_assoc, Nat.div_add_mod' x 4294967296]; exact hsum, shr_nat _ s (by omega), hquo, hrem] at hj
    have hr1 : u / (y / 4294967296) * (y / 4294967296) + (u - u / (y / 4294967296) * (y / 4294967296)) = u := by have := Nat.div_mul_le_self u (y / 4294967296); omega
    have hr2 : u - u / (y / 4294967296) * (y / 4294967296) < y / 4294967296 := by have := Nat.lt_div_mul_add (a := u) (b := y / 4294967296) (by omega); omega
    have hg := guess_ge (y / 4294967296) (y % 4294967296) u (x / 4294967296) (by omega) (by omega)
    rw [Nat.div_add_mod' y 4294967296] at hg
    have hgl := guess_le (y / 4294967296) (y % 4294967296) u (by omega) (by omega) hV1
    have key := div_l0 (α := Unit) (y / 4294967296) (y % 4294967296) u (x / 4294967296) (x % 4294967296) s y (Nat.div_add_mod' y 4294967296).symm hV1 (by omega) (by omega) (by omega) hu _ hj (u / (y / 4294967296)) (u - u / (y / 4294967296) * (y / 4294967296)) hr1 (by omega) hg hgl
    refine Ev.congr (fun k => ?_) key
    unfold bits_Div64.f
    rw [if_neg (by omega), if_neg (by omega), if_neg (by omega), hLZ]
    simp only [Option.bind_some]
    have ey : ((y : Nat) : Int) / 4294967296 = ((y / 4294967296 : Nat) : Int) := by omega
    have ex : ((x : Nat) : Int) / 4294967296 = ((x / 4294967296 : Nat) : Int) := by omega
    rw [u64n (n := s) (by omega), show (64 : Int) - (s : Int) = ((64 - s : Nat) : Int) by omega, u64n (n := 64 - s) (by omega), hshl1, hshl2, hshl3, hshr1, hor, ey, ex, if_pos (by omega), if_pos (by omega), if_neg (by omega), and_mask y (by omega), and_mask x (by omega), Int.tdiv_eq_ediv_of_nonneg (by omega), ← Int.natCast_ediv, u64n (n := u / (y / 4294967296)) (by omega), ← Int.natCast_mul, u64n (n := u / (y / 4294967296) * (y / 4294967296)) (by omega), ← Int.natCast_sub (by omega), u64n (by omega)]
def ceilP (N d : Nat) : Int × Int := if (N + d - 1) / d ≤ 9223372036854775807 then ((((N + d - 1) / d : Nat) : Int), 0) else (0, 7)
theorem ceil_eq (N d : Nat) (hd : 0 < d) : (N + d - 1) / d = if 0 < N % d then N / d + 1 else N / d := by
  have h := Nat.div_add_mod N d
  have hm := Nat.mod_lt N hd
  generalize N / d = q at *
  generalize N % d = r at *
  subst h
  split
  · rw [show d * q + r + d - 1 = (r - 1) + d * (q + 1) by rw [Nat.mul_succ]; omega, Nat.add_mul_div_left _ _ hd, Nat.div_eq_of_lt (by omega)]; omega
  · rw [show d * q + r + d - 1 = (d - 1) + d * q by omega, Nat.add_mul_div_left _ _ hd, Nat.div_eq_of_lt (by omega)]; omega
theorem over_ev (hi lo d : Nat) (hd : 0 < d) (hd64 : d < 18446744073709551616) (hhi : hi < 18446744073709551616) (hlo : lo < 18446744073709551616) :
    Ev (fun k => quant_over.f k (hi : Int) (lo : Int) (d : Int)) (ceilP (hi * 18446744073709551616 + lo) d) := by
  by_cases h : d ≤ hi
  · have hbig : 18446744073709551616 ≤ (hi * 18446744073709551616 + lo + d - 1) / d := by
      rw [Nat.le_div_iff_mul_le hd]
      have : 18446744073709551616 * d ≤ 18446744073709551616 * hi := Nat.mul_le_mul_left _ h
      omega
    refine Ev.congr (f := fun _ => some _) (fun k => ?_) (Ev.now _)
    unfold quant_over.f ceilP
    rw [if_pos (by omega), if_neg (by omega)]
  · refine Ev.congr (fun k => by unfold quant_over.f; rw [if_neg (by omega)]) (Ev.bind (div_ev hi lo d hd hd64 (by omega) hlo) (Ev.congr (f := fun _ => some _) (fun k => ?_) (Ev.now _)))
    unfold ceilP
    rw [ceil_eq _ _ hd]
    have hq : (hi * 18446744073709551616 + lo) / d < 18446744073709551616 := by
      rw [Nat.div_lt_iff_lt_mul hd]
      have : 18446744073709551616 * (hi + 1) ≤ 18446744073709551616 * d := Nat.mul_le_mul_left _ (by omega)
      omega
    obtain ⟨q, hqq⟩ : ∃ q, q = (hi * 18446744073709551616 + lo) / d := ⟨_, rfl⟩
    obtain ⟨r, hrr⟩ : ∃ r, r = (hi * 18446744073709551616 + lo) % d := ⟨_, rfl⟩
    rw [← hqq] at hq
    rw [← hqq, ← hrr]
    clear hqq hrr
    simp only
    by_cases hr : 0 < r
    · rw [if_pos (by omega), if_pos hr]
      by_cases hz : q + 1 = 18446744073709551616
      · rw [show (q : Int) + 1 = 18446744073709551616 by omega, if_pos (by rw [u64w]; rfl), if_neg (by omega)]
      · rw [u64i (x := (q : Int) + 1) (by omega) (by omega), if_neg (by omega)]
        by_cases hb : q + 1 ≤ 9223372036854775807
        · rw [if_neg (by omega), if_pos hb, w64i (by omega) (by omega)]
          rfl
        · rw [if_pos (by omega), if_neg hb]
    · rw [if_neg (by omega), if_neg hr]
      by_cases hb : q ≤ 9223372036854775807
      · rw [if_neg (by omega), if_pos hb, w64i (by omega) (by omega)]
      · rw [if_pos (by omega), if_neg hb]
def scaleP (a b d : Int) : Int × Int := if a < 0 ∨ b < 0 ∨ d < 1 then (0, 1) else ceilP (a.toNat * b.toNat) d.toNat
theorem scale_ev (a b d : Int) (ha : a ≤ 9223372036854775807) (hb : b ≤ 9223372036854775807) (hd : d ≤ 9223372036854775807) : Ev (fun k => quant_Scale.f k a b d) (scaleP a b d) := by
  unfold scaleP
  by_cases h : a < 0 ∨ b < 0 ∨ d < 1
  · rw [if_pos h]
    refine Ev.congr (f := fun k => quant_Scale.j0 k a b d true) (fun k => ?_) (Ev.step (f := fun _ => some _) (fun k => ?_) (Ev.now _))
    · unfold quant_Scale.f
      by_cases h1 : a < 0
      · rw [if_pos h1]
      · rw [if_neg h1]
        by_cases h2 : b < 0
        · rw [if_pos h2]
        · rw [if_neg h2, decide_eq_true (by omega)]
    · simp only [quant_Scale.j0]
      rw [if_pos trivial]
  · rw [if_neg h]
    obtain ⟨x, rfl⟩ : ∃ x : Nat, a = x := ⟨a.toNat, by omega⟩
    obtain ⟨y, rfl⟩ : ∃ y : Nat, b = y := ⟨b.toNat, by omega⟩
    obtain ⟨z, rfl⟩ : ∃ z : Nat, d = z := ⟨d.toNat, by omega⟩
    simp only [Int.toNat_natCast]
    have hxy : x * y < 18446744073709551616 * 18446744073709551616 := Nat.lt_of_le_of_lt (Nat.mul_le_mul_left x (show y ≤ 18446744073709551616 by omega)) (Nat.mul_lt_mul_of_pos_right (by omega) (by decide))
    have hov := over_ev (x * y / 18446744073709551616) (x * y % 18446744073709551616) z (by omega) (by omega) (by omega) (by omega)
    rw [show x * y / 18446744073709551616 * 18446744073709551616 + x * y % 18446744073709551616 = x * y by omega] at hov
    refine Ev.congr (f := fun k => quant_Scale.j0 k (x : Int) (y : Int) (z : Int) false) (fun k => ?_) (Ev.step (f := fun k => (quant_over.f k ((x * y / 18446744073709551616 : Nat) : Int) ((x * y % 18446744073709551616 : Nat) : Int) (z : Int)).bind fun bt => some (bt.1, bt.2)) (fun k => ?_) (Ev.bind hov (Ev.now _)))
    · unfold quant_Scale.f
      rw [if_neg (by omega), if_neg (by omega), decide_eq_false (by omega)]
    · simp only [quant_Scale.j0]
      rw [if_neg Bool.false_ne_true, u64n (n := x) (by omega), u64n (n := y) (by omega), u64n (n := z) (by omega)]
      have hm : bits_Mul64.f (x : Int) (y : Int) = some (((x * y / 18446744073709551616 : Nat) : Int), ((x * y % 18446744073709551616 : Nat) : Int)) := by
        unfold bits_Mul64.f
        rw [if_pos ⟨by omega, by omega, by omega, by omega⟩, ← Int.natCast_mul]
        rfl
      rw [hm]
      rfl
end Go.Proofs.YtejgbdclhlolkaaGreatDoor.Q
namespace Go.Proofs.YtejgbdclhlolkaaGreatDoor.Pure
open Go.RowKit Go.Proofs.YtejgbdclhlolkaaGreatDoorW.PrintWords Go.Proofs.YtejgbdclhlolkaaGreatDoorW.PrintLast Go.Proofs.YtejgbdclhlolkaaGreatDoor.Q
set_option linter.unusedVariables false
set_option linter.unusedSimpArgs false
theorem in64s {a : Int} (h : (Lit.int .i64 a).wf = true) : -9223372036854775808 ≤ a ∧ a ≤ 9223372036854775807 := by
  simp only [Lit.wf, IntKind.min, IntKind.max, IntKind.signed, IntKind.bits, Bool.and_eq_true, decide_eq_true_eq, if_true] at h
  omega
theorem mul64_at (x y : Nat) (hx : x < 18446744073709551616) (hy : y < 18446744073709551616) : bits_Mul64.f (IntKind.u64.wrap (x : Int)) (IntKind.u64.wrap (y : Int)) = some (((x * y / 18446744073709551616 : Nat) : Int), ((x * y % 18446744073709551616 : Nat) : Int)) := by
  rw [u64n hx, u64n hy]
  unfold bits_Mul64.f
  rw [if_pos ⟨by omega, by omega, by omega, by omega⟩, ← Int.natCast_mul]
  rfl
theorem QuantScales (a b d : Int) (ha : (Lit.int .i64 a).wf = true) (hb : (Lit.int .i64 b).wf = true) (hd : (Lit.int .i64 d).wf = true) : ∃ k, bursarlaw03_QuantScales.f k a b d = some true := by
  have h1 := in64s ha
  have h2 := in64s hb
  have h3 := in64s hd
  refine Ev.rounds ?_
  refine Ev.bind known_ev (Ev.congr (fun k => if_pos rfl) (Ev.bind (scale_ev a b d h1.2 h2.2 h3.2) ?_))
  unfold scaleP
  by_cases h : a < 0 ∨ b < 0 ∨ d < 1
  · rw [if_pos h]
    refine Ev.congr (f := fun k => bursarlaw03_QuantScales.j0 k a b d 0 1 true) (fun k => ?_) (Ev.step (f := fun _ => some true) (fun k => ?_) (Ev.now _))
    · by_cases h4 : a < 0
      · rw [if_pos h4]
      · rw [if_neg h4]
        by_cases h5 : b < 0
        · rw [if_pos h5]
        · rw [if_neg h5, decide_eq_true (by omega)]
    · simp only [bursarlaw03_QuantScales.j0]
      rw [if_pos trivial, if_pos trivial]
      rfl
  · rw [if_neg h]
    obtain ⟨x, rfl⟩ : ∃ x : Nat, a = x := ⟨a.toNat, by omega⟩
    obtain ⟨y, rfl⟩ : ∃ y : Nat, b = y := ⟨b.toNat, by omega⟩
    obtain ⟨z, rfl⟩ : ∃ z : Nat, d = z := ⟨d.toNat, by omega⟩
    simp only [Int.toNat_natCast]
    have hz : 0 < z := by omega
    have hq1 := Nat.div_mul_le_self (x * y + z - 1) z
    have hq2 := Nat.lt_div_mul_add (a := x * y + z - 1) (b := z) hz
    have hm1 := mul64_at x y (by omega) (by omega)
    obtain ⟨N, hN⟩ : ∃ N, N = x * y := ⟨_, rfl⟩
    rw [← hN] at hq1 hq2 hm1 ⊢
    unfold ceilP
    obtain ⟨q, hq⟩ : ∃ q, q = (N + z - 1) / z := ⟨_, rfl⟩
    rw [← hq] at hq1 hq2 ⊢
    by_cases hmax : q ≤ 9223372036854775807
    · rw [if_pos hmax]
      refine Ev.congr (f := fun k => bursarlaw03_QuantScales.j0 k x y z (q : Int) 0 false) (fun k => by rw [if_neg (by omega), if_neg (by omega), decide_eq_false (by omega)]) ?_
      have hm2 := mul64_at q z (by omega) (by omega)
      have hen : N ≤ q * z := by omega
      have hlow : q ≠ 0 → q * z - z < N := by
        intro h0
        have : z ≤ q * z := Nat.le_mul_of_pos_left z (by omega)
        omega
      have hz0 : q = 0 → N = 0 := by
        intro h0
        rw [h0, Nat.zero_mul] at hen
        omega
      refine Ev.step (f := fun k => bursarlaw03_QuantScales.j1 k (z : Int) (q : Int) ((N / 18446744073709551616 : Nat) : Int) ((N % 18446744073709551616 : Nat) : Int) true) (fun k => ?_) (Ev.step (f := fun k => bursarlaw03_QuantScales.j2 k (z : Int) (q : Int) ((N / 18446744073709551616 : Nat) : Int) ((N % 18446744073709551616 : Nat) : Int) ((q : Int) == 0)) (fun k => ?_) ?_)
      · simp only [bursarlaw03_QuantScales.j0]
        rw [if_neg Bool.false_ne_true, hm1, Option.bind_some]
        rw [if_pos trivial, hm2, Option.bind_some]
        generalize q * z = p at *
        by_cases h4 : N / 18446744073709551616 < p / 18446744073709551616
        · rw [if_pos (by omega)]
        · rw [if_neg (by omega), if_pos (by omega), decide_eq_true (by omega)]
      · simp only [bursarlaw03_QuantScales.j1]
        rw [if_neg (by omega), if_pos trivial]
      · by_cases h0 : q = 0
        · have hN0 := hz0 h0
          subst h0
          rw [hN0, Nat.zero_div, Nat.zero_mod]
          refine Ev.step (f := fun _ => some true) (fun k => ?_) (Ev.now _)
          simp [bursarlaw03_QuantScales.j2]
        · have hm3 := mul64_at (q - 1) z (by omega) (by omega)
          rw [Nat.sub_mul, Nat.one_mul] at hm3
          have hlow := hlow h0
          refine Ev.step (f := fun _ => some true) (fun k => ?_) (Ev.now _)
          rw [show ((q : Int) == 0) = false from beq_eq_false_iff_ne.2 (by omega)]
          simp only [bursarlaw03_QuantScales.j2]
          rw [if_neg Bool.false_ne_true, show wrap64 ((q : Int) - 1) = ((q - 1 : Nat) : Int) by unfold wrap64; omega, hm3, Option.bind_some]
          generalize q * z - z = p at *
          by_cases h4 : p / 18446744073709551616 < N / 18446744073709551616
          · rw [if_pos (by omega)]
          · rw [if_neg (by omega), if_pos (by omega), decide_eq_true (by omega)]
    · rw [if_neg hmax]
      refine Ev.congr (f := fun k => bursarlaw03_QuantScales.j0 k x y z 0 7 false) (fun k => by rw [if_neg (by omega), if_neg (by omega), decide_eq_false (by omega)]) ?_
      obtain ⟨M, hM⟩ : ∃ M : Nat, M = 9223372036854775807 := ⟨_, rfl⟩
      have eM : (9223372036854775807 : Int) = (M : Int) := by omega
      have hM1 : M < 18446744073709551616 := by omega
      have hm2 := mul64_at M z hM1 (by omega)
      have hlow : M * z < N := by
        have : (M + 1) * z ≤ q * z := Nat.mul_le_mul_right z (by omega)
        rw [Nat.succ_mul] at this
        omega
      refine Ev.step (f := fun _ => some true) (fun k => ?_) (Ev.now _)
      simp only [bursarlaw03_QuantScales.j0]
      rw [if_neg Bool.false_ne_true, hm1, Option.bind_some]
      rw [if_neg (show ¬ ((7 : Int) = 0) by omega)]
      have e : bits_Mul64.f (M : Int) (IntKind.u64.wrap (z : Int)) = some (((M * z / 18446744073709551616 : Nat) : Int), ((M * z % 18446744073709551616 : Nat) : Int)) := by
        rw [u64n hM1] at hm2
        exact hm2
      rw [eM, e, Option.bind_some]
      clear e hm2 eM
      generalize M * z = p at *
      rw [if_pos trivial, if_pos trivial]
      by_cases h4 : p / 18446744073709551616 < N / 18446744073709551616
      · rw [if_pos (by omega)]
      · rw [if_neg (by omega), if_pos (by omega), decide_eq_true (by omega)]
end Go.Proofs.YtejgbdclhlolkaaGreatDoor.Pure
namespace Go.Proofs.YtejgbdclhlolkaaGreatDoor.Q
open Go.RowKit Go.Lib Go.ChangeShapes Go.Proofs.YtejgbdclhlolkaaGreatDoorW.PrintWords Go.Proofs.YtejgbdclhlolkaaGreatDoorW.PrintLast
set_option linter.unusedVariables false
set_option linter.unusedSimpArgs false
theorem laid_one {P : Program} {w : World} {l : List (String × DataW Unit)} {n : String} {d : DataW Unit} (h : laidMetH P l w) (hl : (l.filter fun x => x.1 == n) = [(n, d)]) (hd : d.handleName? = none) : laidMet P [(n, d)] w := by
  have h1 := h.filter (fun x => x.1 == n)
  rw [hl] at h1
  have h2 := (laidMetH_iff.1 h1).1
  have e : ([(n, d)] : List (String × DataW Unit)).filter (fun x => x.2.handleName?.isNone) = [(n, d)] := by simp [List.filter_cons, hd]
  rw [e] at h2
  exact h2
theorem struct_si {H : Type} {enc : TypeId × Value → H} {P : Program} {w : World} {base : Nat} {sp : Nat → Bool} {held : Bool} {fuel : Nat} {t : TypeId} {f0 f1 : Field} {k : IntKind} {cs : List Value} {l : List UInt8} {v : Int} {p : List MemPlace}
    (ht : P.underlying t = some (.struct #[f0, f1])) (h0 : P.underlying f0.type = some .string) (h1 : P.underlying f1.type = some (.int k)) (o0 : f0.offset = 0) (o1 : f1.offset = 1) (c0 : P.cellsOf f0.type = 1) (c1 : P.cellsOf f1.type = 1) (c : P.cellsOf t = 2)
    (h : DataW.trod enc P w base sp held fuel t cs = some (.agg [.lit (.string l), .lit (.int k v)], p)) : cs = [.string ⟨l.toArray⟩, .int k v] := by
  obtain ⟨y0, y1, n, hx, hl, e0, e1⟩ := trod_struct2 ht h
  rw [o0, c0] at e0
  rw [o1, c1] at e1
  rw [c] at hl
  injection hx with hx _
  injection hx with hx
  injection hx with hx0 hx
  injection hx with hx1 _
  match cs, hl with
  | [a, b], _ =>
    simp only [List.drop_zero, List.take_succ_cons, List.take_zero, List.drop_succ_cons] at e0 e1
    obtain ⟨s, hs, rfl, _⟩ := DataW.trod_string h0 e0
    obtain ⟨z, hz, rfl, _⟩ := DataW.trod_int h1 e1
    injection hs with hs _
    injection hz with hz _
    subst hs hz
    simp only [DataW.lit.injEq, Lit.string.injEq, Lit.int.injEq, true_and] at hx0 hx1
    subst hx0 hx1
    rfl
theorem arr_at {H : Type} {enc : TypeId × Value → H} {P : Program} {w : World} {base : Nat} {sp : Nat → Bool} {held : Bool} {fuel : Nat} {t e : TypeId} {n : Nat} {cs : List Value} {ds : List (DataW H)} {p : List MemPlace}
    (ht : P.underlying t = some (.array n e)) (h : DataW.trod enc P w base sp held fuel t cs = some (.agg ds, p)) (i : Nat) (hi : i < n) : ∃ f d q, ds[i]? = some d ∧ DataW.trod enc P w base sp held f e ((cs.drop (i * P.cellsOf e)).take (P.cellsOf e)) = some (d, q) := by
  cases fuel with
  | zero => simp [DataW.trod] at h
  | succ fuel =>
    simp only [DataW.trod, ht] at h
    split at h
    · obtain ⟨xs, hm, hx⟩ := Option.map_eq_some_iff.1 h
      injection hx with hx _
      injection hx with hx
      obtain ⟨b, hb, hf⟩ := mapM_at hm i i (by simp [hi])
      exact ⟨fuel, b.1, b.2, by rw [← hx]; simp [hb], hf⟩
    · cases h
theorem units_laid {w : World} (h : laidMet Tryz.prog [("bursar/quant.units", Rows.laid_bursar_quant_units)] w) : ∀ j x, unitCells[j]? = some x → w.cell? ⟨1, j, none⟩ = some x := by
  obtain ⟨ps, ⟨g', t', cs, fuel, p, q, hg', ht', hvar, hd, _, _⟩, _⟩ := h
  obtain rfl : g' = 1 := Option.some.inj (hg'.symm.trans (by kernel_rfl))
  obtain rfl : t' = 67 := Option.some.inj (ht'.symm.trans (by kernel_rfl))
  intro j x hx
  rw [World.var?_cell hg' hvar j]
  have hj : j < 24 := (List.getElem?_eq_some_iff.1 hx).1
  obtain ⟨f, d, q', hd1, hd2⟩ := arr_at Tryz.underlying67 hd (j / 2) (by omega)
  rw [show Tryz.prog.cellsOf 66 = 2 by kernel_rfl] at hd2
  have key : ∀ (l : List UInt8) (v : Int), d = .agg [.lit (.string l), .lit (.int .u64 v)] → ((cs.toList.drop (j / 2 * 2)).take 2) = [.string ⟨l.toArray⟩, .int .u64 v] := fun l v e => by
    subst e
    exact struct_si Tryz.underlying66 Tryz.underlying9 Tryz.underlying36 rfl rfl (by kernel_rfl) (by kernel_rfl) (by kernel_rfl) hd2
  have get : ∀ (a b : Value), ((cs.toList.drop (j / 2 * 2)).take 2) = [a, b] → cs[j]? = if j % 2 = 0 then some a else some b := fun a b e => by
    have e1 : ((cs.toList.drop (j / 2 * 2)).take 2)[j % 2]? = [a, b][j % 2]? := by rw [e]
    rw [List.getElem?_take_of_lt (by omega), List.getElem?_drop, show j / 2 * 2 + j % 2 = j by omega, Array.getElem?_toList] at e1
    rw [e1]
    obtain h | h : j % 2 = 0 ∨ j % 2 = 1 := by omega
    · rw [h]; rfl
    · rw [h]; rfl
  obtain rfl | rfl | rfl | rfl | rfl | rfl | rfl | rfl | rfl | rfl | rfl | rfl | rfl | rfl | rfl | rfl | rfl | rfl | rfl | rfl | rfl | rfl | rfl | rfl : j = 0 ∨ j = 1 ∨ j = 2 ∨ j = 3 ∨ j = 4 ∨ j = 5 ∨ j = 6 ∨ j = 7 ∨ j = 8 ∨ j = 9 ∨ j = 10 ∨ j = 11 ∨ j = 12 ∨ j = 13 ∨ j = 14 ∨ j = 15 ∨ j = 16 ∨ j = 17 ∨ j = 18 ∨ j = 19 ∨ j = 20 ∨ j = 21 ∨ j = 22 ∨ j = 23 := by omega
  all_goals
    rw [get _ _ (key _ _ (Option.some.inj hd1).symm)]
    exact hx
theorem tab_laid {w : World} (h : laidMet Tryz.prog [("internal/strconv.uint64pow10", Rows.laid_internal_strconv_uint64pow10)] w) : Lib.TabIs Tryz.prog w "internal/strconv.uint64pow10" .u64 Lib.pow10Tab :=
  Lib.tabIs_of_head (g := 4) (t := 130) (e := 36) (n := 20) (by kernel_rfl) (by kernel_rfl) Tryz.underlying130 Tryz.underlying36 (by kernel_rfl) (by kernel_rfl) h
theorem glob_of {W : World} (hsh : W.ShapedOpen Tryz.prog) (h : laidMetH Tryz.prog Rows.quantSumsRow.laid W) : Glob W :=
  ⟨Tryz.laysM146.s1_3 W hsh, tab_laid (laid_one h rfl rfl), units_laid (laid_one h rfl rfl)⟩
end Go.Proofs.YtejgbdclhlolkaaGreatDoor.Q
namespace Go.Proofs.YtejgbdclhlolkaaGreatDoor.quantScales
open Go.ChangeShapes Go.WideShapes Go.ChangeAt Go.RowKit
open Go.ChangeMaps (open_string shut_string)
set_option linter.unusedVariables false
set_option linter.unusedSimpArgs false
theorem own : ownKnob Tryz.prog.godebug = none := by kernel_rfl
set_option maxRecDepth 100000 in
theorem contract (H : Type) (enc : TypeId × Value → H) (W : World) (base : Nat) (args : Array Value) (ds gs : List (DataW H)) (before : List MemPlace)
    (hval0 : ∀ (j : Nat) t v, Tryz.f9.params[j]? = some t → args[j]? = some v → Value.okWide Tryz.prog W .any base t v)
    (hW : DataW.Whole enc Tryz.prog Tryz.f9.params.toList Rows.quantScalesSpec.vars false W args.toList ds gs before)
    (hsz0 : (DataW.weightsEach Tryz.prog (Tryz.f9.params.toList ++ (OpenSpec.ofChange Rows.quantScalesSpec).bare.plain.varTypes Tryz.prog) (ds ++ gs)).all (· ≤ reachBytes) = true)
    (hsh : W.ShapedOpen Tryz.prog)
    (hl : laidMetH Tryz.prog Rows.quantScalesRow.laid W)
    : Calls Tryz.prog 9 args W fun e W' => ∃ v, e = .returned v ∧ Rows.quantScalesSpec.post enc Tryz.prog Tryz.f9 false true false false W args v W' := by
  have hsz : (DataW.weightsEach Tryz.prog (Tryz.f9.params.toList ++ Rows.quantScalesSpec.plain.varTypes Tryz.prog) (ds ++ gs)).all (· ≤ reachBytes) = true := hsz0
  have hval : ∀ (j : Nat) t v, Tryz.f9.params[j]? = some t → args[j]? = some v → Value.okWide Tryz.prog W .any base t v := hval0
  have hW' := hW
  obtain ⟨p, q, hA0, hV, rfl, hfz, hnd⟩ := hW
  have hA : DataW.TrodAll enc Tryz.prog W 0 (fun _ => true) true Tryz.f9.params.toList args.toList ds p := hA0
  rw [Tryz.params9] at hA hval hsz
  obtain ⟨v0, vs0, d0, ds0, p0, q0, hargs, rfl, rfl, h0, r0⟩ := trodAll_cons hA
  obtain ⟨v1, vs1, d1, ds1, p1, q1, rfl, rfl, rfl, h1, r1⟩ := trodAll_cons r0
  obtain ⟨v2, vs2, d2, ds2, p2, q2, rfl, rfl, rfl, h2, r2⟩ := trodAll_cons r1
  obtain ⟨rfl, rfl, rfl⟩ := trodAll_nil r2
  obtain rfl : args = #[v0, v1, v2] := by cases args; simp_all
  obtain ⟨rfl, rfl⟩ := trodVars_none hV
  obtain ⟨a0, rfl, rfl, rfl, w0⟩ := open_int Tryz.underlying2 (hval 0 2 v0 rfl rfl) h0
  obtain ⟨a1, rfl, rfl, rfl, w1⟩ := open_int Tryz.underlying2 (hval 1 2 v1 rfl rfl) h1
  obtain ⟨a2, rfl, rfl, rfl, w2⟩ := open_int Tryz.underlying2 (hval 2 2 v2 rfl rfl) h2
  obtain ⟨k, hp⟩ := Pure.QuantScales a0 a1 a2 w0 w1 w2
  refine (Q.bursarlaw03_QuantScales.calls k a0 a1 a2 true W  hp (Q.glob_of hsh hl)).mono fun e W' ⟨he, bel⟩ => ?_
  subst he
  exact ⟨_, rfl, _, _, _, [], _, [], hW', trodAll_mk1 (shut_bool Tryz.underlying4 _), (trodAll_cons_mk (shut_int Tryz.underlying2 w0) (trodAll_cons_mk (shut_int Tryz.underlying2 w1) (trodAll_cons_mk (shut_int Tryz.underlying2 w2) trodAll_mk0))), rfl, bel.frame _, fun h => by cases h⟩
noncomputable def tab1 : Obj → Obj
  | .cells _ t frozen => .cells (Go.Pinned.utf8FirstZ.map fun (n : Nat) => Value.int .u8 (n : Int)).toArray t frozen
  | o => o
noncomputable def laidWorld (os : Os) : World :=
  { World.doorLaid Tryz.prog 94 os with heap := (World.doorLaid Tryz.prog 94 os).heap.modify 10 tab1 }
theorem laid_met (os : Os) : laidMet Tryz.prog Rows.quantScalesRow.laid ((laidWorld os).forCall (fun _ _ => 0) ⟨#[], #[.int .i64 0, .int .i64 0, .int .i64 0], []⟩).memory :=
  laidMet_of_run' 8 (by kernel_rfl) (by kernel_rfl)
theorem reads (os : Os) {H : Type} (enc : TypeId × Value → H) : ∃ places, DataW.whole enc Tryz.prog ((laidWorld os).forCall (fun _ _ => 0) ⟨#[], #[.int .i64 0, .int .i64 0, .int .i64 0], []⟩).memory Tryz.f9.params.toList Rows.quantScalesSpec.vars false (#[.int .i64 0, .int .i64 0, .int .i64 0] : Array Value).toList 8 = some ([.lit (.int .i64 0), .lit (.int .i64 0), .lit (.int .i64 0)], [], places) :=
  ⟨[], by kernel_rfl⟩
set_option maxRecDepth 100000 in
theorem lifted (os : Os) (started : os.Started) (H : Type) (enc : TypeId × Value → H) (F : Stop.Interp) :
    ReturnsInHanded {} Tryz.checked os 9 .any ((OpenSpec.ofChange Rows.quantScalesSpec).preRow enc Tryz.prog Tryz.f9 Rows.quantScalesRow.domain false Rows.quantScalesRow.laid) (((OpenSpec.ofChange Rows.quantScalesSpec).at F).post enc Tryz.prog Tryz.f9 false true false false) := by
  obtain ⟨places, hx⟩ := reads os enc
  refine returnsInHanded_of_row (C := Tryz.checked) (s := OpenSpec.ofChange Rows.quantScalesSpec) own started (by kernel_rfl) Tryz.func9
    (witness_row_at (enc := enc) (C := Tryz.checked) false (laidWorld os) #[.int .i64 0, .int .i64 0, .int .i64 0] rfl (by kernel_rfl) (by kernel_rfl) (by kernel_rfl)
      (OpenSpec.preRow_of_cond 8 hx (by kernel_rfl) (fun k hk => by cases hk) (by kernel_rfl) (laid_met os))) ?_
  intro W base args ds gs before hval hW _ hcond hsz hl hsh _
  exact contract H enc W base args ds gs before hval hW hsz hsh hl
theorem said : Rows.QuantScalesSaid :=
  OpenClaim.holds_of_cond 9 Tryz.f9 rfl rfl rfl rfl rfl rfl rfl ⟨rfl, rfl, rfl, rfl, rfl⟩ rfl rfl rfl rfl rfl (by kernel_rfl) Tryz.func9 (by kernel_rfl)
    (of_decide_eq_true (by kernel_rfl)) (by unfold Func.isWrapper; first | (rw [if_pos (by decide +kernel)]; kernel_rfl) | (rw [if_neg (by decide +kernel)]; exact ⟨rfl, rfl⟩))
    (fun os started H enc _ F => by rw [OpenClaim.pre_eq_preRow]; exact lifted os started H enc F)
theorem plain (f : FuncId) (fn : Func) (hf : Tryz.pinned.checked.prog.funcNamed "bursar/bursarlaw03.QuantScales" = some f) (hfn : Tryz.pinned.checked.prog.funcs[f]? = some fn) :
    true = Tryz.pinned.checked.prog.looks [] ∧ ∀ (j : Nat) t, fn.params[j]? = some t → Tryz.pinned.checked.prog.wantsStandIn t = false := by
  obtain rfl : f = 9 := Option.some.inj ((show Tryz.prog.funcNamed "bursar/bursarlaw03.QuantScales" = some 9 by kernel_rfl).symm.trans hf) |>.symm
  obtain rfl : fn = Tryz.f9 := (Option.some.inj (Tryz.func9.symm.trans hfn)).symm
  refine ⟨by kernel_rfl, fun j t ht => ?_⟩
  rw [Tryz.params9] at ht
  have hall : ∀ x ∈ [2, 2, 2], Tryz.prog.wantsStandIn x = false := by
    intro x hx; simp only [List.mem_cons, List.mem_nil_iff, or_false] at hx; rcases hx with rfl | rfl | rfl <;> kernel_rfl
  exact hall t (by simpa using Array.mem_of_getElem? ht)
theorem card : Rows.QuantScalesCardSaid :=
  Claim7.holds_tied_plain_at .later [] _ _ _ _ said (fun _ h => by cases h) (by kernel_rfl) (fun _ h => by cases h) quantScales_row_tie rfl ⟨rfl, rfl⟩ (by kernel_rfl) rfl plain (by kernel_rfl)
end Go.Proofs.YtejgbdclhlolkaaGreatDoor.quantScales
namespace Go.Proofs.YtejgbdclhlolkaaGreatDoor
theorem quantScales_holds : Rows.QuantScalesCardSaid := quantScales.card
end Go.Proofs.YtejgbdclhlolkaaGreatDoor
