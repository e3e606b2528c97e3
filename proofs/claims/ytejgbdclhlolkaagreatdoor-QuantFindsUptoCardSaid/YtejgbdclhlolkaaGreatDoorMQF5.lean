/- What the statement QuantFindsUptoCardSaid rests on, part 5 of 5: walks and plain laws; what of the printer's words it leans on. -/
import Derived.Test.YtejgbdclhlolkaaGreatDoorRows
import Derived.Test.YtejgbdclhlolkaaGreatDoorCards
import Derived.Test.YtejgbdclhlolkaaGreatDoorTie
import Derived.Test.YtejgbdclhlolkaaGreatDoorMQF3
import Derived.Test.YtejgbdclhlolkaaGreatDoorMQF4
import Derived.BigQuiet
import Derived.Deep.Slices
import Derived.ChangeArms
import Derived.ProofKit
import Derived.LaidSub
import Derived.Lib.LaidTab
import Derived.ChangeSame
import Derived.WalkKit
import Derived.OpenShut
import Derived.ShutString
import Derived.ChangeOld
import Derived.Below
import Derived.SizedLaws
import Derived.Deep.DeepHandedRow
import Derived.LaidMore
namespace Go.Proofs.YtejgbdclhlolkaaGreatDoor.Q
open Go.RowKit Go.Proofs.YtejgbdclhlolkaaGreatDoorW.PrintWords Go.Proofs.YtejgbdclhlolkaaGreatDoorW.PrintLast Go.Proofs.YtejgbdclhlolkaaGreatDoorW.PrintMore
attribute [local go_sem] max2_int min2_int max_two min_two max_three min_three max_four min_four   -- for this text's walks alone
set_option linter.unusedVariables false
set_option linter.unusedSimpArgs false
def bursarref03_Of.l0 : Nat → List (S57) → ByteArray → Int → Option (Int × Bool)
  | 0, _, _, _ => none
  | k + 1, x0, x1, x6 => if x6 < (x0.length : Int) then (if 0 ≤ x6 then (if ((rd_T57 x0 x6).f0).toList = x1.toList then (some ((rd_T57 x0 x6).f1, true)) else (bursarref03_Of.l0 k x0 x1 (wrap64 (x6 + 1)))) else (none)) else (some (0, false))
def bursarref03_Of.f (k : Nat) (l0 : List (S57)) (a1 : ByteArray) : Option (Int × Bool) := bursarref03_Of.l0 k l0 a1 0
theorem bursarref03_Of.mono_l : ∀ k, (∀ y0 y1 y2, LeO (bursarref03_Of.l0 k y0 y1 y2) (bursarref03_Of.l0 (k + 1) y0 y1 y2))
  | 0 => fun _ _ _ r h => by simp [bursarref03_Of.l0] at h
  | k + 1 => by
    have ih0 := bursarref03_Of.mono_l k
    · intro y0 y1 y2
      unfold bursarref03_Of.l0
      repeat' first
      | (with_reducible exact ih0 _ _ _)
      | (with_reducible exact LeO.refl _)
      | (with_reducible exact LeO.none _)
      | (with_reducible refine LeO.ite ?_ ?_)
      | (with_reducible refine LeO.bind ?_ (fun _ => ?_))
      | exact ih0 _ _ _
      | exact LeO.none _
      | refine LeO.ite ?_ ?_
      | refine LeO.bind ?_ (fun _ => ?_)
theorem bursarref03_Of.mono : ∀ a0 a1 k, LeO (bursarref03_Of.f k a0 a1) (bursarref03_Of.f (k + 1) a0 a1) := by
  intro a0 a1 k
  have ih0 := bursarref03_Of.mono_l k
  unfold bursarref03_Of.f
  repeat' first
      | (with_reducible exact ih0 _ _ _)
      | (with_reducible exact LeO.refl _)
      | (with_reducible exact LeO.none _)
      | (with_reducible refine LeO.ite ?_ ?_)
      | (with_reducible refine LeO.bind ?_ (fun _ => ?_))
      | exact ih0 _ _ _
      | exact LeO.none _
      | refine LeO.ite ?_ ?_
      | refine LeO.bind ?_ (fun _ => ?_)
set_option maxHeartbeats 8000000 in
set_option maxRecDepth 100000 in
theorem bursarref03_Of.calls (k : Nat) (A0 : Option Addr) (c0 : Nat) (l0 : List (S57)) (a1 : ByteArray) (r1 : Int) (r2 : Bool) (w : World) (hr0 : Kd.C k57 w A0 l0.length l0) (hc0 : l0.length ≤ c0) (h : bursarref03_Of.f k l0 a1 = some (r1, r2)) :
    Calls Tryz.prog 31 #[.slice A0 l0.length c0, .string a1] w fun e w' => e = .returned (.tuple #[.int .i64 r1, .bool r2]) ∧ Drawn0 w w' := by
  have HR0 := Aside0.mk hr0
  have HC0 := Aside0.mk hc0
  clear hr0 hc0
  have H : (bursarref03_Of.l0 k l0 a1 0) = some (r1, r2) := h
  clear h
  have H' := Aside0.mk H
  clear H
  go_enter Tryz.func31, Tryz.ntmps31
  go_wp2
  go_loopg [6] k (fun kq v6 w' => ∃ (x6_1 : Int), v6 = .int .i64 x6_1 ∧ Aside0 (bursarref03_Of.l0 kq l0 a1 x6_1 = some (r1, r2)) ∧ Aside0 (kq ≤ k) ∧ Drawn0 w w')
  case atStart => exact ⟨(0), (by first | rfl | (simp; done) | (simp [*]; done) | (simp; rw [Bool.eq_iff_iff]; simp; done) | (rw [Bool.eq_iff_iff]; simp; done)), H', ⟨Nat.le_refl _⟩, by repeat (first | exact Drawn0.refl _ | apply Drawn0.step)⟩
  case round =>
    clear H'
    try clear p2
    obtain ⟨x6_1, rfl, HA, HK1, ⟨m1, rfl⟩⟩ := hrel
    cases gk with
    | zero => exact absurd HA.out (by simp [bursarref03_Of.l0])
    | succ k1 =>
      have H := HA.out
      clear HA
      simp only [bursarref03_Of.l0] at H
      by_cases c3 : x6_1 < (l0.length : Int)
      · rw [if_pos c3] at H
        have c3b0 : decide (x6_1 < (l0.length : Int)) = true := decide_eq_true c3
        clear c3
        by_cases c4 : 0 ≤ x6_1
        · rw [if_pos c4] at H
          have c4b0 : decide (0 ≤ x6_1) = true := decide_eq_true c4
          clear c4
          by_cases c5 : ((rd_T57 l0 x6_1).f0).toList = a1.toList
          · rw [if_pos c5] at H
            have c5b0 : (((rd_T57 l0 x6_1).f0).toList == a1.toList) = true := beq_iff_eq.mpr c5
            have c5b1 : (((rd_T57 l0 x6_1).f0).toList != a1.toList) = false := bne_eq_false_iff_eq.mpr c5
            clear c5
            simp only [Option.some.injEq, Prod.mk.injEq] at H
            obtain ⟨rfl, rfl⟩ := H
            have p293 : 0 ≤ (x6_1 : Int) := of_decide_eq_true (by first | (with_reducible assumption) | assumption)
            have q293 : x6_1 < (l0.length : Int) := of_decide_eq_true (by first | (with_reducible assumption) | assumption)
            obtain ⟨ad293, e293, hx293_0, hx293_1⟩ := at_T57 HR0.out x6_1 p293 q293
            cases e293
            replace p293 := eq_true p293
            replace q293 := eq_true q293
            have p294 : 0 ≤ (x6_1 : Int) := of_decide_eq_true (by first | (with_reducible assumption) | assumption)
            have q294 : x6_1 < (l0.length : Int) := of_decide_eq_true (by first | (with_reducible assumption) | assumption)
            obtain ⟨ad294, e294, hx294_0, hx294_1⟩ := at_T57 HR0.out x6_1 p294 q294
            obtain rfl : ad293 = ad294 := (by injection e294)
            replace p294 := eq_true p294
            replace q294 := eq_true q294
            go_wp2
            go_ret2
            exact ⟨by first | rfl | (simp; done) | (simp [*]; done), by repeat (first | exact Drawn0.refl _ | apply Drawn0.step)⟩
          · rw [if_neg c5] at H
            have c5b0 : (((rd_T57 l0 x6_1).f0).toList == a1.toList) = false := beq_eq_false_iff_ne.mpr c5
            have c5b1 : (((rd_T57 l0 x6_1).f0).toList != a1.toList) = true := bne_iff_ne.mpr c5
            have H' := Aside0.mk H
            clear H
            have p293 : 0 ≤ (x6_1 : Int) := of_decide_eq_true (by first | (with_reducible assumption) | assumption)
            have q293 : x6_1 < (l0.length : Int) := of_decide_eq_true (by first | (with_reducible assumption) | assumption)
            obtain ⟨ad293, e293, hx293_0, hx293_1⟩ := at_T57 HR0.out x6_1 p293 q293
            cases e293
            replace p293 := eq_true p293
            replace q293 := eq_true q293
            go_wp2
            go_roundg k1
            case measure => have := HK1.out; omega
            case rel => exact ⟨(wrap64 (x6_1 + 1)), (by first | rfl | (simp; done) | (simp [*]; done) | (simp; rw [Bool.eq_iff_iff]; simp; done) | (rw [Bool.eq_iff_iff]; simp; done)), H', ⟨by have := HK1.out; omega⟩, by repeat (first | exact Drawn0.refl _ | apply Drawn0.step)⟩
        · rw [if_neg c4] at H
          exact absurd H (by simp)
      · rw [if_neg c3] at H
        have c3b0 : decide (x6_1 < (l0.length : Int)) = false := decide_eq_false c3
        clear c3
        simp only [Option.some.injEq, Prod.mk.injEq] at H
        obtain ⟨rfl, rfl⟩ := H
        go_wp2
        go_ret2
        exact ⟨by first | rfl | (simp; done) | (simp [*]; done), by repeat (first | exact Drawn0.refl _ | apply Drawn0.step)⟩
end Go.Proofs.YtejgbdclhlolkaaGreatDoor.Q
namespace Go.Proofs.YtejgbdclhlolkaaGreatDoor.Q
open Go.RowKit Go.Proofs.YtejgbdclhlolkaaGreatDoorW.PrintWords Go.Proofs.YtejgbdclhlolkaaGreatDoorW.PrintLast
set_option linter.unusedVariables false
set_option linter.unusedSimpArgs false
def markS : S57 := ⟨⟨#[109, 97, 114, 107]⟩, 77⟩
def bursarlaw03_behind.f (l0 : List S57) : Option (List S57) := if l0.length ≤ 4000000000 then some (l0 ++ [markS]) else none
set_option maxHeartbeats 4000000 in
set_option maxRecDepth 100000 in
theorem bursarlaw03_behind.calls (A0 : Option Addr) (c0 : Nat) (l0 : List S57) (r : List S57) (w : World) (hr0 : Kd.C k57 w A0 l0.length l0) (hc0 : l0.length ≤ c0) (h : bursarlaw03_behind.f l0 = some r) (hG : GlobM w) :
    Calls Tryz.prog 29 #[.slice A0 l0.length c0] w fun e w' => ∃ v0_ : Value, e = .returned (v0_) ∧ Kd.R k57 57 w' w.heap.size (fun _ => True) v0_ r ∧ Below w.heap.size w w' := by
  unfold bursarlaw03_behind.f at h
  split at h
  rotate_left
  · cases h
  rename_i hlen
  obtain rfl := Option.some.inj h
  clear h
  have HL := Lib.hid hlen
  have HR0 := Aside0.mk hr0
  clear hlen hr0
  have hu57 := Tryz.underlying57
  have HGM := Lib.hid hG
  clear hG
  go_enter Tryz.func29, Tryz.ntmps29
  go_wp2_with (first
    | ((with_reducible refine gate_builtin (b := .append) (xs := #[.tmp 4, .tmp 5]) rfl ?_); at_builtin; refine Kd.R_append_rows k57 (w0 := w) w.heap.size rfl (.tmp 4) (.tmp 5) 46 57 (.agg #[(.string ⟨#[]⟩), (.int .i64 0)]) 24 rfl Tryz.underlying46 info57 rfl (by decide) (by omega) (.slice none 0 0) ([] : List (S57)) l0 _ _ _ (fun _ => True) (fun _ => False) rfl rfl ?aO ?aR (fun _ _ h => h) (fun _ h => h.elim) ?aF ?aB ?aS ?aL ?_; (case aR => exact HR0.out); (case aB => exact Below.refl _ _); (case aF => exact (fun _ _ => trivial)); (case aO => exact (Kd.R_nil _ _ _ _ (fun _ => True))); (case aS => exact Nat.le_refl _); (case aL => have := HL.out; simp; omega);
        intro v1 w1 ho hb hg hat; rw [List.nil_append] at ho; have HO := Aside0.mk ho; have HB := Aside0.mk hb; have hm0 := (GlobM.below HGM.out hb).mark0; have hm1 := (GlobM.below HGM.out hb).mark1; clear ho hb hg hat)
    | ((with_reducible refine gate_builtin (b := .append) (xs := #[.tmp 7, .tmp 9]) rfl ?_); at_builtin; refine Kd.R_append k57 (w0 := w) w.heap.size rfl (.tmp 7) (.tmp 9) 46 57 (.agg #[(.string ⟨#[]⟩), (.int .i64 0)]) 24 rfl Tryz.underlying46 info57 rfl (by decide) (by omega) v1 l0 markS [.string ⟨#[109, 97, 114, 107]⟩, .int .i64 77] (fun _ => True) (fun _ => False) rfl rfl ?aP (fun _ hk => hk.elim) ?aF ?aO ?aB ?aS ?aL ?_; (case aP => exact k57_mkM _ _ _ markS); (case aB => exact (by repeat (first | (with_reducible first | exact HB.out | apply below_alloc | apply pw_below_drewN | apply below_drew1) | exact HB.out))); (case aF => exact (fun _ _ => trivial)); (case aO => exact (by (with_reducible repeat (first | apply Kd.R_alloc | apply Kd.R_drewN | apply Kd.R_drew)); exact HO.out)); (case aS => exact (below_size (by repeat (first | (with_reducible first | exact HB.out | apply below_alloc | apply pw_below_drewN | apply below_drew1) | exact HB.out)))); (case aL => have := HL.out; omega);
        intro v2 w2 ho hb hg hat; have HO2 := Aside0.mk ho; have HB2 := Aside0.mk hb; clear ho hb hg hat))
  go_ret
  exact ⟨_, rfl, HO2.out, HB2.out⟩
end Go.Proofs.YtejgbdclhlolkaaGreatDoor.Q
namespace Go.Proofs.YtejgbdclhlolkaaGreatDoor.Q
open Go.RowKit Go.Proofs.YtejgbdclhlolkaaGreatDoorW.PrintWords Go.Proofs.YtejgbdclhlolkaaGreatDoorW.PrintLast Go.Proofs.YtejgbdclhlolkaaGreatDoorW.PrintMore
attribute [local go_sem] max2_int min2_int max_two min_two max_three min_three max_four min_four   -- for this text's walks alone
set_option linter.unusedVariables false
set_option linter.unusedSimpArgs false
attribute [local go_sem high] eqA57
def bursarlaw03_same.l0 : Nat → List (S57) → List (S57) → Int → Option (Bool)
  | 0, _, _, _ => none
  | k + 1, x0, x1, x5 => if x5 < (x0.length : Int) then (if 0 ≤ x5 then (if x5 < (x1.length : Int) then (if (!((((rd_T57 x0 x5).f0).toList) == (((rd_T57 x1 x5).f0).toList)) || (!(((rd_T57 x0 x5).f1) == ((rd_T57 x1 x5).f1)))) = true then (some false) else (bursarlaw03_same.l0 k x0 x1 (wrap64 (x5 + 1)))) else (none)) else (none)) else (some true)
def bursarlaw03_same.f (k : Nat) (l0 : List (S57)) (l1 : List (S57)) : Option (Bool) := if (l0.length : Int) = (l1.length : Int) then (bursarlaw03_same.l0 k l0 l1 0) else (some false)
theorem bursarlaw03_same.mono_l : ∀ k, (∀ y0 y1 y2, LeO (bursarlaw03_same.l0 k y0 y1 y2) (bursarlaw03_same.l0 (k + 1) y0 y1 y2))
  | 0 => fun _ _ _ r h => by simp [bursarlaw03_same.l0] at h
  | k + 1 => by
    have ih0 := bursarlaw03_same.mono_l k
    · intro y0 y1 y2
      unfold bursarlaw03_same.l0
      repeat' first
      | (with_reducible exact ih0 _ _ _)
      | (with_reducible exact LeO.refl _)
      | (with_reducible exact LeO.none _)
      | (with_reducible refine LeO.ite ?_ ?_)
      | (with_reducible refine LeO.bind ?_ (fun _ => ?_))
      | exact ih0 _ _ _
      | exact LeO.none _
      | refine LeO.ite ?_ ?_
      | refine LeO.bind ?_ (fun _ => ?_)
theorem bursarlaw03_same.mono : ∀ a0 a1 k, LeO (bursarlaw03_same.f k a0 a1) (bursarlaw03_same.f (k + 1) a0 a1) := by
  intro a0 a1 k
  have ih0 := bursarlaw03_same.mono_l k
  unfold bursarlaw03_same.f
  repeat' first
      | (with_reducible exact ih0 _ _ _)
      | (with_reducible exact LeO.refl _)
      | (with_reducible exact LeO.none _)
      | (with_reducible refine LeO.ite ?_ ?_)
      | (with_reducible refine LeO.bind ?_ (fun _ => ?_))
      | exact ih0 _ _ _
      | exact LeO.none _
      | refine LeO.ite ?_ ?_
      | refine LeO.bind ?_ (fun _ => ?_)
set_option maxHeartbeats 8000000 in
set_option maxRecDepth 100000 in
theorem bursarlaw03_same.calls (k : Nat) (A0 : Option Addr) (c0 : Nat) (l0 : List (S57)) (A1 : Option Addr) (c1 : Nat) (l1 : List (S57)) (r : Bool) (w : World) (hr0 : Kd.C k57 w A0 l0.length l0) (hc0 : l0.length ≤ c0) (hr1 : Kd.C k57 w A1 l1.length l1) (hc1 : l1.length ≤ c1) (h : bursarlaw03_same.f k l0 l1 = some r) :
    Calls Tryz.prog 39 #[.slice A0 l0.length c0, .slice A1 l1.length c1] w fun e w' => e = .returned (.bool r) ∧ Drawn0 w w' := by
  have hu57 := Tryz.underlying57
  have HR0 := Aside0.mk hr0
  have HC0 := Aside0.mk hc0
  clear hr0 hc0
  have HR1 := Aside0.mk hr1
  have HC1 := Aside0.mk hc1
  clear hr1 hc1
  have H : (if (l0.length : Int) = (l1.length : Int) then (bursarlaw03_same.l0 k l0 l1 0) else (some false)) = some r := h
  clear h
  by_cases c3 : (l0.length : Int) = (l1.length : Int)
  · rw [if_pos c3] at H
    have c3b0 : ((l0.length : Int) == (l1.length : Int)) = true := beq_iff_eq.mpr c3
    have c3b1 : ((l0.length : Int) != (l1.length : Int)) = false := bne_eq_false_iff_eq.mpr c3
    have c3b2 : (l0.length == l1.length) = true := by first | simpa using c3 | (simp at c3 ⊢; omega)
    clear c3
    have H' := Aside0.mk H
    clear H
    go_enter Tryz.func39, Tryz.ntmps39
    go_wp2
    repeat (go_quiet (fail); try go_wp2)
    go_loopg [5] k (fun kq v5 w' => ∃ (x5_1 : Int), v5 = .int .i64 x5_1 ∧ Aside0 (bursarlaw03_same.l0 kq l0 l1 x5_1 = some r) ∧ Aside0 (kq ≤ k) ∧ Drawn0 w w')
    case atStart => exact ⟨(0), (by first | rfl | (simp; done) | (simp [*]; done) | (simp; rw [Bool.eq_iff_iff]; simp; done) | (rw [Bool.eq_iff_iff]; simp; done)), H', ⟨Nat.le_refl _⟩, by repeat (first | exact Drawn0.refl _ | apply Drawn0.step)⟩
    case round =>
      clear H'
      try clear c1
      try clear p2
      try clear c3
      try clear c3b0
      try clear c3b1
      try clear c3b2
      obtain ⟨x5_1, rfl, HA, HK1, ⟨m1, rfl⟩⟩ := hrel
      cases gk with
      | zero => exact absurd HA.out (by simp [bursarlaw03_same.l0])
      | succ k1 =>
        have H := HA.out
        clear HA
        simp only [bursarlaw03_same.l0] at H
        by_cases c4 : x5_1 < (l0.length : Int)
        · rw [if_pos c4] at H
          have c4b0 : decide (x5_1 < (l0.length : Int)) = true := decide_eq_true c4
          clear c4
          by_cases c5 : 0 ≤ x5_1
          · rw [if_pos c5] at H
            have c5b0 : decide (0 ≤ x5_1) = true := decide_eq_true c5
            clear c5
            by_cases c6 : x5_1 < (l1.length : Int)
            · rw [if_pos c6] at H
              have c6b0 : decide (x5_1 < (l1.length : Int)) = true := decide_eq_true c6
              clear c6
              by_cases c7 : (!((((rd_T57 l0 x5_1).f0).toList) == (((rd_T57 l1 x5_1).f0).toList)) || (!(((rd_T57 l0 x5_1).f1) == ((rd_T57 l1 x5_1).f1)))) = true
              · rw [if_pos c7] at H
                have c7b0 : (!((((rd_T57 l0 x5_1).f0).toList) == (((rd_T57 l1 x5_1).f0).toList)) || (!(((rd_T57 l0 x5_1).f1) == ((rd_T57 l1 x5_1).f1)))) = true := c7
                clear c7
                obtain rfl := Option.some.inj H
                have p444 : 0 ≤ (x5_1 : Int) := of_decide_eq_true (by first | (with_reducible assumption) | assumption)
                have q444 : x5_1 < (l0.length : Int) := of_decide_eq_true (by first | (with_reducible assumption) | assumption)
                obtain ⟨ad444, e444, hx444_0, hx444_1⟩ := at_T57 HR0.out x5_1 p444 q444
                cases e444
                replace p444 := eq_true p444
                replace q444 := eq_true q444
                have p445 : 0 ≤ (x5_1 : Int) := of_decide_eq_true (by first | (with_reducible assumption) | assumption)
                have q445 : x5_1 < (l1.length : Int) := of_decide_eq_true (by first | (with_reducible assumption) | assumption)
                obtain ⟨ad445, e445, hx445_0, hx445_1⟩ := at_T57 HR1.out x5_1 p445 q445
                cases e445
                replace p445 := eq_true p445
                replace q445 := eq_true q445
                go_wp2
                repeat (go_quiet (fail); try go_wp2)
                go_ret
                exact ⟨by first | rfl | (simp; done) | (simp [*]; done), by repeat (first | exact Drawn0.refl _ | apply Drawn0.step)⟩
              · rw [if_neg c7] at H
                have c7b0 : (!((((rd_T57 l0 x5_1).f0).toList) == (((rd_T57 l1 x5_1).f0).toList)) || (!(((rd_T57 l0 x5_1).f1) == ((rd_T57 l1 x5_1).f1)))) = false := by simpa using c7
                clear c7
                have H' := Aside0.mk H
                clear H
                have p444 : 0 ≤ (x5_1 : Int) := of_decide_eq_true (by first | (with_reducible assumption) | assumption)
                have q444 : x5_1 < (l0.length : Int) := of_decide_eq_true (by first | (with_reducible assumption) | assumption)
                obtain ⟨ad444, e444, hx444_0, hx444_1⟩ := at_T57 HR0.out x5_1 p444 q444
                cases e444
                replace p444 := eq_true p444
                replace q444 := eq_true q444
                have p445 : 0 ≤ (x5_1 : Int) := of_decide_eq_true (by first | (with_reducible assumption) | assumption)
                have q445 : x5_1 < (l1.length : Int) := of_decide_eq_true (by first | (with_reducible assumption) | assumption)
                obtain ⟨ad445, e445, hx445_0, hx445_1⟩ := at_T57 HR1.out x5_1 p445 q445
                cases e445
                replace p445 := eq_true p445
                replace q445 := eq_true q445
                go_wp2
                repeat (go_quiet (fail); try go_wp2)
                go_roundg k1
                case measure => have := HK1.out; omega
                case rel => exact ⟨(wrap64 (x5_1 + 1)), (by first | rfl | (simp; done) | (simp [*]; done) | (simp; rw [Bool.eq_iff_iff]; simp; done) | (rw [Bool.eq_iff_iff]; simp; done)), H', ⟨by have := HK1.out; omega⟩, by repeat (first | exact Drawn0.refl _ | apply Drawn0.step)⟩
            · rw [if_neg c6] at H
              exact absurd H (by simp)
          · rw [if_neg c5] at H
            exact absurd H (by simp)
        · rw [if_neg c4] at H
          have c4b0 : decide (x5_1 < (l0.length : Int)) = false := decide_eq_false c4
          clear c4
          obtain rfl := Option.some.inj H
          go_wp2
          repeat (go_quiet (fail); try go_wp2)
          go_ret
          exact ⟨by first | rfl | (simp; done) | (simp [*]; done), by repeat (first | exact Drawn0.refl _ | apply Drawn0.step)⟩
  · rw [if_neg c3] at H
    have c3b0 : ((l0.length : Int) == (l1.length : Int)) = false := beq_eq_false_iff_ne.mpr c3
    have c3b1 : ((l0.length : Int) != (l1.length : Int)) = true := bne_iff_ne.mpr c3
    have c3b2 : (l0.length == l1.length) = false := by first | simpa using c3 | (simp at c3 ⊢; omega)
    obtain rfl := Option.some.inj H
    go_enter Tryz.func39, Tryz.ntmps39
    go_wp2
    repeat (go_quiet (fail); try go_wp2)
    go_ret
    exact ⟨by first | rfl | (simp; done) | (simp [*]; done), by repeat (first | exact Drawn0.refl _ | apply Drawn0.step)⟩
end Go.Proofs.YtejgbdclhlolkaaGreatDoor.Q
namespace Go.Proofs.YtejgbdclhlolkaaGreatDoor.Q
open Go.RowKit Go.Proofs.YtejgbdclhlolkaaGreatDoorW.PrintWords Go.Proofs.YtejgbdclhlolkaaGreatDoorW.PrintLast
attribute [local go_sem high] eqA57
set_option linter.unusedVariables false
set_option linter.unusedSimpArgs false
def bursarlaw03_untouched.f (k : Nat) (l0 l1 : List S57) : Option Bool :=
  if 4000000000 < l1.length then none else if l0.length = l1.length + 1 then ((bursarlaw03_same.f k (l0.take l1.length) l1).bind fun t => if t = true then some ((rd_T57 l0 (l1.length : Int)).f0.toList == (⟨#[109, 97, 114, 107]⟩ : ByteArray).toList && ((rd_T57 l0 (l1.length : Int)).f1 == 77)) else some false) else some false
theorem bursarlaw03_untouched.mono : ∀ a0 a1 k, LeO (bursarlaw03_untouched.f k a0 a1) (bursarlaw03_untouched.f (k + 1) a0 a1) := by
  intro a0 a1 k
  unfold bursarlaw03_untouched.f
  repeat' first
    | exact LeO.refl _
    | refine LeO.ite ?_ ?_
    | (refine LeO.bind (bursarlaw03_same.mono _ _ _) (fun _ => ?_))
theorem same_at (k : Nat) (A0 : Option Addr) (c0 : Nat) (l0 : List S57) (A1 : Option Addr) (c1 : Nat) (l1 : List S57) (b : Bool) (hl : l1.length ≤ l0.length) (h : bursarlaw03_same.f k (l0.take l1.length) l1 = some b) (w : World)
    (hr0 : Kd.C k57 w A0 l0.length l0) (hc0 : l0.length ≤ c0) (hr1 : Kd.C k57 w A1 l1.length l1) (hc1 : l1.length ≤ c1) :
    Calls Tryz.prog 39 #[.slice A0 l1.length c0, .slice A1 l1.length c1] w fun e w' => e = .returned (.bool b) ∧ Drawn0 w w' := by
  have hk := bursarlaw03_same.calls k A0 c0 (l0.take l1.length) A1 c1 l1 b w (Kd.C_take hr0 hl) (by rw [List.length_take]; omega) hr1 hc1 h
  rwa [show (l0.take l1.length).length = l1.length by rw [List.length_take]; omega] at hk
set_option maxHeartbeats 4000000 in
set_option maxRecDepth 100000 in
theorem bursarlaw03_untouched.calls (k : Nat) (A0 : Option Addr) (c0 : Nat) (l0 : List S57) (A1 : Option Addr) (c1 : Nat) (l1 : List S57) (r : Bool) (w : World) (hr0 : Kd.C k57 w A0 l0.length l0) (hc0 : l0.length ≤ c0) (hr1 : Kd.C k57 w A1 l1.length l1) (hc1 : l1.length ≤ c1) (h : bursarlaw03_untouched.f k l0 l1 = some r) (hG : GlobM w) :
    Calls Tryz.prog 32 #[.slice A0 l0.length c0, .slice A1 l1.length c1] w fun e w' => e = .returned (.bool r) ∧ Below w.heap.size w w' := by
  unfold bursarlaw03_untouched.f at h
  by_cases hb : 4000000000 < l1.length
  · rw [if_pos hb] at h; cases h
  rw [if_neg hb] at h
  have HR0 := Aside0.mk hr0
  have HR1 := Aside0.mk hr1
  have HC0 := Aside0.mk hc0
  have HC1 := Aside0.mk hc1
  have hwr : IntKind.i64.wrap ((l1.length : Int) + 1) = (l1.length : Int) + 1 := by rw [IntKind.wrap_i64]; omega
  have hwr2 : wrap64 ((l1.length : Int) + 1) = (l1.length : Int) + 1 := by unfold wrap64; omega
  by_cases hl : l0.length = l1.length + 1
  rotate_left
  · rw [if_neg hl] at h
    obtain rfl := Option.some.inj h
    have d1 : ((l0.length : Int) == (l1.length : Int) + 1) = false := beq_eq_false_iff_ne.2 (by omega)
    clear h hl hr0 hr1 hb
    go_enter Tryz.func32, Tryz.ntmps32
    go_wp2
    repeat (go_quiet (fail); try go_wp2)
    go_ret
    exact ⟨rfl, by repeat (first | (with_reducible first | exact Below.refl _ _ | apply pw_below_drewN | apply below_drew1) | exact Below.refl _ _)⟩
  · rw [if_pos hl] at h
    have d1 : ((l0.length : Int) == (l1.length : Int) + 1) = true := beq_iff_eq.2 (by omega)
    obtain ⟨t, ht, h⟩ := Option.bind_eq_some_iff.mp h
    have HT := Lib.hid ht
    obtain ⟨ad, eA, hx0, hx1⟩ := at_T57 hr0 (l1.length : Int) (by omega) (by omega)
    cases eA
    rw [Int.toNat_natCast] at hx0 hx1
    have hm0 := hG.mark0
    have hm1 := hG.mark1
    have hcap : l1.length ≤ c0 := by omega
    have hlt : (l1.length : Int) < (l0.length : Int) := by omega
    cases t with
    | false =>
      rw [if_neg (by decide)] at h
      obtain rfl := Option.some.inj h
      clear h ht hr0 hr1 hb hm0 hm1
      go_enter Tryz.func32, Tryz.ntmps32
      go_wp2_with (go_at_call 39; refine (same_at k (some ad) c0 l0 A1 c1 l1 false (by omega) HT.out _ (by (with_reducible repeat (first | apply Kd.C_drewN | apply Kd.C_drew)); exact HR0.out) HC0.out (by (with_reducible repeat (first | apply Kd.C_drewN | apply Kd.C_drew)); exact HR1.out) HC1.out).mono ?_; rintro e w2 ⟨rfl, ⟨nd, rfl⟩⟩; refine ⟨rfl, ?_⟩; simp; exact ⟨_, rfl⟩)
      repeat (go_quiet (first | (go_at_call 39; refine (same_at k (some ad) c0 l0 A1 c1 l1 false (by omega) HT.out _ (by (with_reducible repeat (first | apply Kd.C_drewN | apply Kd.C_drew)); exact HR0.out) HC0.out (by (with_reducible repeat (first | apply Kd.C_drewN | apply Kd.C_drew)); exact HR1.out) HC1.out).mono ?_; rintro e w2 ⟨rfl, ⟨nd, rfl⟩⟩; refine ⟨rfl, ?_⟩; simp; exact ⟨_, rfl⟩)); try go_wp2)
      go_ret
      exact ⟨rfl, by repeat (first | (with_reducible first | exact Below.refl _ _ | apply pw_below_drewN | apply below_drew1) | exact Below.refl _ _)⟩
    | true =>
      rw [if_pos rfl] at h
      have hr := Lib.hid (Option.some.inj h)
      clear h ht hr0 hr1 hb
      generalize (rd_T57 l0 (l1.length : Int)).f0 = s at *
      generalize (rd_T57 l0 (l1.length : Int)).f1 = v at *
      cases hq : (s.toList == (⟨#[109, 97, 114, 107]⟩ : ByteArray).toList && (v == 77)) with
      | false =>
        have hrr := Lib.hid (hr.out.symm.trans hq)
        go_enter Tryz.func32, Tryz.ntmps32
        go_wp2_with (go_at_call 39; refine (same_at k (some ad) c0 l0 A1 c1 l1 true (by omega) HT.out _ (by (with_reducible repeat (first | apply Kd.C_drewN | apply Kd.C_drew)); exact HR0.out) HC0.out (by (with_reducible repeat (first | apply Kd.C_drewN | apply Kd.C_drew)); exact HR1.out) HC1.out).mono ?_; rintro e w2 ⟨rfl, ⟨nd, rfl⟩⟩; refine ⟨rfl, ?_⟩; simp; exact ⟨_, rfl⟩)
        repeat (go_quiet (first | (go_at_call 39; refine (same_at k (some ad) c0 l0 A1 c1 l1 true (by omega) HT.out _ (by (with_reducible repeat (first | apply Kd.C_drewN | apply Kd.C_drew)); exact HR0.out) HC0.out (by (with_reducible repeat (first | apply Kd.C_drewN | apply Kd.C_drew)); exact HR1.out) HC1.out).mono ?_; rintro e w2 ⟨rfl, ⟨nd, rfl⟩⟩; refine ⟨rfl, ?_⟩; simp; exact ⟨_, rfl⟩)); try go_wp2)
        go_ret
        exact ⟨by rw [hrr.out]; first | rfl | (simp [hq]; done) | (simp_all; done), by repeat (first | (with_reducible first | exact Below.refl _ _ | apply pw_below_drewN | apply below_drew1) | exact Below.refl _ _)⟩
      | true =>
        have hrr := Lib.hid (hr.out.symm.trans hq)
        go_enter Tryz.func32, Tryz.ntmps32
        go_wp2_with (go_at_call 39; refine (same_at k (some ad) c0 l0 A1 c1 l1 true (by omega) HT.out _ (by (with_reducible repeat (first | apply Kd.C_drewN | apply Kd.C_drew)); exact HR0.out) HC0.out (by (with_reducible repeat (first | apply Kd.C_drewN | apply Kd.C_drew)); exact HR1.out) HC1.out).mono ?_; rintro e w2 ⟨rfl, ⟨nd, rfl⟩⟩; refine ⟨rfl, ?_⟩; simp; exact ⟨_, rfl⟩)
        repeat (go_quiet (first | (go_at_call 39; refine (same_at k (some ad) c0 l0 A1 c1 l1 true (by omega) HT.out _ (by (with_reducible repeat (first | apply Kd.C_drewN | apply Kd.C_drew)); exact HR0.out) HC0.out (by (with_reducible repeat (first | apply Kd.C_drewN | apply Kd.C_drew)); exact HR1.out) HC1.out).mono ?_; rintro e w2 ⟨rfl, ⟨nd, rfl⟩⟩; refine ⟨rfl, ?_⟩; simp; exact ⟨_, rfl⟩)); try go_wp2)
        go_ret
        exact ⟨by rw [hrr.out]; first | rfl | (simp [hq]; done) | (simp_all; done), by repeat (first | (with_reducible first | exact Below.refl _ _ | apply pw_below_drewN | apply below_drew1) | exact Below.refl _ _)⟩
end Go.Proofs.YtejgbdclhlolkaaGreatDoor.Q
namespace Go.Proofs.YtejgbdclhlolkaaGreatDoor.Q
open Go.RowKit Go.Proofs.YtejgbdclhlolkaaGreatDoorW.PrintWords Go.Proofs.YtejgbdclhlolkaaGreatDoorW.PrintLast Go.Proofs.YtejgbdclhlolkaaGreatDoorW.PrintMore
attribute [local go_sem] max2_int min2_int max_two min_two max_three min_three max_four min_four   -- for this text's walks alone
set_option linter.unusedVariables false
set_option linter.unusedSimpArgs false
def bursarlaw03_QuantFinds.f (k : Nat) (l0 : List (S57)) (a1 : ByteArray) : Option (Bool) := (bursarlaw03_known.f k).bind fun t295 => (if t295 = true then ((bursarlaw03_behind.f l0).bind fun t296 => (if 0 ≤ (l0.length : Int) then (if (l0.length : Int) ≤ (t296.length : Int) then ((quant_Of.f k (t296.take ((l0.length : Int) : Int).toNat) a1).bind fun bt303 => ((bursarref03_Of.f k l0 a1).bind fun bt305 => (if bt303.1 = bt305.1 then (if (bt303.2 == bt305.2) = true then ((bursarlaw03_untouched.f k t296 l0).bind fun t307 => (some t307)) else (some false)) else (some false)))) else (none)) else (none))) else (some false))
theorem bursarlaw03_QuantFinds.mono : ∀ a0 a1 k, LeO (bursarlaw03_QuantFinds.f k a0 a1) (bursarlaw03_QuantFinds.f (k + 1) a0 a1) := by
  intro a0 a1 k
  unfold bursarlaw03_QuantFinds.f
  repeat' first
      | (with_reducible exact bursarlaw03_known.mono _)
      | (with_reducible exact bursarlaw03_untouched.mono _ _ _)
      | (with_reducible exact bursarref03_Of.mono _ _ _)
      | (with_reducible exact quant_Of.mono _ _ _)
      | (with_reducible exact LeO.refl _)
      | (with_reducible exact LeO.none _)
      | (with_reducible refine LeO.ite ?_ ?_)
      | (with_reducible refine LeO.bind ?_ (fun _ => ?_))
      | exact bursarlaw03_known.mono _
      | exact bursarlaw03_untouched.mono _ _ _
      | exact bursarref03_Of.mono _ _ _
      | exact quant_Of.mono _ _ _
      | exact LeO.none _
      | refine LeO.ite ?_ ?_
      | refine LeO.bind ?_ (fun _ => ?_)
set_option maxHeartbeats 8000000 in
set_option maxRecDepth 100000 in
theorem bursarlaw03_QuantFinds.calls (k : Nat) (A0 : Option Addr) (c0 : Nat) (l0 : List (S57)) (a1 : ByteArray) (r : Bool) (w : World) (hr0 : Kd.C k57 w A0 l0.length l0) (hc0 : l0.length ≤ c0) (h : bursarlaw03_QuantFinds.f k l0 a1 = some r) (hG : GlobM w) :
    Calls Tryz.prog 10 #[.slice A0 l0.length c0, .string a1] w fun e w' => e = .returned (.bool r) ∧ Below w.heap.size w w' := by
  have HR0 := Aside0.mk hr0
  have HC0 := Aside0.mk hc0
  clear hr0 hc0
  have HB := Aside0.mk (Below.refl w.heap.size w)
  have H : ((bursarlaw03_known.f k).bind fun t295 => (if t295 = true then ((bursarlaw03_behind.f l0).bind fun t296 => (if 0 ≤ (l0.length : Int) then (if (l0.length : Int) ≤ (t296.length : Int) then ((quant_Of.f k (t296.take ((l0.length : Int) : Int).toNat) a1).bind fun bt303 => ((bursarref03_Of.f k l0 a1).bind fun bt305 => (if bt303.1 = bt305.1 then (if (bt303.2 == bt305.2) = true then ((bursarlaw03_untouched.f k t296 l0).bind fun t307 => (some t307)) else (some false)) else (some false)))) else (none)) else (none))) else (some false))) = some r := h
  clear h
  replace H := Option.bind_eq_some_iff.mp H
  obtain ⟨t295, A30, H⟩ := H
  replace H : (if t295 = true then ((bursarlaw03_behind.f l0).bind fun t296 => (if 0 ≤ (l0.length : Int) then (if (l0.length : Int) ≤ (t296.length : Int) then ((quant_Of.f k (t296.take ((l0.length : Int) : Int).toNat) a1).bind fun bt303 => ((bursarref03_Of.f k l0 a1).bind fun bt305 => (if bt303.1 = bt305.1 then (if (bt303.2 == bt305.2) = true then ((bursarlaw03_untouched.f k t296 l0).bind fun t307 => (some t307)) else (some false)) else (some false)))) else (none)) else (none))) else (some false)) = some r := H
  have A3 := Aside0.mk A30
  clear A30
  by_cases c4 : t295 = true
  · subst c4
    have H1 : ((bursarlaw03_behind.f l0).bind fun t296 => (if 0 ≤ (l0.length : Int) then (if (l0.length : Int) ≤ (t296.length : Int) then ((quant_Of.f k (t296.take ((l0.length : Int) : Int).toNat) a1).bind fun bt303 => ((bursarref03_Of.f k l0 a1).bind fun bt305 => (if bt303.1 = bt305.1 then (if (bt303.2 == bt305.2) = true then ((bursarlaw03_untouched.f k t296 l0).bind fun t307 => (some t307)) else (some false)) else (some false)))) else (none)) else (none))) = some r := by rw [if_pos rfl] at H; exact H
    clear H
    have H := H1
    clear H1
    replace H := Option.bind_eq_some_iff.mp H
    obtain ⟨t296, A50, H⟩ := H
    replace H : (if 0 ≤ (l0.length : Int) then (if (l0.length : Int) ≤ (t296.length : Int) then ((quant_Of.f k (t296.take ((l0.length : Int) : Int).toNat) a1).bind fun bt303 => ((bursarref03_Of.f k l0 a1).bind fun bt305 => (if bt303.1 = bt305.1 then (if (bt303.2 == bt305.2) = true then ((bursarlaw03_untouched.f k t296 l0).bind fun t307 => (some t307)) else (some false)) else (some false)))) else (none)) else (none)) = some r := H
    have A5 := Aside0.mk A50
    clear A50
    by_cases c6 : 0 ≤ (l0.length : Int)
    · rw [if_pos c6] at H
      have c6b0 := eq_true c6
      have c6b1 : decide (0 ≤ (l0.length : Int)) = true := decide_eq_true c6
      clear c6
      by_cases c7 : (l0.length : Int) ≤ (t296.length : Int)
      · rw [if_pos c7] at H
        have c7b0 := eq_true c7
        have c7b1 : decide ((l0.length : Int) ≤ (t296.length : Int)) = true := decide_eq_true c7
        clear c7
        obtain ⟨y299, hy299⟩ : ∃ y_ : List (S57), y_ = (t296.take ((l0.length : Int) : Int).toNat) := ⟨_, rfl⟩
        replace H : ((quant_Of.f k y299 a1).bind fun bt303 => ((bursarref03_Of.f k l0 a1).bind fun bt305 => (if bt303.1 = bt305.1 then (if (bt303.2 == bt305.2) = true then ((bursarlaw03_untouched.f k t296 l0).bind fun t307 => (some t307)) else (some false)) else (some false)))) = some r := by first | (rw [hy299]; with_reducible exact H) | (have H2_ := (Option.bind_some _ _).symm.trans H; rw [hy299]; with_reducible exact H2_) | (have H2_ := (Option.bind_some _ _).symm.trans H; with_reducible exact H2_) | with_reducible exact H | (rw [hy299]; exact H) | exact H
        have Ny299 := Aside0.mk hy299
        clear hy299
        replace H := Option.bind_eq_some_iff.mp H
        obtain ⟨⟨t303, t304⟩, A80, H⟩ := H
        replace H : ((bursarref03_Of.f k l0 a1).bind fun bt305 => (if t303 = bt305.1 then (if (t304 == bt305.2) = true then ((bursarlaw03_untouched.f k t296 l0).bind fun t307 => (some t307)) else (some false)) else (some false))) = some r := H
        have A8 := Aside0.mk A80
        clear A80
        replace H := Option.bind_eq_some_iff.mp H
        obtain ⟨⟨t305, t306⟩, A90, H⟩ := H
        replace H : (if t303 = t305 then (if (t304 == t306) = true then ((bursarlaw03_untouched.f k t296 l0).bind fun t307 => (some t307)) else (some false)) else (some false)) = some r := H
        have A9 := Aside0.mk A90
        clear A90
        by_cases c10 : t303 = t305
        · rw [if_pos c10] at H
          have c10b0 : (t303 == t305) = true := beq_iff_eq.mpr c10
          have c10b1 : (t303 != t305) = false := bne_eq_false_iff_eq.mpr c10
          clear c10
          by_cases c11 : (t304 == t306) = true
          · rw [if_pos c11] at H
            have c11b0 : (t304 == t306) = true := c11
            (try (have c11b1 : decide (t304 = t306) = true := by simpa using c11))
            (try (have c11b2 : (t304 == t306) = true := by simpa using c11))
            clear c11
            replace H := Option.bind_eq_some_iff.mp H
            obtain ⟨t307, A120, H⟩ := H
            replace H : (some t307) = some r := H
            have A12 := Aside0.mk A120
            clear A120
            obtain rfl := Option.some.inj H
            go_enter Tryz.func10, Tryz.ntmps10
            go_wp2_with (first | ((with_reducible refine gate_callee (f := 16) rfl ?_); refine goesL_ (some 10) rfl rfl Tryz.func16 (by kernel_rfl) rfl #[] rfl (by (try simp only [List.map_toArray, List.map_cons, List.map_nil]); first | done | rfl | (simp only [List.length_drop, List.length_take]; rfl)) ?_; (with_reducible refine (bursarlaw03_known.calls k  true _ A3.out (Glob.below hG.toGlob (by repeat (first | (with_reducible first | exact HB.out | apply below_alloc | apply pw_below_drewN | apply below_drew1) | exact HB.out)))).mono ?_); rintro e w13 ⟨rfl, hb⟩; refine ⟨_, rfl, ?_⟩; have n0_ := Aside0.mk (below_step (by repeat (first | (with_reducible first | exact HB.out | apply below_alloc | apply pw_below_drewN | apply below_drew1) | exact HB.out)) hb); clear HB; have HB := n0_; clear n0_; (try clear hb); (try clear hb2); (try clear hk); (try clear hi)) | ((with_reducible refine gate_callee (f := 29) rfl ?_); refine goesL_ (some 13) rfl rfl Tryz.func29 (by kernel_rfl) rfl #[.slice A0 l0.length c0] rfl (by (try simp only [List.map_toArray, List.map_cons, List.map_nil]); first | done | rfl | (simp only [List.length_drop, List.length_take]; rfl)) ?_; (with_reducible refine (bursarlaw03_behind.calls _ _ l0 t296 _ ?side1 ?side2 A5.out (GlobM.below hG (by repeat (first | (with_reducible first | exact HB.out | apply below_alloc | apply pw_below_drewN | apply below_drew1) | exact HB.out)))).mono ?_); (case side1 => repeat (first | exact (Kd.C_below HR0.out HB.out) | (with_reducible refine Kd.C_alloc ?_ _) | (with_reducible refine Kd.C_drewN ?_ _) | (with_reducible refine Kd.C_drew ?_))); (case side2 => exact HC0.out); rintro e w14 ⟨v297, rfl, ho0, hb⟩; refine ⟨_, rfl, ?_⟩; have n0_ := Aside0.mk (Kd.R_lower ho0 (below_size (by repeat (first | (with_reducible first | exact HB.out | apply below_alloc | apply pw_below_drewN | apply below_drew1) | exact HB.out)))); have n1_ := Aside0.mk (below_step (by repeat (first | (with_reducible first | exact HB.out | apply below_alloc | apply pw_below_drewN | apply below_drew1) | exact HB.out)) hb); clear HB; have HO298 := n0_; have HB := n1_; clear n0_ n1_; (try clear hb); (try clear hb2); (try clear hk); (try clear hi); (try clear ho0); obtain ⟨Ao16, co16, eo16⟩ := Kd.R_slice HO298.out; subst eo16; have q15 : ((l0.length : Int) : Int) ≤ ((t296.length : Int) : Int) := of_decide_eq_true (by first | (with_reducible assumption) | assumption); obtain ⟨i015, hi015, _, hsz15, _⟩ := info_parts info57; have hroom15 : t296.length ≤ co16 := (Kd.R_reads' HO298.out).2.1; have hC15 : Kd.C k57 _ Ao16 t296.length t296 := (Kd.R_reads' HO298.out).2.2; have hcut15 := cut_to (P := Tryz.prog) 46 57 .i64 Tryz.underlying46 hi015 Ao16 t296.length co16 (l0.length : Int) (of_decide_eq_true (by first | (with_reducible assumption) | assumption)) q15 hroom15; have hr15 := Kd.C_take (m := ((l0.length : Int) : Int).toNat) hC15 (by omega); have hy15 : y299.length = ((l0.length : Int) : Int).toNat := (by rw [Ny299.out, List.length_take]; omega); rw [← Ny299.out] at hr15; rw [← hy15] at hcut15; have HR302 := Aside0.mk hr15; have HC302 := Aside0.mk (show y299.length ≤ co16 from by omega); clear hr15 hC15 hroom15 hi015 hsz15; have KY15 := Aside0.mk hy15; clear hy15; have KL15 := Aside0.mk (show ((l0.length : Int) : Int).toNat ≤ t296.length from by omega); replace q15 := eq_true q15) | ((with_reducible refine gate_callee (f := 30) rfl ?_); refine goesL_ (some 20) rfl rfl Tryz.func30 (by kernel_rfl) rfl #[.slice Ao16 y299.length co16, .string a1] rfl (by (try simp only [List.map_toArray, List.map_cons, List.map_nil]); first | done | rfl | (simp only [List.length_drop, List.length_take]; rfl)) ?_; (with_reducible refine (quant_Of.calls k _ _ y299 a1 t303 t304 _ ?side1 ?side2 A8.out).mono ?_); (case side1 => repeat (first | exact (by repeat (first | (with_reducible exact HR302.out) | (with_reducible refine Kd.C_alloc ?_ _) | (with_reducible refine Kd.C_drewN ?_ _) | (with_reducible refine Kd.C_drew ?_) | exact HR302.out)) | (with_reducible refine Kd.C_alloc ?_ _) | (with_reducible refine Kd.C_drewN ?_ _) | (with_reducible refine Kd.C_drew ?_))); (case side2 => exact HC302.out); rintro e w17 ⟨rfl, hb⟩; refine ⟨_, rfl, ?_⟩; have n0_ := Aside0.mk (Kd.R_below (by (with_reducible repeat (first | apply Kd.R_alloc | apply Kd.R_drewN | apply Kd.R_drew)); exact HO298.out) hb); have n1_ := Aside0.mk (Kd.C_below (by repeat (first | (with_reducible exact HR302.out) | (with_reducible refine Kd.C_alloc ?_ _) | (with_reducible refine Kd.C_drewN ?_ _) | (with_reducible refine Kd.C_drew ?_) | exact HR302.out)) hb); have n2_ := Aside0.mk (below_step (by repeat (first | (with_reducible first | exact HB.out | apply below_alloc | apply pw_below_drewN | apply below_drew1) | exact HB.out)) hb); clear HO298; clear HR302; clear HB; have HO298 := n0_; have HR302 := n1_; have HB := n2_; clear n0_ n1_ n2_; (try clear hb); (try clear hb2); (try clear hk); (try clear hi)) | ((with_reducible refine gate_callee (f := 31) rfl ?_); refine goesL_ (some 26) rfl rfl Tryz.func31 (by kernel_rfl) rfl #[.slice A0 l0.length c0, .string a1] rfl (by (try simp only [List.map_toArray, List.map_cons, List.map_nil]); first | done | rfl | (simp only [List.length_drop, List.length_take]; rfl)) ?_; (with_reducible refine (bursarref03_Of.calls k _ _ l0 a1 t305 t306 _ ?side1 ?side2 A9.out).mono ?_); (case side1 => repeat (first | exact (Kd.C_below HR0.out HB.out) | (with_reducible refine Kd.C_alloc ?_ _) | (with_reducible refine Kd.C_drewN ?_ _) | (with_reducible refine Kd.C_drew ?_))); (case side2 => exact HC0.out); rintro e w' ⟨rfl, ⟨nd, rfl⟩⟩; refine ⟨_, rfl, ?_⟩) | (go_at_call 32; (with_reducible refine (bursarlaw03_untouched.calls k _ _ t296 _ _ l0 t307 _ ?side1 ?side2 ?side3 ?side4 A12.out (GlobM.below hG (by repeat (first | (with_reducible first | exact HB.out | apply below_alloc | apply pw_below_drewN | apply below_drew1) | exact HB.out)))).mono ?_); (case side1 => repeat (first | exact (Kd.R_reads' HO298.out).2.2 | (with_reducible refine Kd.C_alloc ?_ _) | (with_reducible refine Kd.C_drewN ?_ _) | (with_reducible refine Kd.C_drew ?_))); (case side2 => exact (Kd.R_reads' HO298.out).2.1); (case side3 => repeat (first | exact (Kd.C_below HR0.out (by repeat (first | (with_reducible first | exact HB.out | apply below_alloc | apply pw_below_drewN | apply below_drew1) | exact HB.out))) | (with_reducible refine Kd.C_alloc ?_ _) | (with_reducible refine Kd.C_drewN ?_ _) | (with_reducible refine Kd.C_drew ?_))); (case side4 => exact HC0.out); rintro e w18 ⟨rfl, hb⟩; have n0_ := Aside0.mk (Kd.R_below (by (with_reducible repeat (first | apply Kd.R_alloc | apply Kd.R_drewN | apply Kd.R_drew)); exact HO298.out) hb); have n1_ := Aside0.mk (Kd.C_below (by repeat (first | (with_reducible exact HR302.out) | (with_reducible refine Kd.C_alloc ?_ _) | (with_reducible refine Kd.C_drewN ?_ _) | (with_reducible refine Kd.C_drew ?_) | exact HR302.out)) hb); have n2_ := Aside0.mk (below_step (by repeat (first | (with_reducible first | exact HB.out | apply below_alloc | apply pw_below_drewN | apply below_drew1) | exact HB.out)) hb); clear HO298; clear HR302; clear HB; have HO298 := n0_; have HR302 := n1_; have HB := n2_; clear n0_ n1_ n2_; (try clear hb); (try clear hb2); (try clear hk); (try clear hi)))
            go_ret
            exact ⟨by first | rfl | (simp [errW_none, errW_some] <;> rfl) | (simp [*, errW_none, errW_some] <;> rfl), by repeat (first | (with_reducible first | exact HB.out | apply below_alloc | apply pw_below_drewN | apply below_drew1) | exact HB.out)⟩
          · rw [if_neg c11] at H
            have c11b0 : (t304 == t306) = false := by simpa using c11
            (try (have c11b1 : decide (t304 = t306) = false := by simpa using c11))
            (try (have c11b2 : (t304 == t306) = false := by simpa using c11))
            (try (have c11b3 : ¬ (t304 = t306) := by simpa using c11))
            clear c11
            obtain rfl := Option.some.inj H
            go_enter Tryz.func10, Tryz.ntmps10
            go_wp2_with (first | ((with_reducible refine gate_callee (f := 16) rfl ?_); refine goesL_ (some 10) rfl rfl Tryz.func16 (by kernel_rfl) rfl #[] rfl (by (try simp only [List.map_toArray, List.map_cons, List.map_nil]); first | done | rfl | (simp only [List.length_drop, List.length_take]; rfl)) ?_; (with_reducible refine (bursarlaw03_known.calls k  true _ A3.out (Glob.below hG.toGlob (by repeat (first | (with_reducible first | exact HB.out | apply below_alloc | apply pw_below_drewN | apply below_drew1) | exact HB.out)))).mono ?_); rintro e w19 ⟨rfl, hb⟩; refine ⟨_, rfl, ?_⟩; have n0_ := Aside0.mk (below_step (by repeat (first | (with_reducible first | exact HB.out | apply below_alloc | apply pw_below_drewN | apply below_drew1) | exact HB.out)) hb); clear HB; have HB := n0_; clear n0_; (try clear hb); (try clear hb2); (try clear hk); (try clear hi)) | ((with_reducible refine gate_callee (f := 29) rfl ?_); refine goesL_ (some 13) rfl rfl Tryz.func29 (by kernel_rfl) rfl #[.slice A0 l0.length c0] rfl (by (try simp only [List.map_toArray, List.map_cons, List.map_nil]); first | done | rfl | (simp only [List.length_drop, List.length_take]; rfl)) ?_; (with_reducible refine (bursarlaw03_behind.calls _ _ l0 t296 _ ?side1 ?side2 A5.out (GlobM.below hG (by repeat (first | (with_reducible first | exact HB.out | apply below_alloc | apply pw_below_drewN | apply below_drew1) | exact HB.out)))).mono ?_); (case side1 => repeat (first | exact (Kd.C_below HR0.out HB.out) | (with_reducible refine Kd.C_alloc ?_ _) | (with_reducible refine Kd.C_drewN ?_ _) | (with_reducible refine Kd.C_drew ?_))); (case side2 => exact HC0.out); rintro e w20 ⟨v297, rfl, ho0, hb⟩; refine ⟨_, rfl, ?_⟩; have n0_ := Aside0.mk (Kd.R_lower ho0 (below_size (by repeat (first | (with_reducible first | exact HB.out | apply below_alloc | apply pw_below_drewN | apply below_drew1) | exact HB.out)))); have n1_ := Aside0.mk (below_step (by repeat (first | (with_reducible first | exact HB.out | apply below_alloc | apply pw_below_drewN | apply below_drew1) | exact HB.out)) hb); clear HB; have HO298 := n0_; have HB := n1_; clear n0_ n1_; (try clear hb); (try clear hb2); (try clear hk); (try clear hi); (try clear ho0); obtain ⟨Ao22, co22, eo22⟩ := Kd.R_slice HO298.out; subst eo22; have q21 : ((l0.length : Int) : Int) ≤ ((t296.length : Int) : Int) := of_decide_eq_true (by first | (with_reducible assumption) | assumption); obtain ⟨i021, hi021, _, hsz21, _⟩ := info_parts info57; have hroom21 : t296.length ≤ co22 := (Kd.R_reads' HO298.out).2.1; have hC21 : Kd.C k57 _ Ao22 t296.length t296 := (Kd.R_reads' HO298.out).2.2; (try clear hcut15); have hcut21 := cut_to (P := Tryz.prog) 46 57 .i64 Tryz.underlying46 hi021 Ao22 t296.length co22 (l0.length : Int) (of_decide_eq_true (by first | (with_reducible assumption) | assumption)) q21 hroom21; have hr21 := Kd.C_take (m := ((l0.length : Int) : Int).toNat) hC21 (by omega); have hy21 : y299.length = ((l0.length : Int) : Int).toNat := (by rw [Ny299.out, List.length_take]; omega); rw [← Ny299.out] at hr21; rw [← hy21] at hcut21; have HR302 := Aside0.mk hr21; have HC302 := Aside0.mk (show y299.length ≤ co22 from by omega); clear hr21 hC21 hroom21 hi021 hsz21; have KY21 := Aside0.mk hy21; clear hy21; have KL21 := Aside0.mk (show ((l0.length : Int) : Int).toNat ≤ t296.length from by omega); replace q21 := eq_true q21) | ((with_reducible refine gate_callee (f := 30) rfl ?_); refine goesL_ (some 20) rfl rfl Tryz.func30 (by kernel_rfl) rfl #[.slice Ao22 y299.length co22, .string a1] rfl (by (try simp only [List.map_toArray, List.map_cons, List.map_nil]); first | done | rfl | (simp only [List.length_drop, List.length_take]; rfl)) ?_; (with_reducible refine (quant_Of.calls k _ _ y299 a1 t303 t304 _ ?side1 ?side2 A8.out).mono ?_); (case side1 => repeat (first | exact (by repeat (first | (with_reducible exact HR302.out) | (with_reducible refine Kd.C_alloc ?_ _) | (with_reducible refine Kd.C_drewN ?_ _) | (with_reducible refine Kd.C_drew ?_) | exact HR302.out)) | (with_reducible refine Kd.C_alloc ?_ _) | (with_reducible refine Kd.C_drewN ?_ _) | (with_reducible refine Kd.C_drew ?_))); (case side2 => exact HC302.out); rintro e w23 ⟨rfl, hb⟩; refine ⟨_, rfl, ?_⟩; have n0_ := Aside0.mk (Kd.R_below (by (with_reducible repeat (first | apply Kd.R_alloc | apply Kd.R_drewN | apply Kd.R_drew)); exact HO298.out) hb); have n1_ := Aside0.mk (Kd.C_below (by repeat (first | (with_reducible exact HR302.out) | (with_reducible refine Kd.C_alloc ?_ _) | (with_reducible refine Kd.C_drewN ?_ _) | (with_reducible refine Kd.C_drew ?_) | exact HR302.out)) hb); have n2_ := Aside0.mk (below_step (by repeat (first | (with_reducible first | exact HB.out | apply below_alloc | apply pw_below_drewN | apply below_drew1) | exact HB.out)) hb); clear HO298; clear HR302; clear HB; have HO298 := n0_; have HR302 := n1_; have HB := n2_; clear n0_ n1_ n2_; (try clear hb); (try clear hb2); (try clear hk); (try clear hi)) | ((with_reducible refine gate_callee (f := 31) rfl ?_); refine goesL_ (some 26) rfl rfl Tryz.func31 (by kernel_rfl) rfl #[.slice A0 l0.length c0, .string a1] rfl (by (try simp only [List.map_toArray, List.map_cons, List.map_nil]); first | done | rfl | (simp only [List.length_drop, List.length_take]; rfl)) ?_; (with_reducible refine (bursarref03_Of.calls k _ _ l0 a1 t305 t306 _ ?side1 ?side2 A9.out).mono ?_); (case side1 => repeat (first | exact (Kd.C_below HR0.out HB.out) | (with_reducible refine Kd.C_alloc ?_ _) | (with_reducible refine Kd.C_drewN ?_ _) | (with_reducible refine Kd.C_drew ?_))); (case side2 => exact HC0.out); rintro e w' ⟨rfl, ⟨nd, rfl⟩⟩; refine ⟨_, rfl, ?_⟩))
            go_ret
            exact ⟨by first | rfl | (simp [errW_none, errW_some] <;> rfl) | (simp [*, errW_none, errW_some] <;> rfl), by repeat (first | (with_reducible first | exact HB.out | apply below_alloc | apply pw_below_drewN | apply below_drew1) | exact HB.out)⟩
        · rw [if_neg c10] at H
          have c10b0 : (t303 == t305) = false := beq_eq_false_iff_ne.mpr c10
          have c10b1 : (t303 != t305) = true := bne_iff_ne.mpr c10
          obtain rfl := Option.some.inj H
          go_enter Tryz.func10, Tryz.ntmps10
          go_wp2_with (first | ((with_reducible refine gate_callee (f := 16) rfl ?_); refine goesL_ (some 10) rfl rfl Tryz.func16 (by kernel_rfl) rfl #[] rfl (by (try simp only [List.map_toArray, List.map_cons, List.map_nil]); first | done | rfl | (simp only [List.length_drop, List.length_take]; rfl)) ?_; (with_reducible refine (bursarlaw03_known.calls k  true _ A3.out (Glob.below hG.toGlob (by repeat (first | (with_reducible first | exact HB.out | apply below_alloc | apply pw_below_drewN | apply below_drew1) | exact HB.out)))).mono ?_); rintro e w24 ⟨rfl, hb⟩; refine ⟨_, rfl, ?_⟩; have n0_ := Aside0.mk (below_step (by repeat (first | (with_reducible first | exact HB.out | apply below_alloc | apply pw_below_drewN | apply below_drew1) | exact HB.out)) hb); clear HB; have HB := n0_; clear n0_; (try clear hb); (try clear hb2); (try clear hk); (try clear hi)) | ((with_reducible refine gate_callee (f := 29) rfl ?_); refine goesL_ (some 13) rfl rfl Tryz.func29 (by kernel_rfl) rfl #[.slice A0 l0.length c0] rfl (by (try simp only [List.map_toArray, List.map_cons, List.map_nil]); first | done | rfl | (simp only [List.length_drop, List.length_take]; rfl)) ?_; (with_reducible refine (bursarlaw03_behind.calls _ _ l0 t296 _ ?side1 ?side2 A5.out (GlobM.below hG (by repeat (first | (with_reducible first | exact HB.out | apply below_alloc | apply pw_below_drewN | apply below_drew1) | exact HB.out)))).mono ?_); (case side1 => repeat (first | exact (Kd.C_below HR0.out HB.out) | (with_reducible refine Kd.C_alloc ?_ _) | (with_reducible refine Kd.C_drewN ?_ _) | (with_reducible refine Kd.C_drew ?_))); (case side2 => exact HC0.out); rintro e w25 ⟨v297, rfl, ho0, hb⟩; refine ⟨_, rfl, ?_⟩; have n0_ := Aside0.mk (Kd.R_lower ho0 (below_size (by repeat (first | (with_reducible first | exact HB.out | apply below_alloc | apply pw_below_drewN | apply below_drew1) | exact HB.out)))); have n1_ := Aside0.mk (below_step (by repeat (first | (with_reducible first | exact HB.out | apply below_alloc | apply pw_below_drewN | apply below_drew1) | exact HB.out)) hb); clear HB; have HO298 := n0_; have HB := n1_; clear n0_ n1_; (try clear hb); (try clear hb2); (try clear hk); (try clear hi); (try clear ho0); obtain ⟨Ao27, co27, eo27⟩ := Kd.R_slice HO298.out; subst eo27; have q26 : ((l0.length : Int) : Int) ≤ ((t296.length : Int) : Int) := of_decide_eq_true (by first | (with_reducible assumption) | assumption); obtain ⟨i026, hi026, _, hsz26, _⟩ := info_parts info57; have hroom26 : t296.length ≤ co27 := (Kd.R_reads' HO298.out).2.1; have hC26 : Kd.C k57 _ Ao27 t296.length t296 := (Kd.R_reads' HO298.out).2.2; (try clear hcut15); (try clear hcut21); have hcut26 := cut_to (P := Tryz.prog) 46 57 .i64 Tryz.underlying46 hi026 Ao27 t296.length co27 (l0.length : Int) (of_decide_eq_true (by first | (with_reducible assumption) | assumption)) q26 hroom26; have hr26 := Kd.C_take (m := ((l0.length : Int) : Int).toNat) hC26 (by omega); have hy26 : y299.length = ((l0.length : Int) : Int).toNat := (by rw [Ny299.out, List.length_take]; omega); rw [← Ny299.out] at hr26; rw [← hy26] at hcut26; have HR302 := Aside0.mk hr26; have HC302 := Aside0.mk (show y299.length ≤ co27 from by omega); clear hr26 hC26 hroom26 hi026 hsz26; have KY26 := Aside0.mk hy26; clear hy26; have KL26 := Aside0.mk (show ((l0.length : Int) : Int).toNat ≤ t296.length from by omega); replace q26 := eq_true q26) | ((with_reducible refine gate_callee (f := 30) rfl ?_); refine goesL_ (some 20) rfl rfl Tryz.func30 (by kernel_rfl) rfl #[.slice Ao27 y299.length co27, .string a1] rfl (by (try simp only [List.map_toArray, List.map_cons, List.map_nil]); first | done | rfl | (simp only [List.length_drop, List.length_take]; rfl)) ?_; (with_reducible refine (quant_Of.calls k _ _ y299 a1 t303 t304 _ ?side1 ?side2 A8.out).mono ?_); (case side1 => repeat (first | exact (by repeat (first | (with_reducible exact HR302.out) | (with_reducible refine Kd.C_alloc ?_ _) | (with_reducible refine Kd.C_drewN ?_ _) | (with_reducible refine Kd.C_drew ?_) | exact HR302.out)) | (with_reducible refine Kd.C_alloc ?_ _) | (with_reducible refine Kd.C_drewN ?_ _) | (with_reducible refine Kd.C_drew ?_))); (case side2 => exact HC302.out); rintro e w28 ⟨rfl, hb⟩; refine ⟨_, rfl, ?_⟩; have n0_ := Aside0.mk (Kd.R_below (by (with_reducible repeat (first | apply Kd.R_alloc | apply Kd.R_drewN | apply Kd.R_drew)); exact HO298.out) hb); have n1_ := Aside0.mk (Kd.C_below (by repeat (first | (with_reducible exact HR302.out) | (with_reducible refine Kd.C_alloc ?_ _) | (with_reducible refine Kd.C_drewN ?_ _) | (with_reducible refine Kd.C_drew ?_) | exact HR302.out)) hb); have n2_ := Aside0.mk (below_step (by repeat (first | (with_reducible first | exact HB.out | apply below_alloc | apply pw_below_drewN | apply below_drew1) | exact HB.out)) hb); clear HO298; clear HR302; clear HB; have HO298 := n0_; have HR302 := n1_; have HB := n2_; clear n0_ n1_ n2_; (try clear hb); (try clear hb2); (try clear hk); (try clear hi)) | ((with_reducible refine gate_callee (f := 31) rfl ?_); refine goesL_ (some 26) rfl rfl Tryz.func31 (by kernel_rfl) rfl #[.slice A0 l0.length c0, .string a1] rfl (by (try simp only [List.map_toArray, List.map_cons, List.map_nil]); first | done | rfl | (simp only [List.length_drop, List.length_take]; rfl)) ?_; (with_reducible refine (bursarref03_Of.calls k _ _ l0 a1 t305 t306 _ ?side1 ?side2 A9.out).mono ?_); (case side1 => repeat (first | exact (Kd.C_below HR0.out HB.out) | (with_reducible refine Kd.C_alloc ?_ _) | (with_reducible refine Kd.C_drewN ?_ _) | (with_reducible refine Kd.C_drew ?_))); (case side2 => exact HC0.out); rintro e w' ⟨rfl, ⟨nd, rfl⟩⟩; refine ⟨_, rfl, ?_⟩))
          go_ret
          exact ⟨by first | rfl | (simp [errW_none, errW_some] <;> rfl) | (simp [*, errW_none, errW_some] <;> rfl), by repeat (first | (with_reducible first | exact HB.out | apply below_alloc | apply pw_below_drewN | apply below_drew1) | exact HB.out)⟩
      · rw [if_neg c7] at H
        exact absurd H (by simp)
    · rw [if_neg c6] at H
      exact absurd H (by simp)
  · replace c4 := Bool.eq_false_iff.mpr c4
    subst c4
    have H1 : (some false) = some r := by rw [if_neg (show ¬ (false = true) by decide)] at H; exact H
    clear H
    have H := H1
    clear H1
    obtain rfl := Option.some.inj H
    go_enter Tryz.func10, Tryz.ntmps10
    go_wp2_with (first | ((with_reducible refine gate_callee (f := 16) rfl ?_); refine goesL_ (some 10) rfl rfl Tryz.func16 (by kernel_rfl) rfl #[] rfl (by (try simp only [List.map_toArray, List.map_cons, List.map_nil]); first | done | rfl | (simp only [List.length_drop, List.length_take]; rfl)) ?_; (with_reducible refine (bursarlaw03_known.calls k  false _ A3.out (Glob.below hG.toGlob (by repeat (first | (with_reducible first | exact HB.out | apply below_alloc | apply pw_below_drewN | apply below_drew1) | exact HB.out)))).mono ?_); rintro e w29 ⟨rfl, hb⟩; refine ⟨_, rfl, ?_⟩; have n0_ := Aside0.mk (below_step (by repeat (first | (with_reducible first | exact HB.out | apply below_alloc | apply pw_below_drewN | apply below_drew1) | exact HB.out)) hb); clear HB; have HB := n0_; clear n0_; (try clear hb); (try clear hb2); (try clear hk); (try clear hi)))
    go_ret
    exact ⟨by first | rfl | (simp [errW_none, errW_some] <;> rfl) | (simp [*, errW_none, errW_some] <;> rfl), by repeat (first | (with_reducible first | exact HB.out | apply below_alloc | apply pw_below_drewN | apply below_drew1) | exact HB.out)⟩
end Go.Proofs.YtejgbdclhlolkaaGreatDoor.Q
namespace Go.Proofs.YtejgbdclhlolkaaGreatDoor.Q
open Go.RowKit Go.Proofs.YtejgbdclhlolkaaGreatDoorW.PrintWords Go.Proofs.YtejgbdclhlolkaaGreatDoorW.PrintLast
set_option linter.unusedVariables false
set_option linter.unusedSimpArgs false
set_option maxRecDepth 100000 in
theorem known_at : bursarlaw03_known.f 60 = some true := by decide +kernel
theorem known_ev : Ev (fun k => bursarlaw03_known.f k) true := Ev.of bursarlaw03_known.mono known_at
end Go.Proofs.YtejgbdclhlolkaaGreatDoor.Q
namespace Go.Proofs.YtejgbdclhlolkaaGreatDoor.Q
open Go.RowKit Go.Proofs.YtejgbdclhlolkaaGreatDoorW.PrintWords Go.Proofs.YtejgbdclhlolkaaGreatDoorW.PrintLast
set_option linter.unusedVariables false
set_option linter.unusedSimpArgs false
theorem wl (i : Nat) (h : i < 9223372036854775807) : wrap64 ((i : Int) + 1) = ((i + 1 : Nat) : Int) := by unfold wrap64; omega
theorem ba_iffL (a b : ByteArray) : a.toList = b.toList ↔ a = b := by
  rw [ByteArray.toList_eq, ByteArray.toList_eq]
  refine ⟨fun h => ?_, fun h => by rw [h]⟩
  cases a; cases b; simp only at h; congr 1; exact Array.toList_inj.1 h
theorem rd_get57 (l : List S57) (i : Nat) (h : i < l.length) : rd_T57 l (i : Int) = l[i] := by
  simp [rd_T57, List.getD_eq_getElem?_getD, h]
def ofL (x : ByteArray) : List S57 → Int × Bool
  | [] => (0, false)
  | a :: l => if a.f0 = x then (a.f1, true) else ofL x l
theorem of_l0 (x : ByteArray) (l : List S57) (hl : l.length ≤ 9223372036854775806) : ∀ (m i : Nat), i + m = l.length → Ev (fun k => quant_Of.l0 k x l (l.length : Int) (i : Int)) (ofL x (l.drop i)) := by
  intro m
  induction m with
  | zero =>
    intro i hi
    rw [List.drop_eq_nil_of_le (by omega)]
    refine Ev.step (f := fun _ => some (0, false)) (fun k => ?_) (Ev.now _)
    simp only [quant_Of.l0]
    rw [if_neg (by omega)]
  | succ m ih =>
    intro i hi
    rw [List.drop_eq_getElem_cons (by omega), ofL]
    by_cases h : (l[i]'(by omega)).f0 = x
    · rw [if_pos h]
      refine Ev.step (f := fun _ => some ((l[i]'(by omega)).f1, true)) (fun k => ?_) (Ev.now _)
      simp only [quant_Of.l0]
      rw [if_pos (by omega), if_pos (by omega), if_pos (by omega), rd_get57 l i (by omega), if_pos ((ba_iffL _ _).2 h)]
    · rw [if_neg h]
      refine Ev.step (fun k => ?_) (ih (i + 1) (by omega))
      simp only [quant_Of.l0]
      rw [if_pos (by omega), if_pos (by omega), if_pos (by omega), rd_get57 l i (by omega), if_neg (fun e => h ((ba_iffL _ _).1 e)), wl i (by omega)]
theorem of_ev (x : ByteArray) (l : List S57) (hl : l.length ≤ 9223372036854775806) : Ev (fun k => quant_Of.f k l x) (ofL x l) := of_l0 x l hl l.length 0 (by omega)
theorem refOf_l0 (x : ByteArray) (l : List S57) (hl : l.length ≤ 9223372036854775806) : ∀ (m i : Nat), i + m = l.length → Ev (fun k => bursarref03_Of.l0 k l x (i : Int)) (ofL x (l.drop i)) := by
  intro m
  induction m with
  | zero =>
    intro i hi
    rw [List.drop_eq_nil_of_le (by omega)]
    refine Ev.step (f := fun _ => some (0, false)) (fun k => ?_) (Ev.now _)
    simp only [bursarref03_Of.l0]
    rw [if_neg (by omega)]
  | succ m ih =>
    intro i hi
    rw [List.drop_eq_getElem_cons (by omega), ofL]
    by_cases h : (l[i]'(by omega)).f0 = x
    · rw [if_pos h]
      refine Ev.step (f := fun _ => some ((l[i]'(by omega)).f1, true)) (fun k => ?_) (Ev.now _)
      simp only [bursarref03_Of.l0]
      rw [if_pos (by omega), if_pos (by omega), rd_get57 l i (by omega), if_pos ((ba_iffL _ _).2 h)]
    · rw [if_neg h]
      refine Ev.step (fun k => ?_) (ih (i + 1) (by omega))
      simp only [bursarref03_Of.l0]
      rw [if_pos (by omega), if_pos (by omega), rd_get57 l i (by omega), if_neg (fun e => h ((ba_iffL _ _).1 e)), wl i (by omega)]
theorem refOf_ev (x : ByteArray) (l : List S57) (hl : l.length ≤ 9223372036854775806) : Ev (fun k => bursarref03_Of.f k l x) (ofL x l) := refOf_l0 x l hl l.length 0 (by omega)
theorem same_l0 (l : List S57) (hl : l.length ≤ 9223372036854775806) : ∀ (m i : Nat), i + m = l.length → Ev (fun k => bursarlaw03_same.l0 k l l (i : Int)) true := by
  intro m
  induction m with
  | zero =>
    intro i hi
    refine Ev.step (f := fun _ => some true) (fun k => ?_) (Ev.now _)
    simp only [bursarlaw03_same.l0]
    rw [if_neg (by omega)]
  | succ m ih =>
    intro i hi
    refine Ev.step (fun k => ?_) (ih (i + 1) (by omega))
    simp only [bursarlaw03_same.l0]
    rw [if_pos (by omega), if_pos (by omega), if_pos (by omega), beq_self_eq_true, beq_self_eq_true, if_neg (by decide), wl i (by omega)]
theorem same_refl (l : List S57) (hl : l.length ≤ 9223372036854775806) : Ev (fun k => bursarlaw03_same.f k l l) true :=
  Ev.congr (fun k => if_pos rfl) (same_l0 l hl l.length 0 (by omega))
theorem behind_is (l : List S57) (hl : l.length ≤ 4000000000) : bursarlaw03_behind.f l = some (l ++ [markS]) := if_pos hl
theorem behind_take (l : List S57) : (l ++ [markS]).take ((l.length : Int) : Int).toNat = l := by rw [Int.toNat_natCast, List.take_left' rfl]
theorem untouched_ev (l : List S57) (hl : l.length ≤ 4000000000) : Ev (fun k => bursarlaw03_untouched.f k (l ++ [markS]) l) true := by
  have e : rd_T57 (l ++ [markS]) (l.length : Int) = markS := by
    rw [rd_get57 _ l.length (by simp)]
    simp
  refine Ev.congr (f := fun k => (bursarlaw03_same.f k l l).bind fun t => if t = true then some ((markS).f0.toList == (⟨#[109, 97, 114, 107]⟩ : ByteArray).toList && (markS.f1 == 77)) else some false) (fun k => ?_) (Ev.bind (same_refl l (by omega)) (Ev.congr (f := fun _ => some true) (fun k => by rw [if_pos rfl, show markS.f0 = (⟨#[109, 97, 114, 107]⟩ : ByteArray) from rfl, beq_self_eq_true]; rfl) (Ev.now _)))
  unfold bursarlaw03_untouched.f
  rw [if_neg (by omega), if_pos (by simp), e, List.take_left' rfl]
end Go.Proofs.YtejgbdclhlolkaaGreatDoor.Q
namespace Go.Proofs.YtejgbdclhlolkaaGreatDoor.Q
open Go.RowKit Go.Proofs.YtejgbdclhlolkaaGreatDoorW.PrintWords Go.Proofs.YtejgbdclhlolkaaGreatDoorW.PrintLast Go.ChangeShapes
set_option linter.unusedVariables false
set_option linter.unusedSimpArgs false
section
variable {H : Type} (enc : TypeId × Value → H) (P : Program) (w : World) (base : Nat) (spare : Nat → Bool) (held : Bool)
def Opens (t : TypeId) {α : Type} (d : Kd α) (Rel : DataW H → α → Prop) : Prop :=
  ∀ (fuel : Nat) (cs : List Value) (x : DataW H × List MemPlace), DataW.trod enc P w base spare held fuel t cs = some x → ∃ a, d.K w a cs ∧ Rel x.1 a
def OpensFs {α : Type} (off : Nat) (fs : List Field) (d : Kd α) (Rel : List (DataW H) → α → Prop) : Prop :=
  ∀ (n : Nat) (cs : List Value) (xs : List (DataW H × List MemPlace)), xs.length = fs.length → cs.length = off + d.sz →
    (∀ (i : Nat) (f : Field), fs[i]? = some f → DataW.trod enc P w base spare held n f.type ((cs.drop f.offset).take (P.cellsOf f.type)) = xs[i]?) → ∃ a, d.K w a (cs.drop off) ∧ Rel (xs.map (·.1)) a
variable {enc : TypeId × Value → H} {P : Program} {w : World} {base : Nat} {spare : Nat → Bool} {held : Bool}
theorem opens_string {t : TypeId} (ht : P.underlying t = some .string) : Opens enc P w base spare held t Kd.string (fun x (s : ByteArray) => x = .lit (.string s.data.toList) ∧ s.size ≤ maxLen) := by
  intro fuel cs x h
  obtain ⟨s, rfl, rfl, hs⟩ := DataW.trod_string ht h
  exact ⟨s, rfl, rfl, hs⟩
theorem opens_int {t : TypeId} {k : IntKind} (ht : P.underlying t = some (.int k)) : Opens enc P w base spare held t (Kd.int k) (fun x (n : Int) => x = .lit (.int k n) ∧ (Lit.int k n).wf = true) := by
  intro fuel cs x h
  obtain ⟨s, rfl, rfl, hs⟩ := DataW.trod_int ht h
  exact ⟨s, rfl, rfl, hs⟩
theorem list_of {α : Type} {p : Nat → α → Prop} : ∀ n : Nat, (∀ i, i < n → ∃ x, p i x) → ∃ l : List α, l.length = n ∧ ∀ i x, l[i]? = some x → p i x
  | 0, _ => ⟨[], rfl, fun i x h => by simp at h⟩
  | n + 1, h => by
    obtain ⟨l, hl, hp⟩ := list_of n (fun i hi => h i (by omega))
    obtain ⟨x, hx⟩ := h n (by omega)
    refine ⟨l ++ [x], by simp [hl], fun i y hy => ?_⟩
    rcases Nat.lt_trichotomy i n with h1 | h1 | h1
    · rw [List.getElem?_append_left (by omega)] at hy; exact hp i y hy
    · subst h1
      rw [List.getElem?_append_right (by omega), hl, Nat.sub_self] at hy
      simp at hy
      exact hy ▸ hx
    · rw [List.getElem?_eq_none (by simp; omega)] at hy; cases hy
def RowD {H : Type} {α : Type} (Rel : DataW H → α → Prop) (x : DataW H) (l : List α) : Prop :=
  (x = .nil ∧ l = []) ∨ ∃ es r, x = .slice es r ∧ es.length = l.length ∧ ∀ (i : Nat) e a, es[i]? = some e → l[i]? = some a → Rel e a
theorem opens_slice {t e : TypeId} {α : Type} {d : Kd α} {Rel : DataW H → α → Prop} (e' : Nat) (ht : P.underlying t = some (.slice e)) (hc : P.cellsOf e = d.sz) (h : Opens enc P w base spare held e d Rel) :
    Opens enc P w base spare held t (Kd.slice e' d) (fun x l => RowD Rel x l ∧ l.length ≤ maxLen) := by
  intro fuel cs x hx
  have h63 : maxLen ≤ 9223372036854775807 := by decide
  rcases Go.Deep.open_slice ht hx with ⟨rfl, rfl⟩ | ⟨a, len, cap, m, n, D, Pl, rfl, hb, hl, hm, hmm, rfl, hi⟩
  · exact ⟨[], ⟨none, 0, rfl, Nat.le_refl _, rfl, Nat.zero_le _, fun h => absurd h (Nat.lt_irrefl 0)⟩, .inl ⟨rfl, rfl⟩, Nat.zero_le _⟩
  · have hlm : len ≤ m := by rw [hmm]; split <;> omega
    obtain ⟨l, hll, hp⟩ := list_of (α := α) (p := fun i y => ∃ cs', w.cells? base (a.add (i * P.cellsOf e)) (P.cellsOf e) = some cs' ∧ d.K w y cs' ∧ Rel (D i) y) len (fun i h1 => by
      obtain ⟨cs', h2, h3⟩ := hi i (by omega)
      obtain ⟨y, hy, hr⟩ := h n cs' _ h3
      exact ⟨y, cs', h2, hy, hr⟩)
    subst hll
    refine ⟨l, ⟨some a, cap, rfl, hl, rfl, by omega, fun _ => ⟨a, rfl, fun j p hj => ?_⟩⟩, .inr ⟨_, _, rfl, by simp, fun i e' a' h1 h2 => ?_⟩, by omega⟩
    · obtain ⟨cs', h2, h3, _⟩ := hp j p hj
      obtain ⟨_, h4, h5⟩ := World.cells?_some h2
      refine ⟨cs', by rw [h4, hc], h3, fun i u hu => ?_⟩
      have hil : i < cs'.length := (List.getElem?_eq_some_iff.1 hu).1
      have := h5 i (by omega)
      rw [hu, Go.Deep.add_add, hc] at this
      exact this
    · obtain ⟨_, _, _, h4⟩ := hp i a' h2
      have hil : i < l.length := (List.getElem?_eq_some_iff.1 h2).1
      simp [hil] at h1
      subst h1
      exact h4
theorem opens_one {f : Field} {off : Nat} {α : Type} {d : Kd α} {Rel : DataW H → α → Prop} (hf : f.offset = off) (hc : P.cellsOf f.type = d.sz) (h : Opens enc P w base spare held f.type d Rel) :
    OpensFs enc P w base spare held off [f] d (fun l a => ∃ y, l = [y] ∧ Rel y a) := by
  intro n cs xs hx hcs hi
  obtain ⟨x, rfl⟩ := List.length_eq_one_iff.1 (show xs.length = 1 from hx)
  have h0 := hi 0 f rfl
  rw [hf, hc, List.take_of_length_le (by rw [List.length_drop]; omega)] at h0
  obtain ⟨a, ha, hr⟩ := h n _ x h0
  exact ⟨a, ha, _, rfl, hr⟩
theorem opens_cons {f : Field} {fs : List Field} {off : Nat} {α β : Type} {d0 : Kd α} {d : Kd β} {R0 : DataW H → α → Prop} {R : List (DataW H) → β → Prop} (hf : f.offset = off) (hc : P.cellsOf f.type = d0.sz) (h0 : Opens enc P w base spare held f.type d0 R0)
    (h : OpensFs enc P w base spare held (off + d0.sz) fs d R) : OpensFs enc P w base spare held off (f :: fs) (Kd.pair d0 d) (fun l a => ∃ y r, l = y :: r ∧ R0 y a.1 ∧ R r a.2) := by
  intro n cs xs hx hcs hi
  cases xs with
  | nil => simp at hx
  | cons x xs =>
    have hsz : (Kd.pair d0 d).sz = d0.sz + d.sz := rfl
    rw [hsz] at hcs
    have h1 := hi 0 f rfl
    rw [hf, hc] at h1
    obtain ⟨a, ha, hr⟩ := h0 n _ x h1
    obtain ⟨b, hb, hs⟩ := h n cs xs (by simpa using hx) (by omega) (fun i g hg => hi (i + 1) g hg)
    refine ⟨(a, b), ⟨_, _, ?_, ha, hb⟩, _, _, rfl, hr, hs⟩
    rw [← List.drop_drop]
    exact (List.take_append_drop _ _).symm
theorem opens_struct {t : TypeId} {fs : Array Field} {α β : Type} {d : Kd α} {R : List (DataW H) → α → Prop} (f : β → α) (g : α → β) (hg : ∀ a, f (g a) = a) (ht : P.underlying t = some (.struct fs)) (hc : P.cellsOf t = d.sz) (h : OpensFs enc P w base spare held 0 fs.toList d R) :
    Opens enc P w base spare held t (Kd.iso d f) (fun x b => ∃ l, x = .agg l ∧ R l (f b)) := by
  intro fuel cs x hx
  obtain ⟨xs, n, _, rfl, hl, hxl, hi⟩ := DataW.trod_struct ht hx
  obtain ⟨a, ha, hr⟩ := h n cs xs (by simpa using hxl) (by rw [hl, hc, Nat.zero_add]) (fun i g hg' => hi i g (by rw [← Array.getElem?_toList]; exact hg'))
  rw [List.drop_zero] at ha
  refine ⟨g a, ?_, _, rfl, ?_⟩
  · show d.K w (f (g a)) cs
    rw [hg]; exact ha
  · rw [hg]; exact hr
theorem row_open {t e : TypeId} {α : Type} {d : Kd α} {Rel : DataW H → α → Prop} {A : Option Addr} {len cap : Nat} {x : DataW H} {ps : List MemPlace} (ht : P.underlying t = some (.slice e)) (hc : P.cellsOf e = d.sz)
    (h : Opens enc P w base spare held e d Rel) (hx : ∃ m, DataW.trod enc P w base spare held m t [.slice A len cap] = some (x, ps)) :
    ∃ l : List α, len = l.length ∧ d.C w A l.length l ∧ l.length ≤ cap ∧ RowD Rel x l ∧ l.length ≤ maxLen := by
  obtain ⟨m, hm⟩ := hx
  obtain ⟨l, ⟨A', c', he, hlc, hC⟩, hr, hml⟩ := opens_slice 0 ht hc h m _ _ hm
  injection he with he _
  injection he with h1 h2 h3
  subst h1 h2 h3
  exact ⟨l, rfl, hC, hlc, hr, hml⟩
end
theorem bulk_pos {H : Type} (d : DataW H) : 1 ≤ Rows.uptoBulk d := by
  cases d with
  | lit l => cases l <;> simp only [Rows.uptoBulk] <;> omega
  | nil => simp only [Rows.uptoBulk]; omega
  | ptr d => simp only [Rows.uptoBulk]; omega
  | slice a b => simp only [Rows.uptoBulk]; omega
  | agg p => simp only [Rows.uptoBulk]; omega
  | iface a d => simp only [Rows.uptoBulk]; omega
  | map e => simp only [Rows.uptoBulk]; omega
  | _ => simp only [Rows.uptoBulk]; omega
theorem bulk_all {H : Type} : ∀ l : List (DataW H), l.length ≤ Rows.uptoBulkAll l ∧ ∀ (i : Nat) x, l[i]? = some x → Rows.uptoBulk x ≤ Rows.uptoBulkAll l
  | [] => ⟨Nat.zero_le _, fun i x h => by simp at h⟩
  | d :: l => by
    obtain ⟨h1, h2⟩ := bulk_all l
    have hp := bulk_pos d
    simp only [Rows.uptoBulkAll, List.length_cons]
    refine ⟨by omega, fun i x h => ?_⟩
    cases i with
    | zero => simp at h; subst h; omega
    | succ i => have := h2 i x (by simpa using h); omega
theorem bulk_row {H : Type} {α : Type} {Rel : DataW H → α → Prop} {x : DataW H} {l : List α} (h : RowD Rel x l) : l.length ≤ Rows.uptoBulk x ∧ ∀ (i : Nat) a, l[i]? = some a → ∃ e, Rel e a ∧ Rows.uptoBulk e ≤ Rows.uptoBulk x := by
  rcases h with ⟨rfl, rfl⟩ | ⟨es, r, rfl, hl, he⟩
  · exact ⟨Nat.zero_le _, fun i a h => by simp at h⟩
  · obtain ⟨h1, h2⟩ := bulk_all es
    simp only [Rows.uptoBulk]
    refine ⟨by omega, fun i a ha => ?_⟩
    have hil : i < es.length := by rw [hl]; exact (List.getElem?_eq_some_iff.1 ha).1
    have hes : es[i]? = some es[i] := List.getElem?_eq_getElem hil
    exact ⟨es[i], he i _ _ hes ha, by have := h2 i _ hes; omega⟩
theorem bulk_agg {H : Type} {l : List (DataW H)} (i : Nat) (x : DataW H) (h : l[i]? = some x) : Rows.uptoBulk x ≤ Rows.uptoBulk (.agg l) := by
  have := (bulk_all l).2 i x h
  simp only [Rows.uptoBulk]
  omega
theorem bulk_str {H : Type} (s : ByteArray) : s.size ≤ Rows.uptoBulk (.lit (.string s.data.toList) : DataW H) := by
  simp only [Rows.uptoBulk, Array.length_toList]
  have : s.data.size = s.size := rfl
  omega
end Go.Proofs.YtejgbdclhlolkaaGreatDoor.Q
namespace Go.Proofs.YtejgbdclhlolkaaGreatDoor.Q
open Go.RowKit Go.Proofs.YtejgbdclhlolkaaGreatDoorW.PrintWords Go.Proofs.YtejgbdclhlolkaaGreatDoorW.PrintLast Go.ChangeShapes
set_option linter.unusedVariables false
set_option linter.unusedSimpArgs false
def StrD {H : Type} (x : DataW H) (s : ByteArray) : Prop := x = .lit (.string s.data.toList) ∧ s.size ≤ maxLen
def AmD {H : Type} (x : DataW H) (b : S57) : Prop := ∃ l, x = .agg l ∧ ∃ y r, l = y :: r ∧ StrD y b.f0 ∧ ∃ y2, r = [y2] ∧ (y2 = .lit (.int .i64 b.f1) ∧ (Lit.int .i64 b.f1).wf = true)
section
variable {H : Type} {enc : TypeId × Value → H} {w : World} {base : Nat} {spare : Nat → Bool} {held : Bool}
theorem opens57 : Opens enc Tryz.prog w base spare held 57 k57 AmD :=
  opens_struct (fun x : S57 => (x.f0, x.f1)) (fun a => ⟨a.1, a.2⟩) (fun _ => rfl) Tryz.underlying57 (by kernel_rfl)
    (opens_cons rfl (by kernel_rfl) (opens_string Tryz.underlying9) (opens_one rfl (by kernel_rfl) (opens_int Tryz.underlying2)))
end
def Small57 (l : List S57) : Prop := l.length ≤ 1048576 ∧ ∀ x ∈ l, x.f0.size ≤ 1048576 ∧ -9223372036854775808 ≤ x.f1 ∧ x.f1 ≤ 9223372036854775807
theorem small57 {H : Type} {d : DataW H} {l : List S57} (h : RowD AmD d l) (hb : Rows.uptoBulk d ≤ 1048576) : Small57 l := by
  obtain ⟨h1, h2⟩ := bulk_row h
  refine ⟨by omega, fun t ht => ?_⟩
  obtain ⟨i, hi, rfl⟩ := List.getElem_of_mem ht
  obtain ⟨e, ⟨l', rfl, y, r, rfl, ⟨rfl, _⟩, y2, rfl, ⟨rfl, hw⟩⟩, he⟩ := h2 i _ (List.getElem?_eq_getElem hi)
  have b1 := bulk_agg (l := [.lit (.string l[i].f0.data.toList), .lit (.int .i64 l[i].f1)]) 0 (.lit (.string l[i].f0.data.toList) : DataW H) rfl
  have b2 := bulk_str (H := H) l[i].f0
  simp only [Lit.wf, IntKind.min, IntKind.max, IntKind.signed, IntKind.bits, Bool.and_eq_true, decide_eq_true_eq, if_true] at hw
  exact ⟨by omega, by omega, by omega⟩
end Go.Proofs.YtejgbdclhlolkaaGreatDoor.Q
namespace Go.Proofs.YtejgbdclhlolkaaGreatDoor.Pure
open Go.RowKit Go.Proofs.YtejgbdclhlolkaaGreatDoorW.PrintWords Go.Proofs.YtejgbdclhlolkaaGreatDoorW.PrintLast Go.Proofs.YtejgbdclhlolkaaGreatDoor.Q
set_option linter.unusedVariables false
set_option linter.unusedSimpArgs false
theorem QuantFinds_any (l : List S57) (x : ByteArray) (hl : l.length ≤ 4000000000) : ∃ k, bursarlaw03_QuantFinds.f k l x = some true := by
  refine Ev.rounds ?_
  have hb : (l.length : Int) ≤ ((l ++ [markS]).length : Int) := by rw [List.length_append]; omega
  refine Ev.congr (fun k => rfl) (Ev.bind known_ev (Ev.congr (fun k => if_pos rfl) ?_))
  rw [behind_is l hl]
  refine Ev.congr (fun k => Option.bind_some _ _) (Ev.congr (fun k => if_pos (by omega)) (Ev.congr (fun k => if_pos hb) ?_))
  rw [behind_take]
  refine Ev.bind (of_ev x l (by omega)) (Ev.bind (refOf_ev x l (by omega)) (Ev.congr (fun k => if_pos rfl) (Ev.congr (fun k => if_pos (beq_self_eq_true _)) (Ev.bind (untouched_ev l hl) (Ev.now _)))))
theorem QuantFinds (l : List S57) (x : ByteArray) (c0 : Small57 l) (b1 : x.size ≤ 1048576) : ∃ k, bursarlaw03_QuantFinds.f k l x = some true := QuantFinds_any l x (by have := c0.1; omega)
end Go.Proofs.YtejgbdclhlolkaaGreatDoor.Pure
namespace Go.Proofs.YtejgbdclhlolkaaGreatDoor.Q
open Go.RowKit Go.Lib Go.ChangeShapes Go.Proofs.YtejgbdclhlolkaaGreatDoorW.PrintWords Go.Proofs.YtejgbdclhlolkaaGreatDoorW.PrintLast
set_option linter.unusedVariables false
set_option linter.unusedSimpArgs false
theorem laid_one {P : Program} {w : World} {l : List (String × DataW Unit)} {n : String} {d : DataW Unit} (h : laidMetH P l w) (hl : (l.filter fun x => x.1 == n) = [(n, d)]) (hd : d.handleName? = none) : laidMet P [(n, d)] w := by
  have h1 := h.filter (fun x => x.1 == n)
  rw [hl] at h1
  have h2 := (laidMetH_iff.1 h1).1
  have e : ([(n, d)] : List (String × DataW Unit)).filter (fun x => x.2.handleName?.isNone) = [(n, d)] := by simp [List.filter_cons, hd]
  rw [e] at h2
  exact h2
theorem struct_si {H : Type} {enc : TypeId × Value → H} {P : Program} {w : World} {base : Nat} {sp : Nat → Bool} {held : Bool} {fuel : Nat} {t : TypeId} {f0 f1 : Field} {k : IntKind} {cs : List Value} {l : List UInt8} {v : Int} {p : List MemPlace}
    (ht : P.underlying t = some (.struct #[f0, f1])) (h0 : P.underlying f0.type = some .string) (h1 : P.underlying f1.type = some (.int k)) (o0 : f0.offset = 0) (o1 : f1.offset = 1) (c0 : P.cellsOf f0.type = 1) (c1 : P.cellsOf f1.type = 1) (c : P.cellsOf t = 2)
    (h : DataW.trod enc P w base sp held fuel t cs = some (.agg [.lit (.string l), .lit (.int k v)], p)) : cs = [.string ⟨l.toArray⟩, .int k v] := by
  obtain ⟨y0, y1, n, hx, hl, e0, e1⟩ := trod_struct2 ht h
  rw [o0, c0] at e0
  rw [o1, c1] at e1
  rw [c] at hl
  injection hx with hx _
  injection hx with hx
  injection hx with hx0 hx
  injection hx with hx1 _
  match cs, hl with
  | [a, b], _ =>
    simp only [List.drop_zero, List.take_succ_cons, List.take_zero, List.drop_succ_cons] at e0 e1
    obtain ⟨s, hs, rfl, _⟩ := DataW.trod_string h0 e0
    obtain ⟨z, hz, rfl, _⟩ := DataW.trod_int h1 e1
    injection hs with hs _
    injection hz with hz _
    subst hs hz
    simp only [DataW.lit.injEq, Lit.string.injEq, Lit.int.injEq, true_and] at hx0 hx1
    subst hx0 hx1
    rfl
theorem arr_at {H : Type} {enc : TypeId × Value → H} {P : Program} {w : World} {base : Nat} {sp : Nat → Bool} {held : Bool} {fuel : Nat} {t e : TypeId} {n : Nat} {cs : List Value} {ds : List (DataW H)} {p : List MemPlace}
    (ht : P.underlying t = some (.array n e)) (h : DataW.trod enc P w base sp held fuel t cs = some (.agg ds, p)) (i : Nat) (hi : i < n) : ∃ f d q, ds[i]? = some d ∧ DataW.trod enc P w base sp held f e ((cs.drop (i * P.cellsOf e)).take (P.cellsOf e)) = some (d, q) := by
  cases fuel with
  | zero => simp [DataW.trod] at h
  | succ fuel =>
    simp only [DataW.trod, ht] at h
    split at h
    · obtain ⟨xs, hm, hx⟩ := Option.map_eq_some_iff.1 h
      injection hx with hx _
      injection hx with hx
      obtain ⟨b, hb, hf⟩ := mapM_at hm i i (by simp [hi])
      exact ⟨fuel, b.1, b.2, by rw [← hx]; simp [hb], hf⟩
    · cases h
theorem units_laid {w : World} (h : laidMet Tryz.prog [("bursar/quant.units", Rows.laid_bursar_quant_units)] w) : ∀ j x, unitCells[j]? = some x → w.cell? ⟨1, j, none⟩ = some x := by
  obtain ⟨ps, ⟨g', t', cs, fuel, p, q, hg', ht', hvar, hd, _, _⟩, _⟩ := h
  obtain rfl : g' = 1 := Option.some.inj (hg'.symm.trans (by kernel_rfl))
  obtain rfl : t' = 67 := Option.some.inj (ht'.symm.trans (by kernel_rfl))
  intro j x hx
  rw [World.var?_cell hg' hvar j]
  have hj : j < 24 := (List.getElem?_eq_some_iff.1 hx).1
  obtain ⟨f, d, q', hd1, hd2⟩ := arr_at Tryz.underlying67 hd (j / 2) (by omega)
  rw [show Tryz.prog.cellsOf 66 = 2 by kernel_rfl] at hd2
  have key : ∀ (l : List UInt8) (v : Int), d = .agg [.lit (.string l), .lit (.int .u64 v)] → ((cs.toList.drop (j / 2 * 2)).take 2) = [.string ⟨l.toArray⟩, .int .u64 v] := fun l v e => by
    subst e
    exact struct_si Tryz.underlying66 Tryz.underlying9 Tryz.underlying36 rfl rfl (by kernel_rfl) (by kernel_rfl) (by kernel_rfl) hd2
  have get : ∀ (a b : Value), ((cs.toList.drop (j / 2 * 2)).take 2) = [a, b] → cs[j]? = if j % 2 = 0 then some a else some b := fun a b e => by
    have e1 : ((cs.toList.drop (j / 2 * 2)).take 2)[j % 2]? = [a, b][j % 2]? := by rw [e]
    rw [List.getElem?_take_of_lt (by omega), List.getElem?_drop, show j / 2 * 2 + j % 2 = j by omega, Array.getElem?_toList] at e1
    rw [e1]
    obtain h | h : j % 2 = 0 ∨ j % 2 = 1 := by omega
    · rw [h]; rfl
    · rw [h]; rfl
  obtain rfl | rfl | rfl | rfl | rfl | rfl | rfl | rfl | rfl | rfl | rfl | rfl | rfl | rfl | rfl | rfl | rfl | rfl | rfl | rfl | rfl | rfl | rfl | rfl : j = 0 ∨ j = 1 ∨ j = 2 ∨ j = 3 ∨ j = 4 ∨ j = 5 ∨ j = 6 ∨ j = 7 ∨ j = 8 ∨ j = 9 ∨ j = 10 ∨ j = 11 ∨ j = 12 ∨ j = 13 ∨ j = 14 ∨ j = 15 ∨ j = 16 ∨ j = 17 ∨ j = 18 ∨ j = 19 ∨ j = 20 ∨ j = 21 ∨ j = 22 ∨ j = 23 := by omega
  all_goals
    rw [get _ _ (key _ _ (Option.some.inj hd1).symm)]
    exact hx
theorem mark_laid {w : World} (h : laidMet Tryz.prog [("bursar/bursarlaw03.mark", Rows.laid_bursar_bursarlaw03_mark)] w) : w.cell? ⟨0, 0, none⟩ = some (.string ⟨#[109, 97, 114, 107]⟩) ∧ w.cell? ⟨0, 1, none⟩ = some (.int .i64 77) := by
  obtain ⟨ps, ⟨g', t', cs, fuel, p, q, hg', ht', hvar, hd, _, _⟩, _⟩ := h
  obtain rfl : g' = 0 := Option.some.inj (hg'.symm.trans (by kernel_rfl))
  obtain rfl : t' = 57 := Option.some.inj (ht'.symm.trans (by kernel_rfl))
  rw [World.var?_cell hg' hvar 0, World.var?_cell hg' hvar 1]
  have e := struct_si Tryz.underlying57 Tryz.underlying9 Tryz.underlying2 rfl rfl (by kernel_rfl) (by kernel_rfl) (by kernel_rfl) hd
  rw [← Array.getElem?_toList, ← Array.getElem?_toList, e]
  exact ⟨rfl, rfl⟩
theorem tab_laid {w : World} (h : laidMet Tryz.prog [("internal/strconv.uint64pow10", Rows.laid_internal_strconv_uint64pow10)] w) : Lib.TabIs Tryz.prog w "internal/strconv.uint64pow10" .u64 Lib.pow10Tab :=
  Lib.tabIs_of_head (g := 4) (t := 130) (e := 36) (n := 20) (by kernel_rfl) (by kernel_rfl) Tryz.underlying130 Tryz.underlying36 (by kernel_rfl) (by kernel_rfl) h
theorem globM_of {W : World} (hsh : W.ShapedOpen Tryz.prog) (h : laidMetH Tryz.prog Rows.quantFindsRow.laid W) : GlobM W :=
  ⟨⟨Tryz.laysM146.s1_3 W hsh, tab_laid (laid_one h rfl rfl), units_laid (laid_one h rfl rfl)⟩, (mark_laid (laid_one h rfl rfl)).1, (mark_laid (laid_one h rfl rfl)).2⟩
end Go.Proofs.YtejgbdclhlolkaaGreatDoor.Q
namespace Go.Proofs.YtejgbdclhlolkaaGreatDoor.quantFinds
open Go.ChangeShapes Go.WideShapes Go.ChangeAt Go.RowKit
open Go.ChangeMaps (open_string shut_string)
set_option linter.unusedVariables false
set_option linter.unusedSimpArgs false
theorem own : ownKnob Tryz.prog.godebug = none := by kernel_rfl
theorem laidOut : laidOutB Tryz.prog = true := by kernel_rfl
set_option maxRecDepth 100000 in
theorem contract (H : Type) (enc : TypeId × Value → H) (W : World) (base : Nat) (args : Array Value) (ds gs : List (DataW H)) (before : List MemPlace)
    (hval0 : ∀ (j : Nat) t v, Tryz.f10.params[j]? = some t → args[j]? = some v → Value.okWide Tryz.prog W .any base t v)
    (hW : DataW.Whole enc Tryz.prog Tryz.f10.params.toList Rows.quantFindsSpec.vars false W args.toList ds gs before)
    (hk : Rows.uptoSmall H (ds ++ gs) = true)
    (hsh : W.ShapedOpen Tryz.prog)
    (hl : laidMetH Tryz.prog Rows.quantFindsUptoRow.laid W)
    : Calls Tryz.prog 10 args W fun e W' => ∃ v, e = .returned v ∧ Rows.quantFindsSpec.post enc Tryz.prog Tryz.f10 false true false false W args v W' := by
  have hval : ∀ (j : Nat) t v, Tryz.f10.params[j]? = some t → args[j]? = some v → Value.okWide Tryz.prog W .any base t v := hval0
  have hW' := hW
  obtain ⟨p, q, hA0, hV, rfl, hfz, hnd⟩ := hW
  have hA : DataW.TrodAll enc Tryz.prog W 0 (fun _ => true) true Tryz.f10.params.toList args.toList ds p := hA0
  rw [Tryz.params10] at hA hval
  obtain ⟨v0, vs0, d0, ds0, p0, q0, hargs, rfl, rfl, h0, r0⟩ := trodAll_cons hA
  obtain ⟨v1, vs1, d1, ds1, p1, q1, rfl, rfl, rfl, h1, r1⟩ := trodAll_cons r0
  obtain ⟨rfl, rfl, rfl⟩ := trodAll_nil r1
  obtain rfl : args = #[v0, v1] := by cases args; simp_all
  obtain ⟨rfl, rfl⟩ := trodVars_none hV
  obtain ⟨A0, len0, cap0, rfl⟩ := okWide_slice Tryz.underlying46 (hval 0 46 v0 rfl rfl)
  have k0 := h0
  have lt0 : ∀ x ∈ p0, x.block < W.heap.size := by obtain ⟨m, hm⟩ := k0; exact DataW.trod_lt m _ _ _ hm
  obtain ⟨l0, rfl, hr0, hc0, hz0, hm0⟩ := Q.row_open Tryz.underlying46 (by kernel_rfl) Q.opens57 h0
  obtain ⟨a1, rfl, rfl, rfl, y1⟩ := open_string Tryz.underlying9 (hval 1 9 v1 rfl rfl) h1
  have hb := of_decide_eq_true hk
  simp only [List.append_nil, List.cons_append, List.nil_append, Rows.uptoBulkAll, Rows.uptoBulk, Array.length_toList] at hb
  have c0 : Q.Small57 l0 := Q.small57 hz0 (by omega)
  have b1 : a1.size ≤ 1048576 := by have : a1.data.size = a1.size := rfl; omega
  obtain ⟨k, hp⟩ := Pure.QuantFinds l0 a1 c0 b1
  refine (Q.bursarlaw03_QuantFinds.calls k A0 cap0 l0 a1 true W hr0 hc0 hp (Q.globM_of hsh hl)).mono fun e W' ⟨he, bel⟩ => ?_
  subst he
  exact ⟨_, rfl, _, _, _, [], _, [], hW', trodAll_mk1 (shut_bool Tryz.underlying4 _), (trodAll_cons_mk (Below.trod laidOut (by kernel_rfl) (of_decide_eq_true (by kernel_rfl)) k0 bel lt0) (trodAll_cons_mk (shut_string Tryz.underlying9 y1) trodAll_mk0)), rfl, bel.frame _, fun h => by cases h⟩
noncomputable def tab1 : Obj → Obj
  | .cells _ t frozen => .cells (Go.Pinned.utf8FirstZ.map fun (n : Nat) => Value.int .u8 (n : Int)).toArray t frozen
  | o => o
noncomputable def laidWorld (os : Os) : World :=
  { World.doorLaid Tryz.prog 94 os with heap := (World.doorLaid Tryz.prog 94 os).heap.modify 10 tab1 }
theorem laid_met (os : Os) : laidMet Tryz.prog Rows.quantFindsRow.laid ((laidWorld os).forCall (fun _ _ => 0) ⟨#[], #[.slice none 0 0, .string ByteArray.empty], []⟩).memory :=
  laidMet_of_run' 8 (by kernel_rfl) (by kernel_rfl)
theorem reads (os : Os) {H : Type} (enc : TypeId × Value → H) : ∃ places, DataW.whole enc Tryz.prog ((laidWorld os).forCall (fun _ _ => 0) ⟨#[], #[.slice none 0 0, .string ByteArray.empty], []⟩).memory Tryz.f10.params.toList Rows.quantFindsSpec.vars false (#[.slice none 0 0, .string ByteArray.empty] : Array Value).toList 8 = some ([.nil, .lit (.string [])], [], places) :=
  ⟨[], by kernel_rfl⟩
set_option maxRecDepth 100000 in
theorem lifted (os : Os) (started : os.Started) (H : Type) (enc : TypeId × Value → H) (F : Stop.Interp) :
    ReturnsInHanded {} Tryz.checked os 10 .any ((Rows.OpenSpec.upto Rows.quantFindsSpec).preRow enc Tryz.prog Tryz.f10 Rows.quantFindsUptoRow.domain false Rows.quantFindsUptoRow.laid) (((Rows.OpenSpec.upto Rows.quantFindsSpec).at F).post enc Tryz.prog Tryz.f10 false true false false) := by
  obtain ⟨places, hx⟩ := reads os enc
  refine returnsInHanded_of_row (C := Tryz.checked) (s := Rows.OpenSpec.upto Rows.quantFindsSpec) own started (by kernel_rfl) Tryz.func10
    (witness_row_at (enc := enc) (C := Tryz.checked) false (laidWorld os) #[.slice none 0 0, .string ByteArray.empty] rfl (by kernel_rfl) (by kernel_rfl) (by kernel_rfl)
      (OpenSpec.preRow_of_cond 8 hx (by kernel_rfl) (fun k hk => by cases hk; kernel_rfl) (by kernel_rfl) (laid_met os))) ?_
  intro W base args ds gs before hval hW _ hcond hsz hl hsh _
  exact contract H enc W base args ds gs before hval hW (hcond _ rfl) hsh hl
theorem said : Rows.QuantFindsUptoSaid :=
  OpenClaim.holds_of_cond 10 Tryz.f10 rfl rfl rfl rfl rfl rfl rfl ⟨rfl, rfl, rfl, rfl, rfl⟩ rfl rfl rfl rfl rfl (by kernel_rfl) Tryz.func10 (by kernel_rfl)
    (of_decide_eq_true (by kernel_rfl)) (by unfold Func.isWrapper; first | (rw [if_pos (by decide +kernel)]; kernel_rfl) | (rw [if_neg (by decide +kernel)]; exact ⟨rfl, rfl⟩))
    (fun os started H enc _ F => by rw [OpenClaim.pre_eq_preRow]; exact lifted os started H enc F)
theorem plain (f : FuncId) (fn : Func) (hf : Tryz.pinned.checked.prog.funcNamed "bursar/bursarlaw03.QuantFinds" = some f) (hfn : Tryz.pinned.checked.prog.funcs[f]? = some fn) :
    true = Tryz.pinned.checked.prog.looks [] ∧ ∀ (j : Nat) t, fn.params[j]? = some t → Tryz.pinned.checked.prog.wantsStandIn t = false := by
  obtain rfl : f = 10 := Option.some.inj ((show Tryz.prog.funcNamed "bursar/bursarlaw03.QuantFinds" = some 10 by kernel_rfl).symm.trans hf) |>.symm
  obtain rfl : fn = Tryz.f10 := (Option.some.inj (Tryz.func10.symm.trans hfn)).symm
  refine ⟨by kernel_rfl, fun j t ht => ?_⟩
  rw [Tryz.params10] at ht
  have hall : ∀ x ∈ [46, 9], Tryz.prog.wantsStandIn x = false := by
    intro x hx; simp only [List.mem_cons, List.mem_nil_iff, or_false] at hx; rcases hx with rfl | rfl <;> kernel_rfl
  exact hall t (by simpa using Array.mem_of_getElem? ht)
theorem card : Rows.QuantFindsUptoCardSaid :=
  Claim7.holds_tied_plain_at .later [] _ _ _ _ said (fun _ h => by cases h) (by kernel_rfl) (fun _ h => by cases h) quantFindsUpto_row_tie rfl ⟨rfl, rfl⟩ (by kernel_rfl) rfl plain (by kernel_rfl)
end Go.Proofs.YtejgbdclhlolkaaGreatDoor.quantFinds
namespace Go.Proofs.YtejgbdclhlolkaaGreatDoor
theorem quantFinds_holds : Rows.QuantFindsUptoCardSaid := quantFinds.card
end Go.Proofs.YtejgbdclhlolkaaGreatDoor
