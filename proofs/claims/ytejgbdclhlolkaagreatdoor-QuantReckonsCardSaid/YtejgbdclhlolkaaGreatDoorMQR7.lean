/- What the statement QuantReckonsCardSaid rests on, part 7 of 7: walks and plain laws; what of the printer's words it leans on. -/
import Derived.Test.YtejgbdclhlolkaaGreatDoorRows
import Derived.Test.YtejgbdclhlolkaaGreatDoorCards
import Derived.Test.YtejgbdclhlolkaaGreatDoorTie
import Derived.Test.YtejgbdclhlolkaaGreatDoorMQR3
import Derived.Test.YtejgbdclhlolkaaGreatDoorMQR4
import Derived.Test.YtejgbdclhlolkaaGreatDoorMQR5
import Derived.Test.YtejgbdclhlolkaaGreatDoorMQR6
import Derived.Laws.BitsLemmas
import Derived.Lib.ItoaNum
import Derived.Lib.Hide
import Derived.LaidSub
import Derived.Lib.LaidTab
import Derived.ChangeSame
import Derived.WalkKit
import Derived.ProofKit
import Derived.OpenShut
import Derived.ShutString
import Derived.ChangeOld
import Derived.Below
import Derived.SizedLaws
import Derived.Deep.DeepHandedRow
import Derived.LaidMore
namespace Go.Proofs.YtejgbdclhlolkaaGreatDoor.Q
open Go.RowKit Go.Proofs.YtejgbdclhlolkaaGreatDoorW.PrintWords Go.Proofs.YtejgbdclhlolkaaGreatDoorW.PrintLast Go.Proofs.YtejgbdclhlolkaaGreatDoorW.PrintMore
attribute [local go_sem] max2_int min2_int max_two min_two max_three min_three max_four min_four   -- for this text's walks alone
set_option linter.unusedVariables false
set_option linter.unusedSimpArgs false
def bursarref03_Scale.j0 : Nat → Int → Int → Int → Bool → Option (Int × Int)
 | 0, _, _, _, _ => none
 | k + 1, x0, x1, x2, x21 => if x21 = true then (some (0, 1)) else ((bursarref03_long.f k x0).bind fun t383 => ((bursarref03_long.f k x1).bind fun t386 => ((bursarref03_Long_times.f k t383 t386).bind fun t389 => ((bursarref03_long.f k x2).bind fun t392 => ((bursarref03_Long_by.f k t389 t392).bind fun bt395 => (if (bt395.2.length : Int) > 0 then ((bursarref03_long.f k 1).bind fun t403 => ((bursarref03_Long_plus.f k bt395.1 t403).bind fun t406 => ((bursarref03_Long_value.f k t406).bind fun bt409 => (if bt409.2 = true then (some (bt409.1, 0)) else (some (0, 7)))))) else ((bursarref03_Long_value.f k bt395.1).bind fun bt411 => (if bt411.2 = true then (some (bt411.1, 0)) else (some (0, 7))))))))))
def bursarref03_Scale.f (k : Nat) (a0 : Int) (a1 : Int) (a2 : Int) : Option (Int × Int) := if a0 < 0 then (bursarref03_Scale.j0 k a0 a1 a2 true) else (if a1 < 0 then (bursarref03_Scale.j0 k a0 a1 a2 true) else (bursarref03_Scale.j0 k a0 a1 a2 (decide (a2 < 1))))
theorem bursarref03_Scale.mono_l : ∀ k, (∀ y0 y1 y2 y3, LeO (bursarref03_Scale.j0 k y0 y1 y2 y3) (bursarref03_Scale.j0 (k + 1) y0 y1 y2 y3))
 | 0 => fun _ _ _ _ r h => by simp [bursarref03_Scale.j0] at h
 | k + 1 => by
  have ih0 := bursarref03_Scale.mono_l k
  ·intro y0 y1 y2 y3
   unfold bursarref03_Scale.j0
   repeat' first
   | (with_reducible exact ih0 _ _ _ _)
   | (with_reducible exact bursarref03_Long_by.mono _ _ _)
   | (with_reducible exact bursarref03_Long_plus.mono _ _ _)
   | (with_reducible exact bursarref03_Long_times.mono _ _ _)
   | (with_reducible exact bursarref03_Long_value.mono _ _)
   | (with_reducible exact bursarref03_long.mono _ _)
   | (with_reducible exact LeO.refl _)
   | (with_reducible exact LeO.none _)
   | (with_reducible refine LeO.ite ?_ ?_)
   | (with_reducible refine LeO.bind ?_ (fun _ => ?_))
   | exact ih0 _ _ _ _
   | exact bursarref03_Long_by.mono _ _ _
   | exact bursarref03_Long_plus.mono _ _ _
   | exact bursarref03_Long_times.mono _ _ _
   | exact bursarref03_Long_value.mono _ _
   | exact bursarref03_long.mono _ _
   | exact LeO.none _
   | refine LeO.ite ?_ ?_
   | refine LeO.bind ?_ (fun _ => ?_)
theorem bursarref03_Scale.mono : ∀ a0 a1 a2 k, LeO (bursarref03_Scale.f k a0 a1 a2) (bursarref03_Scale.f (k + 1) a0 a1 a2) := by
 intro a0 a1 a2 k
 have ih0 := bursarref03_Scale.mono_l k
 unfold bursarref03_Scale.f
 repeat' first
   | (with_reducible exact ih0 _ _ _ _)
   | (with_reducible exact bursarref03_Long_by.mono _ _ _)
   | (with_reducible exact bursarref03_Long_plus.mono _ _ _)
   | (with_reducible exact bursarref03_Long_times.mono _ _ _)
   | (with_reducible exact bursarref03_Long_value.mono _ _)
   | (with_reducible exact bursarref03_long.mono _ _)
   | (with_reducible exact LeO.refl _)
   | (with_reducible exact LeO.none _)
   | (with_reducible refine LeO.ite ?_ ?_)
   | (with_reducible refine LeO.bind ?_ (fun _ => ?_))
   | exact ih0 _ _ _ _
   | exact bursarref03_Long_by.mono _ _ _
   | exact bursarref03_Long_plus.mono _ _ _
   | exact bursarref03_Long_times.mono _ _ _
   | exact bursarref03_Long_value.mono _ _
   | exact bursarref03_long.mono _ _
   | exact LeO.none _
   | refine LeO.ite ?_ ?_
   | refine LeO.bind ?_ (fun _ => ?_)
set_option maxHeartbeats 8000000 in
set_option maxRecDepth 100000 in
theorem bursarref03_Scale.calls (k : Nat) (a0 : Int) (a1 : Int) (a2 : Int) (r1 : Int) (r2 : Int) (w : World) (h : bursarref03_Scale.f k a0 a1 a2 = some (r1, r2)) :
  Calls Tryz.prog 35 #[.int .i64 a0, .int .i64 a1, .int .i64 a2] w fun e w' => e = .returned (.tuple #[.int .i64 r1, .int .i64 r2]) ∧ Below w.heap.size w w' := by
 have hu85 := Tryz.underlying85
 have HB := Aside0.mk (Below.refl w.heap.size w)
 have H : (if a0 < 0 then (bursarref03_Scale.j0 k a0 a1 a2 true) else (if a1 < 0 then (bursarref03_Scale.j0 k a0 a1 a2 true) else (bursarref03_Scale.j0 k a0 a1 a2 (decide (a2 < 1))))) = some (r1, r2) := h
 clear h
 have HC4 := Aside0.mk H
 clear H
 go_enter Tryz.func35, Tryz.ntmps35
 go_upto_region 1 with (fail)
 go_cut [21] (fun v21 wc => ∃ (kq : Nat) (x21_3 : Bool), v21 = .bool x21_3 ∧ Aside0 (bursarref03_Scale.j0 kq a0 a1 a2 x21_3 = some (r1, r2)) ∧ Aside0 (kq ≤ k) ∧ Aside0 (Below w.heap.size w wc))
 case first =>
  have H := HC4.out
  clear HC4
  by_cases c5 : a0 < 0
  ·rw [if_pos c5] at H
   have c5b0 : decide (a0 < 0) = true := decide_eq_true c5
   clear c5
   (first | rw [c5b0] | (simp only [i64_w, i32_w]; rw [c5b0]) | skip)
   have H' := Aside0.mk H
   clear H
   go_wp2
   go_meet
   case rel => exact ⟨_, (true), (by first | rfl | (simp; done) | (simp [*]; done) | (simp; rw [Bool.eq_iff_iff]; simp; done) | (rw [Bool.eq_iff_iff]; simp; done)), H', ⟨by first | omega | exact Nat.le_refl _⟩, ⟨by repeat (first | (with_reducible first | exact HB.out | apply below_alloc | apply pw_below_drewN | apply below_drew1) | exact HB.out)⟩⟩
  ·rw [if_neg c5] at H
   have c5b0 : decide (a0 < 0) = false := decide_eq_false c5
   clear c5
   (first | rw [c5b0] | (simp only [i64_w, i32_w]; rw [c5b0]) | skip)
   by_cases c6 : a1 < 0
   ·rw [if_pos c6] at H
    have c6b0 : decide (a1 < 0) = true := decide_eq_true c6
    clear c6
    have H' := Aside0.mk H
    clear H
    go_wp2
    go_meet
    case rel => exact ⟨_, (true), (by first | rfl | (simp; done) | (simp [*]; done) | (simp; rw [Bool.eq_iff_iff]; simp; done) | (rw [Bool.eq_iff_iff]; simp; done)), H', ⟨by first | omega | exact Nat.le_refl _⟩, ⟨by repeat (first | (with_reducible first | exact HB.out | apply below_alloc | apply pw_below_drewN | apply below_drew1) | exact HB.out)⟩⟩
   ·rw [if_neg c6] at H
    have c6b0 : decide (a1 < 0) = false := decide_eq_false c6
    clear c6
    have H' := Aside0.mk H
    clear H
    go_wp2
    go_meet
    case rel => exact ⟨_, (decide (a2 < 1)), (by first | rfl | (simp; done) | (simp [*]; done) | (simp; rw [Bool.eq_iff_iff]; simp; done) | (rw [Bool.eq_iff_iff]; simp; done)), H', ⟨by first | omega | exact Nat.le_refl _⟩, ⟨by repeat (first | (with_reducible first | exact HB.out | apply below_alloc | apply pw_below_drewN | apply below_drew1) | exact HB.out)⟩⟩
 case rest =>
  clear HC4
  try clear p2
  try clear c3
  try clear c5
  try clear c5b0
  try clear c6
  try clear c6b0
  obtain ⟨kq, x21_3, rfl, HA, HJ3, HB⟩ := hcut
  cases kq with
  | zero => exact absurd HA.out (by simp [bursarref03_Scale.j0])
  | succ kj3 =>
   have H := HA.out
   clear HA
   simp only [bursarref03_Scale.j0] at H
   by_cases c7 : x21_3 = true
   ·subst c7
    have H1 : (some (0, 1)) = some (r1, r2) := by rw [if_pos rfl] at H; exact H
    clear H
    have H := H1
    clear H1
    simp only [Option.some.injEq, Prod.mk.injEq] at H
    obtain ⟨rfl, rfl⟩ := H
    go_wp2
    go_ret2
    exact ⟨by first | rfl | (simp [errW_none, errW_some] <;> rfl) | (simp [*, errW_none, errW_some] <;> rfl), by repeat (first | (with_reducible first | exact HB.out | apply below_alloc | apply pw_below_drewN | apply below_drew1) | exact HB.out)⟩
   ·replace c7 := Bool.eq_false_iff.mpr c7
    subst c7
    have H1 : ((bursarref03_long.f kj3 a0).bind fun t383 => ((bursarref03_long.f kj3 a1).bind fun t386 => ((bursarref03_Long_times.f kj3 t383 t386).bind fun t389 => ((bursarref03_long.f kj3 a2).bind fun t392 => ((bursarref03_Long_by.f kj3 t389 t392).bind fun bt395 => (if (bt395.2.length : Int) > 0 then ((bursarref03_long.f kj3 1).bind fun t403 => ((bursarref03_Long_plus.f kj3 bt395.1 t403).bind fun t406 => ((bursarref03_Long_value.f kj3 t406).bind fun bt409 => (if bt409.2 = true then (some (bt409.1, 0)) else (some (0, 7)))))) else ((bursarref03_Long_value.f kj3 bt395.1).bind fun bt411 => (if bt411.2 = true then (some (bt411.1, 0)) else (some (0, 7)))))))))) = some (r1, r2) := by rw [if_neg (show ¬ (false = true) by decide)] at H; exact H
    clear H
    have H := H1
    clear H1
    replace H := Option.bind_eq_some_iff.mp H
    obtain ⟨t383, A80, H⟩ := H
    replace H : ((bursarref03_long.f kj3 a1).bind fun t386 => ((bursarref03_Long_times.f kj3 t383 t386).bind fun t389 => ((bursarref03_long.f kj3 a2).bind fun t392 => ((bursarref03_Long_by.f kj3 t389 t392).bind fun bt395 => (if (bt395.2.length : Int) > 0 then ((bursarref03_long.f kj3 1).bind fun t403 => ((bursarref03_Long_plus.f kj3 bt395.1 t403).bind fun t406 => ((bursarref03_Long_value.f kj3 t406).bind fun bt409 => (if bt409.2 = true then (some (bt409.1, 0)) else (some (0, 7)))))) else ((bursarref03_Long_value.f kj3 bt395.1).bind fun bt411 => (if bt411.2 = true then (some (bt411.1, 0)) else (some (0, 7))))))))) = some (r1, r2) := H
    have A8 := Aside0.mk A80
    clear A80
    replace H := Option.bind_eq_some_iff.mp H
    obtain ⟨t386, A90, H⟩ := H
    replace H : ((bursarref03_Long_times.f kj3 t383 t386).bind fun t389 => ((bursarref03_long.f kj3 a2).bind fun t392 => ((bursarref03_Long_by.f kj3 t389 t392).bind fun bt395 => (if (bt395.2.length : Int) > 0 then ((bursarref03_long.f kj3 1).bind fun t403 => ((bursarref03_Long_plus.f kj3 bt395.1 t403).bind fun t406 => ((bursarref03_Long_value.f kj3 t406).bind fun bt409 => (if bt409.2 = true then (some (bt409.1, 0)) else (some (0, 7)))))) else ((bursarref03_Long_value.f kj3 bt395.1).bind fun bt411 => (if bt411.2 = true then (some (bt411.1, 0)) else (some (0, 7)))))))) = some (r1, r2) := H
    have A9 := Aside0.mk A90
    clear A90
    replace H := Option.bind_eq_some_iff.mp H
    obtain ⟨t389, A100, H⟩ := H
    replace H : ((bursarref03_long.f kj3 a2).bind fun t392 => ((bursarref03_Long_by.f kj3 t389 t392).bind fun bt395 => (if (bt395.2.length : Int) > 0 then ((bursarref03_long.f kj3 1).bind fun t403 => ((bursarref03_Long_plus.f kj3 bt395.1 t403).bind fun t406 => ((bursarref03_Long_value.f kj3 t406).bind fun bt409 => (if bt409.2 = true then (some (bt409.1, 0)) else (some (0, 7)))))) else ((bursarref03_Long_value.f kj3 bt395.1).bind fun bt411 => (if bt411.2 = true then (some (bt411.1, 0)) else (some (0, 7))))))) = some (r1, r2) := H
    have A10 := Aside0.mk A100
    clear A100
    replace H := Option.bind_eq_some_iff.mp H
    obtain ⟨t392, A110, H⟩ := H
    replace H : ((bursarref03_Long_by.f kj3 t389 t392).bind fun bt395 => (if (bt395.2.length : Int) > 0 then ((bursarref03_long.f kj3 1).bind fun t403 => ((bursarref03_Long_plus.f kj3 bt395.1 t403).bind fun t406 => ((bursarref03_Long_value.f kj3 t406).bind fun bt409 => (if bt409.2 = true then (some (bt409.1, 0)) else (some (0, 7)))))) else ((bursarref03_Long_value.f kj3 bt395.1).bind fun bt411 => (if bt411.2 = true then (some (bt411.1, 0)) else (some (0, 7)))))) = some (r1, r2) := H
    have A11 := Aside0.mk A110
    clear A110
    replace H := Option.bind_eq_some_iff.mp H
    obtain ⟨⟨t395, t398⟩, A120, H⟩ := H
    replace H : (if (t398.length : Int) > 0 then ((bursarref03_long.f kj3 1).bind fun t403 => ((bursarref03_Long_plus.f kj3 t395 t403).bind fun t406 => ((bursarref03_Long_value.f kj3 t406).bind fun bt409 => (if bt409.2 = true then (some (bt409.1, 0)) else (some (0, 7)))))) else ((bursarref03_Long_value.f kj3 t395).bind fun bt411 => (if bt411.2 = true then (some (bt411.1, 0)) else (some (0, 7))))) = some (r1, r2) := H
    have A12 := Aside0.mk A120
    clear A120
    by_cases c13 : (t398.length : Int) > 0
    ·rw [if_pos c13] at H
     have c13b0 : decide (0 < (t398.length : Int)) = true := decide_eq_true c13
     have c13b1 : decide (0 < t398.length) = true := decide_eq_true (by omega)
     clear c13
     replace H := Option.bind_eq_some_iff.mp H
     obtain ⟨t403, A140, H⟩ := H
     replace H : ((bursarref03_Long_plus.f kj3 t395 t403).bind fun t406 => ((bursarref03_Long_value.f kj3 t406).bind fun bt409 => (if bt409.2 = true then (some (bt409.1, 0)) else (some (0, 7))))) = some (r1, r2) := H
     have A14 := Aside0.mk A140
     clear A140
     replace H := Option.bind_eq_some_iff.mp H
     obtain ⟨t406, A150, H⟩ := H
     replace H : ((bursarref03_Long_value.f kj3 t406).bind fun bt409 => (if bt409.2 = true then (some (bt409.1, 0)) else (some (0, 7)))) = some (r1, r2) := H
     have A15 := Aside0.mk A150
     clear A150
     replace H := Option.bind_eq_some_iff.mp H
     obtain ⟨⟨t409, t410⟩, A160, H⟩ := H
     replace H : (if t410 = true then (some (t409, 0)) else (some (0, 7))) = some (r1, r2) := H
     have A16 := Aside0.mk A160
     clear A160
     by_cases c17 : t410 = true
     ·subst c17
      have H1 : (some (t409, 0)) = some (r1, r2) := by rw [if_pos rfl] at H; exact H
      clear H
      have H := H1
      clear H1
      simp only [Option.some.injEq, Prod.mk.injEq] at H
      obtain ⟨rfl, rfl⟩ := H
      try go_wp2_with (first | ((with_reducible refine gate_callee (f := 62) rfl ?_); refine goesL_ (some 24) rfl rfl Tryz.func62 (by kernel_rfl) rfl #[.int .i64 a0] rfl (by (try simp only [List.map_toArray, List.map_cons, List.map_nil]); first | done | rfl | (simp only [List.length_drop, List.length_take]; rfl)) ?_; (with_reducible refine (bursarref03_long.calls kj3 a0 t383 _ A8.out).mono ?_); rintro e w18 ⟨v384, rfl, ho0, hb⟩; refine ⟨_, rfl, ?_⟩; have n0_ := Aside0.mk (Kd.R_lower ho0 (below_size (by repeat (first | (with_reducible first | exact HB.out | apply below_alloc | apply pw_below_drewN | apply below_drew1) | exact HB.out)))); have n1_ := Aside0.mk (below_step (by repeat (first | (with_reducible first | exact HB.out | apply below_alloc | apply pw_below_drewN | apply below_drew1) | exact HB.out)) hb); clear HB; have HO385 := n0_; have HB := n1_; clear n0_ n1_; (try clear hb); (try clear hb2); (try clear hk); (try clear hi); (try clear ho0)) | ((with_reducible refine gate_callee (f := 62) rfl ?_); refine goesL_ (some 26) rfl rfl Tryz.func62 (by kernel_rfl) rfl #[.int .i64 a1] rfl (by (try simp only [List.map_toArray, List.map_cons, List.map_nil]); first | done | rfl | (simp only [List.length_drop, List.length_take]; rfl)) ?_; (with_reducible refine (bursarref03_long.calls kj3 a1 t386 _ A9.out).mono ?_); rintro e w19 ⟨v387, rfl, ho0, hb⟩; refine ⟨_, rfl, ?_⟩; have n0_ := Aside0.mk (Kd.R_elder' (by (with_reducible repeat (first | apply Kd.R_alloc | apply Kd.R_drewN | apply Kd.R_drew)); exact HO385.out) (Kd.R_base ho0) hb); have n1_ := Aside0.mk (Kd.R_lower (Kd.R_new' ho0 (Kd.R_lt (by (with_reducible repeat (first | apply Kd.R_alloc | apply Kd.R_drewN | apply Kd.R_drew)); exact HO385.out))) (below_size (by repeat (first | (with_reducible first | exact HB.out | apply below_alloc | apply pw_below_drewN | apply below_drew1) | exact HB.out)))); have n2_ := Aside0.mk (below_step (by repeat (first | (with_reducible first | exact HB.out | apply below_alloc | apply pw_below_drewN | apply below_drew1) | exact HB.out)) hb); clear HO385; clear HB; have HO385 := n0_; have HO388 := n1_; have HB := n2_; clear n0_ n1_ n2_; (try clear hb); (try clear hb2); (try clear hk); (try clear hi); (try clear ho0); obtain ⟨Ao20, co20, eo20⟩ := Kd.R_slice HO385.out; subst eo20; obtain ⟨Ao21, co21, eo21⟩ := Kd.R_slice HO388.out; subst eo21) | ((with_reducible refine gate_callee (f := 70) rfl ?_); refine goesL_ (some 27) rfl rfl Tryz.func70 (by kernel_rfl) rfl #[.agg #[.slice Ao20 t383.length co20], .agg #[.slice Ao21 t386.length co21]] rfl (by (try simp only [List.map_toArray, List.map_cons, List.map_nil]); first | done | rfl | (simp only [List.length_drop, List.length_take]; rfl)) ?_; (with_reducible refine (bursarref03_Long_times.calls kj3 _ _ t383 _ _ t386 t389 _ ?side1 ?side2 ?side3 ?side4 A10.out).mono ?_); (case side1 => repeat (first | exact (Kd.R_reads' HO385.out).2.2 | (with_reducible refine Kd.C_alloc ?_ _) | (with_reducible refine Kd.C_drewN ?_ _) | (with_reducible refine Kd.C_drew ?_))); (case side2 => exact (Kd.R_reads' HO385.out).2.1); (case side3 => repeat (first | exact (Kd.R_reads' HO388.out).2.2 | (with_reducible refine Kd.C_alloc ?_ _) | (with_reducible refine Kd.C_drewN ?_ _) | (with_reducible refine Kd.C_drew ?_))); (case side4 => exact (Kd.R_reads' HO388.out).2.1); rintro e w22 ⟨v390, rfl, ho0, hb⟩; refine ⟨_, rfl, ?_⟩; have n0_ := Aside0.mk (Kd.R_below (by (with_reducible repeat (first | apply Kd.R_alloc | apply Kd.R_drewN | apply Kd.R_drew)); exact HO385.out) hb); have n1_ := Aside0.mk (Kd.R_below (by (with_reducible repeat (first | apply Kd.R_alloc | apply Kd.R_drewN | apply Kd.R_drew)); exact HO388.out) hb); have n2_ := Aside0.mk (Kd.V_lower (Kd.V_mono (ok' := fun k_ => some k_ ≠ (.slice Ao20 t383.length co20 : Value).ownBlock ∧ some k_ ≠ (.slice Ao21 t386.length co21 : Value).ownBlock) ho0 (fun k_ hk_ => ⟨(Kd.fresh' (Kd.R_lt (by (with_reducible repeat (first | apply Kd.R_alloc | apply Kd.R_drewN | apply Kd.R_drew)); exact HO385.out)) k_ hk_), (Kd.fresh' (Kd.R_lt (by (with_reducible repeat (first | apply Kd.R_alloc | apply Kd.R_drewN | apply Kd.R_drew)); exact HO388.out)) k_ hk_)⟩)) (below_size (by repeat (first | (with_reducible first | exact HB.out | apply below_alloc | apply pw_below_drewN | apply below_drew1) | exact HB.out)))); have n3_ := Aside0.mk (below_step (by repeat (first | (with_reducible first | exact HB.out | apply below_alloc | apply pw_below_drewN | apply below_drew1) | exact HB.out)) hb); clear HO385; clear HO388; clear HB; have HO385 := n0_; have HO388 := n1_; have HO391 := n2_; have HB := n3_; clear n0_ n1_ n2_ n3_; (try clear hb); (try clear hb2); (try clear hk); (try clear hi); (try clear ho0)) | ((with_reducible refine gate_callee (f := 62) rfl ?_); refine goesL_ (some 29) rfl rfl Tryz.func62 (by kernel_rfl) rfl #[.int .i64 a2] rfl (by (try simp only [List.map_toArray, List.map_cons, List.map_nil]); first | done | rfl | (simp only [List.length_drop, List.length_take]; rfl)) ?_; (with_reducible refine (bursarref03_long.calls kj3 a2 t392 _ A11.out).mono ?_); rintro e w23 ⟨v393, rfl, ho0, hb⟩; refine ⟨_, rfl, ?_⟩; have n0_ := Aside0.mk (Kd.R_elder' (by (with_reducible repeat (first | apply Kd.R_alloc | apply Kd.R_drewN | apply Kd.R_drew)); exact HO385.out) (Kd.R_base ho0) hb); have n1_ := Aside0.mk (Kd.R_elder' (by (with_reducible repeat (first | apply Kd.R_alloc | apply Kd.R_drewN | apply Kd.R_drew)); exact HO388.out) (Kd.R_base ho0) hb); have n2_ := Aside0.mk (Kd.V_elder' (by (with_reducible repeat (first | apply Kd.V_alloc | apply Kd.V_drewN | apply Kd.V_drew)); exact HO391.out) (Kd.R_base ho0) hb); have n3_ := Aside0.mk (Kd.R_lower (Kd.R_new' (Kd.R_new' ho0 (Kd.R_lt (by (with_reducible repeat (first | apply Kd.R_alloc | apply Kd.R_drewN | apply Kd.R_drew)); exact HO385.out))) (Kd.R_lt (by (with_reducible repeat (first | apply Kd.R_alloc | apply Kd.R_drewN | apply Kd.R_drew)); exact HO388.out))) (below_size (by repeat (first | (with_reducible first | exact HB.out | apply below_alloc | apply pw_below_drewN | apply below_drew1) | exact HB.out)))); have n4_ := Aside0.mk (below_step (by repeat (first | (with_reducible first | exact HB.out | apply below_alloc | apply pw_below_drewN | apply below_drew1) | exact HB.out)) hb); clear HO385; clear HO388; clear HO391; clear HB; have HO385 := n0_; have HO388 := n1_; have HO391 := n2_; have HO394 := n3_; have HB := n4_; clear n0_ n1_ n2_ n3_ n4_; (try clear hb); (try clear hb2); (try clear hk); (try clear hi); (try clear ho0); obtain ⟨Ao24, co24, eo24⟩ := Kd.V_slice HO391.out; subst eo24; obtain ⟨Ao25, co25, eo25⟩ := Kd.R_slice HO394.out; subst eo25) | ((with_reducible refine gate_callee (f := 64) rfl ?_); refine goesL_ (some 30) rfl rfl Tryz.func64 (by kernel_rfl) rfl #[.agg #[.slice Ao24 t389.length co24], .agg #[.slice Ao25 t392.length co25]] rfl (by (try simp only [List.map_toArray, List.map_cons, List.map_nil]); first | done | rfl | (simp only [List.length_drop, List.length_take]; rfl)) ?_; (with_reducible refine (bursarref03_Long_by.calls kj3 _ _ t389 _ _ t392 t395 t398 _ ?side1 ?side2 ?side3 ?side4 A12.out).mono ?_); (case side1 => repeat (first | exact (Kd.V_reads' HO391.out).2.2 | (with_reducible refine Kd.C_alloc ?_ _) | (with_reducible refine Kd.C_drewN ?_ _) | (with_reducible refine Kd.C_drew ?_))); (case side2 => exact (Kd.V_reads' HO391.out).2.1); (case side3 => repeat (first | exact (Kd.R_reads' HO394.out).2.2 | (with_reducible refine Kd.C_alloc ?_ _) | (with_reducible refine Kd.C_drewN ?_ _) | (with_reducible refine Kd.C_drew ?_))); (case side4 => exact (Kd.R_reads' HO394.out).2.1); rintro e w26 ⟨v396, v399, rfl, ho0, ho1, hb⟩; refine ⟨_, rfl, ?_⟩; have n0_ := Aside0.mk (Kd.R_below (by (with_reducible repeat (first | apply Kd.R_alloc | apply Kd.R_drewN | apply Kd.R_drew)); exact HO385.out) hb); have n1_ := Aside0.mk (Kd.R_below (by (with_reducible repeat (first | apply Kd.R_alloc | apply Kd.R_drewN | apply Kd.R_drew)); exact HO388.out) hb); have n2_ := Aside0.mk (Kd.V_below (by (with_reducible repeat (first | apply Kd.V_alloc | apply Kd.V_drewN | apply Kd.V_drew)); exact HO391.out) hb); have n3_ := Aside0.mk (Kd.R_below (by (with_reducible repeat (first | apply Kd.R_alloc | apply Kd.R_drewN | apply Kd.R_drew)); exact HO394.out) hb); have n4_ := Aside0.mk (Kd.V_lower (Kd.V_mono (ok' := fun k_ => some k_ ≠ (.slice Ao20 t383.length co20 : Value).ownBlock ∧ some k_ ≠ (.slice Ao21 t386.length co21 : Value).ownBlock ∧ some k_ ≠ (.slice Ao25 t392.length co25 : Value).ownBlock) ho0 (fun k_ hk_ => ⟨(Kd.fresh' (Kd.R_lt (by (with_reducible repeat (first | apply Kd.R_alloc | apply Kd.R_drewN | apply Kd.R_drew)); exact HO385.out)) k_ hk_), (Kd.fresh' (Kd.R_lt (by (with_reducible repeat (first | apply Kd.R_alloc | apply Kd.R_drewN | apply Kd.R_drew)); exact HO388.out)) k_ hk_), (Kd.fresh' (Kd.R_lt (by (with_reducible repeat (first | apply Kd.R_alloc | apply Kd.R_drewN | apply Kd.R_drew)); exact HO394.out)) k_ hk_)⟩)) (below_size (by repeat (first | (with_reducible first | exact HB.out | apply below_alloc | apply pw_below_drewN | apply below_drew1) | exact HB.out)))); have n5_ := Aside0.mk (Kd.V_lower (Kd.V_mono (ok' := fun k_ => some k_ ≠ (.slice Ao20 t383.length co20 : Value).ownBlock ∧ some k_ ≠ (.slice Ao21 t386.length co21 : Value).ownBlock ∧ some k_ ≠ (.slice Ao25 t392.length co25 : Value).ownBlock) ho1 (fun k_ hk_ => ⟨(Kd.fresh' (Kd.R_lt (by (with_reducible repeat (first | apply Kd.R_alloc | apply Kd.R_drewN | apply Kd.R_drew)); exact HO385.out)) k_ hk_), (Kd.fresh' (Kd.R_lt (by (with_reducible repeat (first | apply Kd.R_alloc | apply Kd.R_drewN | apply Kd.R_drew)); exact HO388.out)) k_ hk_), (Kd.fresh' (Kd.R_lt (by (with_reducible repeat (first | apply Kd.R_alloc | apply Kd.R_drewN | apply Kd.R_drew)); exact HO394.out)) k_ hk_)⟩)) (below_size (by repeat (first | (with_reducible first | exact HB.out | apply below_alloc | apply pw_below_drewN | apply below_drew1) | exact HB.out)))); have n6_ := Aside0.mk (below_step (by repeat (first | (with_reducible first | exact HB.out | apply below_alloc | apply pw_below_drewN | apply below_drew1) | exact HB.out)) hb); clear HO385; clear HO388; clear HO391; clear HO394; clear HB; have HO385 := n0_; have HO388 := n1_; have HO391 := n2_; have HO394 := n3_; have HO397 := n4_; have HO400 := n5_; have HB := n6_; clear n0_ n1_ n2_ n3_ n4_ n5_ n6_; (try clear hb); (try clear hb2); (try clear hk); (try clear hi); (try clear ho0); (try clear ho1)) | ((with_reducible refine gate_dst (N := 8) rfl ?_); refine box_event ?hg (N := 8) ?hd (cs := #[.slice none 0 0]) (t := 85) ?hr ?_; (case hd => rfl); (case hg => rfl); (case hr => first | (go_simp; done) | (go_simp; rfl)); intro gb401 hg w27 hbox hb; have n0_ := Aside0.mk (Kd.R_below (by (with_reducible repeat (first | apply Kd.R_alloc | apply Kd.R_drewN | apply Kd.R_drew)); exact HO385.out) hb); have n1_ := Aside0.mk (Kd.R_below (by (with_reducible repeat (first | apply Kd.R_alloc | apply Kd.R_drewN | apply Kd.R_drew)); exact HO388.out) hb); have n2_ := Aside0.mk (Kd.V_below (Kd.V_elderB (by (with_reducible repeat (first | apply Kd.V_alloc | apply Kd.V_drewN | apply Kd.V_drew)); exact HO391.out) gb401 (Nat.le_of_eq hg.symm)) hb); have n3_ := Aside0.mk (Kd.R_below (by (with_reducible repeat (first | apply Kd.R_alloc | apply Kd.R_drewN | apply Kd.R_drew)); exact HO394.out) hb); have n4_ := Aside0.mk (Kd.V_below (Kd.V_elderB (by (with_reducible repeat (first | apply Kd.V_alloc | apply Kd.V_drewN | apply Kd.V_drew)); exact HO397.out) gb401 (Nat.le_of_eq hg.symm)) hb); have n5_ := Aside0.mk (Kd.V_below (Kd.V_elderB (by (with_reducible repeat (first | apply Kd.V_alloc | apply Kd.V_drewN | apply Kd.V_drew)); exact HO400.out) gb401 (Nat.le_of_eq hg.symm)) hb); have n6_ := Aside0.mk (below_step (by repeat (first | (with_reducible first | exact HB.out | apply below_alloc | apply pw_below_drewN | apply below_drew1) | exact HB.out)) hb); have n7_ := Aside0.mk (hbox); have n8_ := Aside0.mk ((by rw [hg]; exact (below_size (by repeat (first | (with_reducible first | exact HB.out | apply below_alloc | apply pw_below_drewN | apply below_drew1) | exact HB.out))) : w.heap.size ≤ gb401)); have n9_ := Aside0.mk ((by rw [hg]; exact (below_size (by repeat (first | (with_reducible first | exact HB.out | apply below_alloc | apply pw_below_drewN | apply below_drew1) | exact HB.out))) : w.heap.size ≤ gb401)); clear HO385; clear HO388; clear HO391; clear HO394; clear HO397; clear HO400; clear HB; have HO385 := n0_; have HO388 := n1_; have HO391 := n2_; have HO394 := n3_; have HO397 := n4_; have HO400 := n5_; have HB := n6_; have BK401 := n7_; have GW401 := n8_; have GE401 := n9_; clear n0_ n1_ n2_ n3_ n4_ n5_ n6_ n7_ n8_ n9_; clear hb hbox hg) | ((with_reducible refine gate_dst (N := 9) rfl ?_); refine box_event ?hg (N := 9) ?hd (cs := #[.slice none 0 0]) (t := 85) ?hr ?_; (case hd => rfl); (case hg => rfl); (case hr => first | (go_simp; done) | (go_simp; rfl)); intro gb402 hg w28 hbox hb; have n0_ := Aside0.mk (Kd.R_below (by (with_reducible repeat (first | apply Kd.R_alloc | apply Kd.R_drewN | apply Kd.R_drew)); exact HO385.out) hb); have n1_ := Aside0.mk (Kd.R_below (by (with_reducible repeat (first | apply Kd.R_alloc | apply Kd.R_drewN | apply Kd.R_drew)); exact HO388.out) hb); have n2_ := Aside0.mk (Kd.V_below (Kd.V_elderB (by (with_reducible repeat (first | apply Kd.V_alloc | apply Kd.V_drewN | apply Kd.V_drew)); exact HO391.out) gb402 (Nat.le_of_eq hg.symm)) hb); have n3_ := Aside0.mk (Kd.R_below (by (with_reducible repeat (first | apply Kd.R_alloc | apply Kd.R_drewN | apply Kd.R_drew)); exact HO394.out) hb); have n4_ := Aside0.mk (Kd.V_below (Kd.V_elderB (by (with_reducible repeat (first | apply Kd.V_alloc | apply Kd.V_drewN | apply Kd.V_drew)); exact HO397.out) gb402 (Nat.le_of_eq hg.symm)) hb); have n5_ := Aside0.mk (Kd.V_below (Kd.V_elderB (by (with_reducible repeat (first | apply Kd.V_alloc | apply Kd.V_drewN | apply Kd.V_drew)); exact HO400.out) gb402 (Nat.le_of_eq hg.symm)) hb); have n6_ := Aside0.mk (blk_below (g := gb401) (o := .cells #[.slice none 0 0] 85 (0, 0)) (by (with_reducible repeat (first | refine blk_drewN ?_ _ | refine blk_drew ?_ | refine blk_alloc ?_ _)); exact BK401.out) hb); have n7_ := Aside0.mk (below_step (by repeat (first | (with_reducible first | exact HB.out | apply below_alloc | apply pw_below_drewN | apply below_drew1 | refine below_set ?_ GE401.out) | exact HB.out)) hb); have n8_ := Aside0.mk (hbox); have n9_ := Aside0.mk ((by rw [hg]; exact (below_size (by repeat (first | (with_reducible first | exact HB.out | apply below_alloc | apply pw_below_drewN | apply below_drew1 | refine below_set ?_ GE401.out) | exact HB.out))) : w.heap.size ≤ gb402)); have n10_ := Aside0.mk ((by rw [hg]; exact (below_size (by repeat (first | (with_reducible first | exact HB.out | apply below_alloc | apply pw_below_drewN | apply below_drew1 | refine below_set ?_ GE401.out) | exact HB.out))) : w.heap.size ≤ gb402)); have n11_ := Aside0.mk ((by rw [hg]; exact Nat.ne_of_lt (blk_lt (g := gb401) (o := .cells #[.slice none 0 0] 85 (0, 0)) (by (with_reducible repeat (first | refine blk_drewN ?_ _ | refine blk_drew ?_ | refine blk_alloc ?_ _)); exact BK401.out)) : gb401 ≠ gb402)); have n12_ := Aside0.mk ((by rw [hg]; exact Nat.ne_of_gt (blk_lt (g := gb401) (o := .cells #[.slice none 0 0] 85 (0, 0)) (by (with_reducible repeat (first | refine blk_drewN ?_ _ | refine blk_drew ?_ | refine blk_alloc ?_ _)); exact BK401.out)) : gb402 ≠ gb401)); clear HO385; clear HO388; clear HO391; clear HO394; clear HO397; clear HO400; clear BK401; clear HB; have HO385 := n0_; have HO388 := n1_; have HO391 := n2_; have HO394 := n3_; have HO397 := n4_; have HO400 := n5_; have BK401 := n6_; have HB := n7_; have BK402 := n8_; have GW402 := n9_; have GE402 := n10_; have NB401_402 := n11_; have NB402_401 := n12_; clear n0_ n1_ n2_ n3_ n4_ n5_ n6_ n7_ n8_ n9_ n10_ n11_ n12_; clear hb hbox hg; obtain ⟨Ao29, co29, eo29⟩ := Kd.V_slice HO397.out; subst eo29; have hnb30 := NB401_402.out; have hnc30 := NB402_401.out; have hcz31_0 : w28.cell? ⟨gb401, 0, none⟩ = some (.slice none 0 0) := (blk_cell BK401.out 0).trans rfl; have hfz31_0 := blk_frozen BK401.out 0; obtain ⟨Ao32, co32, eo32⟩ := Kd.V_slice HO400.out; subst eo32; have hcz33_0 : w28.cell? ⟨gb402, 0, none⟩ = some (.slice none 0 0) := (blk_cell BK402.out 0).trans rfl; have hfz33_0 := blk_frozen BK402.out 0))
      have n0_ : Aside0 (Kd.R (Kd.int .i64) 3 ((w28.setCell ⟨gb401, 0, none⟩ (.slice Ao29 t395.length co29)).setCell ⟨gb402, 0, none⟩ (.slice Ao32 t398.length co32)) w.heap.size (fun k_ => some k_ ≠ (.slice Ao21 t386.length co21 : Value).ownBlock ∧ some k_ ≠ (.slice Ao25 t392.length co25 : Value).ownBlock) (.slice Ao20 t383.length co20) t383) := ⟨by (with_reducible repeat (first | apply Kd.R_alloc | apply Kd.R_drewN | apply Kd.R_drew)); exact Kd.R_mono (Kd.R_far (p := ⟨gb402, 0, none⟩) (Kd.R_far (p := ⟨gb401, 0, none⟩) (Kd.R_types (Kd.R_types HO385.out BK401.out (by decide)) BK402.out (by decide)) (fun _ hk => hk.1.2) (.slice Ao29 t395.length co29)) (fun _ hk => hk.2) (.slice Ao32 t398.length co32)) (fun _ hk => ⟨hk.1.1.1.2, hk.1.1.2⟩)⟩
      have n1_ : Aside0 (Kd.R (Kd.int .i64) 3 ((w28.setCell ⟨gb401, 0, none⟩ (.slice Ao29 t395.length co29)).setCell ⟨gb402, 0, none⟩ (.slice Ao32 t398.length co32)) w.heap.size (fun k_ => some k_ ≠ (.slice Ao20 t383.length co20 : Value).ownBlock ∧ some k_ ≠ (.slice Ao25 t392.length co25 : Value).ownBlock) (.slice Ao21 t386.length co21) t386) := ⟨by (with_reducible repeat (first | apply Kd.R_alloc | apply Kd.R_drewN | apply Kd.R_drew)); exact Kd.R_mono (Kd.R_far (p := ⟨gb402, 0, none⟩) (Kd.R_far (p := ⟨gb401, 0, none⟩) (Kd.R_types (Kd.R_types HO388.out BK401.out (by decide)) BK402.out (by decide)) (fun _ hk => hk.1.2) (.slice Ao29 t395.length co29)) (fun _ hk => hk.2) (.slice Ao32 t398.length co32)) (fun _ hk => ⟨hk.1.1.1.2, hk.1.1.2⟩)⟩
      have n2_ : Aside0 (Kd.V (Kd.int .i64) 3 ((w28.setCell ⟨gb401, 0, none⟩ (.slice Ao29 t395.length co29)).setCell ⟨gb402, 0, none⟩ (.slice Ao32 t398.length co32)) w.heap.size (fun k_ => some k_ ≠ (.slice Ao20 t383.length co20 : Value).ownBlock ∧ some k_ ≠ (.slice Ao21 t386.length co21 : Value).ownBlock ∧ some k_ ≠ (.slice Ao25 t392.length co25 : Value).ownBlock ∧ k_ ≠ gb401 ∧ k_ ≠ gb402) (.slice Ao24 t389.length co24) t389) := ⟨by (with_reducible repeat (first | apply Kd.V_alloc | apply Kd.V_drewN | apply Kd.V_drew)); exact Kd.V_mono (Kd.V_far (p := ⟨gb402, 0, none⟩) (Kd.V_far (p := ⟨gb401, 0, none⟩) (Kd.V_mono (Kd.V_mono HO391.out (fun k_ hk => (⟨hk, hk.1.2⟩ : _ ∧ k_ ≠ gb401))) (fun k_ hk => (⟨hk, hk.1.2⟩ : _ ∧ k_ ≠ gb402))) (fun _ hk => hk.1.2) (.slice Ao29 t395.length co29)) (fun _ hk => hk.2) (.slice Ao32 t398.length co32)) (fun _ hk => ⟨hk.1.1.1.1.1.1, ⟨hk.1.1.1.1.1.2, ⟨hk.1.1.1.1.2, ⟨hk.1.1.1.2, hk.1.1.2⟩⟩⟩⟩)⟩
      have n3_ : Aside0 (Kd.R (Kd.int .i64) 3 ((w28.setCell ⟨gb401, 0, none⟩ (.slice Ao29 t395.length co29)).setCell ⟨gb402, 0, none⟩ (.slice Ao32 t398.length co32)) w.heap.size (fun k_ => some k_ ≠ (.slice Ao20 t383.length co20 : Value).ownBlock ∧ some k_ ≠ (.slice Ao21 t386.length co21 : Value).ownBlock) (.slice Ao25 t392.length co25) t392) := ⟨by (with_reducible repeat (first | apply Kd.R_alloc | apply Kd.R_drewN | apply Kd.R_drew)); exact Kd.R_mono (Kd.R_far (p := ⟨gb402, 0, none⟩) (Kd.R_far (p := ⟨gb401, 0, none⟩) (Kd.R_types (Kd.R_types HO394.out BK401.out (by decide)) BK402.out (by decide)) (fun _ hk => hk.1.2) (.slice Ao29 t395.length co29)) (fun _ hk => hk.2) (.slice Ao32 t398.length co32)) (fun _ hk => ⟨hk.1.1.1.2, hk.1.1.2⟩)⟩
      have n4_ : Aside0 (Kd.V (Kd.int .i64) 3 ((w28.setCell ⟨gb401, 0, none⟩ (.slice Ao29 t395.length co29)).setCell ⟨gb402, 0, none⟩ (.slice Ao32 t398.length co32)) w.heap.size (fun k_ => some k_ ≠ (.slice Ao20 t383.length co20 : Value).ownBlock ∧ some k_ ≠ (.slice Ao21 t386.length co21 : Value).ownBlock ∧ some k_ ≠ (.slice Ao25 t392.length co25 : Value).ownBlock ∧ k_ ≠ gb401 ∧ k_ ≠ gb402) (.slice Ao29 t395.length co29) t395) := ⟨by (with_reducible repeat (first | apply Kd.V_alloc | apply Kd.V_drewN | apply Kd.V_drew)); exact Kd.V_mono (Kd.V_far (p := ⟨gb402, 0, none⟩) (Kd.V_far (p := ⟨gb401, 0, none⟩) (Kd.V_mono (Kd.V_mono HO397.out (fun k_ hk => (⟨hk, hk.1.2⟩ : _ ∧ k_ ≠ gb401))) (fun k_ hk => (⟨hk, hk.1.2⟩ : _ ∧ k_ ≠ gb402))) (fun _ hk => hk.1.2) (.slice Ao29 t395.length co29)) (fun _ hk => hk.2) (.slice Ao32 t398.length co32)) (fun _ hk => ⟨hk.1.1.1.1.1, ⟨hk.1.1.1.1.2.1, ⟨hk.1.1.1.1.2.2, ⟨hk.1.1.1.2, hk.1.1.2⟩⟩⟩⟩)⟩
      have n5_ : Aside0 (Kd.V (Kd.int .i64) 3 ((w28.setCell ⟨gb401, 0, none⟩ (.slice Ao29 t395.length co29)).setCell ⟨gb402, 0, none⟩ (.slice Ao32 t398.length co32)) w.heap.size (fun k_ => some k_ ≠ (.slice Ao20 t383.length co20 : Value).ownBlock ∧ some k_ ≠ (.slice Ao21 t386.length co21 : Value).ownBlock ∧ some k_ ≠ (.slice Ao25 t392.length co25 : Value).ownBlock ∧ k_ ≠ gb401 ∧ k_ ≠ gb402) (.slice Ao32 t398.length co32) t398) := ⟨by (with_reducible repeat (first | apply Kd.V_alloc | apply Kd.V_drewN | apply Kd.V_drew)); exact Kd.V_mono (Kd.V_far (p := ⟨gb402, 0, none⟩) (Kd.V_far (p := ⟨gb401, 0, none⟩) (Kd.V_mono (Kd.V_mono HO400.out (fun k_ hk => (⟨hk, hk.1.2⟩ : _ ∧ k_ ≠ gb401))) (fun k_ hk => (⟨hk, hk.1.2⟩ : _ ∧ k_ ≠ gb402))) (fun _ hk => hk.1.2) (.slice Ao29 t395.length co29)) (fun _ hk => hk.2) (.slice Ao32 t398.length co32)) (fun _ hk => ⟨hk.1.1.1.1.1, ⟨hk.1.1.1.1.2.1, ⟨hk.1.1.1.1.2.2, ⟨hk.1.1.1.2, hk.1.1.2⟩⟩⟩⟩)⟩
      have n6_ : Aside0 (((w28.setCell ⟨gb401, 0, none⟩ (.slice Ao29 t395.length co29)).setCell ⟨gb402, 0, none⟩ (.slice Ao32 t398.length co32)).heap[gb401]? = some (.cells #[.slice Ao29 t395.length co29] 85 (0, 0))) := ⟨by (with_reducible repeat (first | refine blk_drewN ?_ _ | refine blk_drew ?_ | refine blk_alloc ?_ _)); refine blk_far ?_ NB401_402.out _; (with_reducible repeat (first | refine blk_drewN ?_ _ | refine blk_drew ?_ | refine blk_alloc ?_ _)); refine blk_put (cs := #[.slice none 0 0]) ?_ 0 _ rfl; (with_reducible repeat (first | refine blk_drewN ?_ _ | refine blk_drew ?_ | refine blk_alloc ?_ _)); exact BK401.out⟩
      have n7_ : Aside0 (((w28.setCell ⟨gb401, 0, none⟩ (.slice Ao29 t395.length co29)).setCell ⟨gb402, 0, none⟩ (.slice Ao32 t398.length co32)).heap[gb402]? = some (.cells #[.slice Ao32 t398.length co32] 85 (0, 0))) := ⟨by (with_reducible repeat (first | refine blk_drewN ?_ _ | refine blk_drew ?_ | refine blk_alloc ?_ _)); refine blk_put (cs := #[.slice none 0 0]) ?_ 0 _ rfl; (with_reducible repeat (first | refine blk_drewN ?_ _ | refine blk_drew ?_ | refine blk_alloc ?_ _)); refine blk_far ?_ NB402_401.out _; (with_reducible repeat (first | refine blk_drewN ?_ _ | refine blk_drew ?_ | refine blk_alloc ?_ _)); exact BK402.out⟩
      have n8_ : Aside0 (Below w.heap.size w ((w28.setCell ⟨gb401, 0, none⟩ (.slice Ao29 t395.length co29)).setCell ⟨gb402, 0, none⟩ (.slice Ao32 t398.length co32))) := ⟨by repeat (first | (with_reducible first | exact HB.out | apply below_alloc | apply pw_below_drewN | apply below_drew1 | refine below_set ?_ GE401.out | refine below_set ?_ GE402.out) | exact HB.out)⟩
      (try clear HO385)
      (try clear HO388)
      (try clear HO391)
      (try clear HO394)
      (try clear HO397)
      (try clear HO400)
      (try clear BK401)
      (try clear BK402)
      (try clear HB)
      generalize ((w28.setCell ⟨gb401, 0, none⟩ (.slice Ao29 t395.length co29)).setCell ⟨gb402, 0, none⟩ (.slice Ao32 t398.length co32)) = w34 at n0_ n1_ n2_ n3_ n4_ n5_ n6_ n7_ n8_ ⊢
      have HO385 := n0_
      have HO388 := n1_
      have HO391 := n2_
      have HO394 := n3_
      have HO397 := n4_
      have HO400 := n5_
      have BK401 := n6_
      have BK402 := n7_
      have HB := n8_
      clear n0_ n1_ n2_ n3_ n4_ n5_ n6_ n7_ n8_
      have n0_ := Aside0.mk (Kd.R_drew HO385.out)
      have n1_ := Aside0.mk (Kd.R_drew HO388.out)
      have n2_ := Aside0.mk (Kd.V_drew HO391.out)
      have n3_ := Aside0.mk (Kd.R_drew HO394.out)
      have n4_ := Aside0.mk (Kd.V_drew HO397.out)
      have n5_ := Aside0.mk (Kd.V_drew HO400.out)
      have n6_ := Aside0.mk (blk_drew BK401.out)
      have n7_ := Aside0.mk (blk_drew BK402.out)
      have n8_ := Aside0.mk (below_drew1 HB.out)
      clear HO385
      clear HO388
      clear HO391
      clear HO394
      clear HO397
      clear HO400
      clear BK401
      clear BK402
      clear HB
      have HO385 := n0_
      have HO388 := n1_
      have HO391 := n2_
      have HO394 := n3_
      have HO397 := n4_
      have HO400 := n5_
      have BK401 := n6_
      have BK402 := n7_
      have HB := n8_
      clear n0_ n1_ n2_ n3_ n4_ n5_ n6_ n7_ n8_
      refine start_ (n := 4) (S := fun w' => w'.cell? ⟨gb401, 0, none⟩ = some (.slice Ao29 t395.length co29)) (ds := [3]) #[false, false, false, false] (by kernel_rfl) rfl rfl ((blk_cell BK401.out 0).trans rfl) (fun hHeld => ?_)
      generalize w34.drew = w35 at HO385 HO388 HO391 HO394 HO397 HO400 BK401 BK402 HB hHeld ⊢
      refine take_ (i := 0) (N := some 37) (v := ?_) (a' := ?_) #[true, false, false, false] rfl rfl (by kernel_rfl) (fun _ _ _ h => h) (Or.inl ⟨by rfl, ?_⟩) hHeld ?_ ?_
      rotate_left
      ·intro w' s0
       go_simp
       with_reducible rfl
      rotate_left
      ·simp only [Act.put, List.setIfInBounds_toArray, List.set_cons_zero, List.set_cons_succ, i64_w, i32_w]
       rfl
      refine one_ (i := 1) (N := some 38) #[true, true, false, false] rfl rfl (by kernel_rfl) (by decide) (fun K hK => ?_)
      refine goes_ Tryz.func62 (by kernel_rfl) rfl #[.int .i64 1] (by rfl) rfl rfl (by (try simp only [List.map_toArray, List.map_cons, List.map_nil]); first | done | rfl | (simp only [List.length_drop, List.length_take]; rfl)) ?_
      with_reducible refine (bursarref03_long.calls kj3 1 t403 _ A14.out).mono ?_
      rintro e w36 ⟨v404, rfl, ho0, hb⟩
      refine ⟨_, rfl, ?_⟩
      have n0_ := Aside0.mk (Kd.R_elder' (by (with_reducible repeat (first | apply Kd.R_alloc | apply Kd.R_drewN | apply Kd.R_drew)); exact HO385.out) (Kd.R_base ho0) hb)
      have n1_ := Aside0.mk (Kd.R_elder' (by (with_reducible repeat (first | apply Kd.R_alloc | apply Kd.R_drewN | apply Kd.R_drew)); exact HO388.out) (Kd.R_base ho0) hb)
      have n2_ := Aside0.mk (Kd.V_elder' (by (with_reducible repeat (first | apply Kd.V_alloc | apply Kd.V_drewN | apply Kd.V_drew)); exact HO391.out) (Kd.R_base ho0) hb)
      have n3_ := Aside0.mk (Kd.R_elder' (by (with_reducible repeat (first | apply Kd.R_alloc | apply Kd.R_drewN | apply Kd.R_drew)); exact HO394.out) (Kd.R_base ho0) hb)
      have n4_ := Aside0.mk (Kd.V_elder' (by (with_reducible repeat (first | apply Kd.V_alloc | apply Kd.V_drewN | apply Kd.V_drew)); exact HO397.out) (Kd.R_base ho0) hb)
      have n5_ := Aside0.mk (Kd.V_elder' (by (with_reducible repeat (first | apply Kd.V_alloc | apply Kd.V_drewN | apply Kd.V_drew)); exact HO400.out) (Kd.R_base ho0) hb)
      have n6_ := Aside0.mk (Kd.R_lower (Kd.R_new' (Kd.R_new' (Kd.R_new' ho0 (Kd.R_lt (by (with_reducible repeat (first | apply Kd.R_alloc | apply Kd.R_drewN | apply Kd.R_drew)); exact HO385.out))) (Kd.R_lt (by (with_reducible repeat (first | apply Kd.R_alloc | apply Kd.R_drewN | apply Kd.R_drew)); exact HO388.out))) (Kd.R_lt (by (with_reducible repeat (first | apply Kd.R_alloc | apply Kd.R_drewN | apply Kd.R_drew)); exact HO394.out))) (below_size (by repeat (first | (with_reducible first | exact HB.out | apply below_alloc | apply pw_below_drewN | apply below_drew1 | refine below_set ?_ GE401.out | refine below_set ?_ GE402.out) | exact HB.out))))
      have n7_ := Aside0.mk (blk_below (g := gb401) (o := .cells #[.slice Ao29 t395.length co29] 85 (0, 0)) (by (with_reducible repeat (first | refine blk_drewN ?_ _ | refine blk_drew ?_ | refine blk_alloc ?_ _)); exact BK401.out) hb)
      have n8_ := Aside0.mk (blk_below (g := gb402) (o := .cells #[.slice Ao32 t398.length co32] 85 (0, 0)) (by (with_reducible repeat (first | refine blk_drewN ?_ _ | refine blk_drew ?_ | refine blk_alloc ?_ _)); exact BK402.out) hb)
      have n9_ := Aside0.mk (below_step (by repeat (first | (with_reducible first | exact HB.out | apply below_alloc | apply pw_below_drewN | apply below_drew1 | refine below_set ?_ GE401.out | refine below_set ?_ GE402.out) | exact HB.out)) hb)
      clear HO385
      clear HO388
      clear HO391
      clear HO394
      clear HO397
      clear HO400
      clear BK401
      clear BK402
      clear HB
      have HO385 := n0_
      have HO388 := n1_
      have HO391 := n2_
      have HO394 := n3_
      have HO397 := n4_
      have HO400 := n5_
      have HO405 := n6_
      have BK401 := n7_
      have BK402 := n8_
      have HB := n9_
      clear n0_ n1_ n2_ n3_ n4_ n5_ n6_ n7_ n8_ n9_
      (try clear hb)
      (try clear hb2)
      (try clear hk)
      (try clear hi)
      (try clear ho0)
      obtain ⟨Ao37, co37, eo37⟩ := Kd.R_slice HO405.out
      (first | subst eo37 | (injection eo37 with f1_ f2_ f3_; have f4_ := f1_.symm; have f5_ := f3_.symm; clear f1_ f2_ f3_; subst f4_; subst f5_))
      refine hK.out _ _ ((blk_cell BK401.out 0).trans rfl) (fun hHeld => ?_)
      clear hK K
      refine norm_ (a' := ?_) ?_ ?_
      rotate_left
      ·show Act.put _ (some 38) _ = _
       simp only [Act.put, List.setIfInBounds_toArray, List.set_cons_zero, List.set_cons_succ, i64_w, i32_w]
       rfl
      refine one_ (i := 2) (N := some 39) #[true, true, true, false] rfl rfl (by kernel_rfl) (by decide) (fun K hK => ?_)
      refine goes_ Tryz.func68 (by kernel_rfl) rfl #[.agg #[.slice Ao29 t395.length co29], .agg #[.slice Ao37 t403.length co37]] (by rfl) rfl rfl (by (try simp only [List.map_toArray, List.map_cons, List.map_nil]); first | done | rfl | (simp only [List.length_drop, List.length_take]; rfl)) ?_
      with_reducible refine (bursarref03_Long_plus.calls kj3 _ _ t395 _ _ t403 t406 _ ?side1 ?side2 ?side3 ?side4 A15.out).mono ?_
      (case side1 => repeat (first | exact (Kd.V_reads' HO397.out).2.2 | (with_reducible refine Kd.C_alloc ?_ _) | (with_reducible refine Kd.C_drewN ?_ _) | (with_reducible refine Kd.C_drew ?_)))
      (case side2 => exact (Kd.V_reads' HO397.out).2.1)
      (case side3 => repeat (first | exact (Kd.R_reads' HO405.out).2.2 | (with_reducible refine Kd.C_alloc ?_ _) | (with_reducible refine Kd.C_drewN ?_ _) | (with_reducible refine Kd.C_drew ?_)))
      (case side4 => exact (Kd.R_reads' HO405.out).2.1)
      rintro e w38 ⟨v407, rfl, ho0, hb⟩
      refine ⟨_, rfl, ?_⟩
      have n0_ := Aside0.mk (Kd.R_below (by (with_reducible repeat (first | apply Kd.R_alloc | apply Kd.R_drewN | apply Kd.R_drew)); exact HO385.out) hb)
      have n1_ := Aside0.mk (Kd.R_below (by (with_reducible repeat (first | apply Kd.R_alloc | apply Kd.R_drewN | apply Kd.R_drew)); exact HO388.out) hb)
      have n2_ := Aside0.mk (Kd.V_below (by (with_reducible repeat (first | apply Kd.V_alloc | apply Kd.V_drewN | apply Kd.V_drew)); exact HO391.out) hb)
      have n3_ := Aside0.mk (Kd.R_below (by (with_reducible repeat (first | apply Kd.R_alloc | apply Kd.R_drewN | apply Kd.R_drew)); exact HO394.out) hb)
      have n4_ := Aside0.mk (Kd.V_below (by (with_reducible repeat (first | apply Kd.V_alloc | apply Kd.V_drewN | apply Kd.V_drew)); exact HO397.out) hb)
      have n5_ := Aside0.mk (Kd.V_below (by (with_reducible repeat (first | apply Kd.V_alloc | apply Kd.V_drewN | apply Kd.V_drew)); exact HO400.out) hb)
      have n6_ := Aside0.mk (Kd.R_below (by (with_reducible repeat (first | apply Kd.R_alloc | apply Kd.R_drewN | apply Kd.R_drew)); exact HO405.out) hb)
      have n7_ := Aside0.mk (Kd.V_lower (Kd.V_mono (ok' := fun k_ => some k_ ≠ (.slice Ao20 t383.length co20 : Value).ownBlock ∧ some k_ ≠ (.slice Ao21 t386.length co21 : Value).ownBlock ∧ some k_ ≠ (.slice Ao25 t392.length co25 : Value).ownBlock ∧ some k_ ≠ (.slice Ao37 t403.length co37 : Value).ownBlock ∧ k_ ≠ gb401 ∧ k_ ≠ gb402) ho0 (fun k_ hk_ => ⟨(Kd.fresh' (Kd.R_lt (by (with_reducible repeat (first | apply Kd.R_alloc | apply Kd.R_drewN | apply Kd.R_drew)); exact HO385.out)) k_ hk_), (Kd.fresh' (Kd.R_lt (by (with_reducible repeat (first | apply Kd.R_alloc | apply Kd.R_drewN | apply Kd.R_drew)); exact HO388.out)) k_ hk_), (Kd.fresh' (Kd.R_lt (by (with_reducible repeat (first | apply Kd.R_alloc | apply Kd.R_drewN | apply Kd.R_drew)); exact HO394.out)) k_ hk_), (Kd.fresh' (Kd.R_lt (by (with_reducible repeat (first | apply Kd.R_alloc | apply Kd.R_drewN | apply Kd.R_drew)); exact HO405.out)) k_ hk_), (Kd.freshB (g := gb401) (o := .cells #[.slice Ao29 t395.length co29] 85 (0, 0)) (by (with_reducible repeat (first | refine blk_drewN ?_ _ | refine blk_drew ?_ | refine blk_alloc ?_ _)); exact BK401.out) k_ hk_), (Kd.freshB (g := gb402) (o := .cells #[.slice Ao32 t398.length co32] 85 (0, 0)) (by (with_reducible repeat (first | refine blk_drewN ?_ _ | refine blk_drew ?_ | refine blk_alloc ?_ _)); exact BK402.out) k_ hk_)⟩)) (below_size (by repeat (first | (with_reducible first | exact HB.out | apply below_alloc | apply pw_below_drewN | apply below_drew1 | refine below_set ?_ GE401.out | refine below_set ?_ GE402.out) | exact HB.out))))
      have n8_ := Aside0.mk (blk_below (g := gb401) (o := .cells #[.slice Ao29 t395.length co29] 85 (0, 0)) (by (with_reducible repeat (first | refine blk_drewN ?_ _ | refine blk_drew ?_ | refine blk_alloc ?_ _)); exact BK401.out) hb)
      have n9_ := Aside0.mk (blk_below (g := gb402) (o := .cells #[.slice Ao32 t398.length co32] 85 (0, 0)) (by (with_reducible repeat (first | refine blk_drewN ?_ _ | refine blk_drew ?_ | refine blk_alloc ?_ _)); exact BK402.out) hb)
      have n10_ := Aside0.mk (below_step (by repeat (first | (with_reducible first | exact HB.out | apply below_alloc | apply pw_below_drewN | apply below_drew1 | refine below_set ?_ GE401.out | refine below_set ?_ GE402.out) | exact HB.out)) hb)
      clear HO385
      clear HO388
      clear HO391
      clear HO394
      clear HO397
      clear HO400
      clear HO405
      clear BK401
      clear BK402
      clear HB
      have HO385 := n0_
      have HO388 := n1_
      have HO391 := n2_
      have HO394 := n3_
      have HO397 := n4_
      have HO400 := n5_
      have HO405 := n6_
      have HO408 := n7_
      have BK401 := n8_
      have BK402 := n9_
      have HB := n10_
      clear n0_ n1_ n2_ n3_ n4_ n5_ n6_ n7_ n8_ n9_ n10_
      (try clear hb)
      (try clear hb2)
      (try clear hk)
      (try clear hi)
      (try clear ho0)
      obtain ⟨Ao39, co39, eo39⟩ := Kd.V_slice HO408.out
      (first | subst eo39 | (injection eo39 with f1_ f2_ f3_; have f4_ := f1_.symm; have f5_ := f3_.symm; clear f1_ f2_ f3_; subst f4_; subst f5_))
      refine hK.out _ _ ((blk_cell BK401.out 0).trans rfl) (fun hHeld => ?_)
      clear hK K
      refine norm_ (a' := ?_) ?_ ?_
      rotate_left
      ·show Act.put _ (some 39) _ = _
       simp only [Act.put, List.setIfInBounds_toArray, List.set_cons_zero, List.set_cons_succ, i64_w, i32_w]
       rfl
      refine last_ (i := 3) (N := none) #[true, true, true, true] rfl rfl (by kernel_rfl) (by decide) (fun K hK => ?_)
      have hs40 : w38.cell? ⟨gb401, 0, none⟩ = some (.slice Ao29 t395.length co29) := (blk_cell BK401.out 0).trans rfl
      have hfs40 := blk_frozen BK401.out 0
      have hns40_1 := NB402_401.out
      have hms40_1 := NB401_402.out
      refine skip_ (w1 := ?_) (by rfl) rfl ?_ ?_
      rotate_left
      ·go_simp
       rfl
      refine hK.out _ _ ?_
      clear hK K
      refine done_ (by kernel_rfl) ?_
      have hcz41_0 : w38.cell? ⟨gb401, 0, none⟩ = some (.slice Ao29 t395.length co29) := (blk_cell BK401.out 0).trans rfl
      have hfz41_0 := blk_frozen BK401.out 0
      try go_wp2_with (first | ((with_reducible refine gate_callee (f := 69) rfl ?_); refine goesL_ (some 42) rfl rfl Tryz.func69 (by kernel_rfl) rfl #[.agg #[.slice Ao39 t406.length co39]] rfl (by (try simp only [List.map_toArray, List.map_cons, List.map_nil]); first | done | rfl | (simp only [List.length_drop, List.length_take]; rfl)) ?_; (with_reducible refine (bursarref03_Long_value.calls kj3 _ _ t406 t409 true _ ?side1 ?side2 A16.out).mono ?_); (case side1 => refine (Kd.V_reads' (e := 3) (base := w.heap.size) (ok := fun k_ => (some k_ ≠ (.slice Ao20 t383.length co20 : Value).ownBlock ∧ (some k_ ≠ (.slice Ao21 t386.length co21 : Value).ownBlock ∧ (some k_ ≠ (.slice Ao25 t392.length co25 : Value).ownBlock ∧ (some k_ ≠ (.slice Ao37 t403.length co37 : Value).ownBlock ∧ (k_ ≠ gb401 ∧ k_ ≠ gb402)))))) (n := t406.length) (c := co39) ?_).2.2; exact (by (with_reducible repeat (first | apply Kd.V_alloc | apply Kd.V_drewN | apply Kd.V_drew)); exact (Kd.V_mono (Kd.V_far (p := ⟨gb401, 0, none⟩) (Kd.V_mono HO408.out (fun k_ hk => (⟨hk, hk.2.2.2.2.1⟩ : _ ∧ k_ ≠ gb401))) (fun _ hk => hk.2) (.slice Ao39 t406.length co39)) (fun _ h_ => h_.1)))); (case side2 => exact (Kd.V_reads' HO408.out).2.1); rintro e w42 ⟨rfl, hb⟩; refine ⟨_, rfl, ?_⟩; have n0_ := Aside0.mk (Kd.R_below (by (with_reducible repeat (first | apply Kd.R_alloc | apply Kd.R_drewN | apply Kd.R_drew)); exact (Kd.R_mono (Kd.R_far (p := ⟨gb401, 0, none⟩) (Kd.R_types HO385.out BK401.out (by decide)) (fun _ hk => hk.2) (.slice Ao39 t406.length co39)) (fun _ h_ => h_.1))) hb); have n1_ := Aside0.mk (Kd.R_below (by (with_reducible repeat (first | apply Kd.R_alloc | apply Kd.R_drewN | apply Kd.R_drew)); exact (Kd.R_mono (Kd.R_far (p := ⟨gb401, 0, none⟩) (Kd.R_types HO388.out BK401.out (by decide)) (fun _ hk => hk.2) (.slice Ao39 t406.length co39)) (fun _ h_ => h_.1))) hb); have n2_ := Aside0.mk (Kd.V_below (by (with_reducible repeat (first | apply Kd.V_alloc | apply Kd.V_drewN | apply Kd.V_drew)); exact (Kd.V_mono (Kd.V_far (p := ⟨gb401, 0, none⟩) (Kd.V_mono HO391.out (fun k_ hk => (⟨hk, hk.1.2.2.2.1⟩ : _ ∧ k_ ≠ gb401))) (fun _ hk => hk.2) (.slice Ao39 t406.length co39)) (fun _ h_ => h_.1))) hb); have n3_ := Aside0.mk (Kd.R_below (by (with_reducible repeat (first | apply Kd.R_alloc | apply Kd.R_drewN | apply Kd.R_drew)); exact (Kd.R_mono (Kd.R_far (p := ⟨gb401, 0, none⟩) (Kd.R_types HO394.out BK401.out (by decide)) (fun _ hk => hk.2) (.slice Ao39 t406.length co39)) (fun _ h_ => h_.1))) hb); have n4_ := Aside0.mk (Kd.V_below (by (with_reducible repeat (first | apply Kd.V_alloc | apply Kd.V_drewN | apply Kd.V_drew)); exact (Kd.V_mono (Kd.V_far (p := ⟨gb401, 0, none⟩) (Kd.V_mono HO397.out (fun k_ hk => (⟨hk, hk.1.2.2.2.1⟩ : _ ∧ k_ ≠ gb401))) (fun _ hk => hk.2) (.slice Ao39 t406.length co39)) (fun _ h_ => h_.1))) hb); have n5_ := Aside0.mk (Kd.V_below (by (with_reducible repeat (first | apply Kd.V_alloc | apply Kd.V_drewN | apply Kd.V_drew)); exact (Kd.V_mono (Kd.V_far (p := ⟨gb401, 0, none⟩) (Kd.V_mono HO400.out (fun k_ hk => (⟨hk, hk.1.2.2.2.1⟩ : _ ∧ k_ ≠ gb401))) (fun _ hk => hk.2) (.slice Ao39 t406.length co39)) (fun _ h_ => h_.1))) hb); have n6_ := Aside0.mk (Kd.R_below (by (with_reducible repeat (first | apply Kd.R_alloc | apply Kd.R_drewN | apply Kd.R_drew)); exact (Kd.R_mono (Kd.R_far (p := ⟨gb401, 0, none⟩) (Kd.R_types HO405.out BK401.out (by decide)) (fun _ hk => hk.2) (.slice Ao39 t406.length co39)) (fun _ h_ => h_.1))) hb); have n7_ := Aside0.mk (Kd.V_below (by (with_reducible repeat (first | apply Kd.V_alloc | apply Kd.V_drewN | apply Kd.V_drew)); exact (Kd.V_mono (Kd.V_far (p := ⟨gb401, 0, none⟩) (Kd.V_mono HO408.out (fun k_ hk => (⟨hk, hk.2.2.2.2.1⟩ : _ ∧ k_ ≠ gb401))) (fun _ hk => hk.2) (.slice Ao39 t406.length co39)) (fun _ h_ => h_.1))) hb); have n8_ := Aside0.mk (blk_below (g := gb401) (o := .cells #[.slice Ao39 t406.length co39] 85 (0, 0)) (by (with_reducible repeat (first | refine blk_drewN ?_ _ | refine blk_drew ?_ | refine blk_alloc ?_ _)); refine blk_put (cs := #[.slice Ao29 t395.length co29]) ?_ 0 _ rfl; (with_reducible repeat (first | refine blk_drewN ?_ _ | refine blk_drew ?_ | refine blk_alloc ?_ _)); exact BK401.out) hb); have n9_ := Aside0.mk (blk_below (g := gb402) (o := .cells #[.slice Ao32 t398.length co32] 85 (0, 0)) (by (with_reducible repeat (first | refine blk_drewN ?_ _ | refine blk_drew ?_ | refine blk_alloc ?_ _)); refine blk_far ?_ NB402_401.out _; (with_reducible repeat (first | refine blk_drewN ?_ _ | refine blk_drew ?_ | refine blk_alloc ?_ _)); exact BK402.out) hb); have n10_ := Aside0.mk (below_step (by repeat (first | (with_reducible first | exact HB.out | apply below_alloc | apply pw_below_drewN | apply below_drew1 | refine below_set ?_ GE401.out | refine below_set ?_ GE402.out) | exact HB.out)) hb); clear HO385; clear HO388; clear HO391; clear HO394; clear HO397; clear HO400; clear HO405; clear HO408; clear BK401; clear BK402; clear HB; have HO385 := n0_; have HO388 := n1_; have HO391 := n2_; have HO394 := n3_; have HO397 := n4_; have HO400 := n5_; have HO405 := n6_; have HO408 := n7_; have BK401 := n8_; have BK402 := n9_; have HB := n10_; clear n0_ n1_ n2_ n3_ n4_ n5_ n6_ n7_ n8_ n9_ n10_; (try clear hb); (try clear hb2); (try clear hk); (try clear hi)))
      go_ret2
      exact ⟨by first | rfl | (simp [errW_none, errW_some] <;> rfl) | (simp [*, errW_none, errW_some] <;> rfl), by repeat (first | (with_reducible first | exact HB.out | apply below_alloc | apply pw_below_drewN | apply below_drew1 | refine below_set ?_ GE401.out | refine below_set ?_ GE402.out) | exact HB.out)⟩
     ·replace c17 := Bool.eq_false_iff.mpr c17
      subst c17
      have H1 : (some (0, 7)) = some (r1, r2) := by rw [if_neg (show ¬ (false = true) by decide)] at H; exact H
      clear H
      have H := H1
      clear H1
      simp only [Option.some.injEq, Prod.mk.injEq] at H
      obtain ⟨rfl, rfl⟩ := H
      try go_wp2_with (first | ((with_reducible refine gate_callee (f := 62) rfl ?_); refine goesL_ (some 24) rfl rfl Tryz.func62 (by kernel_rfl) rfl #[.int .i64 a0] rfl (by (try simp only [List.map_toArray, List.map_cons, List.map_nil]); first | done | rfl | (simp only [List.length_drop, List.length_take]; rfl)) ?_; (with_reducible refine (bursarref03_long.calls kj3 a0 t383 _ A8.out).mono ?_); rintro e w43 ⟨v384, rfl, ho0, hb⟩; refine ⟨_, rfl, ?_⟩; have n0_ := Aside0.mk (Kd.R_lower ho0 (below_size (by repeat (first | (with_reducible first | exact HB.out | apply below_alloc | apply pw_below_drewN | apply below_drew1) | exact HB.out)))); have n1_ := Aside0.mk (below_step (by repeat (first | (with_reducible first | exact HB.out | apply below_alloc | apply pw_below_drewN | apply below_drew1) | exact HB.out)) hb); clear HB; have HO385 := n0_; have HB := n1_; clear n0_ n1_; (try clear hb); (try clear hb2); (try clear hk); (try clear hi); (try clear ho0)) | ((with_reducible refine gate_callee (f := 62) rfl ?_); refine goesL_ (some 26) rfl rfl Tryz.func62 (by kernel_rfl) rfl #[.int .i64 a1] rfl (by (try simp only [List.map_toArray, List.map_cons, List.map_nil]); first | done | rfl | (simp only [List.length_drop, List.length_take]; rfl)) ?_; (with_reducible refine (bursarref03_long.calls kj3 a1 t386 _ A9.out).mono ?_); rintro e w44 ⟨v387, rfl, ho0, hb⟩; refine ⟨_, rfl, ?_⟩; have n0_ := Aside0.mk (Kd.R_elder' (by (with_reducible repeat (first | apply Kd.R_alloc | apply Kd.R_drewN | apply Kd.R_drew)); exact HO385.out) (Kd.R_base ho0) hb); have n1_ := Aside0.mk (Kd.R_lower (Kd.R_new' ho0 (Kd.R_lt (by (with_reducible repeat (first | apply Kd.R_alloc | apply Kd.R_drewN | apply Kd.R_drew)); exact HO385.out))) (below_size (by repeat (first | (with_reducible first | exact HB.out | apply below_alloc | apply pw_below_drewN | apply below_drew1) | exact HB.out)))); have n2_ := Aside0.mk (below_step (by repeat (first | (with_reducible first | exact HB.out | apply below_alloc | apply pw_below_drewN | apply below_drew1) | exact HB.out)) hb); clear HO385; clear HB; have HO385 := n0_; have HO388 := n1_; have HB := n2_; clear n0_ n1_ n2_; (try clear hb); (try clear hb2); (try clear hk); (try clear hi); (try clear ho0); obtain ⟨Ao45, co45, eo45⟩ := Kd.R_slice HO385.out; subst eo45; obtain ⟨Ao46, co46, eo46⟩ := Kd.R_slice HO388.out; subst eo46) | ((with_reducible refine gate_callee (f := 70) rfl ?_); refine goesL_ (some 27) rfl rfl Tryz.func70 (by kernel_rfl) rfl #[.agg #[.slice Ao45 t383.length co45], .agg #[.slice Ao46 t386.length co46]] rfl (by (try simp only [List.map_toArray, List.map_cons, List.map_nil]); first | done | rfl | (simp only [List.length_drop, List.length_take]; rfl)) ?_; (with_reducible refine (bursarref03_Long_times.calls kj3 _ _ t383 _ _ t386 t389 _ ?side1 ?side2 ?side3 ?side4 A10.out).mono ?_); (case side1 => repeat (first | exact (Kd.R_reads' HO385.out).2.2 | (with_reducible refine Kd.C_alloc ?_ _) | (with_reducible refine Kd.C_drewN ?_ _) | (with_reducible refine Kd.C_drew ?_))); (case side2 => exact (Kd.R_reads' HO385.out).2.1); (case side3 => repeat (first | exact (Kd.R_reads' HO388.out).2.2 | (with_reducible refine Kd.C_alloc ?_ _) | (with_reducible refine Kd.C_drewN ?_ _) | (with_reducible refine Kd.C_drew ?_))); (case side4 => exact (Kd.R_reads' HO388.out).2.1); rintro e w47 ⟨v390, rfl, ho0, hb⟩; refine ⟨_, rfl, ?_⟩; have n0_ := Aside0.mk (Kd.R_below (by (with_reducible repeat (first | apply Kd.R_alloc | apply Kd.R_drewN | apply Kd.R_drew)); exact HO385.out) hb); have n1_ := Aside0.mk (Kd.R_below (by (with_reducible repeat (first | apply Kd.R_alloc | apply Kd.R_drewN | apply Kd.R_drew)); exact HO388.out) hb); have n2_ := Aside0.mk (Kd.V_lower (Kd.V_mono (ok' := fun k_ => some k_ ≠ (.slice Ao45 t383.length co45 : Value).ownBlock ∧ some k_ ≠ (.slice Ao46 t386.length co46 : Value).ownBlock) ho0 (fun k_ hk_ => ⟨(Kd.fresh' (Kd.R_lt (by (with_reducible repeat (first | apply Kd.R_alloc | apply Kd.R_drewN | apply Kd.R_drew)); exact HO385.out)) k_ hk_), (Kd.fresh' (Kd.R_lt (by (with_reducible repeat (first | apply Kd.R_alloc | apply Kd.R_drewN | apply Kd.R_drew)); exact HO388.out)) k_ hk_)⟩)) (below_size (by repeat (first | (with_reducible first | exact HB.out | apply below_alloc | apply pw_below_drewN | apply below_drew1) | exact HB.out)))); have n3_ := Aside0.mk (below_step (by repeat (first | (with_reducible first | exact HB.out | apply below_alloc | apply pw_below_drewN | apply below_drew1) | exact HB.out)) hb); clear HO385; clear HO388; clear HB; have HO385 := n0_; have HO388 := n1_; have HO391 := n2_; have HB := n3_; clear n0_ n1_ n2_ n3_; (try clear hb); (try clear hb2); (try clear hk); (try clear hi); (try clear ho0)) | ((with_reducible refine gate_callee (f := 62) rfl ?_); refine goesL_ (some 29) rfl rfl Tryz.func62 (by kernel_rfl) rfl #[.int .i64 a2] rfl (by (try simp only [List.map_toArray, List.map_cons, List.map_nil]); first | done | rfl | (simp only [List.length_drop, List.length_take]; rfl)) ?_; (with_reducible refine (bursarref03_long.calls kj3 a2 t392 _ A11.out).mono ?_); rintro e w48 ⟨v393, rfl, ho0, hb⟩; refine ⟨_, rfl, ?_⟩; have n0_ := Aside0.mk (Kd.R_elder' (by (with_reducible repeat (first | apply Kd.R_alloc | apply Kd.R_drewN | apply Kd.R_drew)); exact HO385.out) (Kd.R_base ho0) hb); have n1_ := Aside0.mk (Kd.R_elder' (by (with_reducible repeat (first | apply Kd.R_alloc | apply Kd.R_drewN | apply Kd.R_drew)); exact HO388.out) (Kd.R_base ho0) hb); have n2_ := Aside0.mk (Kd.V_elder' (by (with_reducible repeat (first | apply Kd.V_alloc | apply Kd.V_drewN | apply Kd.V_drew)); exact HO391.out) (Kd.R_base ho0) hb); have n3_ := Aside0.mk (Kd.R_lower (Kd.R_new' (Kd.R_new' ho0 (Kd.R_lt (by (with_reducible repeat (first | apply Kd.R_alloc | apply Kd.R_drewN | apply Kd.R_drew)); exact HO385.out))) (Kd.R_lt (by (with_reducible repeat (first | apply Kd.R_alloc | apply Kd.R_drewN | apply Kd.R_drew)); exact HO388.out))) (below_size (by repeat (first | (with_reducible first | exact HB.out | apply below_alloc | apply pw_below_drewN | apply below_drew1) | exact HB.out)))); have n4_ := Aside0.mk (below_step (by repeat (first | (with_reducible first | exact HB.out | apply below_alloc | apply pw_below_drewN | apply below_drew1) | exact HB.out)) hb); clear HO385; clear HO388; clear HO391; clear HB; have HO385 := n0_; have HO388 := n1_; have HO391 := n2_; have HO394 := n3_; have HB := n4_; clear n0_ n1_ n2_ n3_ n4_; (try clear hb); (try clear hb2); (try clear hk); (try clear hi); (try clear ho0); obtain ⟨Ao49, co49, eo49⟩ := Kd.V_slice HO391.out; subst eo49; obtain ⟨Ao50, co50, eo50⟩ := Kd.R_slice HO394.out; subst eo50) | ((with_reducible refine gate_callee (f := 64) rfl ?_); refine goesL_ (some 30) rfl rfl Tryz.func64 (by kernel_rfl) rfl #[.agg #[.slice Ao49 t389.length co49], .agg #[.slice Ao50 t392.length co50]] rfl (by (try simp only [List.map_toArray, List.map_cons, List.map_nil]); first | done | rfl | (simp only [List.length_drop, List.length_take]; rfl)) ?_; (with_reducible refine (bursarref03_Long_by.calls kj3 _ _ t389 _ _ t392 t395 t398 _ ?side1 ?side2 ?side3 ?side4 A12.out).mono ?_); (case side1 => repeat (first | exact (Kd.V_reads' HO391.out).2.2 | (with_reducible refine Kd.C_alloc ?_ _) | (with_reducible refine Kd.C_drewN ?_ _) | (with_reducible refine Kd.C_drew ?_))); (case side2 => exact (Kd.V_reads' HO391.out).2.1); (case side3 => repeat (first | exact (Kd.R_reads' HO394.out).2.2 | (with_reducible refine Kd.C_alloc ?_ _) | (with_reducible refine Kd.C_drewN ?_ _) | (with_reducible refine Kd.C_drew ?_))); (case side4 => exact (Kd.R_reads' HO394.out).2.1); rintro e w51 ⟨v396, v399, rfl, ho0, ho1, hb⟩; refine ⟨_, rfl, ?_⟩; have n0_ := Aside0.mk (Kd.R_below (by (with_reducible repeat (first | apply Kd.R_alloc | apply Kd.R_drewN | apply Kd.R_drew)); exact HO385.out) hb); have n1_ := Aside0.mk (Kd.R_below (by (with_reducible repeat (first | apply Kd.R_alloc | apply Kd.R_drewN | apply Kd.R_drew)); exact HO388.out) hb); have n2_ := Aside0.mk (Kd.V_below (by (with_reducible repeat (first | apply Kd.V_alloc | apply Kd.V_drewN | apply Kd.V_drew)); exact HO391.out) hb); have n3_ := Aside0.mk (Kd.R_below (by (with_reducible repeat (first | apply Kd.R_alloc | apply Kd.R_drewN | apply Kd.R_drew)); exact HO394.out) hb); have n4_ := Aside0.mk (Kd.V_lower (Kd.V_mono (ok' := fun k_ => some k_ ≠ (.slice Ao45 t383.length co45 : Value).ownBlock ∧ some k_ ≠ (.slice Ao46 t386.length co46 : Value).ownBlock ∧ some k_ ≠ (.slice Ao50 t392.length co50 : Value).ownBlock) ho0 (fun k_ hk_ => ⟨(Kd.fresh' (Kd.R_lt (by (with_reducible repeat (first | apply Kd.R_alloc | apply Kd.R_drewN | apply Kd.R_drew)); exact HO385.out)) k_ hk_), (Kd.fresh' (Kd.R_lt (by (with_reducible repeat (first | apply Kd.R_alloc | apply Kd.R_drewN | apply Kd.R_drew)); exact HO388.out)) k_ hk_), (Kd.fresh' (Kd.R_lt (by (with_reducible repeat (first | apply Kd.R_alloc | apply Kd.R_drewN | apply Kd.R_drew)); exact HO394.out)) k_ hk_)⟩)) (below_size (by repeat (first | (with_reducible first | exact HB.out | apply below_alloc | apply pw_below_drewN | apply below_drew1) | exact HB.out)))); have n5_ := Aside0.mk (Kd.V_lower (Kd.V_mono (ok' := fun k_ => some k_ ≠ (.slice Ao45 t383.length co45 : Value).ownBlock ∧ some k_ ≠ (.slice Ao46 t386.length co46 : Value).ownBlock ∧ some k_ ≠ (.slice Ao50 t392.length co50 : Value).ownBlock) ho1 (fun k_ hk_ => ⟨(Kd.fresh' (Kd.R_lt (by (with_reducible repeat (first | apply Kd.R_alloc | apply Kd.R_drewN | apply Kd.R_drew)); exact HO385.out)) k_ hk_), (Kd.fresh' (Kd.R_lt (by (with_reducible repeat (first | apply Kd.R_alloc | apply Kd.R_drewN | apply Kd.R_drew)); exact HO388.out)) k_ hk_), (Kd.fresh' (Kd.R_lt (by (with_reducible repeat (first | apply Kd.R_alloc | apply Kd.R_drewN | apply Kd.R_drew)); exact HO394.out)) k_ hk_)⟩)) (below_size (by repeat (first | (with_reducible first | exact HB.out | apply below_alloc | apply pw_below_drewN | apply below_drew1) | exact HB.out)))); have n6_ := Aside0.mk (below_step (by repeat (first | (with_reducible first | exact HB.out | apply below_alloc | apply pw_below_drewN | apply below_drew1) | exact HB.out)) hb); clear HO385; clear HO388; clear HO391; clear HO394; clear HB; have HO385 := n0_; have HO388 := n1_; have HO391 := n2_; have HO394 := n3_; have HO397 := n4_; have HO400 := n5_; have HB := n6_; clear n0_ n1_ n2_ n3_ n4_ n5_ n6_; (try clear hb); (try clear hb2); (try clear hk); (try clear hi); (try clear ho0); (try clear ho1)) | ((with_reducible refine gate_dst (N := 8) rfl ?_); refine box_event ?hg (N := 8) ?hd (cs := #[.slice none 0 0]) (t := 85) ?hr ?_; (case hd => rfl); (case hg => rfl); (case hr => first | (go_simp; done) | (go_simp; rfl)); intro gb401 hg w52 hbox hb; have n0_ := Aside0.mk (Kd.R_below (by (with_reducible repeat (first | apply Kd.R_alloc | apply Kd.R_drewN | apply Kd.R_drew)); exact HO385.out) hb); have n1_ := Aside0.mk (Kd.R_below (by (with_reducible repeat (first | apply Kd.R_alloc | apply Kd.R_drewN | apply Kd.R_drew)); exact HO388.out) hb); have n2_ := Aside0.mk (Kd.V_below (Kd.V_elderB (by (with_reducible repeat (first | apply Kd.V_alloc | apply Kd.V_drewN | apply Kd.V_drew)); exact HO391.out) gb401 (Nat.le_of_eq hg.symm)) hb); have n3_ := Aside0.mk (Kd.R_below (by (with_reducible repeat (first | apply Kd.R_alloc | apply Kd.R_drewN | apply Kd.R_drew)); exact HO394.out) hb); have n4_ := Aside0.mk (Kd.V_below (Kd.V_elderB (by (with_reducible repeat (first | apply Kd.V_alloc | apply Kd.V_drewN | apply Kd.V_drew)); exact HO397.out) gb401 (Nat.le_of_eq hg.symm)) hb); have n5_ := Aside0.mk (Kd.V_below (Kd.V_elderB (by (with_reducible repeat (first | apply Kd.V_alloc | apply Kd.V_drewN | apply Kd.V_drew)); exact HO400.out) gb401 (Nat.le_of_eq hg.symm)) hb); have n6_ := Aside0.mk (below_step (by repeat (first | (with_reducible first | exact HB.out | apply below_alloc | apply pw_below_drewN | apply below_drew1) | exact HB.out)) hb); have n7_ := Aside0.mk (hbox); have n8_ := Aside0.mk ((by rw [hg]; exact (below_size (by repeat (first | (with_reducible first | exact HB.out | apply below_alloc | apply pw_below_drewN | apply below_drew1) | exact HB.out))) : w.heap.size ≤ gb401)); have n9_ := Aside0.mk ((by rw [hg]; exact (below_size (by repeat (first | (with_reducible first | exact HB.out | apply below_alloc | apply pw_below_drewN | apply below_drew1) | exact HB.out))) : w.heap.size ≤ gb401)); clear HO385; clear HO388; clear HO391; clear HO394; clear HO397; clear HO400; clear HB; have HO385 := n0_; have HO388 := n1_; have HO391 := n2_; have HO394 := n3_; have HO397 := n4_; have HO400 := n5_; have HB := n6_; have BK401 := n7_; have GW401 := n8_; have GE401 := n9_; clear n0_ n1_ n2_ n3_ n4_ n5_ n6_ n7_ n8_ n9_; clear hb hbox hg) | ((with_reducible refine gate_dst (N := 9) rfl ?_); refine box_event ?hg (N := 9) ?hd (cs := #[.slice none 0 0]) (t := 85) ?hr ?_; (case hd => rfl); (case hg => rfl); (case hr => first | (go_simp; done) | (go_simp; rfl)); intro gb402 hg w53 hbox hb; have n0_ := Aside0.mk (Kd.R_below (by (with_reducible repeat (first | apply Kd.R_alloc | apply Kd.R_drewN | apply Kd.R_drew)); exact HO385.out) hb); have n1_ := Aside0.mk (Kd.R_below (by (with_reducible repeat (first | apply Kd.R_alloc | apply Kd.R_drewN | apply Kd.R_drew)); exact HO388.out) hb); have n2_ := Aside0.mk (Kd.V_below (Kd.V_elderB (by (with_reducible repeat (first | apply Kd.V_alloc | apply Kd.V_drewN | apply Kd.V_drew)); exact HO391.out) gb402 (Nat.le_of_eq hg.symm)) hb); have n3_ := Aside0.mk (Kd.R_below (by (with_reducible repeat (first | apply Kd.R_alloc | apply Kd.R_drewN | apply Kd.R_drew)); exact HO394.out) hb); have n4_ := Aside0.mk (Kd.V_below (Kd.V_elderB (by (with_reducible repeat (first | apply Kd.V_alloc | apply Kd.V_drewN | apply Kd.V_drew)); exact HO397.out) gb402 (Nat.le_of_eq hg.symm)) hb); have n5_ := Aside0.mk (Kd.V_below (Kd.V_elderB (by (with_reducible repeat (first | apply Kd.V_alloc | apply Kd.V_drewN | apply Kd.V_drew)); exact HO400.out) gb402 (Nat.le_of_eq hg.symm)) hb); have n6_ := Aside0.mk (blk_below (g := gb401) (o := .cells #[.slice none 0 0] 85 (0, 0)) (by (with_reducible repeat (first | refine blk_drewN ?_ _ | refine blk_drew ?_ | refine blk_alloc ?_ _)); exact BK401.out) hb); have n7_ := Aside0.mk (below_step (by repeat (first | (with_reducible first | exact HB.out | apply below_alloc | apply pw_below_drewN | apply below_drew1 | refine below_set ?_ GE401.out) | exact HB.out)) hb); have n8_ := Aside0.mk (hbox); have n9_ := Aside0.mk ((by rw [hg]; exact (below_size (by repeat (first | (with_reducible first | exact HB.out | apply below_alloc | apply pw_below_drewN | apply below_drew1 | refine below_set ?_ GE401.out) | exact HB.out))) : w.heap.size ≤ gb402)); have n10_ := Aside0.mk ((by rw [hg]; exact (below_size (by repeat (first | (with_reducible first | exact HB.out | apply below_alloc | apply pw_below_drewN | apply below_drew1 | refine below_set ?_ GE401.out) | exact HB.out))) : w.heap.size ≤ gb402)); have n11_ := Aside0.mk ((by rw [hg]; exact Nat.ne_of_lt (blk_lt (g := gb401) (o := .cells #[.slice none 0 0] 85 (0, 0)) (by (with_reducible repeat (first | refine blk_drewN ?_ _ | refine blk_drew ?_ | refine blk_alloc ?_ _)); exact BK401.out)) : gb401 ≠ gb402)); have n12_ := Aside0.mk ((by rw [hg]; exact Nat.ne_of_gt (blk_lt (g := gb401) (o := .cells #[.slice none 0 0] 85 (0, 0)) (by (with_reducible repeat (first | refine blk_drewN ?_ _ | refine blk_drew ?_ | refine blk_alloc ?_ _)); exact BK401.out)) : gb402 ≠ gb401)); clear HO385; clear HO388; clear HO391; clear HO394; clear HO397; clear HO400; clear BK401; clear HB; have HO385 := n0_; have HO388 := n1_; have HO391 := n2_; have HO394 := n3_; have HO397 := n4_; have HO400 := n5_; have BK401 := n6_; have HB := n7_; have BK402 := n8_; have GW402 := n9_; have GE402 := n10_; have NB401_402 := n11_; have NB402_401 := n12_; clear n0_ n1_ n2_ n3_ n4_ n5_ n6_ n7_ n8_ n9_ n10_ n11_ n12_; clear hb hbox hg; obtain ⟨Ao54, co54, eo54⟩ := Kd.V_slice HO397.out; subst eo54; have hnb55 := NB401_402.out; have hnc55 := NB402_401.out; have hcz56_0 : w53.cell? ⟨gb401, 0, none⟩ = some (.slice none 0 0) := (blk_cell BK401.out 0).trans rfl; have hfz56_0 := blk_frozen BK401.out 0; obtain ⟨Ao57, co57, eo57⟩ := Kd.V_slice HO400.out; subst eo57; have hcz58_0 : w53.cell? ⟨gb402, 0, none⟩ = some (.slice none 0 0) := (blk_cell BK402.out 0).trans rfl; have hfz58_0 := blk_frozen BK402.out 0))
      have n0_ : Aside0 (Kd.R (Kd.int .i64) 3 ((w53.setCell ⟨gb401, 0, none⟩ (.slice Ao54 t395.length co54)).setCell ⟨gb402, 0, none⟩ (.slice Ao57 t398.length co57)) w.heap.size (fun k_ => some k_ ≠ (.slice Ao46 t386.length co46 : Value).ownBlock ∧ some k_ ≠ (.slice Ao50 t392.length co50 : Value).ownBlock) (.slice Ao45 t383.length co45) t383) := ⟨by (with_reducible repeat (first | apply Kd.R_alloc | apply Kd.R_drewN | apply Kd.R_drew)); exact Kd.R_mono (Kd.R_far (p := ⟨gb402, 0, none⟩) (Kd.R_far (p := ⟨gb401, 0, none⟩) (Kd.R_types (Kd.R_types HO385.out BK401.out (by decide)) BK402.out (by decide)) (fun _ hk => hk.1.2) (.slice Ao54 t395.length co54)) (fun _ hk => hk.2) (.slice Ao57 t398.length co57)) (fun _ hk => ⟨hk.1.1.1.2, hk.1.1.2⟩)⟩
      have n1_ : Aside0 (Kd.R (Kd.int .i64) 3 ((w53.setCell ⟨gb401, 0, none⟩ (.slice Ao54 t395.length co54)).setCell ⟨gb402, 0, none⟩ (.slice Ao57 t398.length co57)) w.heap.size (fun k_ => some k_ ≠ (.slice Ao45 t383.length co45 : Value).ownBlock ∧ some k_ ≠ (.slice Ao50 t392.length co50 : Value).ownBlock) (.slice Ao46 t386.length co46) t386) := ⟨by (with_reducible repeat (first | apply Kd.R_alloc | apply Kd.R_drewN | apply Kd.R_drew)); exact Kd.R_mono (Kd.R_far (p := ⟨gb402, 0, none⟩) (Kd.R_far (p := ⟨gb401, 0, none⟩) (Kd.R_types (Kd.R_types HO388.out BK401.out (by decide)) BK402.out (by decide)) (fun _ hk => hk.1.2) (.slice Ao54 t395.length co54)) (fun _ hk => hk.2) (.slice Ao57 t398.length co57)) (fun _ hk => ⟨hk.1.1.1.2, hk.1.1.2⟩)⟩
      have n2_ : Aside0 (Kd.V (Kd.int .i64) 3 ((w53.setCell ⟨gb401, 0, none⟩ (.slice Ao54 t395.length co54)).setCell ⟨gb402, 0, none⟩ (.slice Ao57 t398.length co57)) w.heap.size (fun k_ => some k_ ≠ (.slice Ao45 t383.length co45 : Value).ownBlock ∧ some k_ ≠ (.slice Ao46 t386.length co46 : Value).ownBlock ∧ some k_ ≠ (.slice Ao50 t392.length co50 : Value).ownBlock ∧ k_ ≠ gb401 ∧ k_ ≠ gb402) (.slice Ao49 t389.length co49) t389) := ⟨by (with_reducible repeat (first | apply Kd.V_alloc | apply Kd.V_drewN | apply Kd.V_drew)); exact Kd.V_mono (Kd.V_far (p := ⟨gb402, 0, none⟩) (Kd.V_far (p := ⟨gb401, 0, none⟩) (Kd.V_mono (Kd.V_mono HO391.out (fun k_ hk => (⟨hk, hk.1.2⟩ : _ ∧ k_ ≠ gb401))) (fun k_ hk => (⟨hk, hk.1.2⟩ : _ ∧ k_ ≠ gb402))) (fun _ hk => hk.1.2) (.slice Ao54 t395.length co54)) (fun _ hk => hk.2) (.slice Ao57 t398.length co57)) (fun _ hk => ⟨hk.1.1.1.1.1.1, ⟨hk.1.1.1.1.1.2, ⟨hk.1.1.1.1.2, ⟨hk.1.1.1.2, hk.1.1.2⟩⟩⟩⟩)⟩
      have n3_ : Aside0 (Kd.R (Kd.int .i64) 3 ((w53.setCell ⟨gb401, 0, none⟩ (.slice Ao54 t395.length co54)).setCell ⟨gb402, 0, none⟩ (.slice Ao57 t398.length co57)) w.heap.size (fun k_ => some k_ ≠ (.slice Ao45 t383.length co45 : Value).ownBlock ∧ some k_ ≠ (.slice Ao46 t386.length co46 : Value).ownBlock) (.slice Ao50 t392.length co50) t392) := ⟨by (with_reducible repeat (first | apply Kd.R_alloc | apply Kd.R_drewN | apply Kd.R_drew)); exact Kd.R_mono (Kd.R_far (p := ⟨gb402, 0, none⟩) (Kd.R_far (p := ⟨gb401, 0, none⟩) (Kd.R_types (Kd.R_types HO394.out BK401.out (by decide)) BK402.out (by decide)) (fun _ hk => hk.1.2) (.slice Ao54 t395.length co54)) (fun _ hk => hk.2) (.slice Ao57 t398.length co57)) (fun _ hk => ⟨hk.1.1.1.2, hk.1.1.2⟩)⟩
      have n4_ : Aside0 (Kd.V (Kd.int .i64) 3 ((w53.setCell ⟨gb401, 0, none⟩ (.slice Ao54 t395.length co54)).setCell ⟨gb402, 0, none⟩ (.slice Ao57 t398.length co57)) w.heap.size (fun k_ => some k_ ≠ (.slice Ao45 t383.length co45 : Value).ownBlock ∧ some k_ ≠ (.slice Ao46 t386.length co46 : Value).ownBlock ∧ some k_ ≠ (.slice Ao50 t392.length co50 : Value).ownBlock ∧ k_ ≠ gb401 ∧ k_ ≠ gb402) (.slice Ao54 t395.length co54) t395) := ⟨by (with_reducible repeat (first | apply Kd.V_alloc | apply Kd.V_drewN | apply Kd.V_drew)); exact Kd.V_mono (Kd.V_far (p := ⟨gb402, 0, none⟩) (Kd.V_far (p := ⟨gb401, 0, none⟩) (Kd.V_mono (Kd.V_mono HO397.out (fun k_ hk => (⟨hk, hk.1.2⟩ : _ ∧ k_ ≠ gb401))) (fun k_ hk => (⟨hk, hk.1.2⟩ : _ ∧ k_ ≠ gb402))) (fun _ hk => hk.1.2) (.slice Ao54 t395.length co54)) (fun _ hk => hk.2) (.slice Ao57 t398.length co57)) (fun _ hk => ⟨hk.1.1.1.1.1, ⟨hk.1.1.1.1.2.1, ⟨hk.1.1.1.1.2.2, ⟨hk.1.1.1.2, hk.1.1.2⟩⟩⟩⟩)⟩
      have n5_ : Aside0 (Kd.V (Kd.int .i64) 3 ((w53.setCell ⟨gb401, 0, none⟩ (.slice Ao54 t395.length co54)).setCell ⟨gb402, 0, none⟩ (.slice Ao57 t398.length co57)) w.heap.size (fun k_ => some k_ ≠ (.slice Ao45 t383.length co45 : Value).ownBlock ∧ some k_ ≠ (.slice Ao46 t386.length co46 : Value).ownBlock ∧ some k_ ≠ (.slice Ao50 t392.length co50 : Value).ownBlock ∧ k_ ≠ gb401 ∧ k_ ≠ gb402) (.slice Ao57 t398.length co57) t398) := ⟨by (with_reducible repeat (first | apply Kd.V_alloc | apply Kd.V_drewN | apply Kd.V_drew)); exact Kd.V_mono (Kd.V_far (p := ⟨gb402, 0, none⟩) (Kd.V_far (p := ⟨gb401, 0, none⟩) (Kd.V_mono (Kd.V_mono HO400.out (fun k_ hk => (⟨hk, hk.1.2⟩ : _ ∧ k_ ≠ gb401))) (fun k_ hk => (⟨hk, hk.1.2⟩ : _ ∧ k_ ≠ gb402))) (fun _ hk => hk.1.2) (.slice Ao54 t395.length co54)) (fun _ hk => hk.2) (.slice Ao57 t398.length co57)) (fun _ hk => ⟨hk.1.1.1.1.1, ⟨hk.1.1.1.1.2.1, ⟨hk.1.1.1.1.2.2, ⟨hk.1.1.1.2, hk.1.1.2⟩⟩⟩⟩)⟩
      have n6_ : Aside0 (((w53.setCell ⟨gb401, 0, none⟩ (.slice Ao54 t395.length co54)).setCell ⟨gb402, 0, none⟩ (.slice Ao57 t398.length co57)).heap[gb401]? = some (.cells #[.slice Ao54 t395.length co54] 85 (0, 0))) := ⟨by (with_reducible repeat (first | refine blk_drewN ?_ _ | refine blk_drew ?_ | refine blk_alloc ?_ _)); refine blk_far ?_ NB401_402.out _; (with_reducible repeat (first | refine blk_drewN ?_ _ | refine blk_drew ?_ | refine blk_alloc ?_ _)); refine blk_put (cs := #[.slice none 0 0]) ?_ 0 _ rfl; (with_reducible repeat (first | refine blk_drewN ?_ _ | refine blk_drew ?_ | refine blk_alloc ?_ _)); exact BK401.out⟩
      have n7_ : Aside0 (((w53.setCell ⟨gb401, 0, none⟩ (.slice Ao54 t395.length co54)).setCell ⟨gb402, 0, none⟩ (.slice Ao57 t398.length co57)).heap[gb402]? = some (.cells #[.slice Ao57 t398.length co57] 85 (0, 0))) := ⟨by (with_reducible repeat (first | refine blk_drewN ?_ _ | refine blk_drew ?_ | refine blk_alloc ?_ _)); refine blk_put (cs := #[.slice none 0 0]) ?_ 0 _ rfl; (with_reducible repeat (first | refine blk_drewN ?_ _ | refine blk_drew ?_ | refine blk_alloc ?_ _)); refine blk_far ?_ NB402_401.out _; (with_reducible repeat (first | refine blk_drewN ?_ _ | refine blk_drew ?_ | refine blk_alloc ?_ _)); exact BK402.out⟩
      have n8_ : Aside0 (Below w.heap.size w ((w53.setCell ⟨gb401, 0, none⟩ (.slice Ao54 t395.length co54)).setCell ⟨gb402, 0, none⟩ (.slice Ao57 t398.length co57))) := ⟨by repeat (first | (with_reducible first | exact HB.out | apply below_alloc | apply pw_below_drewN | apply below_drew1 | refine below_set ?_ GE401.out | refine below_set ?_ GE402.out) | exact HB.out)⟩
      (try clear HO385)
      (try clear HO388)
      (try clear HO391)
      (try clear HO394)
      (try clear HO397)
      (try clear HO400)
      (try clear BK401)
      (try clear BK402)
      (try clear HB)
      generalize ((w53.setCell ⟨gb401, 0, none⟩ (.slice Ao54 t395.length co54)).setCell ⟨gb402, 0, none⟩ (.slice Ao57 t398.length co57)) = w59 at n0_ n1_ n2_ n3_ n4_ n5_ n6_ n7_ n8_ ⊢
      have HO385 := n0_
      have HO388 := n1_
      have HO391 := n2_
      have HO394 := n3_
      have HO397 := n4_
      have HO400 := n5_
      have BK401 := n6_
      have BK402 := n7_
      have HB := n8_
      clear n0_ n1_ n2_ n3_ n4_ n5_ n6_ n7_ n8_
      have n0_ := Aside0.mk (Kd.R_drew HO385.out)
      have n1_ := Aside0.mk (Kd.R_drew HO388.out)
      have n2_ := Aside0.mk (Kd.V_drew HO391.out)
      have n3_ := Aside0.mk (Kd.R_drew HO394.out)
      have n4_ := Aside0.mk (Kd.V_drew HO397.out)
      have n5_ := Aside0.mk (Kd.V_drew HO400.out)
      have n6_ := Aside0.mk (blk_drew BK401.out)
      have n7_ := Aside0.mk (blk_drew BK402.out)
      have n8_ := Aside0.mk (below_drew1 HB.out)
      clear HO385
      clear HO388
      clear HO391
      clear HO394
      clear HO397
      clear HO400
      clear BK401
      clear BK402
      clear HB
      have HO385 := n0_
      have HO388 := n1_
      have HO391 := n2_
      have HO394 := n3_
      have HO397 := n4_
      have HO400 := n5_
      have BK401 := n6_
      have BK402 := n7_
      have HB := n8_
      clear n0_ n1_ n2_ n3_ n4_ n5_ n6_ n7_ n8_
      refine start_ (n := 4) (S := fun w' => w'.cell? ⟨gb401, 0, none⟩ = some (.slice Ao54 t395.length co54)) (ds := [3]) #[false, false, false, false] (by kernel_rfl) rfl rfl ((blk_cell BK401.out 0).trans rfl) (fun hHeld => ?_)
      generalize w59.drew = w60 at HO385 HO388 HO391 HO394 HO397 HO400 BK401 BK402 HB hHeld ⊢
      refine take_ (i := 0) (N := some 37) (v := ?_) (a' := ?_) #[true, false, false, false] rfl rfl (by kernel_rfl) (fun _ _ _ h => h) (Or.inl ⟨by rfl, ?_⟩) hHeld ?_ ?_
      rotate_left
      ·intro w' s0
       go_simp
       with_reducible rfl
      rotate_left
      ·simp only [Act.put, List.setIfInBounds_toArray, List.set_cons_zero, List.set_cons_succ, i64_w, i32_w]
       rfl
      refine one_ (i := 1) (N := some 38) #[true, true, false, false] rfl rfl (by kernel_rfl) (by decide) (fun K hK => ?_)
      refine goes_ Tryz.func62 (by kernel_rfl) rfl #[.int .i64 1] (by rfl) rfl rfl (by (try simp only [List.map_toArray, List.map_cons, List.map_nil]); first | done | rfl | (simp only [List.length_drop, List.length_take]; rfl)) ?_
      with_reducible refine (bursarref03_long.calls kj3 1 t403 _ A14.out).mono ?_
      rintro e w61 ⟨v404, rfl, ho0, hb⟩
      refine ⟨_, rfl, ?_⟩
      have n0_ := Aside0.mk (Kd.R_elder' (by (with_reducible repeat (first | apply Kd.R_alloc | apply Kd.R_drewN | apply Kd.R_drew)); exact HO385.out) (Kd.R_base ho0) hb)
      have n1_ := Aside0.mk (Kd.R_elder' (by (with_reducible repeat (first | apply Kd.R_alloc | apply Kd.R_drewN | apply Kd.R_drew)); exact HO388.out) (Kd.R_base ho0) hb)
      have n2_ := Aside0.mk (Kd.V_elder' (by (with_reducible repeat (first | apply Kd.V_alloc | apply Kd.V_drewN | apply Kd.V_drew)); exact HO391.out) (Kd.R_base ho0) hb)
      have n3_ := Aside0.mk (Kd.R_elder' (by (with_reducible repeat (first | apply Kd.R_alloc | apply Kd.R_drewN | apply Kd.R_drew)); exact HO394.out) (Kd.R_base ho0) hb)
      have n4_ := Aside0.mk (Kd.V_elder' (by (with_reducible repeat (first | apply Kd.V_alloc | apply Kd.V_drewN | apply Kd.V_drew)); exact HO397.out) (Kd.R_base ho0) hb)
      have n5_ := Aside0.mk (Kd.V_elder' (by (with_reducible repeat (first | apply Kd.V_alloc | apply Kd.V_drewN | apply Kd.V_drew)); exact HO400.out) (Kd.R_base ho0) hb)
      have n6_ := Aside0.mk (Kd.R_lower (Kd.R_new' (Kd.R_new' (Kd.R_new' ho0 (Kd.R_lt (by (with_reducible repeat (first | apply Kd.R_alloc | apply Kd.R_drewN | apply Kd.R_drew)); exact HO385.out))) (Kd.R_lt (by (with_reducible repeat (first | apply Kd.R_alloc | apply Kd.R_drewN | apply Kd.R_drew)); exact HO388.out))) (Kd.R_lt (by (with_reducible repeat (first | apply Kd.R_alloc | apply Kd.R_drewN | apply Kd.R_drew)); exact HO394.out))) (below_size (by repeat (first | (with_reducible first | exact HB.out | apply below_alloc | apply pw_below_drewN | apply below_drew1 | refine below_set ?_ GE401.out | refine below_set ?_ GE402.out) | exact HB.out))))
      have n7_ := Aside0.mk (blk_below (g := gb401) (o := .cells #[.slice Ao54 t395.length co54] 85 (0, 0)) (by (with_reducible repeat (first | refine blk_drewN ?_ _ | refine blk_drew ?_ | refine blk_alloc ?_ _)); exact BK401.out) hb)
      have n8_ := Aside0.mk (blk_below (g := gb402) (o := .cells #[.slice Ao57 t398.length co57] 85 (0, 0)) (by (with_reducible repeat (first | refine blk_drewN ?_ _ | refine blk_drew ?_ | refine blk_alloc ?_ _)); exact BK402.out) hb)
      have n9_ := Aside0.mk (below_step (by repeat (first | (with_reducible first | exact HB.out | apply below_alloc | apply pw_below_drewN | apply below_drew1 | refine below_set ?_ GE401.out | refine below_set ?_ GE402.out) | exact HB.out)) hb)
      clear HO385
      clear HO388
      clear HO391
      clear HO394
      clear HO397
      clear HO400
      clear BK401
      clear BK402
      clear HB
      have HO385 := n0_
      have HO388 := n1_
      have HO391 := n2_
      have HO394 := n3_
      have HO397 := n4_
      have HO400 := n5_
      have HO405 := n6_
      have BK401 := n7_
      have BK402 := n8_
      have HB := n9_
      clear n0_ n1_ n2_ n3_ n4_ n5_ n6_ n7_ n8_ n9_
      (try clear hb)
      (try clear hb2)
      (try clear hk)
      (try clear hi)
      (try clear ho0)
      obtain ⟨Ao62, co62, eo62⟩ := Kd.R_slice HO405.out
      (first | subst eo62 | (injection eo62 with f1_ f2_ f3_; have f4_ := f1_.symm; have f5_ := f3_.symm; clear f1_ f2_ f3_; subst f4_; subst f5_))
      refine hK.out _ _ ((blk_cell BK401.out 0).trans rfl) (fun hHeld => ?_)
      clear hK K
      refine norm_ (a' := ?_) ?_ ?_
      rotate_left
      ·show Act.put _ (some 38) _ = _
       simp only [Act.put, List.setIfInBounds_toArray, List.set_cons_zero, List.set_cons_succ, i64_w, i32_w]
       rfl
      refine one_ (i := 2) (N := some 39) #[true, true, true, false] rfl rfl (by kernel_rfl) (by decide) (fun K hK => ?_)
      refine goes_ Tryz.func68 (by kernel_rfl) rfl #[.agg #[.slice Ao54 t395.length co54], .agg #[.slice Ao62 t403.length co62]] (by rfl) rfl rfl (by (try simp only [List.map_toArray, List.map_cons, List.map_nil]); first | done | rfl | (simp only [List.length_drop, List.length_take]; rfl)) ?_
      with_reducible refine (bursarref03_Long_plus.calls kj3 _ _ t395 _ _ t403 t406 _ ?side1 ?side2 ?side3 ?side4 A15.out).mono ?_
      (case side1 => repeat (first | exact (Kd.V_reads' HO397.out).2.2 | (with_reducible refine Kd.C_alloc ?_ _) | (with_reducible refine Kd.C_drewN ?_ _) | (with_reducible refine Kd.C_drew ?_)))
      (case side2 => exact (Kd.V_reads' HO397.out).2.1)
      (case side3 => repeat (first | exact (Kd.R_reads' HO405.out).2.2 | (with_reducible refine Kd.C_alloc ?_ _) | (with_reducible refine Kd.C_drewN ?_ _) | (with_reducible refine Kd.C_drew ?_)))
      (case side4 => exact (Kd.R_reads' HO405.out).2.1)
      rintro e w63 ⟨v407, rfl, ho0, hb⟩
      refine ⟨_, rfl, ?_⟩
      have n0_ := Aside0.mk (Kd.R_below (by (with_reducible repeat (first | apply Kd.R_alloc | apply Kd.R_drewN | apply Kd.R_drew)); exact HO385.out) hb)
      have n1_ := Aside0.mk (Kd.R_below (by (with_reducible repeat (first | apply Kd.R_alloc | apply Kd.R_drewN | apply Kd.R_drew)); exact HO388.out) hb)
      have n2_ := Aside0.mk (Kd.V_below (by (with_reducible repeat (first | apply Kd.V_alloc | apply Kd.V_drewN | apply Kd.V_drew)); exact HO391.out) hb)
      have n3_ := Aside0.mk (Kd.R_below (by (with_reducible repeat (first | apply Kd.R_alloc | apply Kd.R_drewN | apply Kd.R_drew)); exact HO394.out) hb)
      have n4_ := Aside0.mk (Kd.V_below (by (with_reducible repeat (first | apply Kd.V_alloc | apply Kd.V_drewN | apply Kd.V_drew)); exact HO397.out) hb)
      have n5_ := Aside0.mk (Kd.V_below (by (with_reducible repeat (first | apply Kd.V_alloc | apply Kd.V_drewN | apply Kd.V_drew)); exact HO400.out) hb)
      have n6_ := Aside0.mk (Kd.R_below (by (with_reducible repeat (first | apply Kd.R_alloc | apply Kd.R_drewN | apply Kd.R_drew)); exact HO405.out) hb)
      have n7_ := Aside0.mk (Kd.V_lower (Kd.V_mono (ok' := fun k_ => some k_ ≠ (.slice Ao45 t383.length co45 : Value).ownBlock ∧ some k_ ≠ (.slice Ao46 t386.length co46 : Value).ownBlock ∧ some k_ ≠ (.slice Ao50 t392.length co50 : Value).ownBlock ∧ some k_ ≠ (.slice Ao62 t403.length co62 : Value).ownBlock ∧ k_ ≠ gb401 ∧ k_ ≠ gb402) ho0 (fun k_ hk_ => ⟨(Kd.fresh' (Kd.R_lt (by (with_reducible repeat (first | apply Kd.R_alloc | apply Kd.R_drewN | apply Kd.R_drew)); exact HO385.out)) k_ hk_), (Kd.fresh' (Kd.R_lt (by (with_reducible repeat (first | apply Kd.R_alloc | apply Kd.R_drewN | apply Kd.R_drew)); exact HO388.out)) k_ hk_), (Kd.fresh' (Kd.R_lt (by (with_reducible repeat (first | apply Kd.R_alloc | apply Kd.R_drewN | apply Kd.R_drew)); exact HO394.out)) k_ hk_), (Kd.fresh' (Kd.R_lt (by (with_reducible repeat (first | apply Kd.R_alloc | apply Kd.R_drewN | apply Kd.R_drew)); exact HO405.out)) k_ hk_), (Kd.freshB (g := gb401) (o := .cells #[.slice Ao54 t395.length co54] 85 (0, 0)) (by (with_reducible repeat (first | refine blk_drewN ?_ _ | refine blk_drew ?_ | refine blk_alloc ?_ _)); exact BK401.out) k_ hk_), (Kd.freshB (g := gb402) (o := .cells #[.slice Ao57 t398.length co57] 85 (0, 0)) (by (with_reducible repeat (first | refine blk_drewN ?_ _ | refine blk_drew ?_ | refine blk_alloc ?_ _)); exact BK402.out) k_ hk_)⟩)) (below_size (by repeat (first | (with_reducible first | exact HB.out | apply below_alloc | apply pw_below_drewN | apply below_drew1 | refine below_set ?_ GE401.out | refine below_set ?_ GE402.out) | exact HB.out))))
      have n8_ := Aside0.mk (blk_below (g := gb401) (o := .cells #[.slice Ao54 t395.length co54] 85 (0, 0)) (by (with_reducible repeat (first | refine blk_drewN ?_ _ | refine blk_drew ?_ | refine blk_alloc ?_ _)); exact BK401.out) hb)
      have n9_ := Aside0.mk (blk_below (g := gb402) (o := .cells #[.slice Ao57 t398.length co57] 85 (0, 0)) (by (with_reducible repeat (first | refine blk_drewN ?_ _ | refine blk_drew ?_ | refine blk_alloc ?_ _)); exact BK402.out) hb)
      have n10_ := Aside0.mk (below_step (by repeat (first | (with_reducible first | exact HB.out | apply below_alloc | apply pw_below_drewN | apply below_drew1 | refine below_set ?_ GE401.out | refine below_set ?_ GE402.out) | exact HB.out)) hb)
      clear HO385
      clear HO388
      clear HO391
      clear HO394
      clear HO397
      clear HO400
      clear HO405
      clear BK401
      clear BK402
      clear HB
      have HO385 := n0_
      have HO388 := n1_
      have HO391 := n2_
      have HO394 := n3_
      have HO397 := n4_
      have HO400 := n5_
      have HO405 := n6_
      have HO408 := n7_
      have BK401 := n8_
      have BK402 := n9_
      have HB := n10_
      clear n0_ n1_ n2_ n3_ n4_ n5_ n6_ n7_ n8_ n9_ n10_
      (try clear hb)
      (try clear hb2)
      (try clear hk)
      (try clear hi)
      (try clear ho0)
      obtain ⟨Ao64, co64, eo64⟩ := Kd.V_slice HO408.out
      (first | subst eo64 | (injection eo64 with f1_ f2_ f3_; have f4_ := f1_.symm; have f5_ := f3_.symm; clear f1_ f2_ f3_; subst f4_; subst f5_))
      refine hK.out _ _ ((blk_cell BK401.out 0).trans rfl) (fun hHeld => ?_)
      clear hK K
      refine norm_ (a' := ?_) ?_ ?_
      rotate_left
      ·show Act.put _ (some 39) _ = _
       simp only [Act.put, List.setIfInBounds_toArray, List.set_cons_zero, List.set_cons_succ, i64_w, i32_w]
       rfl
      refine last_ (i := 3) (N := none) #[true, true, true, true] rfl rfl (by kernel_rfl) (by decide) (fun K hK => ?_)
      have hs65 : w63.cell? ⟨gb401, 0, none⟩ = some (.slice Ao54 t395.length co54) := (blk_cell BK401.out 0).trans rfl
      have hfs65 := blk_frozen BK401.out 0
      have hns65_1 := NB402_401.out
      have hms65_1 := NB401_402.out
      refine skip_ (w1 := ?_) (by rfl) rfl ?_ ?_
      rotate_left
      ·go_simp
       rfl
      refine hK.out _ _ ?_
      clear hK K
      refine done_ (by kernel_rfl) ?_
      have hcz66_0 : w63.cell? ⟨gb401, 0, none⟩ = some (.slice Ao54 t395.length co54) := (blk_cell BK401.out 0).trans rfl
      have hfz66_0 := blk_frozen BK401.out 0
      try go_wp2_with (first | ((with_reducible refine gate_callee (f := 69) rfl ?_); refine goesL_ (some 42) rfl rfl Tryz.func69 (by kernel_rfl) rfl #[.agg #[.slice Ao64 t406.length co64]] rfl (by (try simp only [List.map_toArray, List.map_cons, List.map_nil]); first | done | rfl | (simp only [List.length_drop, List.length_take]; rfl)) ?_; (with_reducible refine (bursarref03_Long_value.calls kj3 _ _ t406 t409 false _ ?side1 ?side2 A16.out).mono ?_); (case side1 => refine (Kd.V_reads' (e := 3) (base := w.heap.size) (ok := fun k_ => (some k_ ≠ (.slice Ao45 t383.length co45 : Value).ownBlock ∧ (some k_ ≠ (.slice Ao46 t386.length co46 : Value).ownBlock ∧ (some k_ ≠ (.slice Ao50 t392.length co50 : Value).ownBlock ∧ (some k_ ≠ (.slice Ao62 t403.length co62 : Value).ownBlock ∧ (k_ ≠ gb401 ∧ k_ ≠ gb402)))))) (n := t406.length) (c := co64) ?_).2.2; exact (by (with_reducible repeat (first | apply Kd.V_alloc | apply Kd.V_drewN | apply Kd.V_drew)); exact (Kd.V_mono (Kd.V_far (p := ⟨gb401, 0, none⟩) (Kd.V_mono HO408.out (fun k_ hk => (⟨hk, hk.2.2.2.2.1⟩ : _ ∧ k_ ≠ gb401))) (fun _ hk => hk.2) (.slice Ao64 t406.length co64)) (fun _ h_ => h_.1)))); (case side2 => exact (Kd.V_reads' HO408.out).2.1); rintro e w67 ⟨rfl, hb⟩; refine ⟨_, rfl, ?_⟩; have n0_ := Aside0.mk (Kd.R_below (by (with_reducible repeat (first | apply Kd.R_alloc | apply Kd.R_drewN | apply Kd.R_drew)); exact (Kd.R_mono (Kd.R_far (p := ⟨gb401, 0, none⟩) (Kd.R_types HO385.out BK401.out (by decide)) (fun _ hk => hk.2) (.slice Ao64 t406.length co64)) (fun _ h_ => h_.1))) hb); have n1_ := Aside0.mk (Kd.R_below (by (with_reducible repeat (first | apply Kd.R_alloc | apply Kd.R_drewN | apply Kd.R_drew)); exact (Kd.R_mono (Kd.R_far (p := ⟨gb401, 0, none⟩) (Kd.R_types HO388.out BK401.out (by decide)) (fun _ hk => hk.2) (.slice Ao64 t406.length co64)) (fun _ h_ => h_.1))) hb); have n2_ := Aside0.mk (Kd.V_below (by (with_reducible repeat (first | apply Kd.V_alloc | apply Kd.V_drewN | apply Kd.V_drew)); exact (Kd.V_mono (Kd.V_far (p := ⟨gb401, 0, none⟩) (Kd.V_mono HO391.out (fun k_ hk => (⟨hk, hk.1.2.2.2.1⟩ : _ ∧ k_ ≠ gb401))) (fun _ hk => hk.2) (.slice Ao64 t406.length co64)) (fun _ h_ => h_.1))) hb); have n3_ := Aside0.mk (Kd.R_below (by (with_reducible repeat (first | apply Kd.R_alloc | apply Kd.R_drewN | apply Kd.R_drew)); exact (Kd.R_mono (Kd.R_far (p := ⟨gb401, 0, none⟩) (Kd.R_types HO394.out BK401.out (by decide)) (fun _ hk => hk.2) (.slice Ao64 t406.length co64)) (fun _ h_ => h_.1))) hb); have n4_ := Aside0.mk (Kd.V_below (by (with_reducible repeat (first | apply Kd.V_alloc | apply Kd.V_drewN | apply Kd.V_drew)); exact (Kd.V_mono (Kd.V_far (p := ⟨gb401, 0, none⟩) (Kd.V_mono HO397.out (fun k_ hk => (⟨hk, hk.1.2.2.2.1⟩ : _ ∧ k_ ≠ gb401))) (fun _ hk => hk.2) (.slice Ao64 t406.length co64)) (fun _ h_ => h_.1))) hb); have n5_ := Aside0.mk (Kd.V_below (by (with_reducible repeat (first | apply Kd.V_alloc | apply Kd.V_drewN | apply Kd.V_drew)); exact (Kd.V_mono (Kd.V_far (p := ⟨gb401, 0, none⟩) (Kd.V_mono HO400.out (fun k_ hk => (⟨hk, hk.1.2.2.2.1⟩ : _ ∧ k_ ≠ gb401))) (fun _ hk => hk.2) (.slice Ao64 t406.length co64)) (fun _ h_ => h_.1))) hb); have n6_ := Aside0.mk (Kd.R_below (by (with_reducible repeat (first | apply Kd.R_alloc | apply Kd.R_drewN | apply Kd.R_drew)); exact (Kd.R_mono (Kd.R_far (p := ⟨gb401, 0, none⟩) (Kd.R_types HO405.out BK401.out (by decide)) (fun _ hk => hk.2) (.slice Ao64 t406.length co64)) (fun _ h_ => h_.1))) hb); have n7_ := Aside0.mk (Kd.V_below (by (with_reducible repeat (first | apply Kd.V_alloc | apply Kd.V_drewN | apply Kd.V_drew)); exact (Kd.V_mono (Kd.V_far (p := ⟨gb401, 0, none⟩) (Kd.V_mono HO408.out (fun k_ hk => (⟨hk, hk.2.2.2.2.1⟩ : _ ∧ k_ ≠ gb401))) (fun _ hk => hk.2) (.slice Ao64 t406.length co64)) (fun _ h_ => h_.1))) hb); have n8_ := Aside0.mk (blk_below (g := gb401) (o := .cells #[.slice Ao64 t406.length co64] 85 (0, 0)) (by (with_reducible repeat (first | refine blk_drewN ?_ _ | refine blk_drew ?_ | refine blk_alloc ?_ _)); refine blk_put (cs := #[.slice Ao54 t395.length co54]) ?_ 0 _ rfl; (with_reducible repeat (first | refine blk_drewN ?_ _ | refine blk_drew ?_ | refine blk_alloc ?_ _)); exact BK401.out) hb); have n9_ := Aside0.mk (blk_below (g := gb402) (o := .cells #[.slice Ao57 t398.length co57] 85 (0, 0)) (by (with_reducible repeat (first | refine blk_drewN ?_ _ | refine blk_drew ?_ | refine blk_alloc ?_ _)); refine blk_far ?_ NB402_401.out _; (with_reducible repeat (first | refine blk_drewN ?_ _ | refine blk_drew ?_ | refine blk_alloc ?_ _)); exact BK402.out) hb); have n10_ := Aside0.mk (below_step (by repeat (first | (with_reducible first | exact HB.out | apply below_alloc | apply pw_below_drewN | apply below_drew1 | refine below_set ?_ GE401.out | refine below_set ?_ GE402.out) | exact HB.out)) hb); clear HO385; clear HO388; clear HO391; clear HO394; clear HO397; clear HO400; clear HO405; clear HO408; clear BK401; clear BK402; clear HB; have HO385 := n0_; have HO388 := n1_; have HO391 := n2_; have HO394 := n3_; have HO397 := n4_; have HO400 := n5_; have HO405 := n6_; have HO408 := n7_; have BK401 := n8_; have BK402 := n9_; have HB := n10_; clear n0_ n1_ n2_ n3_ n4_ n5_ n6_ n7_ n8_ n9_ n10_; (try clear hb); (try clear hb2); (try clear hk); (try clear hi)))
      go_ret2
      exact ⟨by first | rfl | (simp [errW_none, errW_some] <;> rfl) | (simp [*, errW_none, errW_some] <;> rfl), by repeat (first | (with_reducible first | exact HB.out | apply below_alloc | apply pw_below_drewN | apply below_drew1 | refine below_set ?_ GE401.out | refine below_set ?_ GE402.out) | exact HB.out)⟩
    ·rw [if_neg c13] at H
     have c13b0 : decide (0 < (t398.length : Int)) = false := decide_eq_false c13
     have c13b1 : decide (0 < t398.length) = false := decide_eq_false (by omega)
     clear c13
     replace H := Option.bind_eq_some_iff.mp H
     obtain ⟨⟨t411, t412⟩, A680, H⟩ := H
     replace H : (if t412 = true then (some (t411, 0)) else (some (0, 7))) = some (r1, r2) := H
     have A68 := Aside0.mk A680
     clear A680
     by_cases c69 : t412 = true
     ·subst c69
      have H1 : (some (t411, 0)) = some (r1, r2) := by rw [if_pos rfl] at H; exact H
      clear H
      have H := H1
      clear H1
      simp only [Option.some.injEq, Prod.mk.injEq] at H
      obtain ⟨rfl, rfl⟩ := H
      go_wp2_with (first | ((with_reducible refine gate_callee (f := 62) rfl ?_); refine goesL_ (some 24) rfl rfl Tryz.func62 (by kernel_rfl) rfl #[.int .i64 a0] rfl (by (try simp only [List.map_toArray, List.map_cons, List.map_nil]); first | done | rfl | (simp only [List.length_drop, List.length_take]; rfl)) ?_; (with_reducible refine (bursarref03_long.calls kj3 a0 t383 _ A8.out).mono ?_); rintro e w70 ⟨v384, rfl, ho0, hb⟩; refine ⟨_, rfl, ?_⟩; have n0_ := Aside0.mk (Kd.R_lower ho0 (below_size (by repeat (first | (with_reducible first | exact HB.out | apply below_alloc | apply pw_below_drewN | apply below_drew1) | exact HB.out)))); have n1_ := Aside0.mk (below_step (by repeat (first | (with_reducible first | exact HB.out | apply below_alloc | apply pw_below_drewN | apply below_drew1) | exact HB.out)) hb); clear HB; have HO385 := n0_; have HB := n1_; clear n0_ n1_; (try clear hb); (try clear hb2); (try clear hk); (try clear hi); (try clear ho0)) | ((with_reducible refine gate_callee (f := 62) rfl ?_); refine goesL_ (some 26) rfl rfl Tryz.func62 (by kernel_rfl) rfl #[.int .i64 a1] rfl (by (try simp only [List.map_toArray, List.map_cons, List.map_nil]); first | done | rfl | (simp only [List.length_drop, List.length_take]; rfl)) ?_; (with_reducible refine (bursarref03_long.calls kj3 a1 t386 _ A9.out).mono ?_); rintro e w71 ⟨v387, rfl, ho0, hb⟩; refine ⟨_, rfl, ?_⟩; have n0_ := Aside0.mk (Kd.R_elder' (by (with_reducible repeat (first | apply Kd.R_alloc | apply Kd.R_drewN | apply Kd.R_drew)); exact HO385.out) (Kd.R_base ho0) hb); have n1_ := Aside0.mk (Kd.R_lower (Kd.R_new' ho0 (Kd.R_lt (by (with_reducible repeat (first | apply Kd.R_alloc | apply Kd.R_drewN | apply Kd.R_drew)); exact HO385.out))) (below_size (by repeat (first | (with_reducible first | exact HB.out | apply below_alloc | apply pw_below_drewN | apply below_drew1) | exact HB.out)))); have n2_ := Aside0.mk (below_step (by repeat (first | (with_reducible first | exact HB.out | apply below_alloc | apply pw_below_drewN | apply below_drew1) | exact HB.out)) hb); clear HO385; clear HB; have HO385 := n0_; have HO388 := n1_; have HB := n2_; clear n0_ n1_ n2_; (try clear hb); (try clear hb2); (try clear hk); (try clear hi); (try clear ho0); obtain ⟨Ao72, co72, eo72⟩ := Kd.R_slice HO385.out; subst eo72; obtain ⟨Ao73, co73, eo73⟩ := Kd.R_slice HO388.out; subst eo73) | ((with_reducible refine gate_callee (f := 70) rfl ?_); refine goesL_ (some 27) rfl rfl Tryz.func70 (by kernel_rfl) rfl #[.agg #[.slice Ao72 t383.length co72], .agg #[.slice Ao73 t386.length co73]] rfl (by (try simp only [List.map_toArray, List.map_cons, List.map_nil]); first | done | rfl | (simp only [List.length_drop, List.length_take]; rfl)) ?_; (with_reducible refine (bursarref03_Long_times.calls kj3 _ _ t383 _ _ t386 t389 _ ?side1 ?side2 ?side3 ?side4 A10.out).mono ?_); (case side1 => repeat (first | exact (Kd.R_reads' HO385.out).2.2 | (with_reducible refine Kd.C_alloc ?_ _) | (with_reducible refine Kd.C_drewN ?_ _) | (with_reducible refine Kd.C_drew ?_))); (case side2 => exact (Kd.R_reads' HO385.out).2.1); (case side3 => repeat (first | exact (Kd.R_reads' HO388.out).2.2 | (with_reducible refine Kd.C_alloc ?_ _) | (with_reducible refine Kd.C_drewN ?_ _) | (with_reducible refine Kd.C_drew ?_))); (case side4 => exact (Kd.R_reads' HO388.out).2.1); rintro e w74 ⟨v390, rfl, ho0, hb⟩; refine ⟨_, rfl, ?_⟩; have n0_ := Aside0.mk (Kd.R_below (by (with_reducible repeat (first | apply Kd.R_alloc | apply Kd.R_drewN | apply Kd.R_drew)); exact HO385.out) hb); have n1_ := Aside0.mk (Kd.R_below (by (with_reducible repeat (first | apply Kd.R_alloc | apply Kd.R_drewN | apply Kd.R_drew)); exact HO388.out) hb); have n2_ := Aside0.mk (Kd.V_lower (Kd.V_mono (ok' := fun k_ => some k_ ≠ (.slice Ao72 t383.length co72 : Value).ownBlock ∧ some k_ ≠ (.slice Ao73 t386.length co73 : Value).ownBlock) ho0 (fun k_ hk_ => ⟨(Kd.fresh' (Kd.R_lt (by (with_reducible repeat (first | apply Kd.R_alloc | apply Kd.R_drewN | apply Kd.R_drew)); exact HO385.out)) k_ hk_), (Kd.fresh' (Kd.R_lt (by (with_reducible repeat (first | apply Kd.R_alloc | apply Kd.R_drewN | apply Kd.R_drew)); exact HO388.out)) k_ hk_)⟩)) (below_size (by repeat (first | (with_reducible first | exact HB.out | apply below_alloc | apply pw_below_drewN | apply below_drew1) | exact HB.out)))); have n3_ := Aside0.mk (below_step (by repeat (first | (with_reducible first | exact HB.out | apply below_alloc | apply pw_below_drewN | apply below_drew1) | exact HB.out)) hb); clear HO385; clear HO388; clear HB; have HO385 := n0_; have HO388 := n1_; have HO391 := n2_; have HB := n3_; clear n0_ n1_ n2_ n3_; (try clear hb); (try clear hb2); (try clear hk); (try clear hi); (try clear ho0)) | ((with_reducible refine gate_callee (f := 62) rfl ?_); refine goesL_ (some 29) rfl rfl Tryz.func62 (by kernel_rfl) rfl #[.int .i64 a2] rfl (by (try simp only [List.map_toArray, List.map_cons, List.map_nil]); first | done | rfl | (simp only [List.length_drop, List.length_take]; rfl)) ?_; (with_reducible refine (bursarref03_long.calls kj3 a2 t392 _ A11.out).mono ?_); rintro e w75 ⟨v393, rfl, ho0, hb⟩; refine ⟨_, rfl, ?_⟩; have n0_ := Aside0.mk (Kd.R_elder' (by (with_reducible repeat (first | apply Kd.R_alloc | apply Kd.R_drewN | apply Kd.R_drew)); exact HO385.out) (Kd.R_base ho0) hb); have n1_ := Aside0.mk (Kd.R_elder' (by (with_reducible repeat (first | apply Kd.R_alloc | apply Kd.R_drewN | apply Kd.R_drew)); exact HO388.out) (Kd.R_base ho0) hb); have n2_ := Aside0.mk (Kd.V_elder' (by (with_reducible repeat (first | apply Kd.V_alloc | apply Kd.V_drewN | apply Kd.V_drew)); exact HO391.out) (Kd.R_base ho0) hb); have n3_ := Aside0.mk (Kd.R_lower (Kd.R_new' (Kd.R_new' ho0 (Kd.R_lt (by (with_reducible repeat (first | apply Kd.R_alloc | apply Kd.R_drewN | apply Kd.R_drew)); exact HO385.out))) (Kd.R_lt (by (with_reducible repeat (first | apply Kd.R_alloc | apply Kd.R_drewN | apply Kd.R_drew)); exact HO388.out))) (below_size (by repeat (first | (with_reducible first | exact HB.out | apply below_alloc | apply pw_below_drewN | apply below_drew1) | exact HB.out)))); have n4_ := Aside0.mk (below_step (by repeat (first | (with_reducible first | exact HB.out | apply below_alloc | apply pw_below_drewN | apply below_drew1) | exact HB.out)) hb); clear HO385; clear HO388; clear HO391; clear HB; have HO385 := n0_; have HO388 := n1_; have HO391 := n2_; have HO394 := n3_; have HB := n4_; clear n0_ n1_ n2_ n3_ n4_; (try clear hb); (try clear hb2); (try clear hk); (try clear hi); (try clear ho0); obtain ⟨Ao76, co76, eo76⟩ := Kd.V_slice HO391.out; subst eo76; obtain ⟨Ao77, co77, eo77⟩ := Kd.R_slice HO394.out; subst eo77) | ((with_reducible refine gate_callee (f := 64) rfl ?_); refine goesL_ (some 30) rfl rfl Tryz.func64 (by kernel_rfl) rfl #[.agg #[.slice Ao76 t389.length co76], .agg #[.slice Ao77 t392.length co77]] rfl (by (try simp only [List.map_toArray, List.map_cons, List.map_nil]); first | done | rfl | (simp only [List.length_drop, List.length_take]; rfl)) ?_; (with_reducible refine (bursarref03_Long_by.calls kj3 _ _ t389 _ _ t392 t395 t398 _ ?side1 ?side2 ?side3 ?side4 A12.out).mono ?_); (case side1 => repeat (first | exact (Kd.V_reads' HO391.out).2.2 | (with_reducible refine Kd.C_alloc ?_ _) | (with_reducible refine Kd.C_drewN ?_ _) | (with_reducible refine Kd.C_drew ?_))); (case side2 => exact (Kd.V_reads' HO391.out).2.1); (case side3 => repeat (first | exact (Kd.R_reads' HO394.out).2.2 | (with_reducible refine Kd.C_alloc ?_ _) | (with_reducible refine Kd.C_drewN ?_ _) | (with_reducible refine Kd.C_drew ?_))); (case side4 => exact (Kd.R_reads' HO394.out).2.1); rintro e w78 ⟨v396, v399, rfl, ho0, ho1, hb⟩; refine ⟨_, rfl, ?_⟩; have n0_ := Aside0.mk (Kd.R_below (by (with_reducible repeat (first | apply Kd.R_alloc | apply Kd.R_drewN | apply Kd.R_drew)); exact HO385.out) hb); have n1_ := Aside0.mk (Kd.R_below (by (with_reducible repeat (first | apply Kd.R_alloc | apply Kd.R_drewN | apply Kd.R_drew)); exact HO388.out) hb); have n2_ := Aside0.mk (Kd.V_below (by (with_reducible repeat (first | apply Kd.V_alloc | apply Kd.V_drewN | apply Kd.V_drew)); exact HO391.out) hb); have n3_ := Aside0.mk (Kd.R_below (by (with_reducible repeat (first | apply Kd.R_alloc | apply Kd.R_drewN | apply Kd.R_drew)); exact HO394.out) hb); have n4_ := Aside0.mk (Kd.V_lower (Kd.V_mono (ok' := fun k_ => some k_ ≠ (.slice Ao72 t383.length co72 : Value).ownBlock ∧ some k_ ≠ (.slice Ao73 t386.length co73 : Value).ownBlock ∧ some k_ ≠ (.slice Ao77 t392.length co77 : Value).ownBlock) ho0 (fun k_ hk_ => ⟨(Kd.fresh' (Kd.R_lt (by (with_reducible repeat (first | apply Kd.R_alloc | apply Kd.R_drewN | apply Kd.R_drew)); exact HO385.out)) k_ hk_), (Kd.fresh' (Kd.R_lt (by (with_reducible repeat (first | apply Kd.R_alloc | apply Kd.R_drewN | apply Kd.R_drew)); exact HO388.out)) k_ hk_), (Kd.fresh' (Kd.R_lt (by (with_reducible repeat (first | apply Kd.R_alloc | apply Kd.R_drewN | apply Kd.R_drew)); exact HO394.out)) k_ hk_)⟩)) (below_size (by repeat (first | (with_reducible first | exact HB.out | apply below_alloc | apply pw_below_drewN | apply below_drew1) | exact HB.out)))); have n5_ := Aside0.mk (Kd.V_lower (Kd.V_mono (ok' := fun k_ => some k_ ≠ (.slice Ao72 t383.length co72 : Value).ownBlock ∧ some k_ ≠ (.slice Ao73 t386.length co73 : Value).ownBlock ∧ some k_ ≠ (.slice Ao77 t392.length co77 : Value).ownBlock) ho1 (fun k_ hk_ => ⟨(Kd.fresh' (Kd.R_lt (by (with_reducible repeat (first | apply Kd.R_alloc | apply Kd.R_drewN | apply Kd.R_drew)); exact HO385.out)) k_ hk_), (Kd.fresh' (Kd.R_lt (by (with_reducible repeat (first | apply Kd.R_alloc | apply Kd.R_drewN | apply Kd.R_drew)); exact HO388.out)) k_ hk_), (Kd.fresh' (Kd.R_lt (by (with_reducible repeat (first | apply Kd.R_alloc | apply Kd.R_drewN | apply Kd.R_drew)); exact HO394.out)) k_ hk_)⟩)) (below_size (by repeat (first | (with_reducible first | exact HB.out | apply below_alloc | apply pw_below_drewN | apply below_drew1) | exact HB.out)))); have n6_ := Aside0.mk (below_step (by repeat (first | (with_reducible first | exact HB.out | apply below_alloc | apply pw_below_drewN | apply below_drew1) | exact HB.out)) hb); clear HO385; clear HO388; clear HO391; clear HO394; clear HB; have HO385 := n0_; have HO388 := n1_; have HO391 := n2_; have HO394 := n3_; have HO397 := n4_; have HO400 := n5_; have HB := n6_; clear n0_ n1_ n2_ n3_ n4_ n5_ n6_; (try clear hb); (try clear hb2); (try clear hk); (try clear hi); (try clear ho0); (try clear ho1)) | ((with_reducible refine gate_dst (N := 8) rfl ?_); refine box_event ?hg (N := 8) ?hd (cs := #[.slice none 0 0]) (t := 85) ?hr ?_; (case hd => rfl); (case hg => rfl); (case hr => first | (go_simp; done) | (go_simp; rfl)); intro gb401 hg w79 hbox hb; have n0_ := Aside0.mk (Kd.R_below (by (with_reducible repeat (first | apply Kd.R_alloc | apply Kd.R_drewN | apply Kd.R_drew)); exact HO385.out) hb); have n1_ := Aside0.mk (Kd.R_below (by (with_reducible repeat (first | apply Kd.R_alloc | apply Kd.R_drewN | apply Kd.R_drew)); exact HO388.out) hb); have n2_ := Aside0.mk (Kd.V_below (Kd.V_elderB (by (with_reducible repeat (first | apply Kd.V_alloc | apply Kd.V_drewN | apply Kd.V_drew)); exact HO391.out) gb401 (Nat.le_of_eq hg.symm)) hb); have n3_ := Aside0.mk (Kd.R_below (by (with_reducible repeat (first | apply Kd.R_alloc | apply Kd.R_drewN | apply Kd.R_drew)); exact HO394.out) hb); have n4_ := Aside0.mk (Kd.V_below (Kd.V_elderB (by (with_reducible repeat (first | apply Kd.V_alloc | apply Kd.V_drewN | apply Kd.V_drew)); exact HO397.out) gb401 (Nat.le_of_eq hg.symm)) hb); have n5_ := Aside0.mk (Kd.V_below (Kd.V_elderB (by (with_reducible repeat (first | apply Kd.V_alloc | apply Kd.V_drewN | apply Kd.V_drew)); exact HO400.out) gb401 (Nat.le_of_eq hg.symm)) hb); have n6_ := Aside0.mk (below_step (by repeat (first | (with_reducible first | exact HB.out | apply below_alloc | apply pw_below_drewN | apply below_drew1) | exact HB.out)) hb); have n7_ := Aside0.mk (hbox); have n8_ := Aside0.mk ((by rw [hg]; exact (below_size (by repeat (first | (with_reducible first | exact HB.out | apply below_alloc | apply pw_below_drewN | apply below_drew1) | exact HB.out))) : w.heap.size ≤ gb401)); have n9_ := Aside0.mk ((by rw [hg]; exact (below_size (by repeat (first | (with_reducible first | exact HB.out | apply below_alloc | apply pw_below_drewN | apply below_drew1) | exact HB.out))) : w.heap.size ≤ gb401)); clear HO385; clear HO388; clear HO391; clear HO394; clear HO397; clear HO400; clear HB; have HO385 := n0_; have HO388 := n1_; have HO391 := n2_; have HO394 := n3_; have HO397 := n4_; have HO400 := n5_; have HB := n6_; have BK401 := n7_; have GW401 := n8_; have GE401 := n9_; clear n0_ n1_ n2_ n3_ n4_ n5_ n6_ n7_ n8_ n9_; clear hb hbox hg) | ((with_reducible refine gate_dst (N := 9) rfl ?_); refine box_event ?hg (N := 9) ?hd (cs := #[.slice none 0 0]) (t := 85) ?hr ?_; (case hd => rfl); (case hg => rfl); (case hr => first | (go_simp; done) | (go_simp; rfl)); intro gb402 hg w80 hbox hb; have n0_ := Aside0.mk (Kd.R_below (by (with_reducible repeat (first | apply Kd.R_alloc | apply Kd.R_drewN | apply Kd.R_drew)); exact HO385.out) hb); have n1_ := Aside0.mk (Kd.R_below (by (with_reducible repeat (first | apply Kd.R_alloc | apply Kd.R_drewN | apply Kd.R_drew)); exact HO388.out) hb); have n2_ := Aside0.mk (Kd.V_below (Kd.V_elderB (by (with_reducible repeat (first | apply Kd.V_alloc | apply Kd.V_drewN | apply Kd.V_drew)); exact HO391.out) gb402 (Nat.le_of_eq hg.symm)) hb); have n3_ := Aside0.mk (Kd.R_below (by (with_reducible repeat (first | apply Kd.R_alloc | apply Kd.R_drewN | apply Kd.R_drew)); exact HO394.out) hb); have n4_ := Aside0.mk (Kd.V_below (Kd.V_elderB (by (with_reducible repeat (first | apply Kd.V_alloc | apply Kd.V_drewN | apply Kd.V_drew)); exact HO397.out) gb402 (Nat.le_of_eq hg.symm)) hb); have n5_ := Aside0.mk (Kd.V_below (Kd.V_elderB (by (with_reducible repeat (first | apply Kd.V_alloc | apply Kd.V_drewN | apply Kd.V_drew)); exact HO400.out) gb402 (Nat.le_of_eq hg.symm)) hb); have n6_ := Aside0.mk (blk_below (g := gb401) (o := .cells #[.slice none 0 0] 85 (0, 0)) (by (with_reducible repeat (first | refine blk_drewN ?_ _ | refine blk_drew ?_ | refine blk_alloc ?_ _)); exact BK401.out) hb); have n7_ := Aside0.mk (below_step (by repeat (first | (with_reducible first | exact HB.out | apply below_alloc | apply pw_below_drewN | apply below_drew1 | refine below_set ?_ GE401.out) | exact HB.out)) hb); have n8_ := Aside0.mk (hbox); have n9_ := Aside0.mk ((by rw [hg]; exact (below_size (by repeat (first | (with_reducible first | exact HB.out | apply below_alloc | apply pw_below_drewN | apply below_drew1 | refine below_set ?_ GE401.out) | exact HB.out))) : w.heap.size ≤ gb402)); have n10_ := Aside0.mk ((by rw [hg]; exact (below_size (by repeat (first | (with_reducible first | exact HB.out | apply below_alloc | apply pw_below_drewN | apply below_drew1 | refine below_set ?_ GE401.out) | exact HB.out))) : w.heap.size ≤ gb402)); have n11_ := Aside0.mk ((by rw [hg]; exact Nat.ne_of_lt (blk_lt (g := gb401) (o := .cells #[.slice none 0 0] 85 (0, 0)) (by (with_reducible repeat (first | refine blk_drewN ?_ _ | refine blk_drew ?_ | refine blk_alloc ?_ _)); exact BK401.out)) : gb401 ≠ gb402)); have n12_ := Aside0.mk ((by rw [hg]; exact Nat.ne_of_gt (blk_lt (g := gb401) (o := .cells #[.slice none 0 0] 85 (0, 0)) (by (with_reducible repeat (first | refine blk_drewN ?_ _ | refine blk_drew ?_ | refine blk_alloc ?_ _)); exact BK401.out)) : gb402 ≠ gb401)); clear HO385; clear HO388; clear HO391; clear HO394; clear HO397; clear HO400; clear BK401; clear HB; have HO385 := n0_; have HO388 := n1_; have HO391 := n2_; have HO394 := n3_; have HO397 := n4_; have HO400 := n5_; have BK401 := n6_; have HB := n7_; have BK402 := n8_; have GW402 := n9_; have GE402 := n10_; have NB401_402 := n11_; have NB402_401 := n12_; clear n0_ n1_ n2_ n3_ n4_ n5_ n6_ n7_ n8_ n9_ n10_ n11_ n12_; clear hb hbox hg; obtain ⟨Ao81, co81, eo81⟩ := Kd.V_slice HO397.out; subst eo81; have hnb82 := NB401_402.out; have hnc82 := NB402_401.out; have hcz83_0 : w80.cell? ⟨gb401, 0, none⟩ = some (.slice none 0 0) := (blk_cell BK401.out 0).trans rfl; have hfz83_0 := blk_frozen BK401.out 0; obtain ⟨Ao84, co84, eo84⟩ := Kd.V_slice HO400.out; subst eo84; have hcz85_0 : w80.cell? ⟨gb402, 0, none⟩ = some (.slice none 0 0) := (blk_cell BK402.out 0).trans rfl; have hfz85_0 := blk_frozen BK402.out 0) | ((with_reducible refine gate_callee (f := 69) rfl ?_); refine goesL_ (some 42) rfl rfl Tryz.func69 (by kernel_rfl) rfl #[.agg #[.slice Ao81 t395.length co81]] rfl (by (try simp only [List.map_toArray, List.map_cons, List.map_nil]); first | done | rfl | (simp only [List.length_drop, List.length_take]; rfl)) ?_; (with_reducible refine (bursarref03_Long_value.calls kj3 _ _ t395 t411 true _ ?side1 ?side2 A68.out).mono ?_); (case side1 => refine (Kd.V_reads' (e := 3) (base := w.heap.size) (ok := fun k_ => (((some k_ ≠ (.slice Ao72 t383.length co72 : Value).ownBlock ∧ (some k_ ≠ (.slice Ao73 t386.length co73 : Value).ownBlock ∧ some k_ ≠ (.slice Ao77 t392.length co77 : Value).ownBlock)) ∧ k_ ≠ gb401) ∧ k_ ≠ gb402)) (n := t395.length) (c := co81) ?_).2.2; exact (by (with_reducible repeat (first | apply Kd.V_alloc | apply Kd.V_drewN | apply Kd.V_drew)); exact (Kd.V_mono (Kd.V_mono (Kd.V_far (p := ⟨gb402, 0, none⟩) (Kd.V_far (p := ⟨gb401, 0, none⟩) (Kd.V_mono (Kd.V_mono HO397.out (fun k_ hk => (⟨hk, hk.1.2⟩ : _ ∧ k_ ≠ gb401))) (fun k_ hk => (⟨hk, hk.1.2⟩ : _ ∧ k_ ≠ gb402))) (fun _ hk => hk.1.2) (.slice Ao81 t395.length co81)) (fun _ hk => hk.2) (.slice Ao84 t398.length co84)) (fun _ h_ => h_.1)) (fun _ h_ => h_.1)))); (case side2 => exact (Kd.V_reads' HO397.out).2.1); rintro e w86 ⟨rfl, hb⟩; refine ⟨_, rfl, ?_⟩; have n0_ := Aside0.mk (Kd.R_below (by (with_reducible repeat (first | apply Kd.R_alloc | apply Kd.R_drewN | apply Kd.R_drew)); exact (Kd.R_mono (Kd.R_mono (Kd.R_far (p := ⟨gb402, 0, none⟩) (Kd.R_far (p := ⟨gb401, 0, none⟩) (Kd.R_types (Kd.R_types HO385.out BK401.out (by decide)) BK402.out (by decide)) (fun _ hk => hk.1.2) (.slice Ao81 t395.length co81)) (fun _ hk => hk.2) (.slice Ao84 t398.length co84)) (fun _ h_ => h_.1)) (fun _ h_ => h_.1))) hb); have n1_ := Aside0.mk (Kd.R_below (by (with_reducible repeat (first | apply Kd.R_alloc | apply Kd.R_drewN | apply Kd.R_drew)); exact (Kd.R_mono (Kd.R_mono (Kd.R_far (p := ⟨gb402, 0, none⟩) (Kd.R_far (p := ⟨gb401, 0, none⟩) (Kd.R_types (Kd.R_types HO388.out BK401.out (by decide)) BK402.out (by decide)) (fun _ hk => hk.1.2) (.slice Ao81 t395.length co81)) (fun _ hk => hk.2) (.slice Ao84 t398.length co84)) (fun _ h_ => h_.1)) (fun _ h_ => h_.1))) hb); have n2_ := Aside0.mk (Kd.V_below (by (with_reducible repeat (first | apply Kd.V_alloc | apply Kd.V_drewN | apply Kd.V_drew)); exact (Kd.V_mono (Kd.V_mono (Kd.V_far (p := ⟨gb402, 0, none⟩) (Kd.V_far (p := ⟨gb401, 0, none⟩) (Kd.V_mono (Kd.V_mono HO391.out (fun k_ hk => (⟨hk, hk.1.2⟩ : _ ∧ k_ ≠ gb401))) (fun k_ hk => (⟨hk, hk.1.2⟩ : _ ∧ k_ ≠ gb402))) (fun _ hk => hk.1.2) (.slice Ao81 t395.length co81)) (fun _ hk => hk.2) (.slice Ao84 t398.length co84)) (fun _ h_ => h_.1)) (fun _ h_ => h_.1))) hb); have n3_ := Aside0.mk (Kd.R_below (by (with_reducible repeat (first | apply Kd.R_alloc | apply Kd.R_drewN | apply Kd.R_drew)); exact (Kd.R_mono (Kd.R_mono (Kd.R_far (p := ⟨gb402, 0, none⟩) (Kd.R_far (p := ⟨gb401, 0, none⟩) (Kd.R_types (Kd.R_types HO394.out BK401.out (by decide)) BK402.out (by decide)) (fun _ hk => hk.1.2) (.slice Ao81 t395.length co81)) (fun _ hk => hk.2) (.slice Ao84 t398.length co84)) (fun _ h_ => h_.1)) (fun _ h_ => h_.1))) hb); have n4_ := Aside0.mk (Kd.V_below (by (with_reducible repeat (first | apply Kd.V_alloc | apply Kd.V_drewN | apply Kd.V_drew)); exact (Kd.V_mono (Kd.V_mono (Kd.V_far (p := ⟨gb402, 0, none⟩) (Kd.V_far (p := ⟨gb401, 0, none⟩) (Kd.V_mono (Kd.V_mono HO397.out (fun k_ hk => (⟨hk, hk.1.2⟩ : _ ∧ k_ ≠ gb401))) (fun k_ hk => (⟨hk, hk.1.2⟩ : _ ∧ k_ ≠ gb402))) (fun _ hk => hk.1.2) (.slice Ao81 t395.length co81)) (fun _ hk => hk.2) (.slice Ao84 t398.length co84)) (fun _ h_ => h_.1)) (fun _ h_ => h_.1))) hb); have n5_ := Aside0.mk (Kd.V_below (by (with_reducible repeat (first | apply Kd.V_alloc | apply Kd.V_drewN | apply Kd.V_drew)); exact (Kd.V_mono (Kd.V_mono (Kd.V_far (p := ⟨gb402, 0, none⟩) (Kd.V_far (p := ⟨gb401, 0, none⟩) (Kd.V_mono (Kd.V_mono HO400.out (fun k_ hk => (⟨hk, hk.1.2⟩ : _ ∧ k_ ≠ gb401))) (fun k_ hk => (⟨hk, hk.1.2⟩ : _ ∧ k_ ≠ gb402))) (fun _ hk => hk.1.2) (.slice Ao81 t395.length co81)) (fun _ hk => hk.2) (.slice Ao84 t398.length co84)) (fun _ h_ => h_.1)) (fun _ h_ => h_.1))) hb); have n6_ := Aside0.mk (blk_below (g := gb401) (o := .cells #[.slice Ao81 t395.length co81] 85 (0, 0)) (by (with_reducible repeat (first | refine blk_drewN ?_ _ | refine blk_drew ?_ | refine blk_alloc ?_ _)); refine blk_far ?_ NB401_402.out _; (with_reducible repeat (first | refine blk_drewN ?_ _ | refine blk_drew ?_ | refine blk_alloc ?_ _)); refine blk_put (cs := #[.slice none 0 0]) ?_ 0 _ rfl; (with_reducible repeat (first | refine blk_drewN ?_ _ | refine blk_drew ?_ | refine blk_alloc ?_ _)); exact BK401.out) hb); have n7_ := Aside0.mk (blk_below (g := gb402) (o := .cells #[.slice Ao84 t398.length co84] 85 (0, 0)) (by (with_reducible repeat (first | refine blk_drewN ?_ _ | refine blk_drew ?_ | refine blk_alloc ?_ _)); refine blk_put (cs := #[.slice none 0 0]) ?_ 0 _ rfl; (with_reducible repeat (first | refine blk_drewN ?_ _ | refine blk_drew ?_ | refine blk_alloc ?_ _)); refine blk_far ?_ NB402_401.out _; (with_reducible repeat (first | refine blk_drewN ?_ _ | refine blk_drew ?_ | refine blk_alloc ?_ _)); exact BK402.out) hb); have n8_ := Aside0.mk (below_step (by repeat (first | (with_reducible first | exact HB.out | apply below_alloc | apply pw_below_drewN | apply below_drew1 | refine below_set ?_ GE401.out | refine below_set ?_ GE402.out) | exact HB.out)) hb); clear HO385; clear HO388; clear HO391; clear HO394; clear HO397; clear HO400; clear BK401; clear BK402; clear HB; have HO385 := n0_; have HO388 := n1_; have HO391 := n2_; have HO394 := n3_; have HO397 := n4_; have HO400 := n5_; have BK401 := n6_; have BK402 := n7_; have HB := n8_; clear n0_ n1_ n2_ n3_ n4_ n5_ n6_ n7_ n8_; (try clear hb); (try clear hb2); (try clear hk); (try clear hi)))
      go_ret2
      exact ⟨by first | rfl | (simp [errW_none, errW_some] <;> rfl) | (simp [*, errW_none, errW_some] <;> rfl), by repeat (first | (with_reducible first | exact HB.out | apply below_alloc | apply pw_below_drewN | apply below_drew1 | refine below_set ?_ GE401.out | refine below_set ?_ GE402.out) | exact HB.out)⟩
     ·replace c69 := Bool.eq_false_iff.mpr c69
      subst c69
      have H1 : (some (0, 7)) = some (r1, r2) := by rw [if_neg (show ¬ (false = true) by decide)] at H; exact H
      clear H
      have H := H1
      clear H1
      simp only [Option.some.injEq, Prod.mk.injEq] at H
      obtain ⟨rfl, rfl⟩ := H
      go_wp2_with (first | ((with_reducible refine gate_callee (f := 62) rfl ?_); refine goesL_ (some 24) rfl rfl Tryz.func62 (by kernel_rfl) rfl #[.int .i64 a0] rfl (by (try simp only [List.map_toArray, List.map_cons, List.map_nil]); first | done | rfl | (simp only [List.length_drop, List.length_take]; rfl)) ?_; (with_reducible refine (bursarref03_long.calls kj3 a0 t383 _ A8.out).mono ?_); rintro e w87 ⟨v384, rfl, ho0, hb⟩; refine ⟨_, rfl, ?_⟩; have n0_ := Aside0.mk (Kd.R_lower ho0 (below_size (by repeat (first | (with_reducible first | exact HB.out | apply below_alloc | apply pw_below_drewN | apply below_drew1) | exact HB.out)))); have n1_ := Aside0.mk (below_step (by repeat (first | (with_reducible first | exact HB.out | apply below_alloc | apply pw_below_drewN | apply below_drew1) | exact HB.out)) hb); clear HB; have HO385 := n0_; have HB := n1_; clear n0_ n1_; (try clear hb); (try clear hb2); (try clear hk); (try clear hi); (try clear ho0)) | ((with_reducible refine gate_callee (f := 62) rfl ?_); refine goesL_ (some 26) rfl rfl Tryz.func62 (by kernel_rfl) rfl #[.int .i64 a1] rfl (by (try simp only [List.map_toArray, List.map_cons, List.map_nil]); first | done | rfl | (simp only [List.length_drop, List.length_take]; rfl)) ?_; (with_reducible refine (bursarref03_long.calls kj3 a1 t386 _ A9.out).mono ?_); rintro e w88 ⟨v387, rfl, ho0, hb⟩; refine ⟨_, rfl, ?_⟩; have n0_ := Aside0.mk (Kd.R_elder' (by (with_reducible repeat (first | apply Kd.R_alloc | apply Kd.R_drewN | apply Kd.R_drew)); exact HO385.out) (Kd.R_base ho0) hb); have n1_ := Aside0.mk (Kd.R_lower (Kd.R_new' ho0 (Kd.R_lt (by (with_reducible repeat (first | apply Kd.R_alloc | apply Kd.R_drewN | apply Kd.R_drew)); exact HO385.out))) (below_size (by repeat (first | (with_reducible first | exact HB.out | apply below_alloc | apply pw_below_drewN | apply below_drew1) | exact HB.out)))); have n2_ := Aside0.mk (below_step (by repeat (first | (with_reducible first | exact HB.out | apply below_alloc | apply pw_below_drewN | apply below_drew1) | exact HB.out)) hb); clear HO385; clear HB; have HO385 := n0_; have HO388 := n1_; have HB := n2_; clear n0_ n1_ n2_; (try clear hb); (try clear hb2); (try clear hk); (try clear hi); (try clear ho0); obtain ⟨Ao89, co89, eo89⟩ := Kd.R_slice HO385.out; subst eo89; obtain ⟨Ao90, co90, eo90⟩ := Kd.R_slice HO388.out; subst eo90) | ((with_reducible refine gate_callee (f := 70) rfl ?_); refine goesL_ (some 27) rfl rfl Tryz.func70 (by kernel_rfl) rfl #[.agg #[.slice Ao89 t383.length co89], .agg #[.slice Ao90 t386.length co90]] rfl (by (try simp only [List.map_toArray, List.map_cons, List.map_nil]); first | done | rfl | (simp only [List.length_drop, List.length_take]; rfl)) ?_; (with_reducible refine (bursarref03_Long_times.calls kj3 _ _ t383 _ _ t386 t389 _ ?side1 ?side2 ?side3 ?side4 A10.out).mono ?_); (case side1 => repeat (first | exact (Kd.R_reads' HO385.out).2.2 | (with_reducible refine Kd.C_alloc ?_ _) | (with_reducible refine Kd.C_drewN ?_ _) | (with_reducible refine Kd.C_drew ?_))); (case side2 => exact (Kd.R_reads' HO385.out).2.1); (case side3 => repeat (first | exact (Kd.R_reads' HO388.out).2.2 | (with_reducible refine Kd.C_alloc ?_ _) | (with_reducible refine Kd.C_drewN ?_ _) | (with_reducible refine Kd.C_drew ?_))); (case side4 => exact (Kd.R_reads' HO388.out).2.1); rintro e w91 ⟨v390, rfl, ho0, hb⟩; refine ⟨_, rfl, ?_⟩; have n0_ := Aside0.mk (Kd.R_below (by (with_reducible repeat (first | apply Kd.R_alloc | apply Kd.R_drewN | apply Kd.R_drew)); exact HO385.out) hb); have n1_ := Aside0.mk (Kd.R_below (by (with_reducible repeat (first | apply Kd.R_alloc | apply Kd.R_drewN | apply Kd.R_drew)); exact HO388.out) hb); have n2_ := Aside0.mk (Kd.V_lower (Kd.V_mono (ok' := fun k_ => some k_ ≠ (.slice Ao89 t383.length co89 : Value).ownBlock ∧ some k_ ≠ (.slice Ao90 t386.length co90 : Value).ownBlock) ho0 (fun k_ hk_ => ⟨(Kd.fresh' (Kd.R_lt (by (with_reducible repeat (first | apply Kd.R_alloc | apply Kd.R_drewN | apply Kd.R_drew)); exact HO385.out)) k_ hk_), (Kd.fresh' (Kd.R_lt (by (with_reducible repeat (first | apply Kd.R_alloc | apply Kd.R_drewN | apply Kd.R_drew)); exact HO388.out)) k_ hk_)⟩)) (below_size (by repeat (first | (with_reducible first | exact HB.out | apply below_alloc | apply pw_below_drewN | apply below_drew1) | exact HB.out)))); have n3_ := Aside0.mk (below_step (by repeat (first | (with_reducible first | exact HB.out | apply below_alloc | apply pw_below_drewN | apply below_drew1) | exact HB.out)) hb); clear HO385; clear HO388; clear HB; have HO385 := n0_; have HO388 := n1_; have HO391 := n2_; have HB := n3_; clear n0_ n1_ n2_ n3_; (try clear hb); (try clear hb2); (try clear hk); (try clear hi); (try clear ho0)) | ((with_reducible refine gate_callee (f := 62) rfl ?_); refine goesL_ (some 29) rfl rfl Tryz.func62 (by kernel_rfl) rfl #[.int .i64 a2] rfl (by (try simp only [List.map_toArray, List.map_cons, List.map_nil]); first | done | rfl | (simp only [List.length_drop, List.length_take]; rfl)) ?_; (with_reducible refine (bursarref03_long.calls kj3 a2 t392 _ A11.out).mono ?_); rintro e w92 ⟨v393, rfl, ho0, hb⟩; refine ⟨_, rfl, ?_⟩; have n0_ := Aside0.mk (Kd.R_elder' (by (with_reducible repeat (first | apply Kd.R_alloc | apply Kd.R_drewN | apply Kd.R_drew)); exact HO385.out) (Kd.R_base ho0) hb); have n1_ := Aside0.mk (Kd.R_elder' (by (with_reducible repeat (first | apply Kd.R_alloc | apply Kd.R_drewN | apply Kd.R_drew)); exact HO388.out) (Kd.R_base ho0) hb); have n2_ := Aside0.mk (Kd.V_elder' (by (with_reducible repeat (first | apply Kd.V_alloc | apply Kd.V_drewN | apply Kd.V_drew)); exact HO391.out) (Kd.R_base ho0) hb); have n3_ := Aside0.mk (Kd.R_lower (Kd.R_new' (Kd.R_new' ho0 (Kd.R_lt (by (with_reducible repeat (first | apply Kd.R_alloc | apply Kd.R_drewN | apply Kd.R_drew)); exact HO385.out))) (Kd.R_lt (by (with_reducible repeat (first | apply Kd.R_alloc | apply Kd.R_drewN | apply Kd.R_drew)); exact HO388.out))) (below_size (by repeat (first | (with_reducible first | exact HB.out | apply below_alloc | apply pw_below_drewN | apply below_drew1) | exact HB.out)))); have n4_ := Aside0.mk (below_step (by repeat (first | (with_reducible first | exact HB.out | apply below_alloc | apply pw_below_drewN | apply below_drew1) | exact HB.out)) hb); clear HO385; clear HO388; clear HO391; clear HB; have HO385 := n0_; have HO388 := n1_; have HO391 := n2_; have HO394 := n3_; have HB := n4_; clear n0_ n1_ n2_ n3_ n4_; (try clear hb); (try clear hb2); (try clear hk); (try clear hi); (try clear ho0); obtain ⟨Ao93, co93, eo93⟩ := Kd.V_slice HO391.out; subst eo93; obtain ⟨Ao94, co94, eo94⟩ := Kd.R_slice HO394.out; subst eo94) | ((with_reducible refine gate_callee (f := 64) rfl ?_); refine goesL_ (some 30) rfl rfl Tryz.func64 (by kernel_rfl) rfl #[.agg #[.slice Ao93 t389.length co93], .agg #[.slice Ao94 t392.length co94]] rfl (by (try simp only [List.map_toArray, List.map_cons, List.map_nil]); first | done | rfl | (simp only [List.length_drop, List.length_take]; rfl)) ?_; (with_reducible refine (bursarref03_Long_by.calls kj3 _ _ t389 _ _ t392 t395 t398 _ ?side1 ?side2 ?side3 ?side4 A12.out).mono ?_); (case side1 => repeat (first | exact (Kd.V_reads' HO391.out).2.2 | (with_reducible refine Kd.C_alloc ?_ _) | (with_reducible refine Kd.C_drewN ?_ _) | (with_reducible refine Kd.C_drew ?_))); (case side2 => exact (Kd.V_reads' HO391.out).2.1); (case side3 => repeat (first | exact (Kd.R_reads' HO394.out).2.2 | (with_reducible refine Kd.C_alloc ?_ _) | (with_reducible refine Kd.C_drewN ?_ _) | (with_reducible refine Kd.C_drew ?_))); (case side4 => exact (Kd.R_reads' HO394.out).2.1); rintro e w95 ⟨v396, v399, rfl, ho0, ho1, hb⟩; refine ⟨_, rfl, ?_⟩; have n0_ := Aside0.mk (Kd.R_below (by (with_reducible repeat (first | apply Kd.R_alloc | apply Kd.R_drewN | apply Kd.R_drew)); exact HO385.out) hb); have n1_ := Aside0.mk (Kd.R_below (by (with_reducible repeat (first | apply Kd.R_alloc | apply Kd.R_drewN | apply Kd.R_drew)); exact HO388.out) hb); have n2_ := Aside0.mk (Kd.V_below (by (with_reducible repeat (first | apply Kd.V_alloc | apply Kd.V_drewN | apply Kd.V_drew)); exact HO391.out) hb); have n3_ := Aside0.mk (Kd.R_below (by (with_reducible repeat (first | apply Kd.R_alloc | apply Kd.R_drewN | apply Kd.R_drew)); exact HO394.out) hb); have n4_ := Aside0.mk (Kd.V_lower (Kd.V_mono (ok' := fun k_ => some k_ ≠ (.slice Ao89 t383.length co89 : Value).ownBlock ∧ some k_ ≠ (.slice Ao90 t386.length co90 : Value).ownBlock ∧ some k_ ≠ (.slice Ao94 t392.length co94 : Value).ownBlock) ho0 (fun k_ hk_ => ⟨(Kd.fresh' (Kd.R_lt (by (with_reducible repeat (first | apply Kd.R_alloc | apply Kd.R_drewN | apply Kd.R_drew)); exact HO385.out)) k_ hk_), (Kd.fresh' (Kd.R_lt (by (with_reducible repeat (first | apply Kd.R_alloc | apply Kd.R_drewN | apply Kd.R_drew)); exact HO388.out)) k_ hk_), (Kd.fresh' (Kd.R_lt (by (with_reducible repeat (first | apply Kd.R_alloc | apply Kd.R_drewN | apply Kd.R_drew)); exact HO394.out)) k_ hk_)⟩)) (below_size (by repeat (first | (with_reducible first | exact HB.out | apply below_alloc | apply pw_below_drewN | apply below_drew1) | exact HB.out)))); have n5_ := Aside0.mk (Kd.V_lower (Kd.V_mono (ok' := fun k_ => some k_ ≠ (.slice Ao89 t383.length co89 : Value).ownBlock ∧ some k_ ≠ (.slice Ao90 t386.length co90 : Value).ownBlock ∧ some k_ ≠ (.slice Ao94 t392.length co94 : Value).ownBlock) ho1 (fun k_ hk_ => ⟨(Kd.fresh' (Kd.R_lt (by (with_reducible repeat (first | apply Kd.R_alloc | apply Kd.R_drewN | apply Kd.R_drew)); exact HO385.out)) k_ hk_), (Kd.fresh' (Kd.R_lt (by (with_reducible repeat (first | apply Kd.R_alloc | apply Kd.R_drewN | apply Kd.R_drew)); exact HO388.out)) k_ hk_), (Kd.fresh' (Kd.R_lt (by (with_reducible repeat (first | apply Kd.R_alloc | apply Kd.R_drewN | apply Kd.R_drew)); exact HO394.out)) k_ hk_)⟩)) (below_size (by repeat (first | (with_reducible first | exact HB.out | apply below_alloc | apply pw_below_drewN | apply below_drew1) | exact HB.out)))); have n6_ := Aside0.mk (below_step (by repeat (first | (with_reducible first | exact HB.out | apply below_alloc | apply pw_below_drewN | apply below_drew1) | exact HB.out)) hb); clear HO385; clear HO388; clear HO391; clear HO394; clear HB; have HO385 := n0_; have HO388 := n1_; have HO391 := n2_; have HO394 := n3_; have HO397 := n4_; have HO400 := n5_; have HB := n6_; clear n0_ n1_ n2_ n3_ n4_ n5_ n6_; (try clear hb); (try clear hb2); (try clear hk); (try clear hi); (try clear ho0); (try clear ho1)) | ((with_reducible refine gate_dst (N := 8) rfl ?_); refine box_event ?hg (N := 8) ?hd (cs := #[.slice none 0 0]) (t := 85) ?hr ?_; (case hd => rfl); (case hg => rfl); (case hr => first | (go_simp; done) | (go_simp; rfl)); intro gb401 hg w96 hbox hb; have n0_ := Aside0.mk (Kd.R_below (by (with_reducible repeat (first | apply Kd.R_alloc | apply Kd.R_drewN | apply Kd.R_drew)); exact HO385.out) hb); have n1_ := Aside0.mk (Kd.R_below (by (with_reducible repeat (first | apply Kd.R_alloc | apply Kd.R_drewN | apply Kd.R_drew)); exact HO388.out) hb); have n2_ := Aside0.mk (Kd.V_below (Kd.V_elderB (by (with_reducible repeat (first | apply Kd.V_alloc | apply Kd.V_drewN | apply Kd.V_drew)); exact HO391.out) gb401 (Nat.le_of_eq hg.symm)) hb); have n3_ := Aside0.mk (Kd.R_below (by (with_reducible repeat (first | apply Kd.R_alloc | apply Kd.R_drewN | apply Kd.R_drew)); exact HO394.out) hb); have n4_ := Aside0.mk (Kd.V_below (Kd.V_elderB (by (with_reducible repeat (first | apply Kd.V_alloc | apply Kd.V_drewN | apply Kd.V_drew)); exact HO397.out) gb401 (Nat.le_of_eq hg.symm)) hb); have n5_ := Aside0.mk (Kd.V_below (Kd.V_elderB (by (with_reducible repeat (first | apply Kd.V_alloc | apply Kd.V_drewN | apply Kd.V_drew)); exact HO400.out) gb401 (Nat.le_of_eq hg.symm)) hb); have n6_ := Aside0.mk (below_step (by repeat (first | (with_reducible first | exact HB.out | apply below_alloc | apply pw_below_drewN | apply below_drew1) | exact HB.out)) hb); have n7_ := Aside0.mk (hbox); have n8_ := Aside0.mk ((by rw [hg]; exact (below_size (by repeat (first | (with_reducible first | exact HB.out | apply below_alloc | apply pw_below_drewN | apply below_drew1) | exact HB.out))) : w.heap.size ≤ gb401)); have n9_ := Aside0.mk ((by rw [hg]; exact (below_size (by repeat (first | (with_reducible first | exact HB.out | apply below_alloc | apply pw_below_drewN | apply below_drew1) | exact HB.out))) : w.heap.size ≤ gb401)); clear HO385; clear HO388; clear HO391; clear HO394; clear HO397; clear HO400; clear HB; have HO385 := n0_; have HO388 := n1_; have HO391 := n2_; have HO394 := n3_; have HO397 := n4_; have HO400 := n5_; have HB := n6_; have BK401 := n7_; have GW401 := n8_; have GE401 := n9_; clear n0_ n1_ n2_ n3_ n4_ n5_ n6_ n7_ n8_ n9_; clear hb hbox hg) | ((with_reducible refine gate_dst (N := 9) rfl ?_); refine box_event ?hg (N := 9) ?hd (cs := #[.slice none 0 0]) (t := 85) ?hr ?_; (case hd => rfl); (case hg => rfl); (case hr => first | (go_simp; done) | (go_simp; rfl)); intro gb402 hg w97 hbox hb; have n0_ := Aside0.mk (Kd.R_below (by (with_reducible repeat (first | apply Kd.R_alloc | apply Kd.R_drewN | apply Kd.R_drew)); exact HO385.out) hb); have n1_ := Aside0.mk (Kd.R_below (by (with_reducible repeat (first | apply Kd.R_alloc | apply Kd.R_drewN | apply Kd.R_drew)); exact HO388.out) hb); have n2_ := Aside0.mk (Kd.V_below (Kd.V_elderB (by (with_reducible repeat (first | apply Kd.V_alloc | apply Kd.V_drewN | apply Kd.V_drew)); exact HO391.out) gb402 (Nat.le_of_eq hg.symm)) hb); have n3_ := Aside0.mk (Kd.R_below (by (with_reducible repeat (first | apply Kd.R_alloc | apply Kd.R_drewN | apply Kd.R_drew)); exact HO394.out) hb); have n4_ := Aside0.mk (Kd.V_below (Kd.V_elderB (by (with_reducible repeat (first | apply Kd.V_alloc | apply Kd.V_drewN | apply Kd.V_drew)); exact HO397.out) gb402 (Nat.le_of_eq hg.symm)) hb); have n5_ := Aside0.mk (Kd.V_below (Kd.V_elderB (by (with_reducible repeat (first | apply Kd.V_alloc | apply Kd.V_drewN | apply Kd.V_drew)); exact HO400.out) gb402 (Nat.le_of_eq hg.symm)) hb); have n6_ := Aside0.mk (blk_below (g := gb401) (o := .cells #[.slice none 0 0] 85 (0, 0)) (by (with_reducible repeat (first | refine blk_drewN ?_ _ | refine blk_drew ?_ | refine blk_alloc ?_ _)); exact BK401.out) hb); have n7_ := Aside0.mk (below_step (by repeat (first | (with_reducible first | exact HB.out | apply below_alloc | apply pw_below_drewN | apply below_drew1 | refine below_set ?_ GE401.out) | exact HB.out)) hb); have n8_ := Aside0.mk (hbox); have n9_ := Aside0.mk ((by rw [hg]; exact (below_size (by repeat (first | (with_reducible first | exact HB.out | apply below_alloc | apply pw_below_drewN | apply below_drew1 | refine below_set ?_ GE401.out) | exact HB.out))) : w.heap.size ≤ gb402)); have n10_ := Aside0.mk ((by rw [hg]; exact (below_size (by repeat (first | (with_reducible first | exact HB.out | apply below_alloc | apply pw_below_drewN | apply below_drew1 | refine below_set ?_ GE401.out) | exact HB.out))) : w.heap.size ≤ gb402)); have n11_ := Aside0.mk ((by rw [hg]; exact Nat.ne_of_lt (blk_lt (g := gb401) (o := .cells #[.slice none 0 0] 85 (0, 0)) (by (with_reducible repeat (first | refine blk_drewN ?_ _ | refine blk_drew ?_ | refine blk_alloc ?_ _)); exact BK401.out)) : gb401 ≠ gb402)); have n12_ := Aside0.mk ((by rw [hg]; exact Nat.ne_of_gt (blk_lt (g := gb401) (o := .cells #[.slice none 0 0] 85 (0, 0)) (by (with_reducible repeat (first | refine blk_drewN ?_ _ | refine blk_drew ?_ | refine blk_alloc ?_ _)); exact BK401.out)) : gb402 ≠ gb401)); clear HO385; clear HO388; clear HO391; clear HO394; clear HO397; clear HO400; clear BK401; clear HB; have HO385 := n0_; have HO388 := n1_; have HO391 := n2_; have HO394 := n3_; have HO397 := n4_; have HO400 := n5_; have BK401 := n6_; have HB := n7_; have BK402 := n8_; have GW402 := n9_; have GE402 := n10_; have NB401_402 := n11_; have NB402_401 := n12_; clear n0_ n1_ n2_ n3_ n4_ n5_ n6_ n7_ n8_ n9_ n10_ n11_ n12_; clear hb hbox hg; obtain ⟨Ao98, co98, eo98⟩ := Kd.V_slice HO397.out; subst eo98; have hnb99 := NB401_402.out; have hnc99 := NB402_401.out; have hcz100_0 : w97.cell? ⟨gb401, 0, none⟩ = some (.slice none 0 0) := (blk_cell BK401.out 0).trans rfl; have hfz100_0 := blk_frozen BK401.out 0; obtain ⟨Ao101, co101, eo101⟩ := Kd.V_slice HO400.out; subst eo101; have hcz102_0 : w97.cell? ⟨gb402, 0, none⟩ = some (.slice none 0 0) := (blk_cell BK402.out 0).trans rfl; have hfz102_0 := blk_frozen BK402.out 0) | ((with_reducible refine gate_callee (f := 69) rfl ?_); refine goesL_ (some 42) rfl rfl Tryz.func69 (by kernel_rfl) rfl #[.agg #[.slice Ao98 t395.length co98]] rfl (by (try simp only [List.map_toArray, List.map_cons, List.map_nil]); first | done | rfl | (simp only [List.length_drop, List.length_take]; rfl)) ?_; (with_reducible refine (bursarref03_Long_value.calls kj3 _ _ t395 t411 false _ ?side1 ?side2 A68.out).mono ?_); (case side1 => refine (Kd.V_reads' (e := 3) (base := w.heap.size) (ok := fun k_ => (((some k_ ≠ (.slice Ao89 t383.length co89 : Value).ownBlock ∧ (some k_ ≠ (.slice Ao90 t386.length co90 : Value).ownBlock ∧ some k_ ≠ (.slice Ao94 t392.length co94 : Value).ownBlock)) ∧ k_ ≠ gb401) ∧ k_ ≠ gb402)) (n := t395.length) (c := co98) ?_).2.2; exact (by (with_reducible repeat (first | apply Kd.V_alloc | apply Kd.V_drewN | apply Kd.V_drew)); exact (Kd.V_mono (Kd.V_mono (Kd.V_far (p := ⟨gb402, 0, none⟩) (Kd.V_far (p := ⟨gb401, 0, none⟩) (Kd.V_mono (Kd.V_mono HO397.out (fun k_ hk => (⟨hk, hk.1.2⟩ : _ ∧ k_ ≠ gb401))) (fun k_ hk => (⟨hk, hk.1.2⟩ : _ ∧ k_ ≠ gb402))) (fun _ hk => hk.1.2) (.slice Ao98 t395.length co98)) (fun _ hk => hk.2) (.slice Ao101 t398.length co101)) (fun _ h_ => h_.1)) (fun _ h_ => h_.1)))); (case side2 => exact (Kd.V_reads' HO397.out).2.1); rintro e w103 ⟨rfl, hb⟩; refine ⟨_, rfl, ?_⟩; have n0_ := Aside0.mk (Kd.R_below (by (with_reducible repeat (first | apply Kd.R_alloc | apply Kd.R_drewN | apply Kd.R_drew)); exact (Kd.R_mono (Kd.R_mono (Kd.R_far (p := ⟨gb402, 0, none⟩) (Kd.R_far (p := ⟨gb401, 0, none⟩) (Kd.R_types (Kd.R_types HO385.out BK401.out (by decide)) BK402.out (by decide)) (fun _ hk => hk.1.2) (.slice Ao98 t395.length co98)) (fun _ hk => hk.2) (.slice Ao101 t398.length co101)) (fun _ h_ => h_.1)) (fun _ h_ => h_.1))) hb); have n1_ := Aside0.mk (Kd.R_below (by (with_reducible repeat (first | apply Kd.R_alloc | apply Kd.R_drewN | apply Kd.R_drew)); exact (Kd.R_mono (Kd.R_mono (Kd.R_far (p := ⟨gb402, 0, none⟩) (Kd.R_far (p := ⟨gb401, 0, none⟩) (Kd.R_types (Kd.R_types HO388.out BK401.out (by decide)) BK402.out (by decide)) (fun _ hk => hk.1.2) (.slice Ao98 t395.length co98)) (fun _ hk => hk.2) (.slice Ao101 t398.length co101)) (fun _ h_ => h_.1)) (fun _ h_ => h_.1))) hb); have n2_ := Aside0.mk (Kd.V_below (by (with_reducible repeat (first | apply Kd.V_alloc | apply Kd.V_drewN | apply Kd.V_drew)); exact (Kd.V_mono (Kd.V_mono (Kd.V_far (p := ⟨gb402, 0, none⟩) (Kd.V_far (p := ⟨gb401, 0, none⟩) (Kd.V_mono (Kd.V_mono HO391.out (fun k_ hk => (⟨hk, hk.1.2⟩ : _ ∧ k_ ≠ gb401))) (fun k_ hk => (⟨hk, hk.1.2⟩ : _ ∧ k_ ≠ gb402))) (fun _ hk => hk.1.2) (.slice Ao98 t395.length co98)) (fun _ hk => hk.2) (.slice Ao101 t398.length co101)) (fun _ h_ => h_.1)) (fun _ h_ => h_.1))) hb); have n3_ := Aside0.mk (Kd.R_below (by (with_reducible repeat (first | apply Kd.R_alloc | apply Kd.R_drewN | apply Kd.R_drew)); exact (Kd.R_mono (Kd.R_mono (Kd.R_far (p := ⟨gb402, 0, none⟩) (Kd.R_far (p := ⟨gb401, 0, none⟩) (Kd.R_types (Kd.R_types HO394.out BK401.out (by decide)) BK402.out (by decide)) (fun _ hk => hk.1.2) (.slice Ao98 t395.length co98)) (fun _ hk => hk.2) (.slice Ao101 t398.length co101)) (fun _ h_ => h_.1)) (fun _ h_ => h_.1))) hb); have n4_ := Aside0.mk (Kd.V_below (by (with_reducible repeat (first | apply Kd.V_alloc | apply Kd.V_drewN | apply Kd.V_drew)); exact (Kd.V_mono (Kd.V_mono (Kd.V_far (p := ⟨gb402, 0, none⟩) (Kd.V_far (p := ⟨gb401, 0, none⟩) (Kd.V_mono (Kd.V_mono HO397.out (fun k_ hk => (⟨hk, hk.1.2⟩ : _ ∧ k_ ≠ gb401))) (fun k_ hk => (⟨hk, hk.1.2⟩ : _ ∧ k_ ≠ gb402))) (fun _ hk => hk.1.2) (.slice Ao98 t395.length co98)) (fun _ hk => hk.2) (.slice Ao101 t398.length co101)) (fun _ h_ => h_.1)) (fun _ h_ => h_.1))) hb); have n5_ := Aside0.mk (Kd.V_below (by (with_reducible repeat (first | apply Kd.V_alloc | apply Kd.V_drewN | apply Kd.V_drew)); exact (Kd.V_mono (Kd.V_mono (Kd.V_far (p := ⟨gb402, 0, none⟩) (Kd.V_far (p := ⟨gb401, 0, none⟩) (Kd.V_mono (Kd.V_mono HO400.out (fun k_ hk => (⟨hk, hk.1.2⟩ : _ ∧ k_ ≠ gb401))) (fun k_ hk => (⟨hk, hk.1.2⟩ : _ ∧ k_ ≠ gb402))) (fun _ hk => hk.1.2) (.slice Ao98 t395.length co98)) (fun _ hk => hk.2) (.slice Ao101 t398.length co101)) (fun _ h_ => h_.1)) (fun _ h_ => h_.1))) hb); have n6_ := Aside0.mk (blk_below (g := gb401) (o := .cells #[.slice Ao98 t395.length co98] 85 (0, 0)) (by (with_reducible repeat (first | refine blk_drewN ?_ _ | refine blk_drew ?_ | refine blk_alloc ?_ _)); refine blk_far ?_ NB401_402.out _; (with_reducible repeat (first | refine blk_drewN ?_ _ | refine blk_drew ?_ | refine blk_alloc ?_ _)); refine blk_put (cs := #[.slice none 0 0]) ?_ 0 _ rfl; (with_reducible repeat (first | refine blk_drewN ?_ _ | refine blk_drew ?_ | refine blk_alloc ?_ _)); exact BK401.out) hb); have n7_ := Aside0.mk (blk_below (g := gb402) (o := .cells #[.slice Ao101 t398.length co101] 85 (0, 0)) (by (with_reducible repeat (first | refine blk_drewN ?_ _ | refine blk_drew ?_ | refine blk_alloc ?_ _)); refine blk_put (cs := #[.slice none 0 0]) ?_ 0 _ rfl; (with_reducible repeat (first | refine blk_drewN ?_ _ | refine blk_drew ?_ | refine blk_alloc ?_ _)); refine blk_far ?_ NB402_401.out _; (with_reducible repeat (first | refine blk_drewN ?_ _ | refine blk_drew ?_ | refine blk_alloc ?_ _)); exact BK402.out) hb); have n8_ := Aside0.mk (below_step (by repeat (first | (with_reducible first | exact HB.out | apply below_alloc | apply pw_below_drewN | apply below_drew1 | refine below_set ?_ GE401.out | refine below_set ?_ GE402.out) | exact HB.out)) hb); clear HO385; clear HO388; clear HO391; clear HO394; clear HO397; clear HO400; clear BK401; clear BK402; clear HB; have HO385 := n0_; have HO388 := n1_; have HO391 := n2_; have HO394 := n3_; have HO397 := n4_; have HO400 := n5_; have BK401 := n6_; have BK402 := n7_; have HB := n8_; clear n0_ n1_ n2_ n3_ n4_ n5_ n6_ n7_ n8_; (try clear hb); (try clear hb2); (try clear hk); (try clear hi)))
      go_ret2
      exact ⟨by first | rfl | (simp [errW_none, errW_some] <;> rfl) | (simp [*, errW_none, errW_some] <;> rfl), by repeat (first | (with_reducible first | exact HB.out | apply below_alloc | apply pw_below_drewN | apply below_drew1 | refine below_set ?_ GE401.out | refine below_set ?_ GE402.out) | exact HB.out)⟩
end Go.Proofs.YtejgbdclhlolkaaGreatDoor.Q
namespace Go.Proofs.YtejgbdclhlolkaaGreatDoor.Q
open Go.RowKit Go.Proofs.YtejgbdclhlolkaaGreatDoorW.PrintWords Go.Proofs.YtejgbdclhlolkaaGreatDoorW.PrintLast Go.Proofs.YtejgbdclhlolkaaGreatDoorW.PrintMore
attribute [local go_sem] max2_int min2_int max_two min_two max_three min_three max_four min_four   -- for this text's walks alone
set_option linter.unusedVariables false
set_option linter.unusedSimpArgs false
mutual
def bursarlaw03_QuantReckons.j0 : Nat → Int → Int → Int → Bool → Option (Bool)
  | 0, _, _, _, _ => none
  | k + 1, x0, x1, x2, x32 => if x32 = true then (some false) else ((quant_Sub.f x0 x1).bind fun bt418 => ((bursarref03_Sub.f x0 x1).bind fun bt420 => (if bt418.1 = bt420.1 then (bursarlaw03_QuantReckons.j1 k x0 x1 x2 (bt418.2 != bt420.2)) else (bursarlaw03_QuantReckons.j1 k x0 x1 x2 true))))
def bursarlaw03_QuantReckons.j1 : Nat → Int → Int → Int → Bool → Option (Bool)
  | 0, _, _, _, _ => none
  | k + 1, x0, x1, x2, x52 => if x52 = true then (some false) else ((quant_Scale.f k x0 x1 x2).bind fun bt422 => ((bursarref03_Scale.f k x0 x1 x2).bind fun bt424 => (if bt422.1 = bt424.1 then (some (bt422.2 == bt424.2)) else (some false))))
end
def bursarlaw03_QuantReckons.f (k : Nat) (a0 : Int) (a1 : Int) (a2 : Int) : Option (Bool) := (bursarlaw03_known.f k).bind fun t413 => (if t413 = true then ((quant_Add.f k a0 a1).bind fun bt414 => ((bursarref03_Add.f k a0 a1).bind fun bt416 => (if bt414.1 = bt416.1 then (bursarlaw03_QuantReckons.j0 k a0 a1 a2 (bt414.2 != bt416.2)) else (bursarlaw03_QuantReckons.j0 k a0 a1 a2 true)))) else (some false))
theorem bursarlaw03_QuantReckons.mono_l : ∀ k, (∀ y0 y1 y2 y3, LeO (bursarlaw03_QuantReckons.j0 k y0 y1 y2 y3) (bursarlaw03_QuantReckons.j0 (k + 1) y0 y1 y2 y3)) ∧ (∀ y0 y1 y2 y3, LeO (bursarlaw03_QuantReckons.j1 k y0 y1 y2 y3) (bursarlaw03_QuantReckons.j1 (k + 1) y0 y1 y2 y3))
  | 0 => ⟨fun _ _ _ _ r h => by simp [bursarlaw03_QuantReckons.j0] at h, fun _ _ _ _ r h => by simp [bursarlaw03_QuantReckons.j1] at h⟩
  | k + 1 => by
    obtain ⟨ih0, ih1⟩ := bursarlaw03_QuantReckons.mono_l k
    refine ⟨?_, ?_⟩
    · intro y0 y1 y2 y3
      unfold bursarlaw03_QuantReckons.j0
      repeat' first
      | (with_reducible exact ih0 _ _ _ _)
      | (with_reducible exact ih1 _ _ _ _)
      | (with_reducible exact bursarlaw03_known.mono _)
      | (with_reducible exact bursarref03_Add.mono _ _ _)
      | (with_reducible exact bursarref03_Scale.mono _ _ _ _)
      | (with_reducible exact quant_Add.mono _ _ _)
      | (with_reducible exact quant_Scale.mono _ _ _ _)
      | (with_reducible exact LeO.refl _)
      | (with_reducible exact LeO.none _)
      | (with_reducible refine LeO.ite ?_ ?_)
      | (with_reducible refine LeO.bind ?_ (fun _ => ?_))
      | exact ih0 _ _ _ _
      | exact ih1 _ _ _ _
      | exact bursarlaw03_known.mono _
      | exact bursarref03_Add.mono _ _ _
      | exact bursarref03_Scale.mono _ _ _ _
      | exact quant_Add.mono _ _ _
      | exact quant_Scale.mono _ _ _ _
      | exact LeO.none _
      | refine LeO.ite ?_ ?_
      | refine LeO.bind ?_ (fun _ => ?_)
    · intro y0 y1 y2 y3
      unfold bursarlaw03_QuantReckons.j1
      repeat' first
      | (with_reducible exact ih0 _ _ _ _)
      | (with_reducible exact ih1 _ _ _ _)
      | (with_reducible exact bursarlaw03_known.mono _)
      | (with_reducible exact bursarref03_Add.mono _ _ _)
      | (with_reducible exact bursarref03_Scale.mono _ _ _ _)
      | (with_reducible exact quant_Add.mono _ _ _)
      | (with_reducible exact quant_Scale.mono _ _ _ _)
      | (with_reducible exact LeO.refl _)
      | (with_reducible exact LeO.none _)
      | (with_reducible refine LeO.ite ?_ ?_)
      | (with_reducible refine LeO.bind ?_ (fun _ => ?_))
      | exact ih0 _ _ _ _
      | exact ih1 _ _ _ _
      | exact bursarlaw03_known.mono _
      | exact bursarref03_Add.mono _ _ _
      | exact bursarref03_Scale.mono _ _ _ _
      | exact quant_Add.mono _ _ _
      | exact quant_Scale.mono _ _ _ _
      | exact LeO.none _
      | refine LeO.ite ?_ ?_
      | refine LeO.bind ?_ (fun _ => ?_)
theorem bursarlaw03_QuantReckons.mono : ∀ a0 a1 a2 k, LeO (bursarlaw03_QuantReckons.f k a0 a1 a2) (bursarlaw03_QuantReckons.f (k + 1) a0 a1 a2) := by
  intro a0 a1 a2 k
  obtain ⟨ih0, ih1⟩ := bursarlaw03_QuantReckons.mono_l k
  unfold bursarlaw03_QuantReckons.f
  repeat' first
      | (with_reducible exact ih0 _ _ _ _)
      | (with_reducible exact ih1 _ _ _ _)
      | (with_reducible exact bursarlaw03_known.mono _)
      | (with_reducible exact bursarref03_Add.mono _ _ _)
      | (with_reducible exact bursarref03_Scale.mono _ _ _ _)
      | (with_reducible exact quant_Add.mono _ _ _)
      | (with_reducible exact quant_Scale.mono _ _ _ _)
      | (with_reducible exact LeO.refl _)
      | (with_reducible exact LeO.none _)
      | (with_reducible refine LeO.ite ?_ ?_)
      | (with_reducible refine LeO.bind ?_ (fun _ => ?_))
      | exact ih0 _ _ _ _
      | exact ih1 _ _ _ _
      | exact bursarlaw03_known.mono _
      | exact bursarref03_Add.mono _ _ _
      | exact bursarref03_Scale.mono _ _ _ _
      | exact quant_Add.mono _ _ _
      | exact quant_Scale.mono _ _ _ _
      | exact LeO.none _
      | refine LeO.ite ?_ ?_
      | refine LeO.bind ?_ (fun _ => ?_)
set_option maxHeartbeats 8000000 in
set_option maxRecDepth 100000 in
theorem bursarlaw03_QuantReckons.calls (k : Nat) (a0 : Int) (a1 : Int) (a2 : Int) (r : Bool) (w : World) (h : bursarlaw03_QuantReckons.f k a0 a1 a2 = some r) (hG : Glob w) :
    Calls Tryz.prog 11 #[.int .i64 a0, .int .i64 a1, .int .i64 a2] w fun e w' => e = .returned (.bool r) ∧ Below w.heap.size w w' := by
  have HB := Aside0.mk (Below.refl w.heap.size w)
  have H : ((bursarlaw03_known.f k).bind fun t413 => (if t413 = true then ((quant_Add.f k a0 a1).bind fun bt414 => ((bursarref03_Add.f k a0 a1).bind fun bt416 => (if bt414.1 = bt416.1 then (bursarlaw03_QuantReckons.j0 k a0 a1 a2 (bt414.2 != bt416.2)) else (bursarlaw03_QuantReckons.j0 k a0 a1 a2 true)))) else (some false))) = some r := h
  clear h
  replace H := Option.bind_eq_some_iff.mp H
  obtain ⟨t413, A40, H⟩ := H
  replace H : (if t413 = true then ((quant_Add.f k a0 a1).bind fun bt414 => ((bursarref03_Add.f k a0 a1).bind fun bt416 => (if bt414.1 = bt416.1 then (bursarlaw03_QuantReckons.j0 k a0 a1 a2 (bt414.2 != bt416.2)) else (bursarlaw03_QuantReckons.j0 k a0 a1 a2 true)))) else (some false)) = some r := H
  have A4 := Aside0.mk A40
  clear A40
  by_cases c5 : t413 = true
  · subst c5
    have H1 : ((quant_Add.f k a0 a1).bind fun bt414 => ((bursarref03_Add.f k a0 a1).bind fun bt416 => (if bt414.1 = bt416.1 then (bursarlaw03_QuantReckons.j0 k a0 a1 a2 (bt414.2 != bt416.2)) else (bursarlaw03_QuantReckons.j0 k a0 a1 a2 true)))) = some r := by rw [if_pos rfl] at H; exact H
    clear H
    have H := H1
    clear H1
    replace H := Option.bind_eq_some_iff.mp H
    obtain ⟨⟨t414, t415⟩, A60, H⟩ := H
    replace H : ((bursarref03_Add.f k a0 a1).bind fun bt416 => (if t414 = bt416.1 then (bursarlaw03_QuantReckons.j0 k a0 a1 a2 (t415 != bt416.2)) else (bursarlaw03_QuantReckons.j0 k a0 a1 a2 true))) = some r := H
    have A6 := Aside0.mk A60
    clear A60
    replace H := Option.bind_eq_some_iff.mp H
    obtain ⟨⟨t416, t417⟩, A70, H⟩ := H
    replace H : (if t414 = t416 then (bursarlaw03_QuantReckons.j0 k a0 a1 a2 (t415 != t417)) else (bursarlaw03_QuantReckons.j0 k a0 a1 a2 true)) = some r := H
    have A7 := Aside0.mk A70
    clear A70
    have HC8 := Aside0.mk H
    clear H
    go_enter Tryz.func11, Tryz.ntmps11
    go_upto_region 5 with (first | ((with_reducible refine gate_callee (f := 16) rfl ?_); refine goesL_ (some 11) rfl rfl Tryz.func16 (by kernel_rfl) rfl #[] rfl (by (try simp only [List.map_toArray, List.map_cons, List.map_nil]); first | done | rfl | (simp only [List.length_drop, List.length_take]; rfl)) ?_; (with_reducible refine (bursarlaw03_known.calls k  true _ A4.out (Glob.below hG (by repeat (first | (with_reducible first | exact HB.out | apply below_alloc | apply pw_below_drewN | apply below_drew1) | exact HB.out)))).mono ?_); rintro e w9 ⟨rfl, hb⟩; refine ⟨_, rfl, ?_⟩; have n0_ := Aside0.mk (below_step (by repeat (first | (with_reducible first | exact HB.out | apply below_alloc | apply pw_below_drewN | apply below_drew1) | exact HB.out)) hb); clear HB; have HB := n0_; clear n0_; (try clear hb); (try clear hb2); (try clear hk); (try clear hi)) | ((with_reducible refine gate_callee (f := 26) rfl ?_); refine goesL_ (some 16) rfl rfl Tryz.func26 (by kernel_rfl) rfl #[.int .i64 a0, .int .i64 a1] rfl (by (try simp only [List.map_toArray, List.map_cons, List.map_nil]); first | done | rfl | (simp only [List.length_drop, List.length_take]; rfl)) ?_; (with_reducible refine (quant_Add.calls k a0 a1 t414 t415 _ A6.out).mono ?_); rintro e w' ⟨rfl, ⟨nd, rfl⟩⟩; refine ⟨_, rfl, ?_⟩) | ((with_reducible refine gate_callee (f := 33) rfl ?_); refine goesL_ (some 22) rfl rfl Tryz.func33 (by kernel_rfl) rfl #[.int .i64 a0, .int .i64 a1] rfl (by (try simp only [List.map_toArray, List.map_cons, List.map_nil]); first | done | rfl | (simp only [List.length_drop, List.length_take]; rfl)) ?_; (with_reducible refine (bursarref03_Add.calls k a0 a1 t416 t417 _ A7.out).mono ?_); rintro e w10 ⟨rfl, hb⟩; refine ⟨_, rfl, ?_⟩; have n0_ := Aside0.mk (below_step (by repeat (first | (with_reducible first | exact HB.out | apply below_alloc | apply pw_below_drewN | apply below_drew1) | exact HB.out)) hb); clear HB; have HB := n0_; clear n0_; (try clear hb); (try clear hb2); (try clear hk); (try clear hi)))
    (try simp only [Act.put, List.setIfInBounds_toArray, List.set_cons_zero, List.set_cons_succ])
    go_cut [32] (fun v32 wc => ∃ (kq : Nat) (x32_7 : Bool), v32 = .bool x32_7 ∧ Aside0 (bursarlaw03_QuantReckons.j0 kq a0 a1 a2 x32_7 = some r) ∧ Aside0 (kq ≤ k) ∧ Aside0 (Below w.heap.size w wc))
    case first =>
      have H := HC8.out
      clear HC8
      by_cases c11 : t414 = t416
      · rw [if_pos c11] at H
        have c11b0 : (t414 == t416) = true := beq_iff_eq.mpr c11
        have c11b1 : (t414 != t416) = false := bne_eq_false_iff_eq.mpr c11
        clear c11
        (first | rw [c11b0] | (simp only [i64_w, i32_w]; rw [c11b0]) | skip)
        have H' := Aside0.mk H
        clear H
        go_wp2
        go_meet
        case rel => exact ⟨_, ((t415 != t417)), (by first | rfl | (simp; done) | (simp [*]; done) | (simp; rw [Bool.eq_iff_iff]; simp; done) | (rw [Bool.eq_iff_iff]; simp; done)), H', ⟨by first | omega | exact Nat.le_refl _⟩, ⟨by repeat (first | (with_reducible first | exact HB.out | apply below_alloc | apply pw_below_drewN | apply below_drew1) | exact HB.out)⟩⟩
      · rw [if_neg c11] at H
        have c11b0 : (t414 == t416) = false := beq_eq_false_iff_ne.mpr c11
        have c11b1 : (t414 != t416) = true := bne_iff_ne.mpr c11
        (first | rw [c11b0] | (simp only [i64_w, i32_w]; rw [c11b0]) | skip)
        have H' := Aside0.mk H
        clear H
        go_wp2
        go_meet
        case rel => exact ⟨_, (true), (by first | rfl | (simp; done) | (simp [*]; done) | (simp; rw [Bool.eq_iff_iff]; simp; done) | (rw [Bool.eq_iff_iff]; simp; done)), H', ⟨by first | omega | exact Nat.le_refl _⟩, ⟨by repeat (first | (with_reducible first | exact HB.out | apply below_alloc | apply pw_below_drewN | apply below_drew1) | exact HB.out)⟩⟩
    case rest =>
      clear HC8
      try clear c1
      try clear c2
      try clear p2
      try clear c3
      try clear c5
      try clear c11
      try clear c11b0
      try clear c11b1
      obtain ⟨kq, x32_7, rfl, HA, HJ7, HB⟩ := hcut
      cases kq with
      | zero => exact absurd HA.out (by simp [bursarlaw03_QuantReckons.j0])
      | succ kj7 =>
        have H := HA.out
        clear HA
        simp only [bursarlaw03_QuantReckons.j0] at H
        by_cases c12 : x32_7 = true
        · subst c12
          have H1 : (some false) = some r := by rw [if_pos rfl] at H; exact H
          clear H
          have H := H1
          clear H1
          obtain rfl := Option.some.inj H
          go_wp2
          go_ret
          exact ⟨by first | rfl | (simp [errW_none, errW_some] <;> rfl) | (simp [*, errW_none, errW_some] <;> rfl), by repeat (first | (with_reducible first | exact HB.out | apply below_alloc | apply pw_below_drewN | apply below_drew1) | exact HB.out)⟩
        · replace c12 := Bool.eq_false_iff.mpr c12
          subst c12
          have H1 : ((quant_Sub.f a0 a1).bind fun bt418 => ((bursarref03_Sub.f a0 a1).bind fun bt420 => (if bt418.1 = bt420.1 then (bursarlaw03_QuantReckons.j1 kj7 a0 a1 a2 (bt418.2 != bt420.2)) else (bursarlaw03_QuantReckons.j1 kj7 a0 a1 a2 true)))) = some r := by rw [if_neg (show ¬ (false = true) by decide)] at H; exact H
          clear H
          have H := H1
          clear H1
          replace H := Option.bind_eq_some_iff.mp H
          obtain ⟨⟨t418, t419⟩, A130, H⟩ := H
          replace H : ((bursarref03_Sub.f a0 a1).bind fun bt420 => (if t418 = bt420.1 then (bursarlaw03_QuantReckons.j1 kj7 a0 a1 a2 (t419 != bt420.2)) else (bursarlaw03_QuantReckons.j1 kj7 a0 a1 a2 true))) = some r := H
          have A13 := Aside0.mk A130
          clear A130
          replace H := Option.bind_eq_some_iff.mp H
          obtain ⟨⟨t420, t421⟩, A140, H⟩ := H
          replace H : (if t418 = t420 then (bursarlaw03_QuantReckons.j1 kj7 a0 a1 a2 (t419 != t421)) else (bursarlaw03_QuantReckons.j1 kj7 a0 a1 a2 true)) = some r := H
          have A14 := Aside0.mk A140
          clear A140
          have HC15 := Aside0.mk H
          clear H
          go_upto_region 9 with (first | ((with_reducible refine gate_callee (f := 27) rfl ?_); refine goesL_ (some 36) rfl rfl Tryz.func27 (by kernel_rfl) rfl #[.int .i64 a0, .int .i64 a1] rfl (by (try simp only [List.map_toArray, List.map_cons, List.map_nil]); first | done | rfl | (simp only [List.length_drop, List.length_take]; rfl)) ?_; (with_reducible refine (quant_Sub.calls a0 a1 t418 t419 _ A13.out).mono ?_); rintro e w' ⟨rfl, ⟨nd, rfl⟩⟩; refine ⟨_, rfl, ?_⟩) | ((with_reducible refine gate_callee (f := 34) rfl ?_); refine goesL_ (some 42) rfl rfl Tryz.func34 (by kernel_rfl) rfl #[.int .i64 a0, .int .i64 a1] rfl (by (try simp only [List.map_toArray, List.map_cons, List.map_nil]); first | done | rfl | (simp only [List.length_drop, List.length_take]; rfl)) ?_; (with_reducible refine (bursarref03_Sub.calls a0 a1 t420 t421 _ A14.out).mono ?_); rintro e w' ⟨rfl, ⟨nd, rfl⟩⟩; refine ⟨_, rfl, ?_⟩))
          (try simp only [Act.put, List.setIfInBounds_toArray, List.set_cons_zero, List.set_cons_succ])
          go_cut [52] (fun v52 wc => ∃ (kq : Nat) (x52_14 : Bool), v52 = .bool x52_14 ∧ Aside0 (bursarlaw03_QuantReckons.j1 kq a0 a1 a2 x52_14 = some r) ∧ Aside0 (kq ≤ kj7) ∧ Aside0 (Below w.heap.size w wc))
          case first =>
            have H := HC15.out
            clear HC15
            by_cases c16 : t418 = t420
            · rw [if_pos c16] at H
              have c16b0 : (t418 == t420) = true := beq_iff_eq.mpr c16
              have c16b1 : (t418 != t420) = false := bne_eq_false_iff_eq.mpr c16
              clear c16
              (first | rw [c16b0] | (simp only [i64_w, i32_w]; rw [c16b0]) | skip)
              have H' := Aside0.mk H
              clear H
              go_wp2
              go_meet
              case rel => exact ⟨_, ((t419 != t421)), (by first | rfl | (simp; done) | (simp [*]; done) | (simp; rw [Bool.eq_iff_iff]; simp; done) | (rw [Bool.eq_iff_iff]; simp; done)), H', ⟨by have := HJ7.out; first | omega | exact Nat.le_refl _⟩, ⟨by repeat (first | (with_reducible first | exact HB.out | apply below_alloc | apply pw_below_drewN | apply below_drew1) | exact HB.out)⟩⟩
            · rw [if_neg c16] at H
              have c16b0 : (t418 == t420) = false := beq_eq_false_iff_ne.mpr c16
              have c16b1 : (t418 != t420) = true := bne_iff_ne.mpr c16
              (first | rw [c16b0] | (simp only [i64_w, i32_w]; rw [c16b0]) | skip)
              have H' := Aside0.mk H
              clear H
              go_wp2
              go_meet
              case rel => exact ⟨_, (true), (by first | rfl | (simp; done) | (simp [*]; done) | (simp; rw [Bool.eq_iff_iff]; simp; done) | (rw [Bool.eq_iff_iff]; simp; done)), H', ⟨by have := HJ7.out; first | omega | exact Nat.le_refl _⟩, ⟨by repeat (first | (with_reducible first | exact HB.out | apply below_alloc | apply pw_below_drewN | apply below_drew1) | exact HB.out)⟩⟩
          case rest =>
            clear HC15
            try clear c1
            try clear c2
            try clear p2
            try clear c3
            try clear c5
            try clear c11
            try clear c11b0
            try clear c11b1
            try clear c12
            try clear c16
            try clear c16b0
            try clear c16b1
            try clear p2
            obtain ⟨kq, x52_14, rfl, HA, HJ14, HB⟩ := hcut
            cases kq with
            | zero => exact absurd HA.out (by simp [bursarlaw03_QuantReckons.j1])
            | succ kj14 =>
              have H := HA.out
              clear HA
              simp only [bursarlaw03_QuantReckons.j1] at H
              by_cases c17 : x52_14 = true
              · subst c17
                have H1 : (some false) = some r := by rw [if_pos rfl] at H; exact H
                clear H
                have H := H1
                clear H1
                obtain rfl := Option.some.inj H
                go_wp2
                go_ret
                exact ⟨by first | rfl | (simp [errW_none, errW_some] <;> rfl) | (simp [*, errW_none, errW_some] <;> rfl), by repeat (first | (with_reducible first | exact HB.out | apply below_alloc | apply pw_below_drewN | apply below_drew1) | exact HB.out)⟩
              · replace c17 := Bool.eq_false_iff.mpr c17
                subst c17
                have H1 : ((quant_Scale.f kj14 a0 a1 a2).bind fun bt422 => ((bursarref03_Scale.f kj14 a0 a1 a2).bind fun bt424 => (if bt422.1 = bt424.1 then (some (bt422.2 == bt424.2)) else (some false)))) = some r := by rw [if_neg (show ¬ (false = true) by decide)] at H; exact H
                clear H
                have H := H1
                clear H1
                replace H := Option.bind_eq_some_iff.mp H
                obtain ⟨⟨t422, t423⟩, A180, H⟩ := H
                replace H : ((bursarref03_Scale.f kj14 a0 a1 a2).bind fun bt424 => (if t422 = bt424.1 then (some (t423 == bt424.2)) else (some false))) = some r := H
                have A18 := Aside0.mk A180
                clear A180
                replace H := Option.bind_eq_some_iff.mp H
                obtain ⟨⟨t424, t425⟩, A190, H⟩ := H
                replace H : (if t422 = t424 then (some (t423 == t425)) else (some false)) = some r := H
                have A19 := Aside0.mk A190
                clear A190
                by_cases c20 : t422 = t424
                · rw [if_pos c20] at H
                  have c20b0 : (t422 == t424) = true := beq_iff_eq.mpr c20
                  have c20b1 : (t422 != t424) = false := bne_eq_false_iff_eq.mpr c20
                  clear c20
                  obtain rfl := Option.some.inj H
                  go_wp2_with (first | ((with_reducible refine gate_callee (f := 28) rfl ?_); refine goesL_ (some 57) rfl rfl Tryz.func28 (by kernel_rfl) rfl #[.int .i64 a0, .int .i64 a1, .int .i64 a2] rfl (by (try simp only [List.map_toArray, List.map_cons, List.map_nil]); first | done | rfl | (simp only [List.length_drop, List.length_take]; rfl)) ?_; (with_reducible refine (quant_Scale.calls kj14 a0 a1 a2 t422 t423 _ A18.out).mono ?_); rintro e w' ⟨rfl, ⟨nd, rfl⟩⟩; refine ⟨_, rfl, ?_⟩) | ((with_reducible refine gate_callee (f := 35) rfl ?_); refine goesL_ (some 64) rfl rfl Tryz.func35 (by kernel_rfl) rfl #[.int .i64 a0, .int .i64 a1, .int .i64 a2] rfl (by (try simp only [List.map_toArray, List.map_cons, List.map_nil]); first | done | rfl | (simp only [List.length_drop, List.length_take]; rfl)) ?_; (with_reducible refine (bursarref03_Scale.calls kj14 a0 a1 a2 t424 t425 _ A19.out).mono ?_); rintro e w21 ⟨rfl, hb⟩; refine ⟨_, rfl, ?_⟩; have n0_ := Aside0.mk (below_step (by repeat (first | (with_reducible first | exact HB.out | apply below_alloc | apply pw_below_drewN | apply below_drew1) | exact HB.out)) hb); clear HB; have HB := n0_; clear n0_; (try clear hb); (try clear hb2); (try clear hk); (try clear hi)))
                  go_ret
                  exact ⟨by first | rfl | (simp [errW_none, errW_some] <;> rfl) | (simp [*, errW_none, errW_some] <;> rfl), by repeat (first | (with_reducible first | exact HB.out | apply below_alloc | apply pw_below_drewN | apply below_drew1) | exact HB.out)⟩
                · rw [if_neg c20] at H
                  have c20b0 : (t422 == t424) = false := beq_eq_false_iff_ne.mpr c20
                  have c20b1 : (t422 != t424) = true := bne_iff_ne.mpr c20
                  obtain rfl := Option.some.inj H
                  go_wp2_with (first | ((with_reducible refine gate_callee (f := 28) rfl ?_); refine goesL_ (some 57) rfl rfl Tryz.func28 (by kernel_rfl) rfl #[.int .i64 a0, .int .i64 a1, .int .i64 a2] rfl (by (try simp only [List.map_toArray, List.map_cons, List.map_nil]); first | done | rfl | (simp only [List.length_drop, List.length_take]; rfl)) ?_; (with_reducible refine (quant_Scale.calls kj14 a0 a1 a2 t422 t423 _ A18.out).mono ?_); rintro e w' ⟨rfl, ⟨nd, rfl⟩⟩; refine ⟨_, rfl, ?_⟩) | ((with_reducible refine gate_callee (f := 35) rfl ?_); refine goesL_ (some 64) rfl rfl Tryz.func35 (by kernel_rfl) rfl #[.int .i64 a0, .int .i64 a1, .int .i64 a2] rfl (by (try simp only [List.map_toArray, List.map_cons, List.map_nil]); first | done | rfl | (simp only [List.length_drop, List.length_take]; rfl)) ?_; (with_reducible refine (bursarref03_Scale.calls kj14 a0 a1 a2 t424 t425 _ A19.out).mono ?_); rintro e w22 ⟨rfl, hb⟩; refine ⟨_, rfl, ?_⟩; have n0_ := Aside0.mk (below_step (by repeat (first | (with_reducible first | exact HB.out | apply below_alloc | apply pw_below_drewN | apply below_drew1) | exact HB.out)) hb); clear HB; have HB := n0_; clear n0_; (try clear hb); (try clear hb2); (try clear hk); (try clear hi)))
                  go_ret
                  exact ⟨by first | rfl | (simp [errW_none, errW_some] <;> rfl) | (simp [*, errW_none, errW_some] <;> rfl), by repeat (first | (with_reducible first | exact HB.out | apply below_alloc | apply pw_below_drewN | apply below_drew1) | exact HB.out)⟩
  · replace c5 := Bool.eq_false_iff.mpr c5
    subst c5
    have H1 : (some false) = some r := by rw [if_neg (show ¬ (false = true) by decide)] at H; exact H
    clear H
    have H := H1
    clear H1
    obtain rfl := Option.some.inj H
    go_enter Tryz.func11, Tryz.ntmps11
    go_wp2_with (first | ((with_reducible refine gate_callee (f := 16) rfl ?_); refine goesL_ (some 11) rfl rfl Tryz.func16 (by kernel_rfl) rfl #[] rfl (by (try simp only [List.map_toArray, List.map_cons, List.map_nil]); first | done | rfl | (simp only [List.length_drop, List.length_take]; rfl)) ?_; (with_reducible refine (bursarlaw03_known.calls k  false _ A4.out (Glob.below hG (by repeat (first | (with_reducible first | exact HB.out | apply below_alloc | apply pw_below_drewN | apply below_drew1) | exact HB.out)))).mono ?_); rintro e w23 ⟨rfl, hb⟩; refine ⟨_, rfl, ?_⟩; have n0_ := Aside0.mk (below_step (by repeat (first | (with_reducible first | exact HB.out | apply below_alloc | apply pw_below_drewN | apply below_drew1) | exact HB.out)) hb); clear HB; have HB := n0_; clear n0_; (try clear hb); (try clear hb2); (try clear hk); (try clear hi)))
    go_ret
    exact ⟨by first | rfl | (simp [errW_none, errW_some] <;> rfl) | (simp [*, errW_none, errW_some] <;> rfl), by repeat (first | (with_reducible first | exact HB.out | apply below_alloc | apply pw_below_drewN | apply below_drew1) | exact HB.out)⟩
end Go.Proofs.YtejgbdclhlolkaaGreatDoor.Q
namespace Go.Proofs.YtejgbdclhlolkaaGreatDoor.Q
open Go.RowKit Go.Proofs.YtejgbdclhlolkaaGreatDoorW.PrintWords Go.Proofs.YtejgbdclhlolkaaGreatDoorW.PrintLast
set_option linter.unusedVariables false
set_option linter.unusedSimpArgs false
set_option maxRecDepth 100000 in
theorem known_at : bursarlaw03_known.f 60 = some true := by decide +kernel
theorem known_ev : Ev (fun k => bursarlaw03_known.f k) true := Ev.of bursarlaw03_known.mono known_at
end Go.Proofs.YtejgbdclhlolkaaGreatDoor.Q
namespace Go.Proofs.DivLaw
theorem digit_is (v1 v0 u n q r : Nat) (hq : q * v1 + r = u) (h : q * v0 ≤ 4294967296 * r + n) (hge : (u * 4294967296 + n) / (v1 * 4294967296 + v0) ≤ q) (hv : 0 < v1) :
    q = (u * 4294967296 + n) / (v1 * 4294967296 + v0) := by
  refine Nat.le_antisymm ?_ hge
  rw [Nat.le_div_iff_mul_le (by omega)]
  have e : q * (v1 * 4294967296 + v0) = (q * v1) * 4294967296 + q * v0 := by rw [Nat.mul_add, Nat.mul_assoc]
  rw [e]
  generalize q * v1 = p at *
  generalize q * v0 = s at *
  omega
theorem digit_less (v1 v0 u n q r : Nat) (hq : q * v1 + r = u) (h : 4294967296 * r + n < q * v0) (hv : 0 < v1) :
    (u * 4294967296 + n) / (v1 * 4294967296 + v0) < q := by
  rw [Nat.div_lt_iff_lt_mul (by omega)]
  have e : q * (v1 * 4294967296 + v0) = (q * v1) * 4294967296 + q * v0 := by rw [Nat.mul_add, Nat.mul_assoc]
  rw [e]
  generalize q * v1 = p at *
  generalize q * v0 = s at *
  omega
theorem digit_big (v1 v0 u n : Nat) (hu : u < v1 * 4294967296 + v0) (hn : n < 4294967296) (hv : 0 < v1) :
    (u * 4294967296 + n) / (v1 * 4294967296 + v0) < 4294967296 := by
  rw [Nat.div_lt_iff_lt_mul (by omega)]
  omega
theorem guess_le (v1 v0 u : Nat) (hu : u < v1 * 4294967296 + v0) (h0 : v0 < 4294967296) (hv : 2147483648 ≤ v1) : u / v1 ≤ 4294967297 := by
  have : u / v1 < 4294967298 := by
    rw [Nat.div_lt_iff_lt_mul (by omega)]
    omega
  omega
theorem guess_ge (v1 v0 u n : Nat) (hn : n < 4294967296) (hv : 0 < v1) : (u * 4294967296 + n) / (v1 * 4294967296 + v0) ≤ u / v1 := by
  rw [Nat.le_div_iff_mul_le hv]
  have h := Nat.div_mul_le_self (u * 4294967296 + n) (v1 * 4294967296 + v0)
  generalize (u * 4294967296 + n) / (v1 * 4294967296 + v0) = q at *
  have e : q * (v1 * 4294967296 + v0) = (q * v1) * 4294967296 + q * v0 := by rw [Nat.mul_add, Nat.mul_assoc]
  rw [e] at h
  generalize q * v1 = p at *
  generalize q * v0 = s at *
  omega
theorem two_digits (V u n m q1 q0 : Nat) (hV : 0 < V) (h1 : q1 = (u * 4294967296 + n) / V) (h0 : q0 = ((u * 4294967296 + n - q1 * V) * 4294967296 + m) / V) (hm : m < 4294967296) :
    q1 * 4294967296 + q0 = (u * 18446744073709551616 + n * 4294967296 + m) / V ∧
    (u * 4294967296 + n - q1 * V) * 4294967296 + m - q0 * V = (u * 18446744073709551616 + n * 4294967296 + m) % V := by
  have hd1 : q1 * V ≤ u * 4294967296 + n := by rw [h1]; exact Nat.div_mul_le_self _ _
  have hd0 : q0 * V ≤ (u * 4294967296 + n - q1 * V) * 4294967296 + m := by rw [h0]; exact Nat.div_mul_le_self _ _
  have hl0 : (u * 4294967296 + n - q1 * V) * 4294967296 + m < q0 * V + V := by
    have := Nat.lt_div_mul_add hV (a := (u * 4294967296 + n - q1 * V) * 4294967296 + m)
    rw [← h0] at this
    exact this
  have e : (q1 * 4294967296 + q0) * V = (q1 * V) * 4294967296 + q0 * V := by rw [Nat.add_mul, Nat.mul_right_comm]
  have hN : u * 18446744073709551616 + n * 4294967296 + m = (q1 * 4294967296 + q0) * V + ((u * 4294967296 + n - q1 * V) * 4294967296 + m - q0 * V) := by
    rw [e]
    generalize q1 * V = p at *
    generalize q0 * V = s at *
    omega
  have hr : (u * 4294967296 + n - q1 * V) * 4294967296 + m - q0 * V < V := by
    generalize q1 * V = p at *
    generalize q0 * V = s at *
    omega
  constructor
  · rw [hN, Nat.mul_comm (q1 * 4294967296 + q0) V, Nat.mul_add_div hV, Nat.div_eq_of_lt hr, Nat.add_zero]
  · rw [hN, Nat.mul_comm (q1 * 4294967296 + q0) V, Nat.mul_add_mod, Nat.mod_eq_of_lt hr]
end Go.Proofs.DivLaw
namespace Go.Proofs.YtejgbdclhlolkaaGreatDoor.Q
open Go.RowKit Go.Proofs.YtejgbdclhlolkaaGreatDoorW.PrintWords Go.Proofs.YtejgbdclhlolkaaGreatDoorW.PrintLast Go.Proofs.YtejgbdclhlolkaaGreatDoorW.PrintMore Go.Proofs.DivLaw
set_option linter.unusedVariables false
set_option linter.unusedSimpArgs false
theorem u64w (x : Int) : IntKind.u64.wrap x = x % 18446744073709551616 := by simp [IntKind.wrap, IntKind.bits, IntKind.signed]
theorem u64i {x : Int} (h0 : 0 ≤ x) (h1 : x < 18446744073709551616) : IntKind.u64.wrap x = x := by rw [u64w]; omega
theorem u64n {n : Nat} (h1 : n < 18446744073709551616) : IntKind.u64.wrap (n : Int) = n := u64i (by omega) (by omega)
theorem w64i {i : Int} (h0 : -9223372036854775808 ≤ i) (h1 : i ≤ 9223372036854775807) : wrap64 i = i := by unfold wrap64; omega
theorem mul_bound {a b : Nat} (ha : a ≤ 4294967296) (hb : b < 4294967296) : a * b < 18446744073709551616 := by
  have : a * b ≤ 4294967296 * b := Nat.mul_le_mul_right _ ha
  omega
theorem rest_is (u n p y : Nat) (h : p ≤ u * 4294967296 + n) (hy : u * 4294967296 + n - p < 18446744073709551616) :
    IntKind.u64.wrap (IntKind.u64.wrap (IntKind.u64.wrap ((u : Int) * 4294967296) + (n : Int)) - IntKind.u64.wrap (p : Int)) = ((u * 4294967296 + n - p : Nat) : Int) := by
  rw [u64w, u64w, u64w, u64w]; omega
theorem div_l1 (V1 V0 R m s y q1 : Nat) (hy : y = V1 * 4294967296 + V0) (hV1 : 2147483648 ≤ V1) (hV1' : V1 < 4294967296) (hV0 : V0 < 4294967296) (hm : m < 4294967296) (hR : R < y) (hq1 : q1 < 4294967296) :
    ∀ q r : Nat, q * V1 + r = R → r < 4294967296 → (R * 4294967296 + m) / y ≤ q → q ≤ 4294967297 →
      Ev (fun k => bits_Div64.l1 k (y : Int) (s : Int) (V1 : Int) (V0 : Int) (m : Int) (q1 : Int) (r : Int) (R : Int) (q : Int))
        (((q1 * 4294967296 + (R * 4294967296 + m) / y : Nat) : Int), shr .u64 ((R * 4294967296 + m - (R * 4294967296 + m) / y * y : Nat) : Int) (s : Int)) := by
  intro q
  have hfin : ∀ g : Nat, g = (R * 4294967296 + m) / y → (if (0 : Int) ≤ (s : Int) then some (IntKind.u64.wrap ((IntKind.u64.wrap ((q1 : Int) * 4294967296)) + (g : Int)), shr .u64 (IntKind.u64.wrap ((IntKind.u64.wrap ((IntKind.u64.wrap ((R : Int) * 4294967296)) + (m : Int))) - (IntKind.u64.wrap ((g : Int) * (y : Int))))) (s : Int)) else none)
      = some (((q1 * 4294967296 + (R * 4294967296 + m) / y : Nat) : Int), shr .u64 ((R * 4294967296 + m - (R * 4294967296 + m) / y * y : Nat) : Int) (s : Int)) := by
    intro g hg
    have hle := Nat.div_mul_le_self (R * 4294967296 + m) y
    have hlt := Nat.lt_div_mul_add (a := R * 4294967296 + m) (b := y) (by omega)
    have hbig := digit_big V1 V0 R m (by omega) hm (by omega)
    rw [← hy] at hbig
    rw [← hg] at hle hlt hbig ⊢
    rw [if_pos (by omega), ← Int.natCast_mul, rest_is R m (g * y) y (by omega) (by omega), u64w, u64w]
    congr 2
    omega
  induction q with
  | zero =>
    intro r hq hr hge hle
    have hQ : 0 = (R * 4294967296 + m) / y := (Nat.le_zero.1 hge).symm
    refine Ev.step (f := fun k => bits_Div64.j4 k (y : Int) (s : Int) (V1 : Int) (V0 : Int) (m : Int) (q1 : Int) (r : Int) (R : Int) ((0 : Nat) : Int) false) (fun k => ?_) (Ev.step (f := fun _ => some _) (fun k => ?_) (Ev.now _))
    · simp only [bits_Div64.l1]
      rw [if_neg (by omega), u64w, u64w, u64w, decide_eq_false (by omega)]
    · simp only [bits_Div64.j4]
      rw [if_neg Bool.false_ne_true]
      exact hfin 0 hQ
  | succ q ih =>
    intro r hq hr hge hle
    by_cases ht : 4294967296 ≤ q + 1 ∨ 4294967296 * r + m < (q + 1) * V0
    · have hge' : (R * 4294967296 + m) / y ≤ q := by
        have : (R * 4294967296 + m) / y < q + 1 := by
          rcases ht with h | h
          · have := digit_big V1 V0 R m (by omega) hm (by omega)
            rw [← hy] at this; omega
          · have := digit_less V1 V0 R m (q + 1) r hq h (by omega)
            rw [← hy] at this; exact this
        omega
      rw [Nat.succ_mul] at hq
      refine Ev.step (f := fun k => bits_Div64.j4 k (y : Int) (s : Int) (V1 : Int) (V0 : Int) (m : Int) (q1 : Int) (r : Int) (R : Int) ((q + 1 : Nat) : Int) true) (fun k => ?_) ?_
      · simp only [bits_Div64.l1]
        by_cases h : 4294967296 ≤ q + 1
        · rw [if_pos (by omega)]
        · rw [if_neg (by omega)]
          have hb := mul_bound (a := q + 1) (b := V0) (by omega) hV0
          have h2 : 4294967296 * r + m < (q + 1) * V0 := by omega
          rw [← Int.natCast_mul, u64n hb, u64w, u64w, decide_eq_true (by omega)]
      · by_cases hbr : 4294967296 ≤ r + V1
        · have hQ : q = (R * 4294967296 + m) / y := by
            rw [hy] at hge' ⊢
            refine digit_is V1 V0 R m q (r + V1) (by omega) ?_ hge' (by omega)
            have := mul_bound (a := q) (b := V0) (by omega) hV0
            omega
          refine Ev.step (f := fun _ => some _) (fun k => ?_) (Ev.now _)
          simp only [bits_Div64.j4]
          rw [if_pos trivial, u64i (x := (r : Int) + (V1 : Int)) (by omega) (by omega), if_pos (by omega), u64i (x := ((q + 1 : Nat) : Int) - 1) (by omega) (by omega), show ((q + 1 : Nat) : Int) - 1 = (q : Int) by omega]
          exact hfin q hQ
        · refine Ev.step (f := fun k => bits_Div64.l1 k (y : Int) (s : Int) (V1 : Int) (V0 : Int) (m : Int) (q1 : Int) ((r + V1 : Nat) : Int) (R : Int) (q : Int)) (fun k => ?_) (ih (r + V1) (by omega) (by omega) hge' (by omega))
          simp only [bits_Div64.j4]
          rw [if_pos trivial, u64i (x := (r : Int) + (V1 : Int)) (by omega) (by omega), if_neg (by omega), u64i (x := ((q + 1 : Nat) : Int) - 1) (by omega) (by omega), show ((q + 1 : Nat) : Int) - 1 = (q : Int) by omega]
          rfl
    · have hQ : q + 1 = (R * 4294967296 + m) / y := by
        rw [hy] at hge ⊢
        exact digit_is V1 V0 R m (q + 1) r hq (by omega) hge (by omega)
      refine Ev.step (f := fun k => bits_Div64.j4 k (y : Int) (s : Int) (V1 : Int) (V0 : Int) (m : Int) (q1 : Int) (r : Int) (R : Int) ((q + 1 : Nat) : Int) false) (fun k => ?_) (Ev.step (f := fun _ => some _) (fun k => ?_) (Ev.now _))
      · simp only [bits_Div64.l1]
        have hb := mul_bound (a := q + 1) (b := V0) (by omega) hV0
        rw [if_neg (by omega), ← Int.natCast_mul, u64n hb, u64w, u64w, decide_eq_false (by omega)]
      · simp only [bits_Div64.j4]
        rw [if_neg Bool.false_ne_true]
        exact hfin (q + 1) hQ
theorem div_l0 {α : Type} (V1 V0 u n m s y : Nat) (hy : y = V1 * 4294967296 + V0) (hV1 : 2147483648 ≤ V1) (hV1' : V1 < 4294967296) (hV0 : V0 < 4294967296) (hn : n < 4294967296) (hu : u < y) (res : Int × Int)
    (hK : Ev (fun k => bits_Div64.j2 k (y : Int) (s : Int) (V1 : Int) (V0 : Int) (u : Int) (n : Int) (m : Int) (((u * 4294967296 + n) / y : Nat) : Int)) res) :
    ∀ q r : Nat, q * V1 + r = u → r < 4294967296 → (u * 4294967296 + n) / y ≤ q → q ≤ 4294967297 →
      Ev (fun k => bits_Div64.l0 k (y : Int) (s : Int) (V1 : Int) (V0 : Int) (u : Int) (n : Int) (m : Int) (q : Int) (r : Int)) res := by
  intro q
  induction q with
  | zero =>
    intro r hq hr hge hle
    have hQ : 0 = (u * 4294967296 + n) / y := (Nat.le_zero.1 hge).symm
    rw [← hQ] at hK
    refine Ev.step (f := fun k => bits_Div64.j1 k (y : Int) (s : Int) (V1 : Int) (V0 : Int) (u : Int) (n : Int) (m : Int) ((0 : Nat) : Int) (r : Int) false) (fun k => ?_) (Ev.step (fun k => ?_) hK)
    · simp only [bits_Div64.l0]
      rw [if_neg (by omega), u64w, u64w, u64w, decide_eq_false (by omega)]
    · simp only [bits_Div64.j1]
      rw [if_neg Bool.false_ne_true]
  | succ q ih =>
    intro r hq hr hge hle
    by_cases ht : 4294967296 ≤ q + 1 ∨ 4294967296 * r + n < (q + 1) * V0
    · have hge' : (u * 4294967296 + n) / y ≤ q := by
        have : (u * 4294967296 + n) / y < q + 1 := by
          rcases ht with h | h
          · have := digit_big V1 V0 u n (by omega) hn (by omega)
            rw [← hy] at this; omega
          · have := digit_less V1 V0 u n (q + 1) r hq h (by omega)
            rw [← hy] at this; exact this
        omega
      rw [Nat.succ_mul] at hq
      refine Ev.step (f := fun k => bits_Div64.j1 k (y : Int) (s : Int) (V1 : Int) (V0 : Int) (u : Int) (n : Int) (m : Int) ((q + 1 : Nat) : Int) (r : Int) true) (fun k => ?_) ?_
      · simp only [bits_Div64.l0]
        by_cases h : 4294967296 ≤ q + 1
        · rw [if_pos (by omega)]
        · rw [if_neg (by omega)]
          have hb := mul_bound (a := q + 1) (b := V0) (by omega) hV0
          have h2 : 4294967296 * r + n < (q + 1) * V0 := by omega
          rw [← Int.natCast_mul, u64n hb, u64w, u64w, decide_eq_true (by omega)]
      · by_cases hbr : 4294967296 ≤ r + V1
        · have hQ : q = (u * 4294967296 + n) / y := by
            rw [hy] at hge' ⊢
            refine digit_is V1 V0 u n q (r + V1) (by omega) ?_ hge' (by omega)
            have := mul_bound (a := q) (b := V0) (by omega) hV0
            omega
          rw [← hQ] at hK
          refine Ev.step (fun k => ?_) hK
          simp only [bits_Div64.j1]
          rw [if_pos trivial, u64i (x := (r : Int) + (V1 : Int)) (by omega) (by omega), if_pos (by omega), u64i (x := ((q + 1 : Nat) : Int) - 1) (by omega) (by omega), show ((q + 1 : Nat) : Int) - 1 = (q : Int) by omega]
        · refine Ev.step (f := fun k => bits_Div64.l0 k (y : Int) (s : Int) (V1 : Int) (V0 : Int) (u : Int) (n : Int) (m : Int) (q : Int) ((r + V1 : Nat) : Int)) (fun k => ?_) (ih (r + V1) (by omega) (by omega) hge' (by omega))
          simp only [bits_Div64.j1]
          rw [if_pos trivial, u64i (x := (r : Int) + (V1 : Int)) (by omega) (by omega), if_neg (by omega), u64i (x := ((q + 1 : Nat) : Int) - 1) (by omega) (by omega), show ((q + 1 : Nat) : Int) - 1 = (q : Int) by omega]
          rfl
    · have hQ : q + 1 = (u * 4294967296 + n) / y := by
        rw [hy] at hge ⊢
        exact digit_is V1 V0 u n (q + 1) r hq (by omega) hge (by omega)
      rw [← hQ] at hK
      refine Ev.step (f := fun k => bits_Div64.j1 k (y : Int) (s : Int) (V1 : Int) (V0 : Int) (u : Int) (n : Int) (m : Int) ((q + 1 : Nat) : Int) (r : Int) false) (fun k => ?_) (Ev.step (fun k => ?_) hK)
      · simp only [bits_Div64.l0]
        have hb := mul_bound (a := q + 1) (b := V0) (by omega) hV0
        rw [if_neg (by omega), ← Int.natCast_mul, u64n hb, u64w, u64w, decide_eq_false (by omega)]
      · simp only [bits_Div64.j1]
        rw [if_neg Bool.false_ne_true]
theorem div_j2 (V1 V0 u n m s y : Nat) (hy : y = V1 * 4294967296 + V0) (hV1 : 2147483648 ≤ V1) (hV1' : V1 < 4294967296) (hV0 : V0 < 4294967296) (hn : n < 4294967296) (hm : m < 4294967296) (hu : u < y) :
    Ev (fun k => bits_Div64.j2 k (y : Int) (s : Int) (V1 : Int) (V0 : Int) (u : Int) (n : Int) (m : Int) (((u * 4294967296 + n) / y : Nat) : Int))
      ((((u * 18446744073709551616 + n * 4294967296 + m) / y : Nat) : Int), shr .u64 (((u * 18446744073709551616 + n * 4294967296 + m) % y : Nat) : Int) (s : Int)) := by
  have hle := Nat.div_mul_le_self (u * 4294967296 + n) y
  have hlt := Nat.lt_div_mul_add (a := u * 4294967296 + n) (b := y) (by omega)
  have hbig := digit_big V1 V0 u n (by omega) hn (by omega)
  rw [← hy] at hbig
  have two := two_digits y u n m ((u * 4294967296 + n) / y) (((u * 4294967296 + n - (u * 4294967296 + n) / y * y) * 4294967296 + m) / y) (by omega) rfl rfl hm
  obtain ⟨q1, hq⟩ : ∃ q1, q1 = (u * 4294967296 + n) / y := ⟨_, rfl⟩
  rw [← hq] at hle hlt hbig two ⊢
  obtain ⟨R, hR⟩ : ∃ R, R = u * 4294967296 + n - q1 * y := ⟨_, rfl⟩
  rw [← hR] at two
  have hRy : R < y := by omega
  have hR1 : R / V1 * V1 + (R - R / V1 * V1) = R := by have := Nat.div_mul_le_self R V1; omega
  have hr : R - R / V1 * V1 < V1 := by have := Nat.lt_div_mul_add (a := R) (b := V1) (by omega); omega
  have hg := guess_ge V1 V0 R m hm (by omega)
  rw [← hy] at hg
  have hgl := guess_le V1 V0 R (by omega) hV0 hV1
  have key := div_l1 V1 V0 R m s y q1 hy hV1 hV1' hV0 hm hRy hbig (R / V1) (R - R / V1 * V1) hR1 (by omega) hg hgl
  rw [two.1, two.2] at key
  refine Ev.step (fun k => ?_) key
  simp only [bits_Div64.j2]
  have e1 : IntKind.u64.wrap (IntKind.u64.wrap (IntKind.u64.wrap ((u : Int) * 4294967296) + (n : Int)) - IntKind.u64.wrap ((q1 : Int) * (y : Int))) = (R : Int) := by
    rw [← Int.natCast_mul, rest_is u n (q1 * y) y hle (by omega), hR]
  rw [if_neg (by omega), e1, Int.tdiv_eq_ediv_of_nonneg (by omega), ← Int.natCast_ediv, u64n (n := R / V1) (by omega), ← Int.natCast_mul]
  have hle2 := Nat.div_mul_le_self R V1
  rw [u64n (n := R / V1 * V1) (by omega), u64i (by omega) (by omega), ← Int.natCast_sub hle2]
theorem and_mask (x : Nat) (h : x < 18446744073709551616) : Go.bits .and .u64 (x : Int) 4294967295 = ((x % 4294967296 : Nat) : Int) := by
  have h1 := (bits_nat .u64 64 (by decide) (fun n h0 h1 => by rw [u64w]; omega) x 4294967295 (by omega) (by decide)).1
  have e : x &&& 4294967295 = x % 4294967296 := Nat.and_two_pow_sub_one_eq_mod x 32
  rw [e] at h1
  exact h1
theorem or_join (a b s : Nat) (hb : b < 2 ^ s) (h : a * 2 ^ s + b < 18446744073709551616) : Go.bits .or .u64 ((a * 2 ^ s : Nat) : Int) (b : Int) = ((a * 2 ^ s + b : Nat) : Int) := by
  have h1 := (bits_nat .u64 64 (by decide) (fun n h0 h1 => by rw [u64w]; omega) (a * 2 ^ s) b (by omega) (by omega)).2
  have e : a * 2 ^ s ||| b = a * 2 ^ s + b := by rw [Nat.mul_comm, Nat.two_pow_add_eq_or_of_lt hb]
  rw [e] at h1
  exact h1
theorem shl_nat (x s : Nat) (hs : s ≤ 64) : shl .u64 (x : Int) (s : Int) = ((x * 2 ^ s % 18446744073709551616 : Nat) : Int) := by
  unfold shl
  have e : min (s : Int).toNat IntKind.u64.bits = s := by show min (s : Int).toNat 64 = s; omega
  rw [e, u64w]
  have e2 : (x : Int) * 2 ^ s = ((x * 2 ^ s : Nat) : Int) := by simp
  rw [e2]
  omega
theorem shr_nat (x s : Nat) (hs : s ≤ 64) : shr .u64 (x : Int) (s : Int) = ((x / 2 ^ s : Nat) : Int) := by
  unfold shr
  have e : min (s : Int).toNat IntKind.u64.bits = s := by show min (s : Int).toNat 64 = s; omega
  rw [e]
  have e2 : ((2 : Int) ^ s) = ((2 ^ s : Nat) : Int) := by simp
  rw [e2, ← Int.natCast_ediv]
theorem shift_sum (P T hi lo : Nat) (hPT : P * T = 18446744073709551616) (hT : 0 < T) :
    (hi * P + lo / T) * 18446744073709551616 + lo * P % 18446744073709551616 = P * (hi * 18446744073709551616 + lo) := by
  have e1 : lo * P % 18446744073709551616 = lo % T * P := by rw [← hPT, Nat.mul_comm P T, Nat.mul_mod_mul_right]
  have e2 := Nat.div_add_mod lo T
  rw [e1, ← hPT]
  generalize lo / T = a at *
  generalize lo % T = b at *
  rw [← e2]
  simp only [Nat.mul_add, Nat.add_mul]
  have : hi * P * (P * T) = P * (hi * (P * T)) := by rw [Nat.mul_comm hi P, Nat.mul_assoc]
  have : a * (P * T) = P * (T * a) := by rw [Nat.mul_comm a (P * T), Nat.mul_assoc]
  have : b * P = P * b := Nat.mul_comm b P
  omega
theorem pow_split (s : Nat) (hs : s ≤ 64) : 2 ^ s * 2 ^ (64 - s) = 18446744073709551616 := by
  rw [← Nat.pow_add, show s + (64 - s) = 64 by omega]
theorem div_ev (hi lo d : Nat) (hd : 0 < d) (hd64 : d < 18446744073709551616) (hhi : hi < d) (hlo : lo < 18446744073709551616) :
    Ev (fun k => bits_Div64.f k (hi : Int) (lo : Int) (d : Int)) ((((hi * 18446744073709551616 + lo) / d : Nat) : Int), (((hi * 18446744073709551616 + lo) % d : Nat) : Int)) := by
  by_cases h0 : hi = 0
  · subst h0
    refine Ev.congr (f := fun _ => some _) (fun k => ?_) (Ev.now _)
    unfold bits_Div64.f
    rw [if_neg (by omega), if_neg (by omega), if_pos (by omega), Int.tdiv_eq_ediv_of_nonneg (by omega), Int.tmod_eq_emod_of_nonneg (by omega), ← Int.natCast_ediv, ← Int.natCast_emod, u64n (Nat.lt_of_le_of_lt (Nat.div_le_self _ _) hlo)]
    simp
  · obtain ⟨hL1, hL2, hL3⟩ := Lib.bitLenAux_bounds 64 d (by omega) (by omega)
    have hL64 : Lib.bitLenAux 64 d ≤ 64 := by
      rcases Nat.lt_or_ge 64 (Lib.bitLenAux 64 d) with h | h
      · have := Nat.pow_le_pow_right (n := 2) (by decide) (show 64 ≤ Lib.bitLenAux 64 d - 1 by omega)
        omega
      · exact h
    have hLZ : bits_LeadingZeros64.f (d : Int) = some ((64 - Lib.bitLenAux 64 d : Nat) : Int) := by
      unfold bits_LeadingZeros64.f
      rw [if_pos ⟨by omega, by omega⟩]
      congr 1
      show (64 : Int) - (Lib.bitLenAux 64 (d : Int).toNat : Int) = _
      rw [Int.toNat_natCast]
      omega
    generalize Lib.bitLenAux 64 d = L at *
    obtain ⟨s, hs⟩ : ∃ s, s = 64 - L := ⟨_, rfl⟩
    rw [← hs] at hLZ
    have hs64 : s ≤ 63 := by omega
    have hPT := pow_split s (by omega)
    have hLs : 2 ^ (L - 1) * 2 ^ s = 9223372036854775808 := by rw [← Nat.pow_add, show L - 1 + s = 63 by omega]
    have hLs2 : 2 ^ L * 2 ^ s = 18446744073709551616 := by rw [← Nat.pow_add, show L + s = 64 by omega]
    have hy1 : 9223372036854775808 ≤ d * 2 ^ s := by rw [← hLs]; exact Nat.mul_le_mul_right _ hL2
    have hP : 0 < 2 ^ s := Nat.two_pow_pos s
    have hT : 0 < 2 ^ (64 - s) := Nat.two_pow_pos _
    have hy2 : d * 2 ^ s < 18446744073709551616 := by rw [← hLs2]; exact Nat.mul_lt_mul_of_pos_right hL3 hP
    have hloT : lo / 2 ^ (64 - s) < 2 ^ s := by rw [Nat.div_lt_iff_lt_mul hT, hPT]; exact hlo
    have hhy : hi * 2 ^ s + 2 ^ s ≤ d * 2 ^ s := by rw [← Nat.succ_mul]; exact Nat.mul_le_mul_right _ hhi
    have hsum := shift_sum (2 ^ s) (2 ^ (64 - s)) hi lo hPT hT
    have hor := or_join hi (lo / 2 ^ (64 - s)) s hloT (by omega)
    have hshl1 := shl_nat d s (by omega)
    have hshl2 := shl_nat hi s (by omega)
    have hshl3 := shl_nat lo s (by omega)
    have hshr1 := shr_nat lo (64 - s) (by omega)
    rw [Nat.mod_eq_of_lt hy2] at hshl1
    rw [Nat.mod_eq_of_lt (by omega)] at hshl2
    have hquo : (2 ^ s * (hi * 18446744073709551616 + lo)) / (d * 2 ^ s) = (hi * 18446744073709551616 + lo) / d := by rw [Nat.mul_comm d, Nat.mul_div_mul_left _ _ hP]
    have hrem : (2 ^ s * (hi * 18446744073709551616 + lo)) % (d * 2 ^ s) / 2 ^ s = (hi * 18446744073709551616 + lo) % d := by rw [Nat.mul_comm d, Nat.mul_mod_mul_left, Nat.mul_div_cancel_left _ hP]
    have hx : lo * 2 ^ s % 18446744073709551616 < 18446744073709551616 := Nat.mod_lt _ (by decide)
    obtain ⟨N, hN⟩ : ∃ N, N = hi * 18446744073709551616 + lo := ⟨_, rfl⟩
    obtain ⟨x, hxx⟩ : ∃ x, x = lo * 2 ^ s % 18446744073709551616 := ⟨_, rfl⟩
    obtain ⟨y, hyy⟩ : ∃ y, y = d * 2 ^ s := ⟨_, rfl⟩
    obtain ⟨u, huu⟩ : ∃ u, u = hi * 2 ^ s + lo / 2 ^ (64 - s) := ⟨_, rfl⟩
    rw [← hN] at hsum hquo hrem ⊢
    rw [← hxx] at hsum hshl3 hx
    rw [← hyy] at hy1 hy2 hhy hshl1 hquo hrem
    rw [← huu] at hsum hor
    have hu : u < y := by omega
    have hV1 : 2147483648 ≤ y / 4294967296 := by omega
    have hj := div_j2 (y / 4294967296) (y % 4294967296) u (x / 4294967296) (x % 4294967296) s y (Nat.div_add_mod' y 4294967296).symm hV1 (by omega) (by omega) (by omega) (by omega) hu
    rw [show u * 18446744073709551616 + x / 4294967296 * 4294967296 + x % 4294967296 = 2 ^ s * N by rw [Nat.add_assoc, Nat.div_add_mod' x 4294967296]; exact hsum, shr_nat _ s (by omega), hquo, hrem] at hj
    have hr1 : u / (y / 4294967296) * (y / 4294967296) + (u - u / (y / 4294967296) * (y / 4294967296)) = u := by have := Nat.div_mul_le_self u (y / 4294967296); omega
    have hr2 : u - u / (y / 4294967296) * (y / 4294967296) < y / 4294967296 := by have := Nat.lt_div_mul_add (a := u) (b := y / 4294967296) (by omega); omega
    have hg := guess_ge (y / 4294967296) (y % 4294967296) u (x / 4294967296) (by omega) (by omega)
    rw [Nat.div_add_mod' y 4294967296] at hg
    have hgl := guess_le (y / 4294967296) (y % 4294967296) u (by omega) (by omega) hV1
    have key := div_l0 (α := Unit) (y / 4294967296) (y % 4294967296) u (x / 4294967296) (x % 4294967296) s y (Nat.div_add_mod' y 4294967296).symm hV1 (by omega) (by omega) (by omega) hu _ hj (u / (y / 4294967296)) (u - u / (y / 4294967296) * (y / 4294967296)) hr1 (by omega) hg hgl
    refine Ev.congr (fun k => ?_) key
    unfold bits_Div64.f
    rw [if_neg (by omega), if_neg (by omega), if_neg (by omega), hLZ]
    simp only [Option.bind_some]
    have ey : ((y : Nat) : Int) / 4294967296 = ((y / 4294967296 : Nat) : Int) := by omega
    have ex : ((x : Nat) : Int) / 4294967296 = ((x / 4294967296 : Nat) : Int) := by omega
    rw [u64n (n := s) (by omega), show (64 : Int) - (s : Int) = ((64 - s : Nat) : Int) by omega, u64n (n := 64 - s) (by omega), hshl1, hshl2, hshl3, hshr1, hor, ey, ex, if_pos (by omega), if_pos (by omega), if_neg (by omega), and_mask y (by omega), and_mask x (by omega), Int.tdiv_eq_ediv_of_nonneg (by omega), ← Int.natCast_ediv, u64n (n := u / (y / 4294967296)) (by omega), ← Int.natCast_mul, u64n (n := u / (y / 4294967296) * (y / 4294967296)) (by omega), ← Int.natCast_sub (by omega), u64n (by omega)]
def ceilP (N d : Nat) : Int × Int := if (N + d - 1) / d ≤ 9223372036854775807 then ((((N + d - 1) / d : Nat) : Int), 0) else (0, 7)
theorem ceil_eq (N d : Nat) (hd : 0 < d) : (N + d - 1) / d = if 0 < N % d then N / d + 1 else N / d := by
  have h := Nat.div_add_mod N d
  have hm := Nat.mod_lt N hd
  generalize N / d = q at *
  generalize N % d = r at *
  subst h
  split
  · rw [show d * q + r + d - 1 = (r - 1) + d * (q + 1) by rw [Nat.mul_succ]; omega, Nat.add_mul_div_left _ _ hd, Nat.div_eq_of_lt (by omega)]; omega
  · rw [show d * q + r + d - 1 = (d - 1) + d * q by omega, Nat.add_mul_div_left _ _ hd, Nat.div_eq_of_lt (by omega)]; omega
theorem over_ev (hi lo d : Nat) (hd : 0 < d) (hd64 : d < 18446744073709551616) (hhi : hi < 18446744073709551616) (hlo : lo < 18446744073709551616) :
    Ev (fun k => quant_over.f k (hi : Int) (lo : Int) (d : Int)) (ceilP (hi * 18446744073709551616 + lo) d) := by
  by_cases h : d ≤ hi
  · have hbig : 18446744073709551616 ≤ (hi * 18446744073709551616 + lo + d - 1) / d := by
      rw [Nat.le_div_iff_mul_le hd]
      have : 18446744073709551616 * d ≤ 18446744073709551616 * hi := Nat.mul_le_mul_left _ h
      omega
    refine Ev.congr (f := fun _ => some _) (fun k => ?_) (Ev.now _)
    unfold quant_over.f ceilP
    rw [if_pos (by omega), if_neg (by omega)]
  · refine Ev.congr (fun k => by unfold quant_over.f; rw [if_neg (by omega)]) (Ev.bind (div_ev hi lo d hd hd64 (by omega) hlo) (Ev.congr (f := fun _ => some _) (fun k => ?_) (Ev.now _)))
    unfold ceilP
    rw [ceil_eq _ _ hd]
    have hq : (hi * 18446744073709551616 + lo) / d < 18446744073709551616 := by
      rw [Nat.div_lt_iff_lt_mul hd]
      have : 18446744073709551616 * (hi + 1) ≤ 18446744073709551616 * d := Nat.mul_le_mul_left _ (by omega)
      omega
    obtain ⟨q, hqq⟩ : ∃ q, q = (hi * 18446744073709551616 + lo) / d := ⟨_, rfl⟩
    obtain ⟨r, hrr⟩ : ∃ r, r = (hi * 18446744073709551616 + lo) % d := ⟨_, rfl⟩
    rw [← hqq] at hq
    rw [← hqq, ← hrr]
    clear hqq hrr
    simp only
    by_cases hr : 0 < r
    · rw [if_pos (by omega), if_pos hr]
      by_cases hz : q + 1 = 18446744073709551616
      · rw [show (q : Int) + 1 = 18446744073709551616 by omega, if_pos (by rw [u64w]; rfl), if_neg (by omega)]
      · rw [u64i (x := (q : Int) + 1) (by omega) (by omega), if_neg (by omega)]
        by_cases hb : q + 1 ≤ 9223372036854775807
        · rw [if_neg (by omega), if_pos hb, w64i (by omega) (by omega)]
          rfl
        · rw [if_pos (by omega), if_neg hb]
    · rw [if_neg (by omega), if_neg hr]
      by_cases hb : q ≤ 9223372036854775807
      · rw [if_neg (by omega), if_pos hb, w64i (by omega) (by omega)]
      · rw [if_pos (by omega), if_neg hb]
def scaleP (a b d : Int) : Int × Int := if a < 0 ∨ b < 0 ∨ d < 1 then (0, 1) else ceilP (a.toNat * b.toNat) d.toNat
theorem scale_ev (a b d : Int) (ha : a ≤ 9223372036854775807) (hb : b ≤ 9223372036854775807) (hd : d ≤ 9223372036854775807) : Ev (fun k => quant_Scale.f k a b d) (scaleP a b d) := by
  unfold scaleP
  by_cases h : a < 0 ∨ b < 0 ∨ d < 1
  · rw [if_pos h]
    refine Ev.congr (f := fun k => quant_Scale.j0 k a b d true) (fun k => ?_) (Ev.step (f := fun _ => some _) (fun k => ?_) (Ev.now _))
    · unfold quant_Scale.f
      by_cases h1 : a < 0
      · rw [if_pos h1]
      · rw [if_neg h1]
        by_cases h2 : b < 0
        · rw [if_pos h2]
        · rw [if_neg h2, decide_eq_true (by omega)]
    · simp only [quant_Scale.j0]
      rw [if_pos trivial]
  · rw [if_neg h]
    obtain ⟨x, rfl⟩ : ∃ x : Nat, a = x := ⟨a.toNat, by omega⟩
    obtain ⟨y, rfl⟩ : ∃ y : Nat, b = y := ⟨b.toNat, by omega⟩
    obtain ⟨z, rfl⟩ : ∃ z : Nat, d = z := ⟨d.toNat, by omega⟩
    simp only [Int.toNat_natCast]
    have hxy : x * y < 18446744073709551616 * 18446744073709551616 := Nat.lt_of_le_of_lt (Nat.mul_le_mul_left x (show y ≤ 18446744073709551616 by omega)) (Nat.mul_lt_mul_of_pos_right (by omega) (by decide))
    have hov := over_ev (x * y / 18446744073709551616) (x * y % 18446744073709551616) z (by omega) (by omega) (by omega) (by omega)
    rw [show x * y / 18446744073709551616 * 18446744073709551616 + x * y % 18446744073709551616 = x * y by omega] at hov
    refine Ev.congr (f := fun k => quant_Scale.j0 k (x : Int) (y : Int) (z : Int) false) (fun k => ?_) (Ev.step (f := fun k => (quant_over.f k ((x * y / 18446744073709551616 : Nat) : Int) ((x * y % 18446744073709551616 : Nat) : Int) (z : Int)).bind fun bt => some (bt.1, bt.2)) (fun k => ?_) (Ev.bind hov (Ev.now _)))
    · unfold quant_Scale.f
      rw [if_neg (by omega), if_neg (by omega), decide_eq_false (by omega)]
    · simp only [quant_Scale.j0]
      rw [if_neg Bool.false_ne_true, u64n (n := x) (by omega), u64n (n := y) (by omega), u64n (n := z) (by omega)]
      have hm : bits_Mul64.f (x : Int) (y : Int) = some (((x * y / 18446744073709551616 : Nat) : Int), ((x * y % 18446744073709551616 : Nat) : Int)) := by
        unfold bits_Mul64.f
        rw [if_pos ⟨by omega, by omega, by omega, by omega⟩, ← Int.natCast_mul]
        rfl
      rw [hm]
      rfl
end Go.Proofs.YtejgbdclhlolkaaGreatDoor.Q
namespace Go.Proofs.YtejgbdclhlolkaaGreatDoor.Q
open Go.RowKit Go.Proofs.YtejgbdclhlolkaaGreatDoorW.PrintWords Go.Proofs.YtejgbdclhlolkaaGreatDoorW.PrintLast Go.Proofs.YtejgbdclhlolkaaGreatDoorW.PrintMore
attribute [local go_sem] max2_int min2_int max_two min_two max_three min_three max_four min_four   -- for this text's walks alone
set_option linter.unusedVariables false
set_option linter.unusedSimpArgs false
def bursarref03_power.l0 : Nat → Int → Int → Int → List Int → Option (List Int)
  | 0, _, _, _, _ => none
  | k + 1, x0, x1, x6, x160000 => if x6 < x1 then ((bursarref03_long.f k x0).bind fun t160 => ((bursarref03_Long_times.f k x160000 t160).bind fun t163 => (bursarref03_power.l0 k x0 x1 (wrap64 (x6 + 1)) t163))) else (some x160000)
def bursarref03_power.f (k : Nat) (a0 : Int) (a1 : Int) : Option (List Int) := (bursarref03_long.f k 1).bind fun t156 => (bursarref03_power.l0 k a0 a1 0 t156)
theorem bursarref03_power.mono_l : ∀ k, (∀ y0 y1 y2 y3, LeO (bursarref03_power.l0 k y0 y1 y2 y3) (bursarref03_power.l0 (k + 1) y0 y1 y2 y3))
  | 0 => fun _ _ _ _ r h => by simp [bursarref03_power.l0] at h
  | k + 1 => by
    have ih0 := bursarref03_power.mono_l k
    · intro y0 y1 y2 y3
      unfold bursarref03_power.l0
      repeat' first
      | (with_reducible exact ih0 _ _ _ _)
      | (with_reducible exact bursarref03_Long_times.mono _ _ _)
      | (with_reducible exact bursarref03_long.mono _ _)
      | (with_reducible exact LeO.refl _)
      | (with_reducible exact LeO.none _)
      | (with_reducible refine LeO.ite ?_ ?_)
      | (with_reducible refine LeO.bind ?_ (fun _ => ?_))
      | exact ih0 _ _ _ _
      | exact bursarref03_Long_times.mono _ _ _
      | exact bursarref03_long.mono _ _
      | exact LeO.none _
      | refine LeO.ite ?_ ?_
      | refine LeO.bind ?_ (fun _ => ?_)
theorem bursarref03_power.mono : ∀ a0 a1 k, LeO (bursarref03_power.f k a0 a1) (bursarref03_power.f (k + 1) a0 a1) := by
  intro a0 a1 k
  have ih0 := bursarref03_power.mono_l k
  unfold bursarref03_power.f
  repeat' first
      | (with_reducible exact ih0 _ _ _ _)
      | (with_reducible exact bursarref03_Long_times.mono _ _ _)
      | (with_reducible exact bursarref03_long.mono _ _)
      | (with_reducible exact LeO.refl _)
      | (with_reducible exact LeO.none _)
      | (with_reducible refine LeO.ite ?_ ?_)
      | (with_reducible refine LeO.bind ?_ (fun _ => ?_))
      | exact ih0 _ _ _ _
      | exact bursarref03_Long_times.mono _ _ _
      | exact bursarref03_long.mono _ _
      | exact LeO.none _
      | refine LeO.ite ?_ ?_
      | refine LeO.bind ?_ (fun _ => ?_)
end Go.Proofs.YtejgbdclhlolkaaGreatDoor.Q
namespace Go.Proofs.LongLaw
def dval : List Int → Int
  | [] => 0
  | d :: r => d + 10 * dval r
def Digits (l : List Int) : Prop := ∀ x ∈ l, 0 ≤ x ∧ x ≤ 9
def longL (n : Nat) : List Int := if h : n = 0 then [] else ((n % 10 : Nat) : Int) :: longL (n / 10)
termination_by n
decreasing_by omega
theorem longL_zero : longL 0 = [] := by unfold longL; simp
theorem longL_pos (n : Nat) (h : n ≠ 0) : longL n = ((n % 10 : Nat) : Int) :: longL (n / 10) := by rw [longL]; simp [h]
theorem dval_nonneg {l : List Int} (h : Digits l) : 0 ≤ dval l := by
  induction l with
  | nil => simp [dval]
  | cons d r ih =>
    have h1 := h d (by simp)
    have h2 := ih (fun x hx => h x (by simp [hx]))
    simp only [dval]; omega
theorem longL_digits (n : Nat) : Digits (longL n) := by
  induction n using Nat.strongRecOn with
  | _ n ih =>
    by_cases h : n = 0
    · subst h; rw [longL_zero]; intro x hx; cases hx
    · rw [longL_pos n h]
      intro x hx
      rcases List.mem_cons.1 hx with rfl | hx
      · omega
      · exact ih (n / 10) (by omega) x hx
theorem dval_longL (n : Nat) : dval (longL n) = n := by
  induction n using Nat.strongRecOn with
  | _ n ih =>
    by_cases h : n = 0
    · subst h; rw [longL_zero]; rfl
    · rw [longL_pos n h]
      simp only [dval]
      rw [ih (n / 10) (by omega)]
      omega
theorem dval_app (a b : List Int) : dval (a ++ b) = dval a + 10 ^ a.length * dval b := by
  induction a with
  | nil => simp [dval]
  | cons x a ih =>
    simp only [List.cons_append, dval, ih, List.length_cons, Int.pow_succ]
    rw [Int.mul_add, ← Int.mul_assoc, Int.mul_comm 10 (10 ^ a.length)]
    omega
theorem dval_lt {l : List Int} (h : Digits l) : dval l < 10 ^ l.length := by
  induction l with
  | nil => simp [dval]
  | cons d r ih =>
    have h1 := h d (by simp)
    have h2 := ih (fun x hx => h x (by simp [hx]))
    simp only [dval, List.length_cons, Int.pow_succ]
    omega
theorem longL_length_lt (n : Nat) : n < 10 ^ (longL n).length := by
  have := dval_lt (longL_digits n)
  rw [dval_longL] at this
  have e : ((10 : Int) ^ (longL n).length) = ((10 ^ (longL n).length : Nat) : Int) := by simp
  rw [e] at this
  omega
theorem longL_length_ge (n : Nat) (h : n ≠ 0) : 10 ^ ((longL n).length - 1) ≤ n := by
  induction n using Nat.strongRecOn with
  | _ n ih =>
    rw [longL_pos n h, List.length_cons, Nat.add_sub_cancel]
    by_cases h2 : n / 10 = 0
    · rw [h2, longL_zero]; simp; omega
    · have := ih (n / 10) (by omega) h2
      have e : (longL (n / 10)).length = ((longL (n / 10)).length - 1) + 1 := by rw [longL_pos _ h2]; simp
      rw [e, Nat.pow_succ]
      omega
theorem longL_length_mono {a b : Nat} (h : (longL a).length < (longL b).length) : a < b := by
  have h1 := longL_length_lt a
  have hb : b ≠ 0 := fun e => by rw [e, longL_zero] at h; simp at h
  have h2 := longL_length_ge b hb
  have h3 : 10 ^ (longL a).length ≤ 10 ^ ((longL b).length - 1) := Nat.pow_le_pow_right (by omega) (by omega)
  omega
theorem dval_take_succ (l : List Int) : ∀ i : Nat, dval (l.take (i + 1)) = dval (l.take i) + 10 ^ i * l.getD i 0 := by
  induction l with
  | nil => intro i; simp [dval]
  | cons d r ih =>
    intro i
    cases i with
    | zero => simp [dval]
    | succ i =>
      simp only [List.take_succ_cons, dval, List.getD_cons_succ]
      rw [ih i, Int.pow_succ, Int.mul_add, ← Int.mul_assoc, Int.mul_comm 10 (10 ^ i)]
      omega
theorem dval_drop_cons (l : List Int) (i : Nat) (h : i < l.length) : dval (l.drop i) = l.getD i 0 + 10 * dval (l.drop (i + 1)) := by
  rw [List.drop_eq_getElem_cons h]
  simp [dval, List.getD_eq_getElem?_getD, List.getElem?_eq_getElem h]
theorem dval_set (l : List Int) (x : Int) : ∀ i : Nat, i < l.length → dval (l.set i x) = dval l + 10 ^ i * (x - l.getD i 0) := by
  induction l with
  | nil => intro i h; simp at h
  | cons d r ih =>
    intro i h
    cases i with
    | zero => simp [dval]; omega
    | succ i =>
      simp only [List.set_cons_succ, dval, List.getD_cons_succ]
      rw [ih i (by simpa using h), Int.pow_succ, Int.mul_add, ← Int.mul_assoc, Int.mul_comm 10 (10 ^ i)]
      omega
theorem digits_snoc {l : List Int} {x : Int} (h : Digits l) (h0 : 0 ≤ x) (h1 : x ≤ 9) : Digits (l ++ [x]) := by
  intro y hy
  rcases List.mem_append.1 hy with hy | hy
  · exact h y hy
  · simp at hy; omega
theorem digits_set {l : List Int} {x : Int} (h : Digits l) (i : Nat) (h0 : 0 ≤ x) (h1 : x ≤ 9) : Digits (l.set i x) := by
  intro y hy
  rcases List.mem_or_eq_of_mem_set hy with hy | hy
  · exact h y hy
  · omega
theorem dval_snoc (l : List Int) (x : Int) : dval (l ++ [x]) = dval l + 10 ^ l.length * x := by rw [dval_app]; simp [dval]
theorem digits_get {l : List Int} (h : Digits l) (i : Nat) : 0 ≤ l.getD i 0 ∧ l.getD i 0 ≤ 9 := by
  by_cases hi : i < l.length
  · rw [List.getD_eq_getElem?_getD, List.getElem?_eq_getElem hi]
    exact h _ (List.getElem_mem hi)
  · rw [List.getD_eq_getElem?_getD, List.getElem?_eq_none (by omega)]
    simp
end Go.Proofs.LongLaw
namespace Go.Proofs.YtejgbdclhlolkaaGreatDoor.Q
open Go.RowKit Go.Proofs.YtejgbdclhlolkaaGreatDoorW.PrintWords Go.Proofs.YtejgbdclhlolkaaGreatDoorW.PrintLast Go.Proofs.LongLaw
set_option linter.unusedVariables false
set_option linter.unusedSimpArgs false
theorem w64_in {i : Int} (h0 : -9223372036854775808 ≤ i) (h1 : i ≤ 9223372036854775807) : wrap64 i = i := by unfold wrap64; omega
theorem rd_nat (l : List Int) (i : Nat) : rd l (i : Int) = l.getD i 0 := by
  first | rfl | simp [rd, rdOf]
theorem at_is (l : List Int) (i : Nat) : bursarref03_Long_at.f l (i : Int) = some (l.getD i 0) := by
  unfold bursarref03_Long_at.f
  by_cases h : i < l.length
  · rw [if_pos (by omega), if_pos (by omega), rd_nat]
  · rw [if_neg (by omega), List.getD_eq_getElem?_getD, List.getElem?_eq_none (by omega)]
    rfl
theorem long_l0 (n : Nat) : ∀ acc : List Int, n ≤ 9223372036854775807 → acc.length + (longL n).length < 17592186044416 → Ev (fun k => bursarref03_long.l0 k (n : Int) acc) (acc ++ longL n) := by
  induction n using Nat.strongRecOn with
  | _ n ih =>
    intro acc hn hl
    by_cases h : n = 0
    · subst h
      rw [longL_zero, List.append_nil]
      exact Ev.step (f := fun _ => some acc) (fun k => by simp only [bursarref03_long.l0]; rw [if_neg (by omega)]) (Ev.now _)
    · rw [longL_pos n h, List.length_cons] at hl
      rw [longL_pos n h]
      refine Ev.step (f := fun k => bursarref03_long.l0 k ((n / 10 : Nat) : Int) (acc ++ [((n % 10 : Nat) : Int)])) (fun k => ?_) ?_
      · simp only [bursarref03_long.l0]
        rw [if_pos (by omega), if_pos (by omega), Int.tdiv_eq_ediv_of_nonneg (by omega), Int.tmod_eq_emod_of_nonneg (by omega), w64_in (by omega) (by omega)]
        rfl
      · have := ih (n / 10) (by omega) (acc ++ [((n % 10 : Nat) : Int)]) (by omega) (by simp; omega)
        rw [List.append_assoc] at this
        exact this
theorem longL_le (m : Nat) : ∀ n, n < 10 ^ m → (longL n).length ≤ m := by
  induction m with
  | zero => intro n h; obtain rfl : n = 0 := by omega
            rw [longL_zero]; exact Nat.le_refl _
  | succ m ih =>
    intro n h
    by_cases h0 : n = 0
    · subst h0; rw [longL_zero]; exact Nat.zero_le _
    · rw [longL_pos n h0, List.length_cons]
      have := ih (n / 10) (by rw [Nat.pow_succ] at h; omega)
      omega
theorem long_ev (n : Nat) (h : n ≤ 9223372036854775807) : Ev (fun k => bursarref03_long.f k (n : Int)) (longL n) := by
  have := long_l0 n [] h (by have := longL_le 19 n (by omega); simp; omega)
  simpa [bursarref03_long.f] using this
theorem take_zero_cut (l : List Int) (i : Nat) (hd : Digits l) (hi : i < l.length) (h0 : l.getD i 0 = 0) : dval (l.take (i + 1)) = dval (l.take i) := by
  rw [dval_take_succ, h0]; simp
theorem digits_take {l : List Int} (h : Digits l) (i : Nat) : Digits (l.take i) := fun x hx => h x (List.mem_of_mem_take hx)
theorem digits_drop {l : List Int} (h : Digits l) (i : Nat) : Digits (l.drop i) := fun x hx => h x (List.mem_of_mem_drop hx)
theorem longL_dval : ∀ {l : List Int}, Digits l → (l = [] ∨ l.getD (l.length - 1) 0 ≠ 0) → longL (dval l).toNat = l
  | [], _, _ => by simp [dval, longL_zero]
  | d :: r, h, ht => by
    have h1 := h d (by simp)
    have hr : Digits r := fun x hx => h x (by simp [hx])
    have h3 := dval_nonneg hr
    simp only [dval]
    rcases ht with ht | ht
    · cases ht
    · cases r with
      | nil =>
        simp at ht
        have e : (d + 10 * dval []).toNat = d.toNat := by simp [dval]
        rw [e, longL_pos _ (by omega), show d.toNat / 10 = 0 by omega, longL_zero]
        congr 1
        omega
      | cons x s =>
        have ih := longL_dval hr (.inr (by simpa using ht))
        have hne : dval (x :: s) ≠ 0 := by
          intro e
          rw [e] at ih
          simp [longL_zero] at ih
        rw [longL_pos _ (by omega)]
        have e1 : (d + 10 * dval (x :: s)).toNat / 10 = (dval (x :: s)).toNat := by omega
        have e2 : (((d + 10 * dval (x :: s)).toNat % 10 : Nat) : Int) = d := by omega
        rw [e1, e2, ih]
theorem cut_l0 (l : List Int) (hd : Digits l) (hl : l.length < 4611686018427387904) : ∀ i : Nat, i ≤ l.length → Ev (fun k => bursarref03_cut.l0 k l (i : Int)) (longL (dval (l.take i)).toNat) := by
  intro i
  induction i with
  | zero =>
    intro _
    have e : longL (dval (l.take 0)).toNat = [] := by simp [dval, longL_zero]
    rw [e]
    exact Ev.step (f := fun _ => some []) (fun k => by simp only [bursarref03_cut.l0]; rw [if_neg (by omega), if_pos (by omega), if_pos (by omega)]; simp) (Ev.now _)
  | succ i ih =>
    intro hi
    have hw : wrap64 (((i + 1 : Nat) : Int) - 1) = (i : Int) := by rw [w64_in (by omega) (by omega)]; omega
    by_cases h0 : l.getD i 0 = 0
    · rw [take_zero_cut l i hd (by omega) h0]
      refine Ev.step (f := fun k => bursarref03_cut.l0 k l (i : Int)) (fun k => ?_) (ih (by omega))
      simp only [bursarref03_cut.l0]
      rw [hw, if_pos (by omega), if_pos (by omega), if_pos (by omega), rd_nat, if_pos h0]
    · have e : longL (dval (l.take (i + 1))).toNat = l.take (i + 1) := by
        refine longL_dval (digits_take hd _) (.inr ?_)
        rw [List.length_take, show min (i + 1) l.length = i + 1 by omega, Nat.add_sub_cancel]
        rw [List.getD_eq_getElem?_getD, List.getElem?_take_of_lt (by omega), ← List.getD_eq_getElem?_getD]
        exact h0
      rw [e]
      refine Ev.step (f := fun _ => some (l.take (i + 1))) (fun k => ?_) (Ev.now _)
      simp only [bursarref03_cut.l0]
      rw [hw, if_pos (by omega), if_pos (by omega), if_pos (by omega), rd_nat, if_neg h0, if_pos (by omega), if_pos (by omega)]
      rfl
theorem cut_ev (l : List Int) (hd : Digits l) (hl : l.length < 4611686018427387904) : Ev (fun k => bursarref03_cut.f k l) (longL (dval l).toNat) := by
  have := cut_l0 l hd hl l.length (Nat.le_refl _)
  rw [List.take_length] at this
  exact this
theorem dval_drop_getD (l : List Int) (i : Nat) : dval (l.drop i) = l.getD i 0 + 10 * dval (l.drop (i + 1)) := by
  by_cases h : i < l.length
  · exact dval_drop_cons l i h
  · rw [List.drop_eq_nil_of_le (by omega), List.drop_eq_nil_of_le (by omega), List.getD_eq_getElem?_getD, List.getElem?_eq_none (by omega)]
    simp [dval]
theorem getD_out (l : List Int) (i : Nat) (h : l.length ≤ i) : l.getD i 0 = 0 := by rw [List.getD_eq_getElem?_getD, List.getElem?_eq_none h]; rfl
theorem plus_step (A P c a A' b B' s : Int) (hs : s = c + a + b) : A + P * (s % 10) + P * 10 * (s / 10 + A' + B') = A + P * (c + (a + 10 * A') + (b + 10 * B')) := by
  have h : s = 10 * (s / 10) + s % 10 := by omega
  generalize s / 10 = q at *
  generalize s % 10 = r at *
  grind
theorem plus_l0 (a b : List Int) (ha : Digits a) (hb : Digits b) (hla : a.length < 1000000) (hlb : b.length < 1000000) (m : Nat) (hm : m = max a.length b.length) :
    ∀ (d i : Nat) (acc : List Int) (c : Int), Digits acc → acc.length = i → 0 ≤ c → c ≤ 1 → (c = 0 ∨ i ≤ m) → i + d = m + 1 →
      Ev (fun k => bursarref03_Long_plus.l0 k acc c (i : Int) a b) (longL (dval acc + 10 ^ i * (c + dval (a.drop i) + dval (b.drop i))).toNat) := by
  intro d
  induction d with
  | zero =>
    intro i acc c hA hi h0 h1 hc hd
    have hc0 : c = 0 := by omega
    subst hc0
    refine Ev.step (f := fun k => bursarref03_Long_plus.j1 k acc 0 (i : Int) false a b) (fun k => ?_) ?_
    · simp only [bursarref03_Long_plus.l0]
      rw [if_neg (by omega), if_neg (by omega)]
      rfl
    · have e : longL (dval acc + 10 ^ i * (0 + dval (a.drop i) + dval (b.drop i))).toNat = longL (dval acc).toNat := by
        rw [List.drop_eq_nil_of_le (by omega), List.drop_eq_nil_of_le (by omega)]
        simp [dval]
      rw [e]
      refine Ev.step (f := fun k => (bursarref03_cut.f k acc).bind fun t => some t) (fun k => ?_) (Ev.bind (cut_ev acc hA (by omega)) (Ev.now _))
      simp only [bursarref03_Long_plus.j1]
      rfl
  | succ d ih =>
    intro i acc c hA hi h0 h1 hc hd
    by_cases hgo : i < a.length ∨ i < b.length ∨ 0 < c
    · have ga := digits_get ha i
      have gb := digits_get hb i
      have za := getD_out a i
      have zb := getD_out b i
      have key := ih (i + 1) (acc ++ [(c + a.getD i 0 + b.getD i 0) % 10]) ((c + a.getD i 0 + b.getD i 0) / 10) (digits_snoc hA (by omega) (by omega)) (by simp [hi]) (by omega) (by omega) (by omega) (by omega)
      have e : dval (acc ++ [(c + a.getD i 0 + b.getD i 0) % 10]) + 10 ^ (i + 1) * ((c + a.getD i 0 + b.getD i 0) / 10 + dval (a.drop (i + 1)) + dval (b.drop (i + 1))) = dval acc + 10 ^ i * (c + dval (a.drop i) + dval (b.drop i)) := by
        rw [dval_snoc, hi, dval_drop_getD a i, dval_drop_getD b i, Int.pow_succ]
        exact plus_step _ _ _ _ _ _ _ _ rfl
      rw [e] at key
      refine Ev.step (f := fun k => bursarref03_Long_plus.j1 k acc c (i : Int) true a b) (fun k => ?_) (Ev.step (fun k => ?_) key)
      · simp only [bursarref03_Long_plus.l0]
        by_cases g1 : i < a.length
        · rw [if_pos (by omega)]
        · rw [if_neg (by omega)]
          by_cases g2 : i < b.length
          · rw [if_pos (by omega)]
          · rw [if_neg (by omega), decide_eq_true (by omega)]
      · simp only [bursarref03_Long_plus.j1]
        rw [if_pos trivial, at_is, at_is]
        simp only [Option.bind_some]
        rw [if_pos (by omega)]
        have w1 : wrap64 (wrap64 (a.getD i 0 + b.getD i 0) + c) = c + a.getD i 0 + b.getD i 0 := by
          rw [w64_in (i := a.getD i 0 + b.getD i 0) (by omega) (by omega), w64_in (by omega) (by omega)]; omega
        rw [w1, Int.tmod_eq_emod_of_nonneg (by omega), Int.tdiv_eq_ediv_of_nonneg (by omega), w64_in (i := (c + a.getD i 0 + b.getD i 0) / 10) (by omega) (by omega), w64_in (i := (i : Int) + 1) (by omega) (by omega)]
        rfl
    · have hc0 : c = 0 := by omega
      subst hc0
      refine Ev.step (f := fun k => bursarref03_Long_plus.j1 k acc 0 (i : Int) false a b) (fun k => ?_) ?_
      · simp only [bursarref03_Long_plus.l0]
        rw [if_neg (by omega), if_neg (by omega)]
        rfl
      · have e : longL (dval acc + 10 ^ i * (0 + dval (a.drop i) + dval (b.drop i))).toNat = longL (dval acc).toNat := by
          rw [List.drop_eq_nil_of_le (by omega), List.drop_eq_nil_of_le (by omega)]
          simp [dval]
        rw [e]
        refine Ev.step (f := fun k => (bursarref03_cut.f k acc).bind fun t => some t) (fun k => ?_) (Ev.bind (cut_ev acc hA (by omega)) (Ev.now _))
        simp only [bursarref03_Long_plus.j1]
        rfl
theorem plus_ev (n m : Nat) (hn : (longL n).length < 1000000) (hm : (longL m).length < 1000000) : Ev (fun k => bursarref03_Long_plus.f k (longL n) (longL m)) (longL (n + m)) := by
  have := plus_l0 (longL n) (longL m) (longL_digits n) (longL_digits m) hn hm _ rfl (max (longL n).length (longL m).length + 1) 0 [] 0 (by intro x hx; cases hx) rfl (by omega) (by omega) (.inl rfl) (by omega)
  simp only [dval, List.drop_zero, dval_longL] at this
  have e : (0 + 10 ^ 0 * (0 + (n : Int) + (m : Int))).toNat = n + m := by simp; omega
  rw [e] at this
  exact this
theorem pow_pos10 (i : Nat) : (0 : Int) < 10 ^ i := by
  have : (10 : Int) ^ i = ((10 ^ i : Nat) : Int) := by simp
  rw [this]
  have := Nat.pow_pos (n := i) (show 0 < 10 by decide)
  omega
theorem less_top (P A B a b : Int) (hA : 0 ≤ A) (hAP : A < P) (hB : 0 ≤ B) (hBP : B < P) (hab : a < b) : A + P * a < B + P * b := by
  have h : P * a + P ≤ P * b := by
    have : P * (a + 1) ≤ P * b := Int.mul_le_mul_of_nonneg_left (by omega) (by omega)
    rw [Int.mul_add, Int.mul_one] at this
    exact this
  omega
theorem less_l0 (a b : List Int) (ha : Digits a) (hb : Digits b) (hl : a.length = b.length) (hla : a.length < 1000000) :
    ∀ i : Nat, i ≤ a.length → Ev (fun k => bursarref03_Long_less.l0 k ((i : Int) - 1) a b) (decide (dval (a.take i) < dval (b.take i))) := by
  intro i
  induction i with
  | zero =>
    intro _
    have e : decide (dval (a.take 0) < dval (b.take 0)) = false := by simp [dval]
    rw [e]
    refine Ev.step (f := fun _ => some false) (fun k => ?_) (Ev.now _)
    simp only [bursarref03_Long_less.l0]
    rw [if_neg (by omega)]
  | succ i ih =>
    intro hi
    have e1 : (((i + 1 : Nat) : Int) - 1) = (i : Int) := by omega
    rw [e1, dval_take_succ, dval_take_succ]
    by_cases h : a.getD i 0 = b.getD i 0
    · have e2 : decide (dval (a.take i) + 10 ^ i * a.getD i 0 < dval (b.take i) + 10 ^ i * b.getD i 0) = decide (dval (a.take i) < dval (b.take i)) := by
        rw [h]; congr 1; simp
      rw [e2]
      refine Ev.step (f := fun k => bursarref03_Long_less.l0 k ((i : Int) - 1) a b) (fun k => ?_) (ih (by omega))
      simp only [bursarref03_Long_less.l0]
      rw [if_pos (by omega), if_pos (by omega), if_pos (by omega), if_pos (by omega), rd_nat, rd_nat, if_pos h, w64_in (by omega) (by omega)]
    · have e2 : decide (dval (a.take i) + 10 ^ i * a.getD i 0 < dval (b.take i) + 10 ^ i * b.getD i 0) = decide (a.getD i 0 < b.getD i 0) := by
        have hA := dval_nonneg (digits_take ha i)
        have hB := dval_nonneg (digits_take hb i)
        have hAP := dval_lt (digits_take ha i)
        have hBP := dval_lt (digits_take hb i)
        rw [List.length_take, show min i a.length = i by omega] at hAP
        rw [List.length_take, show min i b.length = i by omega] at hBP
        by_cases hlt : a.getD i 0 < b.getD i 0
        · rw [decide_eq_true hlt, decide_eq_true (less_top _ _ _ _ _ hA hAP hB hBP hlt)]
        · rw [decide_eq_false hlt, decide_eq_false]
          have := less_top _ _ _ _ _ hB hBP hA hAP (show b.getD i 0 < a.getD i 0 by omega)
          omega
      rw [e2]
      refine Ev.step (f := fun _ => some (decide (a.getD i 0 < b.getD i 0))) (fun k => ?_) (Ev.now _)
      simp only [bursarref03_Long_less.l0]
      rw [if_pos (by omega), if_pos (by omega), if_pos (by omega), if_pos (by omega), rd_nat, rd_nat, if_neg h]
theorem less_ev (n m : Nat) (hn : (longL n).length < 1000000) (hm : (longL m).length < 1000000) : Ev (fun k => bursarref03_Long_less.f k (longL n) (longL m)) (decide (n < m)) := by
  by_cases h : (longL n).length = (longL m).length
  · have := less_l0 (longL n) (longL m) (longL_digits n) (longL_digits m) h hn (longL n).length (Nat.le_refl _)
    rw [List.take_length, h, List.take_length, dval_longL, dval_longL] at this
    have e : decide ((n : Int) < (m : Int)) = decide (n < m) := by congr 1; simp
    rw [e] at this
    refine Ev.congr (fun k => ?_) this
    unfold bursarref03_Long_less.f
    rw [if_pos (by omega), w64_in (by omega) (by omega), h]
  · refine Ev.congr (f := fun _ => some (decide (n < m))) (fun k => ?_) (Ev.now _)
    unfold bursarref03_Long_less.f
    rw [if_neg (by omega)]
    congr 1
    by_cases hlt : (longL n).length < (longL m).length
    · rw [decide_eq_true (show ((longL n).length : Int) < ((longL m).length : Int) by omega), decide_eq_true (longL_length_mono hlt)]
    · have := longL_length_mono (a := m) (b := n) (by omega)
      rw [decide_eq_false (show ¬ ((longL n).length : Int) < ((longL m).length : Int) by omega), decide_eq_false (by omega)]
theorem minus_step (A P c a A' b B' s : Int) (hs : s = a - b - c) : A + P * s + P * 10 * (A' - B' - 0) = A + P * (a + 10 * A' - (b + 10 * B') - c) := by
  subst hs; grind
theorem minus_step1 (A P c a A' b B' s : Int) (hs : s = a - b - c) : A + P * (s + 10) + P * 10 * (A' - B' - 1) = A + P * (a + 10 * A' - (b + 10 * B') - c) := by
  subst hs; grind
theorem minus_l0 (a b : List Int) (ha : Digits a) (hb : Digits b) (hla : a.length < 1000000) (hlb : b.length < 1000000) (hlen : b.length ≤ a.length) :
    ∀ (d i : Nat) (acc : List Int) (c : Int), Digits acc → acc.length = i → 0 ≤ c → c ≤ 1 → i + d = a.length → 0 ≤ dval (a.drop i) - dval (b.drop i) - c →
      Ev (fun k => bursarref03_Long_minus.l0 k acc c (i : Int) a b) (longL (dval acc + 10 ^ i * (dval (a.drop i) - dval (b.drop i) - c)).toNat) := by
  intro d
  induction d with
  | zero =>
    intro i acc c hA hi h0 h1 hd hge
    rw [List.drop_eq_nil_of_le (by omega), List.drop_eq_nil_of_le (by omega)] at hge ⊢
    have hc0 : c = 0 := by simp [dval] at hge; omega
    subst hc0
    have e : longL (dval acc + 10 ^ i * (dval [] - dval [] - 0)).toNat = longL (dval acc).toNat := by simp [dval]
    rw [e]
    refine Ev.step (f := fun k => (bursarref03_cut.f k acc).bind fun t => some t) (fun k => ?_) (Ev.bind (cut_ev acc hA (by omega)) (Ev.now _))
    simp only [bursarref03_Long_minus.l0]
    rw [if_neg (by omega)]
  | succ d ih =>
    intro i acc c hA hi h0 h1 hd hge
    have ga := digits_get ha i
    have gb := digits_get hb i
    rw [dval_drop_getD a i, dval_drop_getD b i] at hge ⊢
    have hw : ∀ k, bursarref03_Long_minus.l0 (k + 1) acc c (i : Int) a b = if a.getD i 0 - b.getD i 0 - c < 0 then bursarref03_Long_minus.l0 k (acc ++ [a.getD i 0 - b.getD i 0 - c + 10]) 1 ((i + 1 : Nat) : Int) a b else bursarref03_Long_minus.l0 k (acc ++ [a.getD i 0 - b.getD i 0 - c]) 0 ((i + 1 : Nat) : Int) a b := by
      intro k
      simp only [bursarref03_Long_minus.l0]
      rw [if_pos (by omega), if_pos (by omega), at_is]
      simp only [Option.bind_some, rd_nat]
      rw [w64_in (i := a.getD i 0 - b.getD i 0) (by omega) (by omega), w64_in (i := a.getD i 0 - b.getD i 0 - c) (by omega) (by omega), w64_in (i := a.getD i 0 - b.getD i 0 - c + 10) (by omega) (by omega), w64_in (i := (i : Int) + 1) (by omega) (by omega), if_pos (show acc.length < 17592186044416 by omega), if_pos (show acc.length < 17592186044416 by omega)]
      rfl
    by_cases hneg : a.getD i 0 - b.getD i 0 - c < 0
    · have key := ih (i + 1) (acc ++ [a.getD i 0 - b.getD i 0 - c + 10]) 1 (digits_snoc hA (by omega) (by omega)) (by simp [hi]) (by omega) (by omega) (by omega) (by omega)
      rw [dval_snoc, hi, Int.pow_succ, minus_step1 _ _ c (a.getD i 0) _ (b.getD i 0) _ _ rfl] at key
      exact Ev.step (fun k => by rw [hw, if_pos hneg]) key
    · have key := ih (i + 1) (acc ++ [a.getD i 0 - b.getD i 0 - c]) 0 (digits_snoc hA (by omega) (by omega)) (by simp [hi]) (by omega) (by omega) (by omega) (by omega)
      rw [dval_snoc, hi, Int.pow_succ, minus_step _ _ c (a.getD i 0) _ (b.getD i 0) _ _ rfl] at key
      exact Ev.step (fun k => by rw [hw, if_neg hneg]) key
theorem longL_mono {n m : Nat} (h : n ≤ m) : (longL n).length ≤ (longL m).length := by
  rcases Nat.lt_or_ge (longL m).length (longL n).length with hl | hl
  · have := longL_length_mono hl; omega
  · exact hl
theorem minus_ev (n m : Nat) (hle : m ≤ n) (hn : (longL n).length < 1000000) : Ev (fun k => bursarref03_Long_minus.f k (longL n) (longL m)) (longL (n - m)) := by
  have hm := longL_mono hle
  have := minus_l0 (longL n) (longL m) (longL_digits n) (longL_digits m) hn (by omega) hm (longL n).length 0 [] 0 (by intro x hx; cases hx) rfl (by omega) (by omega) (by omega) (by simp only [List.drop_zero, dval_longL]; omega)
  simp only [dval, List.drop_zero, dval_longL] at this
  have e : (0 + 10 ^ 0 * ((n : Int) - (m : Int) - 0)).toNat = n - m := by rw [show (10 : Int) ^ 0 = 1 from rfl]; omega
  rw [e] at this
  exact this
theorem value_l0 (a : List Int) (ha : Digits a) (hla : a.length < 1000000) (hv : dval a ≤ 9223372036854775807) :
    ∀ (i : Nat), i ≤ a.length → Ev (fun k => bursarref03_Long_value.l0 k (dval (a.drop i)) ((i : Int) - 1) a) (dval a, true) := by
  intro i
  induction i with
  | zero =>
    intro _
    rw [List.drop_zero]
    refine Ev.step (f := fun _ => some (dval a, true)) (fun k => ?_) (Ev.now _)
    simp only [bursarref03_Long_value.l0]
    rw [if_neg (by omega)]
  | succ i ih =>
    intro hi
    have h0 := dval_drop_getD a i
    have hge := dval_nonneg (digits_drop ha (i + 1))
    have ga := digits_get ha i
    have hup : dval (a.drop i) ≤ dval a := by
      have h1 := dval_app (a.take i) (a.drop i)
      rw [List.take_append_drop] at h1
      have h2 := dval_nonneg (digits_take ha i)
      have h3 := dval_nonneg (digits_drop ha i)
      have h4 : dval (a.drop i) * 1 ≤ dval (a.drop i) * 10 ^ (a.take i).length := Int.mul_le_mul_of_nonneg_left (by have := pow_pos10 (a.take i).length; omega) h3
      rw [Int.mul_comm (dval (a.drop i)) (10 ^ _)] at h4
      omega
    refine Ev.step (f := fun k => bursarref03_Long_value.l0 k (dval (a.drop i)) ((i : Int) - 1) a) (fun k => ?_) (ih (by omega))
    simp only [bursarref03_Long_value.l0]
    have e1 : (((i + 1 : Nat) : Int) - 1) = (i : Int) := by omega
    rw [e1, if_pos (by omega), if_pos (by omega), if_pos (by omega), rd_nat, w64_in (i := dval (a.drop (i + 1)) * 10) (by omega) (by omega), w64_in (i := (i : Int) - 1) (by omega) (by omega), w64_in (by omega) (by omega)]
    congr 1
    omega
theorem value_ev (n : Nat) (hn : (longL n).length < 1000000) : Ev (fun k => bursarref03_Long_value.f k (longL n)) (if n ≤ 9223372036854775807 then ((n : Int), true) else (0, false)) := by
  refine Ev.congr (fun k => rfl) (Ev.bind (long_ev 9223372036854775807 (Nat.le_refl _)) (Ev.bind (less_ev 9223372036854775807 n (by have := longL_le 19 9223372036854775807 (by decide); omega) hn) ?_))
  by_cases h : n ≤ 9223372036854775807
  · rw [if_pos h]
    have := value_l0 (longL n) (longL_digits n) hn (by rw [dval_longL]; omega) (longL n).length (Nat.le_refl _)
    rw [List.drop_length, dval_longL] at this
    refine Ev.congr (fun k => ?_) this
    rw [decide_eq_false (by omega), if_neg Bool.false_ne_true, w64_in (by omega) (by omega)]
    rfl
  · rw [if_neg h]
    refine Ev.congr (f := fun _ => some (0, false)) (fun k => ?_) (Ev.now _)
    rw [decide_eq_true (by omega), if_pos rfl]
end Go.Proofs.YtejgbdclhlolkaaGreatDoor.Q
namespace Go.Proofs.YtejgbdclhlolkaaGreatDoor.Q
open Go.RowKit Go.Proofs.YtejgbdclhlolkaaGreatDoorW.PrintWords Go.Proofs.YtejgbdclhlolkaaGreatDoorW.PrintLast Go.Proofs.LongLaw
set_option linter.unusedVariables false
set_option linter.unusedSimpArgs false
theorem set_get (l : List Int) (i : Nat) (x : Int) (h : i < l.length) (p : Nat) : (l.set i x).getD p 0 = if p = i then x else l.getD p 0 := by
  rw [List.getD_eq_getElem?_getD, List.getElem?_set]
  by_cases e : i = p
  · subst e; rw [if_pos rfl, if_pos h, if_pos rfl]; rfl
  · rw [if_neg e, if_neg (fun h => e h.symm), List.getD_eq_getElem?_getD]
theorem times_step (D P Q a A B b c s x : Int) (hs : s = x + a * b + c) : D + P * Q * (s % 10 - x) + P * (Q * 10) * (s / 10) = D + P * Q * c + P * a * (Q * b) := by
  have h : s = 10 * (s / 10) + s % 10 := by omega
  generalize s / 10 = q at *
  generalize s % 10 = r at *
  grind
theorem times_word (a b d : List Int) (i j : Nat) (c s : Int) (hla : a.length < 100000) (hlb : b.length < 100000) (hi : i < a.length) (hjb : j ≤ b.length) (hdl : d.length = a.length + b.length + 1) (hgo : j < b.length ∨ 0 < c)
    (hx0 : 0 ≤ d.getD (i + j) 0) (hx9 : d.getD (i + j) 0 ≤ 9) (hp0 : 0 ≤ a.getD i 0 * b.getD j 0) (hp9 : a.getD i 0 * b.getD j 0 ≤ 81) (h0 : 0 ≤ c) (h9 : c ≤ 9) (hs : s = d.getD (i + j) 0 + a.getD i 0 * b.getD j 0 + c) (k : Nat) :
    bursarref03_Long_times.l1 (k + 1) d (i : Int) c (j : Int) a b = bursarref03_Long_times.l1 k (d.set (i + j) (s % 10)) (i : Int) (s / 10) ((j + 1 : Nat) : Int) a b := by
  have b1 : 0 ≤ s := by omega
  have b2 : s ≤ 99 := by omega
  have i1 : (0 : Int) ≤ ((i + j : Nat) : Int) := by omega
  have i2 : ((i + j : Nat) : Int) < (d.length : Int) := by omega
  have i3 : (0 : Int) ≤ (i : Int) := by omega
  have i4 : (i : Int) < (a.length : Int) := by omega
  have key : ∀ {α : Type} (x y z : α), (if (j : Int) < (b.length : Int) then (if (0 : Int) ≤ ((i + j : Nat) : Int) then (if ((i + j : Nat) : Int) < (d.length : Int) then (if (0 : Int) ≤ (i : Int) then (if (i : Int) < (a.length : Int) then x else z) else z) else z) else z) else
      (if c > 0 then (if (0 : Int) ≤ ((i + j : Nat) : Int) then (if ((i + j : Nat) : Int) < (d.length : Int) then (if (0 : Int) ≤ (i : Int) then (if (i : Int) < (a.length : Int) then x else z) else z) else z) else z) else y)) = x := by
    intro α x y z
    rw [if_pos i1, if_pos i2, if_pos i3, if_pos i4]
    by_cases h1 : j < b.length
    · rw [if_pos (show (j : Int) < (b.length : Int) by omega)]
    · rw [if_neg (show ¬ (j : Int) < (b.length : Int) by omega), if_pos (show c > 0 by omega)]
  have e3 : wrap64 ((j : Int) + 1) = ((j + 1 : Nat) : Int) := by rw [w64_in (by omega) (by omega)]; rfl
  have e4 : wrap64 (s / 10) = s / 10 := w64_in (by omega) (by omega)
  have e1 : wrap64 ((i : Int) + (j : Int)) = ((i + j : Nat) : Int) := by rw [w64_in (by omega) (by omega)]; rfl
  have e5 : wrap64 (a.getD i 0 * b.getD j 0) = a.getD i 0 * b.getD j 0 := w64_in (by omega) (by omega)
  have e6 : wrap64 (d.getD (i + j) 0 + a.getD i 0 * b.getD j 0) = d.getD (i + j) 0 + a.getD i 0 * b.getD j 0 := w64_in (by omega) (by omega)
  have e7 : wrap64 (d.getD (i + j) 0 + a.getD i 0 * b.getD j 0 + c) = s := by rw [← hs]; exact w64_in (by omega) (by omega)
  simp only [bursarref03_Long_times.l1]
  rw [e1, at_is, rd_nat, rd_nat]
  simp only [Option.bind_some]
  rw [e5, e6, e7, Int.tmod_eq_emod_of_nonneg b1, Int.tdiv_eq_ediv_of_nonneg b1, e4, e3, Int.toNat_natCast]
  exact key _ _ _
theorem times_l1 (a b : List Int) (ha : Digits a) (hb : Digits b) (hla : a.length < 100000) (hlb : b.length < 100000) (res : List Int) (i : Nat) (hi : i < a.length)
    (hK : ∀ d : List Int, Digits d → d.length = a.length + b.length + 1 → dval d = dval (a.take (i + 1)) * dval b → (∀ p, i + 1 + b.length ≤ p → d.getD p 0 = 0) → Ev (fun k => bursarref03_Long_times.l0 k d ((i + 1 : Nat) : Int) a b) res) :
    ∀ (m j : Nat) (d : List Int) (c : Int), j + m = b.length + 1 → Digits d → d.length = a.length + b.length + 1 → 0 ≤ c → c ≤ 9 → (j = b.length + 1 → c = 0) →
      dval d + 10 ^ i * 10 ^ j * c = dval (a.take i) * dval b + 10 ^ i * a.getD i 0 * dval (b.take j) → (∀ p, i + (if j ≤ b.length then b.length else b.length + 1) ≤ p → d.getD p 0 = 0) →
      Ev (fun k => bursarref03_Long_times.l1 k d (i : Int) c (j : Int) a b) res := by
  intro m
  induction m with
  | zero =>
    intro j d c hj hD hdl h0 h9 hc hv hz
    have hc0 := hc (by omega)
    subst hc0
    rw [show b.take j = b from List.take_of_length_le (by omega)] at hv
    refine Ev.step (fun k => ?_) (hK d hD hdl ?_ ?_)
    · simp only [bursarref03_Long_times.l1]
      rw [if_neg (by omega), if_neg (by omega), w64_in (by omega) (by omega)]
      rfl
    · rw [dval_take_succ, Int.add_mul]; simpa using hv
    · intro p hp; exact hz p (by split <;> omega)
  | succ m ih =>
    intro j d c hj hD hdl h0 h9 hc hv hz
    have HV := Lib.hid hv
    clear hv
    have ga := digits_get ha i
    have gb := digits_get hb j
    have gd := digits_get hD (i + j)
    by_cases hgo : j < b.length ∨ 0 < c
    · have hprod0 : 0 ≤ a.getD i 0 * b.getD j 0 := Int.mul_nonneg ga.1 gb.1
      have hprod9 : a.getD i 0 * b.getD j 0 ≤ 81 := by
        have h1 : a.getD i 0 * b.getD j 0 ≤ 9 * b.getD j 0 := Int.mul_le_mul_of_nonneg_right ga.2 gb.1
        omega
      have hjb : j ≤ b.length := by omega
      have hzb : b.length ≤ j → b.getD j 0 = 0 := getD_out b j
      have hzd : b.length ≤ j → d.getD (i + j) 0 = 0 := fun h => hz (i + j) (by rw [if_pos hjb]; omega)
      have hp0 : b.length ≤ j → a.getD i 0 * b.getD j 0 = 0 := fun h => by rw [hzb h, Int.mul_zero]
      obtain ⟨s, hs⟩ : ∃ s, s = d.getD (i + j) 0 + a.getD i 0 * b.getD j 0 + c := ⟨_, rfl⟩
      have hidx : i + j < d.length := by omega
      have key := ih (j + 1) (d.set (i + j) (s % 10)) (s / 10) (by omega) (digits_set hD _ (by omega) (by omega)) (by rw [List.length_set]; exact hdl) (by omega) (by omega) (by intro h; have := hp0 (by omega); have := hzd (by omega); omega) ?_ ?_
      · exact Ev.step (times_word a b d i j c s hla hlb hi hjb hdl hgo gd.1 gd.2 hprod0 hprod9 h0 h9 hs) key
      · rw [dval_set d (s % 10) (i + j) hidx, dval_take_succ, Int.pow_add, Int.pow_succ, times_step (dval d) (10 ^ i) (10 ^ j) (a.getD i 0) 0 0 (b.getD j 0) c s (d.getD (i + j) 0) hs, HV.out, Int.mul_add]
        omega
      · intro p hp
        rw [set_get d (i + j) _ hidx, if_neg (by split at hp <;> omega)]
        exact hz p (by rw [if_pos hjb]; split at hp <;> omega)
    · have hc0 : c = 0 := by omega
      subst hc0
      have hv := HV.out
      rw [show b.take j = b from List.take_of_length_le (by omega)] at hv
      refine Ev.step (fun k => ?_) (hK d hD hdl ?_ ?_)
      · simp only [bursarref03_Long_times.l1]
        rw [if_neg (by omega), if_neg (by omega), w64_in (by omega) (by omega)]
        rfl
      · rw [dval_take_succ, Int.add_mul]; simpa using hv
      · intro p hp; exact hz p (by split <;> omega)
theorem times_l0 (a b : List Int) (ha : Digits a) (hb : Digits b) (hla : a.length < 100000) (hlb : b.length < 100000) :
    ∀ (m i : Nat) (d : List Int), i + m = a.length → Digits d → d.length = a.length + b.length + 1 → dval d = dval (a.take i) * dval b → (∀ p, i + b.length ≤ p → d.getD p 0 = 0) →
      Ev (fun k => bursarref03_Long_times.l0 k d (i : Int) a b) (longL (dval a * dval b).toNat) := by
  intro m
  induction m with
  | zero =>
    intro i d hi hD hdl hv hz
    rw [List.take_of_length_le (by omega)] at hv
    rw [← hv]
    refine Ev.step (f := fun k => (bursarref03_cut.f k d).bind fun t => some t) (fun k => ?_) (Ev.bind (cut_ev d hD (by omega)) (Ev.now _))
    simp only [bursarref03_Long_times.l0]
    rw [if_neg (by omega)]
  | succ m ih =>
    intro i d hi hD hdl hv hz
    refine Ev.step (f := fun k => bursarref03_Long_times.l1 k d (i : Int) 0 ((0 : Nat) : Int) a b) (fun k => ?_) ?_
    · simp only [bursarref03_Long_times.l0]
      rw [if_pos (by omega)]
      rfl
    · refine times_l1 a b ha hb hla hlb _ i (by omega) (fun d' hD' hl' hv' hz' => ih (i + 1) d' (by omega) hD' hl' hv' hz') (b.length + 1) 0 d 0 (by omega) hD hdl (by omega) (by omega) (by omega) ?_ ?_
      · rw [hv]; simp [dval]
      · intro p hp; rw [if_pos (by omega)] at hp; exact hz p hp
theorem digits_zero (n : Nat) : Digits (List.replicate n 0) := fun x hx => by rw [List.eq_of_mem_replicate hx]; omega
theorem dval_zero (n : Nat) : dval (List.replicate n 0) = 0 := by
  induction n with
  | zero => rfl
  | succ n ih => rw [List.replicate_succ, dval, ih]; rfl
theorem getD_zero (n p : Nat) : (List.replicate n (0 : Int)).getD p 0 = 0 := by
  rw [List.getD_eq_getElem?_getD, List.getElem?_replicate]
  split <;> rfl
theorem times_ev (n m : Nat) (hn : (longL n).length < 100000) (hm : (longL m).length < 100000) : Ev (fun k => bursarref03_Long_times.f k (longL n) (longL m)) (longL (n * m)) := by
  have := times_l0 (longL n) (longL m) (longL_digits n) (longL_digits m) hn hm (longL n).length 0 (List.replicate ((longL n).length + (longL m).length + 1) 0) (by omega) (digits_zero _) (by simp) (by rw [dval_zero]; simp [dval]) (fun p _ => getD_zero _ _)
  rw [dval_longL, dval_longL, ← Int.natCast_mul, Int.toNat_natCast] at this
  refine Ev.congr (fun k => ?_) this
  unfold bursarref03_Long_times.f
  have e : wrap64 (wrap64 (((longL n).length : Int) + ((longL m).length : Int)) + 1) = (((longL n).length + (longL m).length + 1 : Nat) : Int) := by
    rw [w64_in (i := ((longL n).length : Int) + ((longL m).length : Int)) (by omega) (by omega), w64_in (by omega) (by omega)]; omega
  rw [e, if_pos (by omega), Int.toNat_natCast, if_pos (by omega)]
  rfl
end Go.Proofs.YtejgbdclhlolkaaGreatDoor.Q
namespace Go.Proofs.YtejgbdclhlolkaaGreatDoor.Q
open Go.RowKit Go.Proofs.YtejgbdclhlolkaaGreatDoorW.PrintWords Go.Proofs.YtejgbdclhlolkaaGreatDoorW.PrintLast Go.Proofs.LongLaw
set_option linter.unusedVariables false
set_option linter.unusedSimpArgs false
theorem front_length (n d : Nat) (hd : d < 10) : (longL (d + 10 * n)).length ≤ (longL n).length + 1 := by
  by_cases h : d + 10 * n = 0
  · rw [h, longL_zero]; exact Nat.zero_le _
  · rw [longL_pos _ h, List.length_cons, show (d + 10 * n) / 10 = n by omega]
    exact Nat.le_refl _
theorem front_ev (d : Int) (n : Nat) (h0 : 0 ≤ d) (h9 : d ≤ 9) (hl : (longL n).length < 100000) : Ev (fun k => bursarref03_cut.f k ([d] ++ longL n)) (longL (d.toNat + 10 * n)) := by
  have hD : Digits ([d] ++ longL n) := by
    intro x hx
    rcases List.mem_append.1 hx with hx | hx
    · simp at hx; omega
    · exact longL_digits n x hx
  have := cut_ev ([d] ++ longL n) hD (by simp; omega)
  have e : (dval ([d] ++ longL n)).toNat = d.toNat + 10 * n := by
    simp only [List.singleton_append, dval, dval_longL]
    omega
  rw [e] at this
  exact this
theorem by_l1 (a : List Int) (B : Nat) (hB : 0 < B) (hBs : (longL B).length < 100000) (i : Nat) (hi6 : i < 100000) (res : List Int × List Int) (r0 : Nat) (q0 : List Int) (hi : i < q0.length) (hr0 : r0 < 10 * B) (hr0s : (longL r0).length < 1000000)
    (hK : Ev (fun k => bursarref03_Long_by.l0 k (q0.set i ((r0 / B : Nat) : Int)) ((i : Int) - 1) a (longL B) (longL (r0 % B))) res) :
    ∀ (m : Nat) (r c : Nat), r0 = c * B + r → r / B = m → Ev (fun k => bursarref03_Long_by.l1 k (q0.set i (c : Int)) (i : Int) a (longL B) (longL r)) res := by
  intro m
  induction m with
  | zero =>
    intro r c hr hm
    have hlt : r < B := by
      rcases Nat.lt_or_ge r B with h | h
      · exact h
      · have := Nat.div_pos h hB; omega
    have hc : r0 / B = c := by rw [hr, Nat.add_comm, Nat.add_mul_div_right _ _ hB, hm, Nat.zero_add]
    have hrm : r0 % B = r := by rw [hr, Nat.add_comm, Nat.add_mul_mod_self_right, Nat.mod_eq_of_lt hlt]
    rw [hc, hrm] at hK
    have hrs : (longL r).length < 1000000 := Nat.lt_of_le_of_lt (longL_mono (n := r) (m := r0) (by omega)) hr0s
    refine Ev.step (f := fun k => (bursarref03_Long_less.f k (longL r) (longL B)).bind fun t => if t = true then bursarref03_Long_by.l0 k (q0.set i (c : Int)) (wrap64 ((i : Int) - 1)) a (longL B) (longL r) else ((bursarref03_Long_minus.f k (longL r) (longL B)).bind fun t378 => (if 0 ≤ (i : Int) then (if (i : Int) < ((q0.set i (c : Int)).length : Int) then (bursarref03_Long_by.l1 k ((q0.set i (c : Int)).set ((i : Int) : Int).toNat (wrap64 ((rd (q0.set i (c : Int)) (i : Int)) + 1))) (i : Int) a (longL B) t378) else (none)) else (none)))) (fun k => by simp only [bursarref03_Long_by.l1]) (Ev.bind (less_ev r B hrs (by omega)) ?_)
    refine Ev.congr (fun k => if_pos (decide_eq_true hlt)) ?_
    have e : wrap64 ((i : Int) - 1) = (i : Int) - 1 := w64_in (by omega) (by omega)
    rw [e]
    exact hK
  | succ m ih =>
    intro r c hr hm
    have hge : B ≤ r := by
      rcases Nat.lt_or_ge r B with h | h
      · rw [Nat.div_eq_of_lt h] at hm; omega
      · exact h
    have hc9 : c < 10 := by
      rcases Nat.lt_or_ge c 10 with h | h
      · exact h
      · have := Nat.mul_le_mul_right B h; omega
    have hrs : (longL r).length < 1000000 := Nat.lt_of_le_of_lt (longL_mono (n := r) (m := r0) (by omega)) hr0s
    have key := ih (r - B) (c + 1) (by rw [Nat.succ_mul]; omega) (by rw [Nat.sub_eq_of_eq_add (show r = (r - B) + B by omega)]; have h1 : r / B = (r - B) / B + 1 := by rw [← Nat.add_div_right _ hB]; congr 1; omega
                                                                     omega)
    refine Ev.step (f := fun k => (bursarref03_Long_less.f k (longL r) (longL B)).bind fun t => if t = true then bursarref03_Long_by.l0 k (q0.set i (c : Int)) (wrap64 ((i : Int) - 1)) a (longL B) (longL r) else ((bursarref03_Long_minus.f k (longL r) (longL B)).bind fun t378 => (if 0 ≤ (i : Int) then (if (i : Int) < ((q0.set i (c : Int)).length : Int) then (bursarref03_Long_by.l1 k ((q0.set i (c : Int)).set ((i : Int) : Int).toNat (wrap64 ((rd (q0.set i (c : Int)) (i : Int)) + 1))) (i : Int) a (longL B) t378) else (none)) else (none)))) (fun k => by simp only [bursarref03_Long_by.l1]) (Ev.bind (less_ev r B hrs (by omega)) ?_)
    refine Ev.congr (fun k => if_neg (by rw [decide_eq_false (by omega)]; exact Bool.false_ne_true)) (Ev.bind (minus_ev r B hge hrs) ?_)
    refine Ev.congr (fun k => if_pos (by omega)) (Ev.congr (fun k => if_pos (by rw [List.length_set]; omega)) ?_)
    have e : (q0.set i (c : Int)).set ((i : Int) : Int).toNat (wrap64 ((rd (q0.set i (c : Int)) (i : Int)) + 1)) = q0.set i ((c + 1 : Nat) : Int) := by
      rw [rd_nat, set_get q0 i _ hi, if_pos rfl, w64_in (by omega) (by omega), Int.toNat_natCast, List.set_set]
      rfl
    rw [e]
    exact key
theorem by_step (aj B A Q r r0 q rest : Int) (h1 : A = Q * B + r) (h2 : r0 = aj + 10 * r) (h3 : r0 = q * B + rest) : aj + 10 * A = (q + 10 * Q) * B + rest := by
  grind
theorem drop_set_succ (l : List Int) (j : Nat) (x : Int) : (l.set j x).drop (j + 1) = l.drop (j + 1) := by
  apply List.ext_getElem?
  intro t
  rw [List.getElem?_drop, List.getElem?_drop, List.getElem?_set, if_neg (by omega)]
theorem by_l0 (a : List Int) (ha : Digits a) (hla : a.length < 100000) (B : Nat) (hB : 0 < B) (hBs : (longL B).length < 90000) :
    ∀ (j : Nat) (q : List Int) (r : Nat), j ≤ a.length → q.length = a.length → Digits q → r < B → dval (a.drop j) = dval (q.drop j) * B + r → (∀ p, p < j → q.getD p 0 = 0) →
      Ev (fun k => bursarref03_Long_by.l0 k q ((j : Int) - 1) a (longL B) (longL r)) (longL ((dval a).toNat / B), longL ((dval a).toNat % B)) := by
  intro j
  induction j with
  | zero =>
    intro q r hj hql hD hr hv hz
    rw [List.drop_zero, List.drop_zero] at hv
    have hq0 := dval_nonneg hD
    obtain ⟨Q, hQ⟩ : ∃ Q : Nat, dval q = Q := ⟨(dval q).toNat, by omega⟩
    have hA : (dval a).toNat = Q * B + r := by rw [hv, hQ, ← Int.natCast_mul]; omega
    rw [hA, Nat.add_comm, Nat.add_mul_div_right _ _ hB, Nat.add_mul_mod_self_right, Nat.mod_eq_of_lt hr, Nat.div_eq_of_lt hr, Nat.zero_add]
    have hcut := cut_ev q hD (by omega)
    rw [hQ, Int.toNat_natCast] at hcut
    refine Ev.step (f := fun k => (bursarref03_cut.f k q).bind fun t => some (t, longL r)) (fun k => ?_) (Ev.bind hcut (Ev.now _))
    simp only [bursarref03_Long_by.l0]
    rw [if_neg (by omega)]
  | succ j ih =>
    intro q r hj hql hD hr hv hz
    have ga := digits_get ha j
    have HV := Lib.hid hv
    clear hv
    have hrs : (longL r).length < 90000 := Nat.lt_of_le_of_lt (longL_mono (by omega)) hBs
    obtain ⟨d, hd⟩ : ∃ d : Nat, a.getD j 0 = d := ⟨(a.getD j 0).toNat, by omega⟩
    obtain ⟨r0, hr0⟩ : ∃ r0, r0 = d + 10 * r := ⟨_, rfl⟩
    have hr0b : r0 < 10 * B := by omega
    have hr0s : (longL r0).length < 1000000 := by have := front_length r d (by omega); rw [← hr0] at this; omega
    have hq9 : r0 / B < 10 := by rw [Nat.div_lt_iff_lt_mul hB]; exact hr0b
    have key := ih (q.set j ((r0 / B : Nat) : Int)) (r0 % B) (by omega) (by rw [List.length_set]; exact hql) (digits_set hD j (Int.natCast_nonneg _) (Int.ofNat_le.2 (Nat.le_of_lt_succ hq9))) (Nat.mod_lt _ hB) (by
        rw [dval_drop_getD a j, dval_drop_getD (q.set j _) j, drop_set_succ, set_get q j _ (by omega), if_pos rfl]
        exact by_step _ _ _ _ _ (r0 : Int) _ _ HV.out (by rw [hr0, hd]; omega) (by have := Nat.div_add_mod r0 B; rw [Nat.mul_comm] at this; rw [← Int.natCast_mul]; omega))
      (fun p hp => by rw [set_get q j _ (by omega), if_neg (by omega)]; exact hz p (by omega))
    have l1 := by_l1 a B hB (by omega) j (by omega) _ r0 q (by omega) hr0b hr0s key (r0 / B) r0 0 (by omega) rfl
    have hq : q.set j ((0 : Nat) : Int) = q := by
      apply List.ext_getElem?
      intro t
      rw [List.getElem?_set]
      by_cases e : j = t
      · subst e
        rw [if_pos rfl, if_pos (by omega)]
        have := hz j (by omega)
        rw [List.getD_eq_getElem?_getD, List.getElem?_eq_getElem (by omega)] at this
        rw [List.getElem?_eq_getElem (by omega)]
        simpa using this.symm
      · rw [if_neg e]
    rw [hq] at l1
    have fr := front_ev (a.getD j 0) r ga.1 ga.2 (by omega)
    rw [hd, Int.toNat_natCast, ← hr0, ← hd] at fr
    refine Ev.step (f := fun k => (bursarref03_cut.f k ([a.getD j 0] ++ longL r)).bind fun t => bursarref03_Long_by.l1 k q (j : Int) a (longL B) t) (fun k => ?_) (Ev.bind fr l1)
    simp only [bursarref03_Long_by.l0]
    rw [show (((j + 1 : Nat) : Int) - 1) = (j : Int) by omega, if_pos (by omega), if_pos (by omega), if_pos (by omega), if_pos (by decide), rd_nat, Option.bind_some, if_pos (by simp; omega)]
    rfl
theorem by_ev (n m : Nat) (hm : 0 < m) (hn : (longL n).length < 90000) (hms : (longL m).length < 90000) : Ev (fun k => bursarref03_Long_by.f k (longL n) (longL m)) (longL (n / m), longL (n % m)) := by
  have := by_l0 (longL n) (longL_digits n) (by omega) m hm hms (longL n).length (List.replicate (longL n).length 0) 0 (Nat.le_refl _) (by simp) (digits_zero _) hm (by rw [List.drop_eq_nil_of_le (Nat.le_refl _), List.drop_eq_nil_of_le (by simp)]; simp [dval]) (fun p _ => getD_zero _ _)
  rw [dval_longL, Int.toNat_natCast] at this
  refine Ev.congr (fun k => ?_) this
  unfold bursarref03_Long_by.f
  rw [if_pos (by omega), Int.toNat_natCast, if_pos (by omega), w64_in (by omega) (by omega), longL_zero]
end Go.Proofs.YtejgbdclhlolkaaGreatDoor.Q
namespace Go.Proofs.YtejgbdclhlolkaaGreatDoor.Pure
open Go.RowKit Go.Proofs.YtejgbdclhlolkaaGreatDoorW.PrintWords Go.Proofs.YtejgbdclhlolkaaGreatDoorW.PrintLast Go.Proofs.YtejgbdclhlolkaaGreatDoor.Q Go.Proofs.LongLaw
set_option linter.unusedVariables false
set_option linter.unusedSimpArgs false
theorem in64r {a : Int} (h : (Lit.int .i64 a).wf = true) : -9223372036854775808 ≤ a ∧ a ≤ 9223372036854775807 := by
  simp only [Lit.wf, IntKind.min, IntKind.max, IntKind.signed, IntKind.bits, Bool.and_eq_true, decide_eq_true_eq, if_true] at h
  omega
theorem addr_ev (a b : Int) : Ev (fun k => quant_Add.f k a b) (addP a b) := Ev.of (quant_Add.mono a b) (add_is a b)
theorem len64 {n : Nat} (h : n ≤ 9223372036854775807) : (longL n).length ≤ 19 := longL_le 19 n (by omega)
theorem fit_ev (n : Nat) (hn : (longL n).length < 1000000) : Ev (fun k => (bursarref03_Long_value.f k (longL n)).bind fun bt => if bt.2 = true then some (bt.1, (0 : Int)) else some (0, 7)) (if n ≤ 9223372036854775807 then ((n : Int), 0) else (0, 7)) := by
  refine Ev.bind (value_ev n hn) ?_
  by_cases h : n ≤ 9223372036854775807
  · rw [if_pos h, if_pos h]
    exact Ev.congr (fun k => if_pos rfl) (Ev.now _)
  · rw [if_neg h, if_neg h]
    exact Ev.congr (fun k => if_neg Bool.false_ne_true) (Ev.now _)
theorem refAdd_ev (a b : Int) (ha : -9223372036854775808 ≤ a ∧ a ≤ 9223372036854775807) (hb : -9223372036854775808 ≤ b ∧ b ≤ 9223372036854775807) : Ev (fun k => bursarref03_Add.f k a b) (addP a b) := by
  unfold addP
  by_cases h : a < 0 ∨ b < 0
  · rw [if_pos h]
    refine Ev.congr (f := fun k => bursarref03_Add.j0 k a b true) (fun k => ?_) (Ev.step (f := fun _ => some (0, 1)) (fun k => ?_) (Ev.now _))
    · unfold bursarref03_Add.f
      by_cases h1 : a < 0
      · rw [if_pos h1]
      · rw [if_neg h1, decide_eq_true (by omega)]
    · simp only [bursarref03_Add.j0]
      rw [if_pos trivial]
  · rw [if_neg h]
    obtain ⟨x, rfl⟩ : ∃ x : Nat, a = x := ⟨a.toNat, by omega⟩
    obtain ⟨y, rfl⟩ : ∃ y : Nat, b = y := ⟨b.toNat, by omega⟩
    have hx : x ≤ 9223372036854775807 := by omega
    have hy : y ≤ 9223372036854775807 := by omega
    have lx := len64 hx
    have ly := len64 hy
    have ls := longL_le 20 (x + y) (by omega)
    have e : (if (x : Int) > wrap64 (9223372036854775807 - (y : Int)) then ((0 : Int), (7 : Int)) else (wrap64 ((x : Int) + (y : Int)), 0)) = if x + y ≤ 9223372036854775807 then (((x + y : Nat) : Int), 0) else (0, 7) := by
      rw [show wrap64 (9223372036854775807 - (y : Int)) = 9223372036854775807 - (y : Int) by unfold wrap64; omega]
      by_cases h2 : x + y ≤ 9223372036854775807
      · rw [if_neg (by omega), if_pos h2, w64_in (by omega) (by omega)]
        rfl
      · rw [if_pos (by omega), if_neg h2]
    rw [e]
    refine Ev.congr (f := fun k => bursarref03_Add.j0 k x y false) (fun k => ?_) (Ev.step (f := fun k => (bursarref03_long.f k (x : Int)).bind fun t => (bursarref03_long.f k (y : Int)).bind fun u => (bursarref03_Long_plus.f k t u).bind fun v => (bursarref03_Long_value.f k v).bind fun bt => if bt.2 = true then some (bt.1, (0 : Int)) else some (0, 7)) (fun k => ?_) (Ev.bind (long_ev x hx) (Ev.bind (long_ev y hy) (Ev.bind (plus_ev x y (by omega) (by omega)) (fit_ev (x + y) (by omega))))))
    · unfold bursarref03_Add.f
      rw [if_neg (by omega), decide_eq_false (by omega)]
    · simp only [bursarref03_Add.j0]
      rw [if_neg Bool.false_ne_true]
theorem refScale_ev (a b d : Int) (ha : -9223372036854775808 ≤ a ∧ a ≤ 9223372036854775807) (hb : -9223372036854775808 ≤ b ∧ b ≤ 9223372036854775807) (hd : d ≤ 9223372036854775807) : Ev (fun k => bursarref03_Scale.f k a b d) (scaleP a b d) := by
  unfold scaleP
  by_cases h : a < 0 ∨ b < 0 ∨ d < 1
  · rw [if_pos h]
    refine Ev.congr (f := fun k => bursarref03_Scale.j0 k a b d true) (fun k => ?_) (Ev.step (f := fun _ => some (0, 1)) (fun k => ?_) (Ev.now _))
    · unfold bursarref03_Scale.f
      by_cases h1 : a < 0
      · rw [if_pos h1]
      · rw [if_neg h1]
        by_cases h2 : b < 0
        · rw [if_pos h2]
        · rw [if_neg h2, decide_eq_true (by omega)]
    · simp only [bursarref03_Scale.j0]
      rw [if_pos trivial]
  · rw [if_neg h]
    obtain ⟨x, rfl⟩ : ∃ x : Nat, a = x := ⟨a.toNat, by omega⟩
    obtain ⟨y, rfl⟩ : ∃ y : Nat, b = y := ⟨b.toNat, by omega⟩
    obtain ⟨z, rfl⟩ : ∃ z : Nat, d = z := ⟨d.toNat, by omega⟩
    simp only [Int.toNat_natCast]
    have hx : x ≤ 9223372036854775807 := by omega
    have hy : y ≤ 9223372036854775807 := by omega
    have hz : z ≤ 9223372036854775807 := by omega
    have hz0 : 0 < z := by omega
    have lx := len64 hx
    have ly := len64 hy
    have lz := len64 hz
    have lN : (longL (x * y)).length ≤ 40 := by
      refine longL_le 40 _ ?_
      have h1 : x * y ≤ 9223372036854775807 * 9223372036854775807 := Nat.mul_le_mul hx hy
      exact Nat.lt_of_le_of_lt h1 (by decide)
    have hj : ∀ k, bursarref03_Scale.f k (x : Int) (y : Int) (z : Int) = bursarref03_Scale.j0 k x y z false := by
      intro k
      unfold bursarref03_Scale.f
      rw [if_neg (by omega), if_neg (by omega), decide_eq_false (by omega)]
    have htm := times_ev x y (by omega) (by omega)
    obtain ⟨N, hN⟩ : ∃ N, N = x * y := ⟨_, rfl⟩
    rw [← hN] at lN htm ⊢
    have hby := by_ev N z hz0 (by omega) (by omega)
    have lq : (longL (N / z)).length ≤ 40 := Nat.le_trans (longL_mono (Nat.div_le_self _ _)) lN
    refine Ev.congr hj (Ev.step (fun k => by simp only [bursarref03_Scale.j0]; rw [if_neg Bool.false_ne_true]) (Ev.bind (long_ev x hx) (Ev.bind (long_ev y hy) (Ev.bind htm (Ev.bind (long_ev z hz) (Ev.bind hby ?_))))))
    unfold ceilP
    rw [ceil_eq N z hz0]
    by_cases hr : 0 < N % z
    · rw [if_pos hr]
      have hpl := plus_ev (N / z) 1 (by omega) (by have := len64 (n := 1) (by decide); omega)
      have lq1 : (longL (N / z + 1)).length ≤ 41 := by
        have := front_length (N / z) 0 (by decide)
        refine longL_le 41 _ ?_
        have h1 := longL_length_lt (N / z)
        have h2 : 10 ^ (longL (N / z)).length ≤ 10 ^ 40 := Nat.pow_le_pow_right (by decide) lq
        have h3 : (10 : Nat) ^ 41 = 10 * 10 ^ 40 := by rw [Nat.pow_succ, Nat.mul_comm]
        rw [h3]
        generalize (10 : Nat) ^ 40 = P at *
        omega
      refine Ev.congr (fun k => if_pos ?_) (Ev.bind (long_ev 1 (by decide)) (Ev.bind hpl (fit_ev (N / z + 1) (by omega))))
      have : longL (N % z) ≠ [] := fun e => by rw [longL_pos _ (by omega)] at e; cases e
      have := List.length_pos_iff.2 this
      show ((longL (N % z)).length : Int) > 0
      omega
    · rw [if_neg hr]
      refine Ev.congr (fun k => if_neg ?_) (fit_ev (N / z) (by omega))
      rw [show N % z = 0 by omega, longL_zero]
      simp
theorem QuantReckons (a b d : Int) (ha : (Lit.int .i64 a).wf = true) (hb : (Lit.int .i64 b).wf = true) (hd : (Lit.int .i64 d).wf = true) : ∃ k, bursarlaw03_QuantReckons.f k a b d = some true := by
  have h1 := in64r ha
  have h2 := in64r hb
  have h3 := in64r hd
  refine Ev.rounds ?_
  refine Ev.bind known_ev (Ev.congr (fun k => if_pos rfl) (Ev.bind (addr_ev a b) (Ev.bind (refAdd_ev a b h1 h2) (Ev.congr (fun k => if_pos rfl) ?_))))
  rw [bne_self_eq_false]
  have hs : ∃ r, quant_Sub.f a b = some r ∧ bursarref03_Sub.f a b = some r := by
    have e : bursarref03_Sub.f a b = quant_Sub.f a b := rfl
    rw [e]
    unfold quant_Sub.f
    split
    · exact ⟨_, rfl, rfl⟩
    · split
      · exact ⟨_, rfl, rfl⟩
      · split
        · exact ⟨_, rfl, rfl⟩
        · exact ⟨_, rfl, rfl⟩
  obtain ⟨r, hs1, hs2⟩ := hs
  refine Ev.step (f := fun k => bursarlaw03_QuantReckons.j1 k a b d false) (fun k => ?_) (Ev.step (f := fun k => (quant_Scale.f k a b d).bind fun bt422 => ((bursarref03_Scale.f k a b d).bind fun bt424 => (if bt422.1 = bt424.1 then (some (bt422.2 == bt424.2)) else (some false)))) (fun k => ?_) (Ev.bind (scale_ev a b d h1.2 h2.2 h3.2) (Ev.bind (refScale_ev a b d h1 h2 h3.2) (Ev.congr (f := fun _ => some true) (fun k => ?_) (Ev.now _)))))
  · simp only [bursarlaw03_QuantReckons.j0]
    rw [if_neg Bool.false_ne_true, hs1, Option.bind_some, hs2, Option.bind_some, if_pos rfl, bne_self_eq_false]
  · simp only [bursarlaw03_QuantReckons.j1]
    rw [if_neg Bool.false_ne_true]
  · rw [if_pos rfl, beq_self_eq_true]
end Go.Proofs.YtejgbdclhlolkaaGreatDoor.Pure
namespace Go.Proofs.YtejgbdclhlolkaaGreatDoor.Q
open Go.RowKit Go.Lib Go.ChangeShapes Go.Proofs.YtejgbdclhlolkaaGreatDoorW.PrintWords Go.Proofs.YtejgbdclhlolkaaGreatDoorW.PrintLast
set_option linter.unusedVariables false
set_option linter.unusedSimpArgs false
theorem laid_one {P : Program} {w : World} {l : List (String × DataW Unit)} {n : String} {d : DataW Unit} (h : laidMetH P l w) (hl : (l.filter fun x => x.1 == n) = [(n, d)]) (hd : d.handleName? = none) : laidMet P [(n, d)] w := by
  have h1 := h.filter (fun x => x.1 == n)
  rw [hl] at h1
  have h2 := (laidMetH_iff.1 h1).1
  have e : ([(n, d)] : List (String × DataW Unit)).filter (fun x => x.2.handleName?.isNone) = [(n, d)] := by simp [List.filter_cons, hd]
  rw [e] at h2
  exact h2
theorem struct_si {H : Type} {enc : TypeId × Value → H} {P : Program} {w : World} {base : Nat} {sp : Nat → Bool} {held : Bool} {fuel : Nat} {t : TypeId} {f0 f1 : Field} {k : IntKind} {cs : List Value} {l : List UInt8} {v : Int} {p : List MemPlace}
    (ht : P.underlying t = some (.struct #[f0, f1])) (h0 : P.underlying f0.type = some .string) (h1 : P.underlying f1.type = some (.int k)) (o0 : f0.offset = 0) (o1 : f1.offset = 1) (c0 : P.cellsOf f0.type = 1) (c1 : P.cellsOf f1.type = 1) (c : P.cellsOf t = 2)
    (h : DataW.trod enc P w base sp held fuel t cs = some (.agg [.lit (.string l), .lit (.int k v)], p)) : cs = [.string ⟨l.toArray⟩, .int k v] := by
  obtain ⟨y0, y1, n, hx, hl, e0, e1⟩ := trod_struct2 ht h
  rw [o0, c0] at e0
  rw [o1, c1] at e1
  rw [c] at hl
  injection hx with hx _
  injection hx with hx
  injection hx with hx0 hx
  injection hx with hx1 _
  match cs, hl with
  | [a, b], _ =>
    simp only [List.drop_zero, List.take_succ_cons, List.take_zero, List.drop_succ_cons] at e0 e1
    obtain ⟨s, hs, rfl, _⟩ := DataW.trod_string h0 e0
    obtain ⟨z, hz, rfl, _⟩ := DataW.trod_int h1 e1
    injection hs with hs _
    injection hz with hz _
    subst hs hz
    simp only [DataW.lit.injEq, Lit.string.injEq, Lit.int.injEq, true_and] at hx0 hx1
    subst hx0 hx1
    rfl
theorem arr_at {H : Type} {enc : TypeId × Value → H} {P : Program} {w : World} {base : Nat} {sp : Nat → Bool} {held : Bool} {fuel : Nat} {t e : TypeId} {n : Nat} {cs : List Value} {ds : List (DataW H)} {p : List MemPlace}
    (ht : P.underlying t = some (.array n e)) (h : DataW.trod enc P w base sp held fuel t cs = some (.agg ds, p)) (i : Nat) (hi : i < n) : ∃ f d q, ds[i]? = some d ∧ DataW.trod enc P w base sp held f e ((cs.drop (i * P.cellsOf e)).take (P.cellsOf e)) = some (d, q) := by
  cases fuel with
  | zero => simp [DataW.trod] at h
  | succ fuel =>
    simp only [DataW.trod, ht] at h
    split at h
    · obtain ⟨xs, hm, hx⟩ := Option.map_eq_some_iff.1 h
      injection hx with hx _
      injection hx with hx
      obtain ⟨b, hb, hf⟩ := mapM_at hm i i (by simp [hi])
      exact ⟨fuel, b.1, b.2, by rw [← hx]; simp [hb], hf⟩
    · cases h
theorem units_laid {w : World} (h : laidMet Tryz.prog [("bursar/quant.units", Rows.laid_bursar_quant_units)] w) : ∀ j x, unitCells[j]? = some x → w.cell? ⟨1, j, none⟩ = some x := by
  obtain ⟨ps, ⟨g', t', cs, fuel, p, q, hg', ht', hvar, hd, _, _⟩, _⟩ := h
  obtain rfl : g' = 1 := Option.some.inj (hg'.symm.trans (by kernel_rfl))
  obtain rfl : t' = 67 := Option.some.inj (ht'.symm.trans (by kernel_rfl))
  intro j x hx
  rw [World.var?_cell hg' hvar j]
  have hj : j < 24 := (List.getElem?_eq_some_iff.1 hx).1
  obtain ⟨f, d, q', hd1, hd2⟩ := arr_at Tryz.underlying67 hd (j / 2) (by omega)
  rw [show Tryz.prog.cellsOf 66 = 2 by kernel_rfl] at hd2
  have key : ∀ (l : List UInt8) (v : Int), d = .agg [.lit (.string l), .lit (.int .u64 v)] → ((cs.toList.drop (j / 2 * 2)).take 2) = [.string ⟨l.toArray⟩, .int .u64 v] := fun l v e => by
    subst e
    exact struct_si Tryz.underlying66 Tryz.underlying9 Tryz.underlying36 rfl rfl (by kernel_rfl) (by kernel_rfl) (by kernel_rfl) hd2
  have get : ∀ (a b : Value), ((cs.toList.drop (j / 2 * 2)).take 2) = [a, b] → cs[j]? = if j % 2 = 0 then some a else some b := fun a b e => by
    have e1 : ((cs.toList.drop (j / 2 * 2)).take 2)[j % 2]? = [a, b][j % 2]? := by rw [e]
    rw [List.getElem?_take_of_lt (by omega), List.getElem?_drop, show j / 2 * 2 + j % 2 = j by omega, Array.getElem?_toList] at e1
    rw [e1]
    obtain h | h : j % 2 = 0 ∨ j % 2 = 1 := by omega
    · rw [h]; rfl
    · rw [h]; rfl
  obtain rfl | rfl | rfl | rfl | rfl | rfl | rfl | rfl | rfl | rfl | rfl | rfl | rfl | rfl | rfl | rfl | rfl | rfl | rfl | rfl | rfl | rfl | rfl | rfl : j = 0 ∨ j = 1 ∨ j = 2 ∨ j = 3 ∨ j = 4 ∨ j = 5 ∨ j = 6 ∨ j = 7 ∨ j = 8 ∨ j = 9 ∨ j = 10 ∨ j = 11 ∨ j = 12 ∨ j = 13 ∨ j = 14 ∨ j = 15 ∨ j = 16 ∨ j = 17 ∨ j = 18 ∨ j = 19 ∨ j = 20 ∨ j = 21 ∨ j = 22 ∨ j = 23 := by omega
  all_goals
    rw [get _ _ (key _ _ (Option.some.inj hd1).symm)]
    exact hx
theorem tab_laid {w : World} (h : laidMet Tryz.prog [("internal/strconv.uint64pow10", Rows.laid_internal_strconv_uint64pow10)] w) : Lib.TabIs Tryz.prog w "internal/strconv.uint64pow10" .u64 Lib.pow10Tab :=
  Lib.tabIs_of_head (g := 4) (t := 130) (e := 36) (n := 20) (by kernel_rfl) (by kernel_rfl) Tryz.underlying130 Tryz.underlying36 (by kernel_rfl) (by kernel_rfl) h
theorem glob_of {W : World} (hsh : W.ShapedOpen Tryz.prog) (h : laidMetH Tryz.prog Rows.quantSumsRow.laid W) : Glob W :=
  ⟨Tryz.laysM146.s1_3 W hsh, tab_laid (laid_one h rfl rfl), units_laid (laid_one h rfl rfl)⟩
end Go.Proofs.YtejgbdclhlolkaaGreatDoor.Q
namespace Go.Proofs.YtejgbdclhlolkaaGreatDoor.quantReckons
open Go.ChangeShapes Go.WideShapes Go.ChangeAt Go.RowKit
open Go.ChangeMaps (open_string shut_string)
set_option linter.unusedVariables false
set_option linter.unusedSimpArgs false
theorem own : ownKnob Tryz.prog.godebug = none := by kernel_rfl
set_option maxRecDepth 100000 in
theorem contract (H : Type) (enc : TypeId × Value → H) (W : World) (base : Nat) (args : Array Value) (ds gs : List (DataW H)) (before : List MemPlace)
    (hval0 : ∀ (j : Nat) t v, Tryz.f11.params[j]? = some t → args[j]? = some v → Value.okWide Tryz.prog W .any base t v)
    (hW : DataW.Whole enc Tryz.prog Tryz.f11.params.toList Rows.quantReckonsSpec.vars false W args.toList ds gs before)
    (hsz0 : (DataW.weightsEach Tryz.prog (Tryz.f11.params.toList ++ (OpenSpec.ofChange Rows.quantReckonsSpec).bare.plain.varTypes Tryz.prog) (ds ++ gs)).all (· ≤ reachBytes) = true)
    (hsh : W.ShapedOpen Tryz.prog)
    (hl : laidMetH Tryz.prog Rows.quantReckonsRow.laid W)
    : Calls Tryz.prog 11 args W fun e W' => ∃ v, e = .returned v ∧ Rows.quantReckonsSpec.post enc Tryz.prog Tryz.f11 false true false false W args v W' := by
  have hsz : (DataW.weightsEach Tryz.prog (Tryz.f11.params.toList ++ Rows.quantReckonsSpec.plain.varTypes Tryz.prog) (ds ++ gs)).all (· ≤ reachBytes) = true := hsz0
  have hval : ∀ (j : Nat) t v, Tryz.f11.params[j]? = some t → args[j]? = some v → Value.okWide Tryz.prog W .any base t v := hval0
  have hW' := hW
  obtain ⟨p, q, hA0, hV, rfl, hfz, hnd⟩ := hW
  have hA : DataW.TrodAll enc Tryz.prog W 0 (fun _ => true) true Tryz.f11.params.toList args.toList ds p := hA0
  rw [Tryz.params11] at hA hval hsz
  obtain ⟨v0, vs0, d0, ds0, p0, q0, hargs, rfl, rfl, h0, r0⟩ := trodAll_cons hA
  obtain ⟨v1, vs1, d1, ds1, p1, q1, rfl, rfl, rfl, h1, r1⟩ := trodAll_cons r0
  obtain ⟨v2, vs2, d2, ds2, p2, q2, rfl, rfl, rfl, h2, r2⟩ := trodAll_cons r1
  obtain ⟨rfl, rfl, rfl⟩ := trodAll_nil r2
  obtain rfl : args = #[v0, v1, v2] := by cases args; simp_all
  obtain ⟨rfl, rfl⟩ := trodVars_none hV
  obtain ⟨a0, rfl, rfl, rfl, w0⟩ := open_int Tryz.underlying2 (hval 0 2 v0 rfl rfl) h0
  obtain ⟨a1, rfl, rfl, rfl, w1⟩ := open_int Tryz.underlying2 (hval 1 2 v1 rfl rfl) h1
  obtain ⟨a2, rfl, rfl, rfl, w2⟩ := open_int Tryz.underlying2 (hval 2 2 v2 rfl rfl) h2
  obtain ⟨k, hp⟩ := Pure.QuantReckons a0 a1 a2 w0 w1 w2
  refine (Q.bursarlaw03_QuantReckons.calls k a0 a1 a2 true W  hp (Q.glob_of hsh hl)).mono fun e W' ⟨he, bel⟩ => ?_
  subst he
  exact ⟨_, rfl, _, _, _, [], _, [], hW', trodAll_mk1 (shut_bool Tryz.underlying4 _), (trodAll_cons_mk (shut_int Tryz.underlying2 w0) (trodAll_cons_mk (shut_int Tryz.underlying2 w1) (trodAll_cons_mk (shut_int Tryz.underlying2 w2) trodAll_mk0))), rfl, bel.frame _, fun h => by cases h⟩
noncomputable def tab1 : Obj → Obj
  | .cells _ t frozen => .cells (Go.Pinned.utf8FirstZ.map fun (n : Nat) => Value.int .u8 (n : Int)).toArray t frozen
  | o => o
noncomputable def laidWorld (os : Os) : World :=
  { World.doorLaid Tryz.prog 94 os with heap := (World.doorLaid Tryz.prog 94 os).heap.modify 10 tab1 }
theorem laid_met (os : Os) : laidMet Tryz.prog Rows.quantReckonsRow.laid ((laidWorld os).forCall (fun _ _ => 0) ⟨#[], #[.int .i64 0, .int .i64 0, .int .i64 0], []⟩).memory :=
  laidMet_of_run' 8 (by kernel_rfl) (by kernel_rfl)
theorem reads (os : Os) {H : Type} (enc : TypeId × Value → H) : ∃ places, DataW.whole enc Tryz.prog ((laidWorld os).forCall (fun _ _ => 0) ⟨#[], #[.int .i64 0, .int .i64 0, .int .i64 0], []⟩).memory Tryz.f11.params.toList Rows.quantReckonsSpec.vars false (#[.int .i64 0, .int .i64 0, .int .i64 0] : Array Value).toList 8 = some ([.lit (.int .i64 0), .lit (.int .i64 0), .lit (.int .i64 0)], [], places) :=
  ⟨[], by kernel_rfl⟩
set_option maxRecDepth 100000 in
theorem lifted (os : Os) (started : os.Started) (H : Type) (enc : TypeId × Value → H) (F : Stop.Interp) :
    ReturnsInHanded {} Tryz.checked os 11 .any ((OpenSpec.ofChange Rows.quantReckonsSpec).preRow enc Tryz.prog Tryz.f11 Rows.quantReckonsRow.domain false Rows.quantReckonsRow.laid) (((OpenSpec.ofChange Rows.quantReckonsSpec).at F).post enc Tryz.prog Tryz.f11 false true false false) := by
  obtain ⟨places, hx⟩ := reads os enc
  refine returnsInHanded_of_row (C := Tryz.checked) (s := OpenSpec.ofChange Rows.quantReckonsSpec) own started (by kernel_rfl) Tryz.func11
    (witness_row_at (enc := enc) (C := Tryz.checked) false (laidWorld os) #[.int .i64 0, .int .i64 0, .int .i64 0] rfl (by kernel_rfl) (by kernel_rfl) (by kernel_rfl)
      (OpenSpec.preRow_of_cond 8 hx (by kernel_rfl) (fun k hk => by cases hk) (by kernel_rfl) (laid_met os))) ?_
  intro W base args ds gs before hval hW _ hcond hsz hl hsh _
  exact contract H enc W base args ds gs before hval hW hsz hsh hl
theorem said : Rows.QuantReckonsSaid :=
  OpenClaim.holds_of_cond 11 Tryz.f11 rfl rfl rfl rfl rfl rfl rfl ⟨rfl, rfl, rfl, rfl, rfl⟩ rfl rfl rfl rfl rfl (by kernel_rfl) Tryz.func11 (by kernel_rfl)
    (of_decide_eq_true (by kernel_rfl)) (by unfold Func.isWrapper; first | (rw [if_pos (by decide +kernel)]; kernel_rfl) | (rw [if_neg (by decide +kernel)]; exact ⟨rfl, rfl⟩))
    (fun os started H enc _ F => by rw [OpenClaim.pre_eq_preRow]; exact lifted os started H enc F)
theorem plain (f : FuncId) (fn : Func) (hf : Tryz.pinned.checked.prog.funcNamed "bursar/bursarlaw03.QuantReckons" = some f) (hfn : Tryz.pinned.checked.prog.funcs[f]? = some fn) :
    true = Tryz.pinned.checked.prog.looks [] ∧ ∀ (j : Nat) t, fn.params[j]? = some t → Tryz.pinned.checked.prog.wantsStandIn t = false := by
  obtain rfl : f = 11 := Option.some.inj ((show Tryz.prog.funcNamed "bursar/bursarlaw03.QuantReckons" = some 11 by kernel_rfl).symm.trans hf) |>.symm
  obtain rfl : fn = Tryz.f11 := (Option.some.inj (Tryz.func11.symm.trans hfn)).symm
  refine ⟨by kernel_rfl, fun j t ht => ?_⟩
  rw [Tryz.params11] at ht
  have hall : ∀ x ∈ [2, 2, 2], Tryz.prog.wantsStandIn x = false := by
    intro x hx; simp only [List.mem_cons, List.mem_nil_iff, or_false] at hx; rcases hx with rfl | rfl | rfl <;> kernel_rfl
  exact hall t (by simpa using Array.mem_of_getElem? ht)
theorem card : Rows.QuantReckonsCardSaid :=
  Claim7.holds_tied_plain_at .later [] _ _ _ _ said (fun _ h => by cases h) (by kernel_rfl) (fun _ h => by cases h) quantReckons_row_tie rfl ⟨rfl, rfl⟩ (by kernel_rfl) rfl plain (by kernel_rfl)
end Go.Proofs.YtejgbdclhlolkaaGreatDoor.quantReckons
namespace Go.Proofs.YtejgbdclhlolkaaGreatDoor
theorem quantReckons_holds : Rows.QuantReckonsCardSaid := quantReckons.card
end Go.Proofs.YtejgbdclhlolkaaGreatDoor
