/- What the statement LabelMatchesUptoCardSaid rests on, part 7 of 8: walks and plain laws; what of the printer's words it leans on. -/
import Derived.Test.YteaiobgnhlpblaaDoorMLMA3
import Derived.Test.YteaiobgnhlpblaaDoorMLMA4
import Derived.Test.YteaiobgnhlpblaaDoorMLMA5
import Derived.Test.YteaiobgnhlpblaaDoorMLMA6
import Derived.Maps.OwnSet
import Derived.Maps.Views
namespace Go.Proofs.YteaiobgnhlpblaaDoor.Q
open Go.RowKit Go.Proofs.YteaiobgnhlpblaaDoorW.PrintWords Go.Proofs.YteaiobgnhlpblaaDoorW.PrintLast Go.Proofs.YteaiobgnhlpblaaDoorW.PrintMore
attribute [local go_sem] binOp_leq_ binOp_gtr_ binOp_geq_ max2_int min2_int max_two min_two max_three min_three max_four min_four   -- for this text's walks alone
set_option linter.unusedVariables false
set_option linter.unusedSimpArgs false
def bursarref04_Valid.l0 : Nat → List (S51) → Int → Option (Int)
 | 0, _, _ => none
 | k + 1, x0, x3 => if x3 < (x0.length : Int) then (if 0 ≤ x3 then ((bursarref04_Name.f k ((rd_T51 x0 x3).f0)).bind fun t488 => (if t488 = true then (if ((rd_T51 x0 x3).f1).toList = ([] : List UInt8) then (if x3 > 0 then (if 0 ≤ (wrap64 (x3 - 1)) then (if (wrap64 (x3 - 1)) < (x0.length : Int) then (if ((Op.bytesLess (((rd_T51 x0 (wrap64 (x3 - 1))).f0).toList) (((rd_T51 x0 x3).f0).toList)) = true) then (bursarref04_Valid.l0 k x0 (wrap64 (x3 + 1))) else (some 42)) else (none)) else (none)) else (bursarref04_Valid.l0 k x0 (wrap64 (x3 + 1)))) else ((bursarref04_Name.f k ((rd_T51 x0 x3).f1)).bind fun t493 => (if t493 = true then (if x3 > 0 then (if 0 ≤ (wrap64 (x3 - 1)) then (if (wrap64 (x3 - 1)) < (x0.length : Int) then (if ((Op.bytesLess (((rd_T51 x0 (wrap64 (x3 - 1))).f0).toList) (((rd_T51 x0 x3).f0).toList)) = true) then (bursarref04_Valid.l0 k x0 (wrap64 (x3 + 1))) else (some 42)) else (none)) else (none)) else (bursarref04_Valid.l0 k x0 (wrap64 (x3 + 1)))) else (some 42)))) else (some 42))) else (none)) else (some 0)
def bursarref04_Valid.f (k : Nat) (l0 : List (S51)) : Option (Int) := if (l0.length : Int) > 16 then (some 42) else (bursarref04_Valid.l0 k l0 0)
theorem bursarref04_Valid.mono_l : ∀ k, (∀ y0 y1, LeO (bursarref04_Valid.l0 k y0 y1) (bursarref04_Valid.l0 (k + 1) y0 y1))
 | 0 => fun _ _ r h => by simp [bursarref04_Valid.l0] at h
 | k + 1 => by
  have ih0 := bursarref04_Valid.mono_l k
  ·intro y0 y1
   unfold bursarref04_Valid.l0
   repeat' first
   | (with_reducible exact ih0 _ _)
   | (with_reducible exact bursarref04_Name.mono _ _)
   | (with_reducible exact LeO.refl _)
   | (with_reducible exact LeO.none _)
   | (with_reducible refine LeO.ite ?_ ?_)
   | (with_reducible refine LeO.bind ?_ (fun _ => ?_))
   | exact ih0 _ _
   | exact bursarref04_Name.mono _ _
   | exact LeO.none _
   | refine LeO.ite ?_ ?_
   | refine LeO.bind ?_ (fun _ => ?_)
theorem bursarref04_Valid.mono : ∀ a0 k, LeO (bursarref04_Valid.f k a0) (bursarref04_Valid.f (k + 1) a0) := by
 intro a0 k
 have ih0 := bursarref04_Valid.mono_l k
 unfold bursarref04_Valid.f
 repeat' first
   | (with_reducible exact ih0 _ _)
   | (with_reducible exact bursarref04_Name.mono _ _)
   | (with_reducible exact LeO.refl _)
   | (with_reducible exact LeO.none _)
   | (with_reducible refine LeO.ite ?_ ?_)
   | (with_reducible refine LeO.bind ?_ (fun _ => ?_))
   | exact ih0 _ _
   | exact bursarref04_Name.mono _ _
   | exact LeO.none _
   | refine LeO.ite ?_ ?_
   | refine LeO.bind ?_ (fun _ => ?_)
def bursarref04_Valid.T6 : Bool × List (List Nat × List Nat) := (true, [([], []), ([], []), ([0, 1], [0, 1]), ([2], [2]), ([3], [3]), ([4], [4]), ([5], [5]), ([6, 5], [6]), ([7], [7]), ([7], [7]), ([8, 9, 7], [7, 8, 9]), ([10, 7], [7, 10]), ([11, 7], [7, 11]), ([12, 7], [7, 12]), ([13, 7, 7], [7, 13]), ([14], [14]), ([14], [14]), ([15, 16, 14], [14, 15, 16]), ([17, 14], [14, 17]), ([18, 14], [14, 18]), ([19, 14, 14], [14, 19]), ([20, 14], [14, 20]), ([14, 21, 7], [7, 14, 21]), ([7, 22], [7, 22]), ([23, 20], [23]), ([24], [24]), ([25, 24], [24, 25]), ([26, 24, 24], [24, 26]), ([27], [27]), ([27], [27]), ([28, 29, 27], [27, 28, 29]), ([30, 27], [27, 30]), ([31, 27], [27, 31]), ([27], [27]), ([27], [27]), ([34, 27], [27, 34]), ([33, 35, 27], [27, 33, 35]), ([36, 27], [27, 36]), ([37, 27], [27, 37]), ([32, 38, 27], [27, 32, 38]), ([27, 39, 24], [24, 27, 39]), ([24, 40], [24, 40])])
def bursarref04_Valid.B6 : List Nat := [0, 0, 3, 7, 15, 31, 63, 127, 255, 255, 1023, 2047, 4095, 8191, 16383, 32767, 32767, 131071, 262143, 524287, 1048575, 2097151, 4194303, 8388607, 16777215, 33554431, 67108863, 134217727, 268435455, 268435455, 1073741823, 2147483647, 4294967295, 268435455, 268435455, 17448304639, 60397977599, 129117454335, 266556407807, 549755813887, 1099511627775, 2199023255551]
theorem bursarref04_Valid.tab6 : rtab .any (opsOf Tryd.f36 6) = bursarref04_Valid.T6 := by kernel_rfl
theorem bursarref04_Valid.bits6 : waitsOk bursarref04_Valid.T6.2 bursarref04_Valid.B6 = true := by kernel_rfl
set_option maxHeartbeats 64000000 in
set_option maxRecDepth 100000 in
theorem bursarref04_Valid.calls (k : Nat) (A0 : Option Addr) (c0 : Nat) (l0 : List (S51)) (r : Int) (w : World) (hr0 : Kd.C k51 w A0 l0.length l0) (hc0 : l0.length ≤ c0) (h : bursarref04_Valid.f k l0 = some r) :
  Calls Tryd.prog 36 #[.slice A0 l0.length c0] w fun e w' => e = .returned (.int .i64 r) ∧ Below w.heap.size w w' := by
 have HR0 := Aside0.mk hr0
 have HC0 := Aside0.mk hc0
 clear hr0 hc0
 have HB := Aside0.mk (Below.refl w.heap.size w)
 have H : (if (l0.length : Int) > 16 then (some 42) else (bursarref04_Valid.l0 k l0 0)) = some r := h
 clear h
 by_cases c2 : (l0.length : Int) > 16
 ·rw [if_pos c2] at H
  have c2b0 : decide (16 < (l0.length : Int)) = true := decide_eq_true c2
  have c2b1 : decide (16 < l0.length) = true := decide_eq_true (by omega)
  clear c2
  obtain rfl := Option.some.inj H
  go_enter Tryd.func36, Tryd.ntmps36
  go_wp2
  go_ret
  exact ⟨by first | rfl | (simp [errW_none, errW_some] <;> rfl) | (simp [*, errW_none, errW_some] <;> rfl), by repeat (first | (with_reducible first | exact HB.out | apply below_alloc | apply pw_below_drewN | apply below_drew1) | exact HB.out)⟩
 ·rw [if_neg c2] at H
  have c2b0 : decide (16 < (l0.length : Int)) = false := decide_eq_false c2
  have c2b1 : decide (16 < l0.length) = false := decide_eq_false (by omega)
  clear c2
  have H' := Aside0.mk H
  clear H
  go_enter Tryd.func36, Tryd.ntmps36
  go_wp2
  go_loopg [3] k (fun kq v3 w' => ∃ (x3_1 : Int), v3 = .int .i64 x3_1 ∧ Aside0 (bursarref04_Valid.l0 kq l0 x3_1 = some r) ∧ Aside0 (kq ≤ k) ∧ Aside0 (Below w.heap.size w w'))
  case atStart => exact ⟨(0), (by first | rfl | (simp; done) | (simp [*]; done) | (simp; rw [Bool.eq_iff_iff]; simp; done) | (rw [Bool.eq_iff_iff]; simp; done)), H', ⟨Nat.le_refl _⟩, ⟨by repeat (first | (with_reducible first | exact HB.out | apply below_alloc | apply pw_below_drewN | apply below_drew1) | exact HB.out)⟩⟩
  case round =>
   clear H'
   try clear c2
   try clear c2b0
   try clear c2b1
   try clear p2
   obtain ⟨x3_1, rfl, HA, HK1, HB⟩ := hrel
   cases gk with
   | zero => exact absurd HA.out (by simp [bursarref04_Valid.l0])
   | succ k1 =>
    have H := HA.out
    clear HA
    simp only [bursarref04_Valid.l0] at H
    by_cases c3 : x3_1 < (l0.length : Int)
    ·rw [if_pos c3] at H
     have c3b0 : decide (x3_1 < (l0.length : Int)) = true := decide_eq_true c3
     clear c3
     by_cases c4 : 0 ≤ x3_1
     ·rw [if_pos c4] at H
      have c4b0 : decide (0 ≤ x3_1) = true := decide_eq_true c4
      clear c4
      replace H := Option.bind_eq_some_iff.mp H
      obtain ⟨t488, A50, H⟩ := H
      replace H : (if t488 = true then (if ((rd_T51 l0 x3_1).f1).toList = ([] : List UInt8) then (if x3_1 > 0 then (if 0 ≤ (wrap64 (x3_1 - 1)) then (if (wrap64 (x3_1 - 1)) < (l0.length : Int) then (if ((Op.bytesLess (((rd_T51 l0 (wrap64 (x3_1 - 1))).f0).toList) (((rd_T51 l0 x3_1).f0).toList)) = true) then (bursarref04_Valid.l0 k1 l0 (wrap64 (x3_1 + 1))) else (some 42)) else (none)) else (none)) else (bursarref04_Valid.l0 k1 l0 (wrap64 (x3_1 + 1)))) else ((bursarref04_Name.f k1 ((rd_T51 l0 x3_1).f1)).bind fun t493 => (if t493 = true then (if x3_1 > 0 then (if 0 ≤ (wrap64 (x3_1 - 1)) then (if (wrap64 (x3_1 - 1)) < (l0.length : Int) then (if ((Op.bytesLess (((rd_T51 l0 (wrap64 (x3_1 - 1))).f0).toList) (((rd_T51 l0 x3_1).f0).toList)) = true) then (bursarref04_Valid.l0 k1 l0 (wrap64 (x3_1 + 1))) else (some 42)) else (none)) else (none)) else (bursarref04_Valid.l0 k1 l0 (wrap64 (x3_1 + 1)))) else (some 42)))) else (some 42)) = some r := H
      have A5 := Aside0.mk A50
      clear A50
      by_cases c6 : t488 = true
      ·subst c6
       have H1 : (if ((rd_T51 l0 x3_1).f1).toList = ([] : List UInt8) then (if x3_1 > 0 then (if 0 ≤ (wrap64 (x3_1 - 1)) then (if (wrap64 (x3_1 - 1)) < (l0.length : Int) then (if ((Op.bytesLess (((rd_T51 l0 (wrap64 (x3_1 - 1))).f0).toList) (((rd_T51 l0 x3_1).f0).toList)) = true) then (bursarref04_Valid.l0 k1 l0 (wrap64 (x3_1 + 1))) else (some 42)) else (none)) else (none)) else (bursarref04_Valid.l0 k1 l0 (wrap64 (x3_1 + 1)))) else ((bursarref04_Name.f k1 ((rd_T51 l0 x3_1).f1)).bind fun t493 => (if t493 = true then (if x3_1 > 0 then (if 0 ≤ (wrap64 (x3_1 - 1)) then (if (wrap64 (x3_1 - 1)) < (l0.length : Int) then (if ((Op.bytesLess (((rd_T51 l0 (wrap64 (x3_1 - 1))).f0).toList) (((rd_T51 l0 x3_1).f0).toList)) = true) then (bursarref04_Valid.l0 k1 l0 (wrap64 (x3_1 + 1))) else (some 42)) else (none)) else (none)) else (bursarref04_Valid.l0 k1 l0 (wrap64 (x3_1 + 1)))) else (some 42)))) = some r := by rw [if_pos rfl] at H; exact H
       clear H
       have H := H1
       clear H1
       by_cases c7 : ((rd_T51 l0 x3_1).f1).toList = ([] : List UInt8)
       ·rw [if_pos c7] at H
        have c7b0 : (((rd_T51 l0 x3_1).f1).toList == ([] : List UInt8)) = true := beq_iff_eq.mpr c7
        have c7b1 : (((rd_T51 l0 x3_1).f1).toList != ([] : List UInt8)) = false := bne_eq_false_iff_eq.mpr c7
        clear c7
        by_cases c8 : x3_1 > 0
        ·rw [if_pos c8] at H
         have c8b0 : decide (0 < x3_1) = true := decide_eq_true c8
         clear c8
         obtain ⟨ji9, hji9⟩ : ∃ j_ : Int, (wrap64 (x3_1 - 1)) = j_ := ⟨_, rfl⟩
         replace H : (if 0 ≤ (ji9) then (if (ji9) < (l0.length : Int) then (if ((Op.bytesLess (((rd_T51 l0 (ji9)).f0).toList) (((rd_T51 l0 x3_1).f0).toList)) = true) then (bursarref04_Valid.l0 k1 l0 (wrap64 (x3_1 + 1))) else (some 42)) else (none)) else (none)) = some r := by first | (rw [hji9] at H; exact H) | (simp only [hji9] at H ⊢; exact H)
         (try rw [hji9] at A5)
         have hji9w : (IntKind.i64.wrap (x3_1 - 1)) = ji9 := (i64_w _).trans hji9
         by_cases c10 : 0 ≤ (ji9)
         ·rw [if_pos c10] at H
          have c10b0 : decide (0 ≤ (ji9)) = true := decide_eq_true c10
          clear c10
          by_cases c11 : (ji9) < (l0.length : Int)
          ·rw [if_pos c11] at H
           have c11b0 : decide ((ji9) < (l0.length : Int)) = true := decide_eq_true c11
           clear c11
           by_cases c12 : ((Op.bytesLess (((rd_T51 l0 (ji9)).f0).toList) (((rd_T51 l0 x3_1).f0).toList)) = true)
           ·rw [if_pos c12] at H
            have c12b0 : (Op.bytesLess (((rd_T51 l0 (ji9)).f0).toList) (((rd_T51 l0 x3_1).f0).toList)) = true := c12
            clear c12
            have H' := Aside0.mk H
            clear H
            try go_wp2
            have n0_ := Aside0.mk (below_drew1 HB.out)
            clear HB
            have HB := n0_
            clear n0_
            have p487 : 0 ≤ (x3_1 : Int) := of_decide_eq_true (by first | (with_reducible assumption) | assumption)
            have q487 : x3_1 < (l0.length : Int) := of_decide_eq_true (by first | (with_reducible assumption) | assumption)
            obtain ⟨ad487, e487, hx487_0, hx487_1⟩ := at_T51 HR0.out x3_1 p487 q487
            have hw487_1 := hx487_1
            have hw487_0 := hx487_0
            cases e487
            replace hx487_0 := (HB.out.cell (World.block_lt_of_cell? w _ hx487_0)).trans hx487_0
            replace hx487_1 := (HB.out.cell (World.block_lt_of_cell? w _ hx487_1)).trans hx487_1
            replace p487 := eq_true p487
            replace q487 := eq_true q487
            have p489 : 0 ≤ (x3_1 : Int) := of_decide_eq_true (by first | (with_reducible assumption) | assumption)
            have q489 : x3_1 < (l0.length : Int) := of_decide_eq_true (by first | (with_reducible assumption) | assumption)
            obtain ⟨ad489, e489, hx489_0, hx489_1⟩ := at_T51 HR0.out x3_1 p489 q489
            have hw489_1 := hx489_1
            have hw489_0 := hx489_0
            obtain rfl : ad487 = ad489 := (by injection e489)
            replace hx489_0 := (HB.out.cell (World.block_lt_of_cell? w _ hx489_0)).trans hx489_0
            replace hx489_1 := (HB.out.cell (World.block_lt_of_cell? w _ hx489_1)).trans hx489_1
            replace p489 := eq_true p489
            replace q489 := eq_true q489
            have p490 : 0 ≤ (x3_1 : Int) := of_decide_eq_true (by first | (with_reducible assumption) | assumption)
            have q490 : x3_1 < (l0.length : Int) := of_decide_eq_true (by first | (with_reducible assumption) | assumption)
            obtain ⟨ad490, e490, hx490_0, hx490_1⟩ := at_T51 HR0.out x3_1 p490 q490
            have hw490_1 := hx490_1
            have hw490_0 := hx490_0
            obtain rfl : ad487 = ad490 := (by injection e490)
            replace hx490_0 := (HB.out.cell (World.block_lt_of_cell? w _ hx490_0)).trans hx490_0
            replace hx490_1 := (HB.out.cell (World.block_lt_of_cell? w _ hx490_1)).trans hx490_1
            replace p490 := eq_true p490
            replace q490 := eq_true q490
            have p491 : 0 ≤ ((ji9) : Int) := of_decide_eq_true (by first | (with_reducible assumption) | assumption)
            have q491 : (ji9) < (l0.length : Int) := of_decide_eq_true (by first | (with_reducible assumption) | assumption)
            obtain ⟨ad491, e491, hx491_0, hx491_1⟩ := at_T51 HR0.out (ji9) p491 q491
            have hw491_1 := hx491_1
            have hw491_0 := hx491_0
            obtain rfl : ad487 = ad491 := (by injection e491)
            replace hx491_0 := (HB.out.cell (World.block_lt_of_cell? w _ hx491_0)).trans hx491_0
            replace hx491_1 := (HB.out.cell (World.block_lt_of_cell? w _ hx491_1)).trans hx491_1
            replace p491 := eq_true p491
            replace q491 := eq_true q491
            refine start_ (n := 42) (S := fun w' => w'.cell? (ad487.add ((x3_1).toNat * 2)) = some (.string ((rd_T51 l0 x3_1).f0)) ∧ w'.cell? ⟨(ad487.add ((x3_1).toNat * 2)).block, (ad487.add ((x3_1).toNat * 2)).off + 1, none⟩ = some (.string ((rd_T51 l0 x3_1).f1)) ∧ w'.cell? (ad487.add ((x3_1).toNat * 2)) = some (.string ((rd_T51 l0 x3_1).f0)) ∧ w'.cell? ⟨(ad487.add ((x3_1).toNat * 2)).block, (ad487.add ((x3_1).toNat * 2)).off + 1, none⟩ = some (.string ((rd_T51 l0 x3_1).f1)) ∧ w'.cell? (ad487.add ((x3_1).toNat * 2)) = some (.string ((rd_T51 l0 x3_1).f0)) ∧ w'.cell? ⟨(ad487.add ((x3_1).toNat * 2)).block, (ad487.add ((x3_1).toNat * 2)).off + 1, none⟩ = some (.string ((rd_T51 l0 x3_1).f1)) ∧ w'.cell? (ad487.add (((ji9)).toNat * 2)) = some (.string ((rd_T51 l0 (ji9)).f0)) ∧ w'.cell? ⟨(ad487.add (((ji9)).toNat * 2)).block, (ad487.add (((ji9)).toNat * 2)).off + 1, none⟩ = some (.string ((rd_T51 l0 (ji9)).f1))) (ds := []) (bl 0 42) (by kernel_rfl) rfl rfl ⟨((HB.out.cell (World.block_lt_of_cell? w _ hw487_0)).trans hw487_0), ((HB.out.cell (World.block_lt_of_cell? w _ hw487_1)).trans hw487_1), ((HB.out.cell (World.block_lt_of_cell? w _ hw489_0)).trans hw489_0), ((HB.out.cell (World.block_lt_of_cell? w _ hw489_1)).trans hw489_1), ((HB.out.cell (World.block_lt_of_cell? w _ hw490_0)).trans hw490_0), ((HB.out.cell (World.block_lt_of_cell? w _ hw490_1)).trans hw490_1), ((HB.out.cell (World.block_lt_of_cell? w _ hw491_0)).trans hw491_0), ((HB.out.cell (World.block_lt_of_cell? w _ hw491_1)).trans hw491_1)⟩ (fun hHeld => ?_); refine with_tabW bursarref04_Valid.tab6 bursarref04_Valid.bits6 (fun HT_ HW_ => ?_)
            generalize wr.drew = w13 at HB hx487_0 hx487_1 hx489_0 hx489_1 hx490_0 hx490_1 hx491_0 hx491_1 hHeld ⊢
            refine pure_ (i := 0) (N := some 13) (v := ?_) (a' := ?_) (bl 1 41) rfl rfl (any_of HT_.out (by kernel_rfl)) (fun _ _ _ h => h) (Or.inl ⟨by rfl, ?_⟩) ?_ ?_
            rotate_left
            ·intro w'
             go_simp
             with_reducible rfl
            rotate_left
            ·simp only [Act.put, List.setIfInBounds_toArray, List.set_cons_zero, List.set_cons_succ, i64_w, i32_w]
             rfl
            refine pure_ (i := 1) (N := some 14) (v := ?_) (a' := ?_) (bl 2 40) rfl rfl (any_of HT_.out (by kernel_rfl)) (fun _ _ _ h => h) (Or.inl ⟨by rfl, ?_⟩) ?_ ?_
            rotate_left
            ·intro w'
             go_simp
             with_reducible rfl
            rotate_left
            ·simp only [Act.put, List.setIfInBounds_toArray, List.set_cons_zero, List.set_cons_succ, i64_w, i32_w]
             rfl
            refine pure_ (i := 2) (N := some 15) (v := ?_) (a' := ?_) (bl 3 39) rfl rfl (any_of HT_.out (by kernel_rfl)) (fun _ _ _ h => h) (Or.inl ⟨by rfl, ?_⟩) ?_ ?_
            rotate_left
            ·intro w'
             go_simp
             with_reducible rfl
            rotate_left
            ·simp only [Act.put, List.setIfInBounds_toArray, List.set_cons_zero, List.set_cons_succ, i64_w, i32_w]
             rfl
            refine pure_ (i := 3) (N := some 16) (v := ?_) (a' := ?_) (bl 4 38) rfl rfl (any_of HT_.out (by kernel_rfl)) (fun _ _ _ h => h) (Or.inl ⟨by rfl, ?_⟩) ?_ ?_
            rotate_left
            ·intro w'
             go_simp
             with_reducible rfl
            rotate_left
            ·simp only [Act.put, List.setIfInBounds_toArray, List.set_cons_zero, List.set_cons_succ, i64_w, i32_w]
             rfl
            refine take_ (i := 4) (N := some 17) (v := ?_) (a' := ?_) (bl 5 37) rfl rfl (take_ofW HT_.out HW_.out (by kernel_rfl)) (fun _ _ _ h => h) (Or.inl ⟨by rfl, ?_⟩) hHeld ?_ ?_
            rotate_left
            ·rintro w' ⟨s0, s1, s2, s3, s4, s5, s6, s7⟩
             go_simp
             with_reducible rfl
            rotate_left
            ·simp only [Act.put, List.setIfInBounds_toArray, List.set_cons_zero, List.set_cons_succ, i64_w, i32_w]
             rfl
            refine one_ (i := 5) (N := some 18) (bl 6 36) rfl rfl (one_of HT_.out (by kernel_rfl)) (by decide) (fun K hK => ?_)
            refine goes_ Tryd.func19 (by kernel_rfl) rfl #[.string ((rd_T51 l0 x3_1).f0)] (by rfl) rfl rfl (by (try simp only [List.map_toArray, List.map_cons, List.map_nil]); first | done | rfl | (simp only [List.length_drop, List.length_take]; rfl)) ?_
            with_reducible refine (bursarref04_Name.calls k1 ((rd_T51 l0 x3_1).f0) true _ A5.out).mono ?_
            rintro e w' ⟨rfl, ⟨nd, rfl⟩⟩
            refine ⟨_, rfl, ?_⟩
            refine hK.out _ _ ⟨((HB.out.cell (World.block_lt_of_cell? w _ hw487_0)).trans hw487_0), ((HB.out.cell (World.block_lt_of_cell? w _ hw487_1)).trans hw487_1), ((HB.out.cell (World.block_lt_of_cell? w _ hw489_0)).trans hw489_0), ((HB.out.cell (World.block_lt_of_cell? w _ hw489_1)).trans hw489_1), ((HB.out.cell (World.block_lt_of_cell? w _ hw490_0)).trans hw490_0), ((HB.out.cell (World.block_lt_of_cell? w _ hw490_1)).trans hw490_1), ((HB.out.cell (World.block_lt_of_cell? w _ hw491_0)).trans hw491_0), ((HB.out.cell (World.block_lt_of_cell? w _ hw491_1)).trans hw491_1)⟩ (fun hHeld => ?_)
            clear hK K
            refine norm_ (a' := ?_) ?_ ?_
            rotate_left
            ·show Act.put _ (some 18) _ = _
             simp only [Act.put, List.setIfInBounds_toArray, List.set_cons_zero, List.set_cons_succ, i64_w, i32_w]
             rfl
            refine pure_ (i := 6) (N := some 19) (v := ?_) (a' := ?_) (bl 7 35) rfl rfl (any_of HT_.out (by kernel_rfl)) (fun _ _ _ h => h) (Or.inl ⟨by rfl, ?_⟩) ?_ ?_
            rotate_left
            ·intro w'
             go_simp
             with_reducible rfl
            rotate_left
            ·simp only [Act.put, List.setIfInBounds_toArray, List.set_cons_zero, List.set_cons_succ, i64_w, i32_w]
             rfl
            refine pure_ (i := 7) (N := some 20) (v := ?_) (a' := ?_) (bl 8 34) rfl rfl (any_of HT_.out (by kernel_rfl)) (fun _ _ _ h => h) (Or.inl ⟨by rfl, ?_⟩) ?_ ?_
            rotate_left
            ·intro w'
             go_simp
             with_reducible rfl
            rotate_left
            ·simp only [Act.put, List.setIfInBounds_toArray, List.set_cons_zero, List.set_cons_succ, i64_w, i32_w]
             rfl
            refine pure_ (i := 8) (N := some 21) (v := ?_) (a' := ?_) (bl 9 33) rfl rfl (any_of HT_.out (by kernel_rfl)) (fun _ _ _ h => h) (Or.inl ⟨by rfl, ?_⟩) ?_ ?_
            rotate_left
            ·intro w'
             go_simp
             with_reducible rfl
            rotate_left
            ·simp only [Act.put, List.setIfInBounds_toArray, List.set_cons_zero, List.set_cons_succ, i64_w, i32_w]
             rfl
            refine pure_ (i := 9) (N := some 22) (v := ?_) (a' := ?_) (bl 10 32) rfl rfl (any_of HT_.out (by kernel_rfl)) (fun _ _ _ h => h) (Or.inl ⟨by rfl, ?_⟩) ?_ ?_
            rotate_left
            ·intro w'
             go_simp
             with_reducible rfl
            rotate_left
            ·simp only [Act.put, List.setIfInBounds_toArray, List.set_cons_zero, List.set_cons_succ, i64_w, i32_w]
             rfl
            refine pure_ (i := 10) (N := some 23) (v := ?_) (a' := ?_) (bl 11 31) rfl rfl (any_of HT_.out (by kernel_rfl)) (fun _ _ _ h => h) (Or.inl ⟨by rfl, ?_⟩) ?_ ?_
            rotate_left
            ·intro w'
             go_simp
             with_reducible rfl
            rotate_left
            ·simp only [Act.put, List.setIfInBounds_toArray, List.set_cons_zero, List.set_cons_succ, i64_w, i32_w]
             rfl
            refine pure_ (i := 11) (N := some 24) (v := ?_) (a' := ?_) (bl 12 30) rfl rfl (any_of HT_.out (by kernel_rfl)) (fun _ _ _ h => h) (Or.inl ⟨by rfl, ?_⟩) ?_ ?_
            rotate_left
            ·intro w'
             go_simp
             with_reducible rfl
            rotate_left
            ·simp only [Act.put, List.setIfInBounds_toArray, List.set_cons_zero, List.set_cons_succ, i64_w, i32_w]
             rfl
            refine take_ (i := 12) (N := some 25) (v := ?_) (a' := ?_) (bl 13 29) rfl rfl (take_ofW HT_.out HW_.out (by kernel_rfl)) (fun _ _ _ h => h) (Or.inl ⟨by rfl, ?_⟩) hHeld ?_ ?_
            rotate_left
            ·rintro w' ⟨s0, s1, s2, s3, s4, s5, s6, s7⟩
             go_simp
             with_reducible rfl
            rotate_left
            ·simp only [Act.put, List.setIfInBounds_toArray, List.set_cons_zero, List.set_cons_succ, i64_w, i32_w]
             rfl
            refine pure_ (i := 13) (N := some 26) (v := ?_) (a' := ?_) (bl 14 28) rfl rfl (any_of HT_.out (by kernel_rfl)) (fun _ _ _ h => h) (Or.inl ⟨by rfl, ?_⟩) ?_ ?_
            rotate_left
            ·intro w'
             go_simp
             with_reducible rfl
            rotate_left
            ·simp only [Act.put, List.setIfInBounds_toArray, List.set_cons_zero, List.set_cons_succ, i64_w, i32_w]
             rfl
            refine pure_ (i := 14) (N := some 27) (v := ?_) (a' := ?_) (bl 15 27) rfl rfl (any_of HT_.out (by kernel_rfl)) (fun _ _ _ h => h) (Or.inl ⟨by rfl, ?_⟩) ?_ ?_
            rotate_left
            ·intro w'
             go_simp
             with_reducible rfl
            rotate_left
            ·simp only [Act.put, List.setIfInBounds_toArray, List.set_cons_zero, List.set_cons_succ, i64_w, i32_w]
             rfl
            refine pure_ (i := 15) (N := some 28) (v := undef) (a' := ?_) (bl 16 26) rfl rfl (any_of HT_.out (by kernel_rfl)) (fun _ _ _ h => h) (Or.inr ⟨by rfl, rfl⟩) ?_ ?_
            rotate_left
            ·simp only [Act.put, List.setIfInBounds_toArray, List.set_cons_zero, List.set_cons_succ, i64_w, i32_w]
             rfl
            refine pure_ (i := 16) (N := some 29) (v := undef) (a' := ?_) (bl 17 25) rfl rfl (any_of HT_.out (by kernel_rfl)) (fun _ _ _ h => h) (Or.inr ⟨by rfl, rfl⟩) ?_ ?_
            rotate_left
            ·simp only [Act.put, List.setIfInBounds_toArray, List.set_cons_zero, List.set_cons_succ, i64_w, i32_w]
             rfl
            refine pure_ (i := 17) (N := some 30) (v := undef) (a' := ?_) (bl 18 24) rfl rfl (any_of HT_.out (by kernel_rfl)) (fun _ _ _ h => h) (Or.inr ⟨by rfl, rfl⟩) ?_ ?_
            rotate_left
            ·simp only [Act.put, List.setIfInBounds_toArray, List.set_cons_zero, List.set_cons_succ, i64_w, i32_w]
             rfl
            refine pure_ (i := 18) (N := some 31) (v := undef) (a' := ?_) (bl 19 23) rfl rfl (any_of HT_.out (by kernel_rfl)) (fun _ _ _ h => h) (Or.inr ⟨by rfl, rfl⟩) ?_ ?_
            rotate_left
            ·simp only [Act.put, List.setIfInBounds_toArray, List.set_cons_zero, List.set_cons_succ, i64_w, i32_w]
             rfl
            refine pure_ (i := 19) (N := some 32) (v := undef) (a' := ?_) (bl 20 22) rfl rfl (any_of HT_.out (by kernel_rfl)) (fun _ _ _ h => h) (Or.inr ⟨by rfl, rfl⟩) ?_ ?_
            rotate_left
            ·simp only [Act.put, List.setIfInBounds_toArray, List.set_cons_zero, List.set_cons_succ, i64_w, i32_w]
             rfl
            refine pure_ (i := 20) (N := some 33) (v := undef) (a' := ?_) (bl 21 21) rfl rfl (any_of HT_.out (by kernel_rfl)) (fun _ _ _ h => h) (Or.inr ⟨by rfl, rfl⟩) ?_ ?_
            rotate_left
            ·simp only [Act.put, List.setIfInBounds_toArray, List.set_cons_zero, List.set_cons_succ, i64_w, i32_w]
             rfl
            refine pure_ (i := 21) (N := some 34) (v := undef) (a' := ?_) (bl 22 20) rfl rfl (any_of HT_.out (by kernel_rfl)) (fun _ _ _ h => h) (Or.inr ⟨by rfl, rfl⟩) ?_ ?_
            rotate_left
            ·simp only [Act.put, List.setIfInBounds_toArray, List.set_cons_zero, List.set_cons_succ, i64_w, i32_w]
             rfl
            refine pure_ (i := 22) (N := some 35) (v := ?_) (a' := ?_) (bl 23 19) rfl rfl (any_of HT_.out (by kernel_rfl)) (fun _ _ _ h => h) (Or.inl ⟨by rfl, ?_⟩) ?_ ?_
            rotate_left
            ·intro w'
             go_simp
             with_reducible rfl
            rotate_left
            ·simp only [Act.put, List.setIfInBounds_toArray, List.set_cons_zero, List.set_cons_succ, i64_w, i32_w]
             rfl
            refine pure_ (i := 23) (N := some 36) (v := ?_) (a' := ?_) (bl 24 18) rfl rfl (any_of HT_.out (by kernel_rfl)) (fun _ _ _ h => h) (Or.inl ⟨by rfl, ?_⟩) ?_ ?_
            rotate_left
            ·intro w'
             go_simp
             with_reducible rfl
            rotate_left
            ·simp only [Act.put, List.setIfInBounds_toArray, List.set_cons_zero, List.set_cons_succ, i64_w, i32_w]
             rfl
            refine pure_ (i := 24) (N := some 37) (v := ?_) (a' := ?_) (bl 25 17) rfl rfl (any_of HT_.out (by kernel_rfl)) (fun _ _ _ h => h) (Or.inl ⟨by rfl, ?_⟩) ?_ ?_
            rotate_left
            ·intro w'
             go_simp
             with_reducible rfl
            rotate_left
            ·simp only [Act.put, List.setIfInBounds_toArray, List.set_cons_zero, List.set_cons_succ, i64_w, i32_w]
             rfl
            refine pure_ (i := 25) (N := some 38) (v := ?_) (a' := ?_) (bl 26 16) rfl rfl (any_of HT_.out (by kernel_rfl)) (fun _ _ _ h => h) (Or.inl ⟨by rfl, ?_⟩) ?_ ?_
            rotate_left
            ·intro w'
             go_simp
             with_reducible rfl
            rotate_left
            ·simp only [Act.put, List.setIfInBounds_toArray, List.set_cons_zero, List.set_cons_succ, i64_w, i32_w]
             rfl
            refine pure_ (i := 26) (N := some 39) (v := ?_) (a' := ?_) (bl 27 15) rfl rfl (any_of HT_.out (by kernel_rfl)) (fun _ _ _ h => h) (Or.inl ⟨by rfl, ?_⟩) ?_ ?_
            rotate_left
            ·intro w'
             go_simp
             with_reducible rfl
            rotate_left
            ·simp only [Act.put, List.setIfInBounds_toArray, List.set_cons_zero, List.set_cons_succ, i64_w, i32_w]
             rfl
            refine pure_ (i := 27) (N := some 40) (v := ?_) (a' := ?_) (bl 28 14) rfl rfl (any_of HT_.out (by kernel_rfl)) (fun _ _ _ h => h) (Or.inl ⟨by rfl, ?_⟩) ?_ ?_
            rotate_left
            ·intro w'
             go_simp
             with_reducible rfl
            rotate_left
            ·simp only [Act.put, List.setIfInBounds_toArray, List.set_cons_zero, List.set_cons_succ, i64_w, i32_w]
             rfl
            refine pure_ (i := 28) (N := some 41) (v := ?_) (a' := ?_) (bl 29 13) rfl rfl (any_of HT_.out (by kernel_rfl)) (fun _ _ _ h => h) (Or.inl ⟨by rfl, ?_⟩) ?_ ?_
            rotate_left
            ·intro w'
             go_simp
             with_reducible rfl
            rotate_left
            ·simp only [Act.put, List.setIfInBounds_toArray, List.set_cons_zero, List.set_cons_succ, i64_w, i32_w]
             rfl
            refine pure_ (i := 29) (N := some 42) (v := ?_) (a' := ?_) (bl 30 12) rfl rfl (any_of HT_.out (by kernel_rfl)) (fun _ _ _ h => h) (Or.inl ⟨by rfl, ?_⟩) ?_ ?_
            rotate_left
            ·intro w'
             go_simp
             with_reducible rfl
            rotate_left
            ·simp only [Act.put, List.setIfInBounds_toArray, List.set_cons_zero, List.set_cons_succ, i64_w, i32_w]
             rfl
            refine pure_ (i := 30) (N := some 43) (v := ?_) (a' := ?_) (bl 31 11) rfl rfl (any_of HT_.out (by kernel_rfl)) (fun _ _ _ h => h) (Or.inl ⟨by rfl, ?_⟩) ?_ ?_
            rotate_left
            ·intro w'
             go_simp
             with_reducible rfl
            rotate_left
            ·simp only [Act.put, List.setIfInBounds_toArray, List.set_cons_zero, List.set_cons_succ, i64_w, i32_w]
             rfl
            refine pure_ (i := 31) (N := some 44) (v := ?_) (a' := ?_) (bl 32 10) rfl rfl (any_of HT_.out (by kernel_rfl)) (fun _ _ _ h => h) (Or.inl ⟨by rfl, ?_⟩) ?_ ?_
            rotate_left
            ·intro w'
             go_simp
             with_reducible rfl
            rotate_left
            ·simp only [Act.put, List.setIfInBounds_toArray, List.set_cons_zero, List.set_cons_succ, i64_w, i32_w]
             rfl
            refine pure_ (i := 33) (N := some 46) (v := ?_) (a' := ?_) #[true, true, true, true, true, true, true, true, true, true, true, true, true, true, true, true, true, true, true, true, true, true, true, true, true, true, true, true, true, true, true, true, false, true, false, false, false, false, false, false, false, false] rfl rfl (any_of HT_.out (by kernel_rfl)) (fun _ _ _ h => h) (Or.inl ⟨by rfl, ?_⟩) ?_ ?_
            rotate_left
            ·intro w'
             go_simp
             with_reducible rfl
            rotate_left
            ·simp only [Act.put, List.setIfInBounds_toArray, List.set_cons_zero, List.set_cons_succ, i64_w, i32_w]
             rfl
            refine pure_ (i := 34) (N := some 47) (v := ?_) (a' := ?_) #[true, true, true, true, true, true, true, true, true, true, true, true, true, true, true, true, true, true, true, true, true, true, true, true, true, true, true, true, true, true, true, true, false, true, true, false, false, false, false, false, false, false] rfl rfl (any_of HT_.out (by kernel_rfl)) (fun _ _ _ h => h) (Or.inl ⟨by rfl, ?_⟩) ?_ ?_
            rotate_left
            ·intro w'
             go_simp
             with_reducible rfl
            rotate_left
            ·simp only [Act.put, List.setIfInBounds_toArray, List.set_cons_zero, List.set_cons_succ, i64_w, i32_w]
             rfl
            refine pure_ (i := 35) (N := some 48) (v := ?_) (a' := ?_) #[true, true, true, true, true, true, true, true, true, true, true, true, true, true, true, true, true, true, true, true, true, true, true, true, true, true, true, true, true, true, true, true, false, true, true, true, false, false, false, false, false, false] rfl rfl (any_of HT_.out (by kernel_rfl)) (fun _ _ _ h => h) (Or.inl ⟨by rfl, ?_⟩) ?_ ?_
            rotate_left
            ·intro w'
             go_simp
             with_reducible rfl
            rotate_left
            ·simp only [Act.put, List.setIfInBounds_toArray, List.set_cons_zero, List.set_cons_succ, i64_w, i32_w]
             rfl
            refine pure_ (i := 36) (N := some 49) (v := ?_) (a' := ?_) #[true, true, true, true, true, true, true, true, true, true, true, true, true, true, true, true, true, true, true, true, true, true, true, true, true, true, true, true, true, true, true, true, false, true, true, true, true, false, false, false, false, false] rfl rfl (any_of HT_.out (by kernel_rfl)) (fun _ _ _ h => h) (Or.inl ⟨by rfl, ?_⟩) ?_ ?_
            rotate_left
            ·intro w'
             go_simp
             with_reducible rfl
            rotate_left
            ·simp only [Act.put, List.setIfInBounds_toArray, List.set_cons_zero, List.set_cons_succ, i64_w, i32_w]
             rfl
            refine pure_ (i := 37) (N := some 50) (v := ?_) (a' := ?_) #[true, true, true, true, true, true, true, true, true, true, true, true, true, true, true, true, true, true, true, true, true, true, true, true, true, true, true, true, true, true, true, true, false, true, true, true, true, true, false, false, false, false] rfl rfl (any_of HT_.out (by kernel_rfl)) (fun _ _ _ h => h) (Or.inl ⟨by rfl, ?_⟩) ?_ ?_
            rotate_left
            ·intro w'
             go_simp
             with_reducible rfl
            rotate_left
            ·simp only [Act.put, List.setIfInBounds_toArray, List.set_cons_zero, List.set_cons_succ, i64_w, i32_w]
             rfl
            refine take_ (i := 32) (N := some 45) (v := ?_) (a' := ?_) (bl 38 4) rfl rfl (take_ofW HT_.out HW_.out (by kernel_rfl)) (fun _ _ _ h => h) (Or.inl ⟨by rfl, ?_⟩) hHeld ?_ ?_
            rotate_left
            ·rintro w' ⟨s0, s1, s2, s3, s4, s5, s6, s7⟩
             go_simp
             with_reducible rfl
            rotate_left
            ·simp only [Act.put, List.setIfInBounds_toArray, List.set_cons_zero, List.set_cons_succ, i64_w, i32_w]
             rfl
            refine take_ (i := 38) (N := some 51) (v := ?_) (a' := ?_) (bl 39 3) rfl rfl (take_ofW HT_.out HW_.out (by kernel_rfl)) (fun _ _ _ h => h) (Or.inl ⟨by rfl, ?_⟩) hHeld ?_ ?_
            rotate_left
            ·rintro w' ⟨s0, s1, s2, s3, s4, s5, s6, s7⟩
             go_simp
             with_reducible rfl
            rotate_left
            ·simp only [Act.put, List.setIfInBounds_toArray, List.set_cons_zero, List.set_cons_succ, i64_w, i32_w]
             rfl
            refine pure_ (i := 39) (N := some 52) (v := ?_) (a' := ?_) (bl 40 2) rfl rfl (any_of HT_.out (by kernel_rfl)) (fun _ _ _ h => h) (Or.inl ⟨by rfl, ?_⟩) ?_ ?_
            rotate_left
            ·intro w'
             go_simp
             with_reducible rfl
            rotate_left
            ·simp only [Act.put, List.setIfInBounds_toArray, List.set_cons_zero, List.set_cons_succ, i64_w, i32_w]
             rfl
            refine pure_ (i := 40) (N := some 53) (v := ?_) (a' := ?_) (bl 41 1) rfl rfl (any_of HT_.out (by kernel_rfl)) (fun _ _ _ h => h) (Or.inl ⟨by rfl, ?_⟩) ?_ ?_
            rotate_left
            ·intro w'
             go_simp
             with_reducible rfl
            rotate_left
            ·simp only [Act.put, List.setIfInBounds_toArray, List.set_cons_zero, List.set_cons_succ, i64_w, i32_w]
             rfl
            refine pure_ (i := 41) (N := some 54) (v := ?_) (a' := ?_) (bl 42 0) rfl rfl (any_of HT_.out (by kernel_rfl)) (fun _ _ _ h => h) (Or.inl ⟨by rfl, ?_⟩) ?_ ?_
            rotate_left
            ·intro w'
             go_simp
             with_reducible rfl
            rotate_left
            ·simp only [Act.put, List.setIfInBounds_toArray, List.set_cons_zero, List.set_cons_succ, i64_w, i32_w]
             rfl
            refine done_ (done_of HT_.out (by kernel_rfl)) ?_
            try go_wp2
            go_roundg k1
            case measure => have := HK1.out; omega
            case rel => exact ⟨(wrap64 (x3_1 + 1)), (by first | rfl | (simp; done) | (simp [*]; done) | (simp; rw [Bool.eq_iff_iff]; simp; done) | (rw [Bool.eq_iff_iff]; simp; done)), H', ⟨by have := HK1.out; omega⟩, ⟨by repeat (first | (with_reducible first | exact HB.out | apply below_alloc | apply pw_below_drewN | apply below_drew1) | exact HB.out)⟩⟩
           ·rw [if_neg c12] at H
            have c12b0 : (Op.bytesLess (((rd_T51 l0 (ji9)).f0).toList) (((rd_T51 l0 x3_1).f0).toList)) = false := by simpa using c12
            clear c12
            obtain rfl := Option.some.inj H
            try go_wp2
            have n0_ := Aside0.mk (below_drew1 HB.out)
            clear HB
            have HB := n0_
            clear n0_
            have p487 : 0 ≤ (x3_1 : Int) := of_decide_eq_true (by first | (with_reducible assumption) | assumption)
            have q487 : x3_1 < (l0.length : Int) := of_decide_eq_true (by first | (with_reducible assumption) | assumption)
            obtain ⟨ad487, e487, hx487_0, hx487_1⟩ := at_T51 HR0.out x3_1 p487 q487
            have hw487_1 := hx487_1
            have hw487_0 := hx487_0
            cases e487
            replace hx487_0 := (HB.out.cell (World.block_lt_of_cell? w _ hx487_0)).trans hx487_0
            replace hx487_1 := (HB.out.cell (World.block_lt_of_cell? w _ hx487_1)).trans hx487_1
            replace p487 := eq_true p487
            replace q487 := eq_true q487
            have p489 : 0 ≤ (x3_1 : Int) := of_decide_eq_true (by first | (with_reducible assumption) | assumption)
            have q489 : x3_1 < (l0.length : Int) := of_decide_eq_true (by first | (with_reducible assumption) | assumption)
            obtain ⟨ad489, e489, hx489_0, hx489_1⟩ := at_T51 HR0.out x3_1 p489 q489
            have hw489_1 := hx489_1
            have hw489_0 := hx489_0
            obtain rfl : ad487 = ad489 := (by injection e489)
            replace hx489_0 := (HB.out.cell (World.block_lt_of_cell? w _ hx489_0)).trans hx489_0
            replace hx489_1 := (HB.out.cell (World.block_lt_of_cell? w _ hx489_1)).trans hx489_1
            replace p489 := eq_true p489
            replace q489 := eq_true q489
            have p490 : 0 ≤ (x3_1 : Int) := of_decide_eq_true (by first | (with_reducible assumption) | assumption)
            have q490 : x3_1 < (l0.length : Int) := of_decide_eq_true (by first | (with_reducible assumption) | assumption)
            obtain ⟨ad490, e490, hx490_0, hx490_1⟩ := at_T51 HR0.out x3_1 p490 q490
            have hw490_1 := hx490_1
            have hw490_0 := hx490_0
            obtain rfl : ad487 = ad490 := (by injection e490)
            replace hx490_0 := (HB.out.cell (World.block_lt_of_cell? w _ hx490_0)).trans hx490_0
            replace hx490_1 := (HB.out.cell (World.block_lt_of_cell? w _ hx490_1)).trans hx490_1
            replace p490 := eq_true p490
            replace q490 := eq_true q490
            have p491 : 0 ≤ ((ji9) : Int) := of_decide_eq_true (by first | (with_reducible assumption) | assumption)
            have q491 : (ji9) < (l0.length : Int) := of_decide_eq_true (by first | (with_reducible assumption) | assumption)
            obtain ⟨ad491, e491, hx491_0, hx491_1⟩ := at_T51 HR0.out (ji9) p491 q491
            have hw491_1 := hx491_1
            have hw491_0 := hx491_0
            obtain rfl : ad487 = ad491 := (by injection e491)
            replace hx491_0 := (HB.out.cell (World.block_lt_of_cell? w _ hx491_0)).trans hx491_0
            replace hx491_1 := (HB.out.cell (World.block_lt_of_cell? w _ hx491_1)).trans hx491_1
            replace p491 := eq_true p491
            replace q491 := eq_true q491
            refine start_ (n := 42) (S := fun w' => w'.cell? (ad487.add ((x3_1).toNat * 2)) = some (.string ((rd_T51 l0 x3_1).f0)) ∧ w'.cell? ⟨(ad487.add ((x3_1).toNat * 2)).block, (ad487.add ((x3_1).toNat * 2)).off + 1, none⟩ = some (.string ((rd_T51 l0 x3_1).f1)) ∧ w'.cell? (ad487.add ((x3_1).toNat * 2)) = some (.string ((rd_T51 l0 x3_1).f0)) ∧ w'.cell? ⟨(ad487.add ((x3_1).toNat * 2)).block, (ad487.add ((x3_1).toNat * 2)).off + 1, none⟩ = some (.string ((rd_T51 l0 x3_1).f1)) ∧ w'.cell? (ad487.add ((x3_1).toNat * 2)) = some (.string ((rd_T51 l0 x3_1).f0)) ∧ w'.cell? ⟨(ad487.add ((x3_1).toNat * 2)).block, (ad487.add ((x3_1).toNat * 2)).off + 1, none⟩ = some (.string ((rd_T51 l0 x3_1).f1)) ∧ w'.cell? (ad487.add (((ji9)).toNat * 2)) = some (.string ((rd_T51 l0 (ji9)).f0)) ∧ w'.cell? ⟨(ad487.add (((ji9)).toNat * 2)).block, (ad487.add (((ji9)).toNat * 2)).off + 1, none⟩ = some (.string ((rd_T51 l0 (ji9)).f1))) (ds := []) (bl 0 42) (by kernel_rfl) rfl rfl ⟨((HB.out.cell (World.block_lt_of_cell? w _ hw487_0)).trans hw487_0), ((HB.out.cell (World.block_lt_of_cell? w _ hw487_1)).trans hw487_1), ((HB.out.cell (World.block_lt_of_cell? w _ hw489_0)).trans hw489_0), ((HB.out.cell (World.block_lt_of_cell? w _ hw489_1)).trans hw489_1), ((HB.out.cell (World.block_lt_of_cell? w _ hw490_0)).trans hw490_0), ((HB.out.cell (World.block_lt_of_cell? w _ hw490_1)).trans hw490_1), ((HB.out.cell (World.block_lt_of_cell? w _ hw491_0)).trans hw491_0), ((HB.out.cell (World.block_lt_of_cell? w _ hw491_1)).trans hw491_1)⟩ (fun hHeld => ?_); refine with_tabW bursarref04_Valid.tab6 bursarref04_Valid.bits6 (fun HT_ HW_ => ?_)
            generalize wr.drew = w14 at HB hx487_0 hx487_1 hx489_0 hx489_1 hx490_0 hx490_1 hx491_0 hx491_1 hHeld ⊢
            refine pure_ (i := 0) (N := some 13) (v := ?_) (a' := ?_) (bl 1 41) rfl rfl (any_of HT_.out (by kernel_rfl)) (fun _ _ _ h => h) (Or.inl ⟨by rfl, ?_⟩) ?_ ?_
            rotate_left
            ·intro w'
             go_simp
             with_reducible rfl
            rotate_left
            ·simp only [Act.put, List.setIfInBounds_toArray, List.set_cons_zero, List.set_cons_succ, i64_w, i32_w]
             rfl
            refine pure_ (i := 1) (N := some 14) (v := ?_) (a' := ?_) (bl 2 40) rfl rfl (any_of HT_.out (by kernel_rfl)) (fun _ _ _ h => h) (Or.inl ⟨by rfl, ?_⟩) ?_ ?_
            rotate_left
            ·intro w'
             go_simp
             with_reducible rfl
            rotate_left
            ·simp only [Act.put, List.setIfInBounds_toArray, List.set_cons_zero, List.set_cons_succ, i64_w, i32_w]
             rfl
            refine pure_ (i := 2) (N := some 15) (v := ?_) (a' := ?_) (bl 3 39) rfl rfl (any_of HT_.out (by kernel_rfl)) (fun _ _ _ h => h) (Or.inl ⟨by rfl, ?_⟩) ?_ ?_
            rotate_left
            ·intro w'
             go_simp
             with_reducible rfl
            rotate_left
            ·simp only [Act.put, List.setIfInBounds_toArray, List.set_cons_zero, List.set_cons_succ, i64_w, i32_w]
             rfl
            refine pure_ (i := 3) (N := some 16) (v := ?_) (a' := ?_) (bl 4 38) rfl rfl (any_of HT_.out (by kernel_rfl)) (fun _ _ _ h => h) (Or.inl ⟨by rfl, ?_⟩) ?_ ?_
            rotate_left
            ·intro w'
             go_simp
             with_reducible rfl
            rotate_left
            ·simp only [Act.put, List.setIfInBounds_toArray, List.set_cons_zero, List.set_cons_succ, i64_w, i32_w]
             rfl
            refine take_ (i := 4) (N := some 17) (v := ?_) (a' := ?_) (bl 5 37) rfl rfl (take_ofW HT_.out HW_.out (by kernel_rfl)) (fun _ _ _ h => h) (Or.inl ⟨by rfl, ?_⟩) hHeld ?_ ?_
            rotate_left
            ·rintro w' ⟨s0, s1, s2, s3, s4, s5, s6, s7⟩
             go_simp
             with_reducible rfl
            rotate_left
            ·simp only [Act.put, List.setIfInBounds_toArray, List.set_cons_zero, List.set_cons_succ, i64_w, i32_w]
             rfl
            refine one_ (i := 5) (N := some 18) (bl 6 36) rfl rfl (one_of HT_.out (by kernel_rfl)) (by decide) (fun K hK => ?_)
            refine goes_ Tryd.func19 (by kernel_rfl) rfl #[.string ((rd_T51 l0 x3_1).f0)] (by rfl) rfl rfl (by (try simp only [List.map_toArray, List.map_cons, List.map_nil]); first | done | rfl | (simp only [List.length_drop, List.length_take]; rfl)) ?_
            with_reducible refine (bursarref04_Name.calls k1 ((rd_T51 l0 x3_1).f0) true _ A5.out).mono ?_
            rintro e w' ⟨rfl, ⟨nd, rfl⟩⟩
            refine ⟨_, rfl, ?_⟩
            refine hK.out _ _ ⟨((HB.out.cell (World.block_lt_of_cell? w _ hw487_0)).trans hw487_0), ((HB.out.cell (World.block_lt_of_cell? w _ hw487_1)).trans hw487_1), ((HB.out.cell (World.block_lt_of_cell? w _ hw489_0)).trans hw489_0), ((HB.out.cell (World.block_lt_of_cell? w _ hw489_1)).trans hw489_1), ((HB.out.cell (World.block_lt_of_cell? w _ hw490_0)).trans hw490_0), ((HB.out.cell (World.block_lt_of_cell? w _ hw490_1)).trans hw490_1), ((HB.out.cell (World.block_lt_of_cell? w _ hw491_0)).trans hw491_0), ((HB.out.cell (World.block_lt_of_cell? w _ hw491_1)).trans hw491_1)⟩ (fun hHeld => ?_)
            clear hK K
            refine norm_ (a' := ?_) ?_ ?_
            rotate_left
            ·show Act.put _ (some 18) _ = _
             simp only [Act.put, List.setIfInBounds_toArray, List.set_cons_zero, List.set_cons_succ, i64_w, i32_w]
             rfl
            refine pure_ (i := 6) (N := some 19) (v := ?_) (a' := ?_) (bl 7 35) rfl rfl (any_of HT_.out (by kernel_rfl)) (fun _ _ _ h => h) (Or.inl ⟨by rfl, ?_⟩) ?_ ?_
            rotate_left
            ·intro w'
             go_simp
             with_reducible rfl
            rotate_left
            ·simp only [Act.put, List.setIfInBounds_toArray, List.set_cons_zero, List.set_cons_succ, i64_w, i32_w]
             rfl
            refine pure_ (i := 7) (N := some 20) (v := ?_) (a' := ?_) (bl 8 34) rfl rfl (any_of HT_.out (by kernel_rfl)) (fun _ _ _ h => h) (Or.inl ⟨by rfl, ?_⟩) ?_ ?_
            rotate_left
            ·intro w'
             go_simp
             with_reducible rfl
            rotate_left
            ·simp only [Act.put, List.setIfInBounds_toArray, List.set_cons_zero, List.set_cons_succ, i64_w, i32_w]
             rfl
            refine pure_ (i := 8) (N := some 21) (v := ?_) (a' := ?_) (bl 9 33) rfl rfl (any_of HT_.out (by kernel_rfl)) (fun _ _ _ h => h) (Or.inl ⟨by rfl, ?_⟩) ?_ ?_
            rotate_left
            ·intro w'
             go_simp
             with_reducible rfl
            rotate_left
            ·simp only [Act.put, List.setIfInBounds_toArray, List.set_cons_zero, List.set_cons_succ, i64_w, i32_w]
             rfl
            refine pure_ (i := 9) (N := some 22) (v := ?_) (a' := ?_) (bl 10 32) rfl rfl (any_of HT_.out (by kernel_rfl)) (fun _ _ _ h => h) (Or.inl ⟨by rfl, ?_⟩) ?_ ?_
            rotate_left
            ·intro w'
             go_simp
             with_reducible rfl
            rotate_left
            ·simp only [Act.put, List.setIfInBounds_toArray, List.set_cons_zero, List.set_cons_succ, i64_w, i32_w]
             rfl
            refine pure_ (i := 10) (N := some 23) (v := ?_) (a' := ?_) (bl 11 31) rfl rfl (any_of HT_.out (by kernel_rfl)) (fun _ _ _ h => h) (Or.inl ⟨by rfl, ?_⟩) ?_ ?_
            rotate_left
            ·intro w'
             go_simp
             with_reducible rfl
            rotate_left
            ·simp only [Act.put, List.setIfInBounds_toArray, List.set_cons_zero, List.set_cons_succ, i64_w, i32_w]
             rfl
            refine pure_ (i := 11) (N := some 24) (v := ?_) (a' := ?_) (bl 12 30) rfl rfl (any_of HT_.out (by kernel_rfl)) (fun _ _ _ h => h) (Or.inl ⟨by rfl, ?_⟩) ?_ ?_
            rotate_left
            ·intro w'
             go_simp
             with_reducible rfl
            rotate_left
            ·simp only [Act.put, List.setIfInBounds_toArray, List.set_cons_zero, List.set_cons_succ, i64_w, i32_w]
             rfl
            refine take_ (i := 12) (N := some 25) (v := ?_) (a' := ?_) (bl 13 29) rfl rfl (take_ofW HT_.out HW_.out (by kernel_rfl)) (fun _ _ _ h => h) (Or.inl ⟨by rfl, ?_⟩) hHeld ?_ ?_
            rotate_left
            ·rintro w' ⟨s0, s1, s2, s3, s4, s5, s6, s7⟩
             go_simp
             with_reducible rfl
            rotate_left
            ·simp only [Act.put, List.setIfInBounds_toArray, List.set_cons_zero, List.set_cons_succ, i64_w, i32_w]
             rfl
            refine pure_ (i := 13) (N := some 26) (v := ?_) (a' := ?_) (bl 14 28) rfl rfl (any_of HT_.out (by kernel_rfl)) (fun _ _ _ h => h) (Or.inl ⟨by rfl, ?_⟩) ?_ ?_
            rotate_left
            ·intro w'
             go_simp
             with_reducible rfl
            rotate_left
            ·simp only [Act.put, List.setIfInBounds_toArray, List.set_cons_zero, List.set_cons_succ, i64_w, i32_w]
             rfl
            refine pure_ (i := 14) (N := some 27) (v := ?_) (a' := ?_) (bl 15 27) rfl rfl (any_of HT_.out (by kernel_rfl)) (fun _ _ _ h => h) (Or.inl ⟨by rfl, ?_⟩) ?_ ?_
            rotate_left
            ·intro w'
             go_simp
             with_reducible rfl
            rotate_left
            ·simp only [Act.put, List.setIfInBounds_toArray, List.set_cons_zero, List.set_cons_succ, i64_w, i32_w]
             rfl
            refine pure_ (i := 15) (N := some 28) (v := undef) (a' := ?_) (bl 16 26) rfl rfl (any_of HT_.out (by kernel_rfl)) (fun _ _ _ h => h) (Or.inr ⟨by rfl, rfl⟩) ?_ ?_
            rotate_left
            ·simp only [Act.put, List.setIfInBounds_toArray, List.set_cons_zero, List.set_cons_succ, i64_w, i32_w]
             rfl
            refine pure_ (i := 16) (N := some 29) (v := undef) (a' := ?_) (bl 17 25) rfl rfl (any_of HT_.out (by kernel_rfl)) (fun _ _ _ h => h) (Or.inr ⟨by rfl, rfl⟩) ?_ ?_
            rotate_left
            ·simp only [Act.put, List.setIfInBounds_toArray, List.set_cons_zero, List.set_cons_succ, i64_w, i32_w]
             rfl
            refine pure_ (i := 17) (N := some 30) (v := undef) (a' := ?_) (bl 18 24) rfl rfl (any_of HT_.out (by kernel_rfl)) (fun _ _ _ h => h) (Or.inr ⟨by rfl, rfl⟩) ?_ ?_
            rotate_left
            ·simp only [Act.put, List.setIfInBounds_toArray, List.set_cons_zero, List.set_cons_succ, i64_w, i32_w]
             rfl
            refine pure_ (i := 18) (N := some 31) (v := undef) (a' := ?_) (bl 19 23) rfl rfl (any_of HT_.out (by kernel_rfl)) (fun _ _ _ h => h) (Or.inr ⟨by rfl, rfl⟩) ?_ ?_
            rotate_left
            ·simp only [Act.put, List.setIfInBounds_toArray, List.set_cons_zero, List.set_cons_succ, i64_w, i32_w]
             rfl
            refine pure_ (i := 19) (N := some 32) (v := undef) (a' := ?_) (bl 20 22) rfl rfl (any_of HT_.out (by kernel_rfl)) (fun _ _ _ h => h) (Or.inr ⟨by rfl, rfl⟩) ?_ ?_
            rotate_left
            ·simp only [Act.put, List.setIfInBounds_toArray, List.set_cons_zero, List.set_cons_succ, i64_w, i32_w]
             rfl
            refine pure_ (i := 20) (N := some 33) (v := undef) (a' := ?_) (bl 21 21) rfl rfl (any_of HT_.out (by kernel_rfl)) (fun _ _ _ h => h) (Or.inr ⟨by rfl, rfl⟩) ?_ ?_
            rotate_left
            ·simp only [Act.put, List.setIfInBounds_toArray, List.set_cons_zero, List.set_cons_succ, i64_w, i32_w]
             rfl
            refine pure_ (i := 21) (N := some 34) (v := undef) (a' := ?_) (bl 22 20) rfl rfl (any_of HT_.out (by kernel_rfl)) (fun _ _ _ h => h) (Or.inr ⟨by rfl, rfl⟩) ?_ ?_
            rotate_left
            ·simp only [Act.put, List.setIfInBounds_toArray, List.set_cons_zero, List.set_cons_succ, i64_w, i32_w]
             rfl
            refine pure_ (i := 22) (N := some 35) (v := ?_) (a' := ?_) (bl 23 19) rfl rfl (any_of HT_.out (by kernel_rfl)) (fun _ _ _ h => h) (Or.inl ⟨by rfl, ?_⟩) ?_ ?_
            rotate_left
            ·intro w'
             go_simp
             with_reducible rfl
            rotate_left
            ·simp only [Act.put, List.setIfInBounds_toArray, List.set_cons_zero, List.set_cons_succ, i64_w, i32_w]
             rfl
            refine pure_ (i := 23) (N := some 36) (v := ?_) (a' := ?_) (bl 24 18) rfl rfl (any_of HT_.out (by kernel_rfl)) (fun _ _ _ h => h) (Or.inl ⟨by rfl, ?_⟩) ?_ ?_
            rotate_left
            ·intro w'
             go_simp
             with_reducible rfl
            rotate_left
            ·simp only [Act.put, List.setIfInBounds_toArray, List.set_cons_zero, List.set_cons_succ, i64_w, i32_w]
             rfl
            refine pure_ (i := 24) (N := some 37) (v := ?_) (a' := ?_) (bl 25 17) rfl rfl (any_of HT_.out (by kernel_rfl)) (fun _ _ _ h => h) (Or.inl ⟨by rfl, ?_⟩) ?_ ?_
            rotate_left
            ·intro w'
             go_simp
             with_reducible rfl
            rotate_left
            ·simp only [Act.put, List.setIfInBounds_toArray, List.set_cons_zero, List.set_cons_succ, i64_w, i32_w]
             rfl
            refine pure_ (i := 25) (N := some 38) (v := ?_) (a' := ?_) (bl 26 16) rfl rfl (any_of HT_.out (by kernel_rfl)) (fun _ _ _ h => h) (Or.inl ⟨by rfl, ?_⟩) ?_ ?_
            rotate_left
            ·intro w'
             go_simp
             with_reducible rfl
            rotate_left
            ·simp only [Act.put, List.setIfInBounds_toArray, List.set_cons_zero, List.set_cons_succ, i64_w, i32_w]
             rfl
            refine pure_ (i := 26) (N := some 39) (v := ?_) (a' := ?_) (bl 27 15) rfl rfl (any_of HT_.out (by kernel_rfl)) (fun _ _ _ h => h) (Or.inl ⟨by rfl, ?_⟩) ?_ ?_
            rotate_left
            ·intro w'
             go_simp
             with_reducible rfl
            rotate_left
            ·simp only [Act.put, List.setIfInBounds_toArray, List.set_cons_zero, List.set_cons_succ, i64_w, i32_w]
             rfl
            refine pure_ (i := 27) (N := some 40) (v := ?_) (a' := ?_) (bl 28 14) rfl rfl (any_of HT_.out (by kernel_rfl)) (fun _ _ _ h => h) (Or.inl ⟨by rfl, ?_⟩) ?_ ?_
            rotate_left
            ·intro w'
             go_simp
             with_reducible rfl
            rotate_left
            ·simp only [Act.put, List.setIfInBounds_toArray, List.set_cons_zero, List.set_cons_succ, i64_w, i32_w]
             rfl
            refine pure_ (i := 28) (N := some 41) (v := ?_) (a' := ?_) (bl 29 13) rfl rfl (any_of HT_.out (by kernel_rfl)) (fun _ _ _ h => h) (Or.inl ⟨by rfl, ?_⟩) ?_ ?_
            rotate_left
            ·intro w'
             go_simp
             with_reducible rfl
            rotate_left
            ·simp only [Act.put, List.setIfInBounds_toArray, List.set_cons_zero, List.set_cons_succ, i64_w, i32_w]
             rfl
            refine pure_ (i := 29) (N := some 42) (v := ?_) (a' := ?_) (bl 30 12) rfl rfl (any_of HT_.out (by kernel_rfl)) (fun _ _ _ h => h) (Or.inl ⟨by rfl, ?_⟩) ?_ ?_
            rotate_left
            ·intro w'
             go_simp
             with_reducible rfl
            rotate_left
            ·simp only [Act.put, List.setIfInBounds_toArray, List.set_cons_zero, List.set_cons_succ, i64_w, i32_w]
             rfl
            refine pure_ (i := 30) (N := some 43) (v := ?_) (a' := ?_) (bl 31 11) rfl rfl (any_of HT_.out (by kernel_rfl)) (fun _ _ _ h => h) (Or.inl ⟨by rfl, ?_⟩) ?_ ?_
            rotate_left
            ·intro w'
             go_simp
             with_reducible rfl
            rotate_left
            ·simp only [Act.put, List.setIfInBounds_toArray, List.set_cons_zero, List.set_cons_succ, i64_w, i32_w]
             rfl
            refine pure_ (i := 31) (N := some 44) (v := ?_) (a' := ?_) (bl 32 10) rfl rfl (any_of HT_.out (by kernel_rfl)) (fun _ _ _ h => h) (Or.inl ⟨by rfl, ?_⟩) ?_ ?_
            rotate_left
            ·intro w'
             go_simp
             with_reducible rfl
            rotate_left
            ·simp only [Act.put, List.setIfInBounds_toArray, List.set_cons_zero, List.set_cons_succ, i64_w, i32_w]
             rfl
            refine pure_ (i := 33) (N := some 46) (v := ?_) (a' := ?_) #[true, true, true, true, true, true, true, true, true, true, true, true, true, true, true, true, true, true, true, true, true, true, true, true, true, true, true, true, true, true, true, true, false, true, false, false, false, false, false, false, false, false] rfl rfl (any_of HT_.out (by kernel_rfl)) (fun _ _ _ h => h) (Or.inl ⟨by rfl, ?_⟩) ?_ ?_
            rotate_left
            ·intro w'
             go_simp
             with_reducible rfl
            rotate_left
            ·simp only [Act.put, List.setIfInBounds_toArray, List.set_cons_zero, List.set_cons_succ, i64_w, i32_w]
             rfl
            refine pure_ (i := 34) (N := some 47) (v := ?_) (a' := ?_) #[true, true, true, true, true, true, true, true, true, true, true, true, true, true, true, true, true, true, true, true, true, true, true, true, true, true, true, true, true, true, true, true, false, true, true, false, false, false, false, false, false, false] rfl rfl (any_of HT_.out (by kernel_rfl)) (fun _ _ _ h => h) (Or.inl ⟨by rfl, ?_⟩) ?_ ?_
            rotate_left
            ·intro w'
             go_simp
             with_reducible rfl
            rotate_left
            ·simp only [Act.put, List.setIfInBounds_toArray, List.set_cons_zero, List.set_cons_succ, i64_w, i32_w]
             rfl
            refine pure_ (i := 35) (N := some 48) (v := ?_) (a' := ?_) #[true, true, true, true, true, true, true, true, true, true, true, true, true, true, true, true, true, true, true, true, true, true, true, true, true, true, true, true, true, true, true, true, false, true, true, true, false, false, false, false, false, false] rfl rfl (any_of HT_.out (by kernel_rfl)) (fun _ _ _ h => h) (Or.inl ⟨by rfl, ?_⟩) ?_ ?_
            rotate_left
            ·intro w'
             go_simp
             with_reducible rfl
            rotate_left
            ·simp only [Act.put, List.setIfInBounds_toArray, List.set_cons_zero, List.set_cons_succ, i64_w, i32_w]
             rfl
            refine pure_ (i := 36) (N := some 49) (v := ?_) (a' := ?_) #[true, true, true, true, true, true, true, true, true, true, true, true, true, true, true, true, true, true, true, true, true, true, true, true, true, true, true, true, true, true, true, true, false, true, true, true, true, false, false, false, false, false] rfl rfl (any_of HT_.out (by kernel_rfl)) (fun _ _ _ h => h) (Or.inl ⟨by rfl, ?_⟩) ?_ ?_
            rotate_left
            ·intro w'
             go_simp
             with_reducible rfl
            rotate_left
            ·simp only [Act.put, List.setIfInBounds_toArray, List.set_cons_zero, List.set_cons_succ, i64_w, i32_w]
             rfl
            refine pure_ (i := 37) (N := some 50) (v := ?_) (a' := ?_) #[true, true, true, true, true, true, true, true, true, true, true, true, true, true, true, true, true, true, true, true, true, true, true, true, true, true, true, true, true, true, true, true, false, true, true, true, true, true, false, false, false, false] rfl rfl (any_of HT_.out (by kernel_rfl)) (fun _ _ _ h => h) (Or.inl ⟨by rfl, ?_⟩) ?_ ?_
            rotate_left
            ·intro w'
             go_simp
             with_reducible rfl
            rotate_left
            ·simp only [Act.put, List.setIfInBounds_toArray, List.set_cons_zero, List.set_cons_succ, i64_w, i32_w]
             rfl
            refine take_ (i := 32) (N := some 45) (v := ?_) (a' := ?_) (bl 38 4) rfl rfl (take_ofW HT_.out HW_.out (by kernel_rfl)) (fun _ _ _ h => h) (Or.inl ⟨by rfl, ?_⟩) hHeld ?_ ?_
            rotate_left
            ·rintro w' ⟨s0, s1, s2, s3, s4, s5, s6, s7⟩
             go_simp
             with_reducible rfl
            rotate_left
            ·simp only [Act.put, List.setIfInBounds_toArray, List.set_cons_zero, List.set_cons_succ, i64_w, i32_w]
             rfl
            refine take_ (i := 38) (N := some 51) (v := ?_) (a' := ?_) (bl 39 3) rfl rfl (take_ofW HT_.out HW_.out (by kernel_rfl)) (fun _ _ _ h => h) (Or.inl ⟨by rfl, ?_⟩) hHeld ?_ ?_
            rotate_left
            ·rintro w' ⟨s0, s1, s2, s3, s4, s5, s6, s7⟩
             go_simp
             with_reducible rfl
            rotate_left
            ·simp only [Act.put, List.setIfInBounds_toArray, List.set_cons_zero, List.set_cons_succ, i64_w, i32_w]
             rfl
            refine pure_ (i := 39) (N := some 52) (v := ?_) (a' := ?_) (bl 40 2) rfl rfl (any_of HT_.out (by kernel_rfl)) (fun _ _ _ h => h) (Or.inl ⟨by rfl, ?_⟩) ?_ ?_
            rotate_left
            ·intro w'
             go_simp
             with_reducible rfl
            rotate_left
            ·simp only [Act.put, List.setIfInBounds_toArray, List.set_cons_zero, List.set_cons_succ, i64_w, i32_w]
             rfl
            refine pure_ (i := 40) (N := some 53) (v := ?_) (a' := ?_) (bl 41 1) rfl rfl (any_of HT_.out (by kernel_rfl)) (fun _ _ _ h => h) (Or.inl ⟨by rfl, ?_⟩) ?_ ?_
            rotate_left
            ·intro w'
             go_simp
             with_reducible rfl
            rotate_left
            ·simp only [Act.put, List.setIfInBounds_toArray, List.set_cons_zero, List.set_cons_succ, i64_w, i32_w]
             rfl
            refine pure_ (i := 41) (N := some 54) (v := ?_) (a' := ?_) (bl 42 0) rfl rfl (any_of HT_.out (by kernel_rfl)) (fun _ _ _ h => h) (Or.inl ⟨by rfl, ?_⟩) ?_ ?_
            rotate_left
            ·intro w'
             go_simp
             with_reducible rfl
            rotate_left
            ·simp only [Act.put, List.setIfInBounds_toArray, List.set_cons_zero, List.set_cons_succ, i64_w, i32_w]
             rfl
            refine done_ (done_of HT_.out (by kernel_rfl)) ?_
            try go_wp2
            go_ret
            exact ⟨by first | rfl | (simp [errW_none, errW_some] <;> rfl) | (simp only [← hji9]; first | rfl | (simp [errW_none, errW_some] <;> rfl)) | (simp [*, errW_none, errW_some] <;> rfl), by repeat (first | (with_reducible first | exact HB.out | apply below_alloc | apply pw_below_drewN | apply below_drew1) | exact HB.out)⟩
          ·rw [if_neg c11] at H
           exact absurd H (by simp)
         ·rw [if_neg c10] at H
          exact absurd H (by simp)
        ·rw [if_neg c8] at H
         have c8b0 : decide (0 < x3_1) = false := decide_eq_false c8
         clear c8
         have H' := Aside0.mk H
         clear H
         try go_wp2
         have n0_ := Aside0.mk (below_drew1 HB.out)
         clear HB
         have HB := n0_
         clear n0_
         have p487 : 0 ≤ (x3_1 : Int) := of_decide_eq_true (by first | (with_reducible assumption) | assumption)
         have q487 : x3_1 < (l0.length : Int) := of_decide_eq_true (by first | (with_reducible assumption) | assumption)
         obtain ⟨ad487, e487, hx487_0, hx487_1⟩ := at_T51 HR0.out x3_1 p487 q487
         have hw487_1 := hx487_1
         have hw487_0 := hx487_0
         cases e487
         replace hx487_0 := (HB.out.cell (World.block_lt_of_cell? w _ hx487_0)).trans hx487_0
         replace hx487_1 := (HB.out.cell (World.block_lt_of_cell? w _ hx487_1)).trans hx487_1
         replace p487 := eq_true p487
         replace q487 := eq_true q487
         have p489 : 0 ≤ (x3_1 : Int) := of_decide_eq_true (by first | (with_reducible assumption) | assumption)
         have q489 : x3_1 < (l0.length : Int) := of_decide_eq_true (by first | (with_reducible assumption) | assumption)
         obtain ⟨ad489, e489, hx489_0, hx489_1⟩ := at_T51 HR0.out x3_1 p489 q489
         have hw489_1 := hx489_1
         have hw489_0 := hx489_0
         obtain rfl : ad487 = ad489 := (by injection e489)
         replace hx489_0 := (HB.out.cell (World.block_lt_of_cell? w _ hx489_0)).trans hx489_0
         replace hx489_1 := (HB.out.cell (World.block_lt_of_cell? w _ hx489_1)).trans hx489_1
         replace p489 := eq_true p489
         replace q489 := eq_true q489
         refine start_ (n := 42) (S := fun w' => w'.cell? (ad487.add ((x3_1).toNat * 2)) = some (.string ((rd_T51 l0 x3_1).f0)) ∧ w'.cell? ⟨(ad487.add ((x3_1).toNat * 2)).block, (ad487.add ((x3_1).toNat * 2)).off + 1, none⟩ = some (.string ((rd_T51 l0 x3_1).f1)) ∧ w'.cell? (ad487.add ((x3_1).toNat * 2)) = some (.string ((rd_T51 l0 x3_1).f0)) ∧ w'.cell? ⟨(ad487.add ((x3_1).toNat * 2)).block, (ad487.add ((x3_1).toNat * 2)).off + 1, none⟩ = some (.string ((rd_T51 l0 x3_1).f1))) (ds := []) (bl 0 42) (by kernel_rfl) rfl rfl ⟨((HB.out.cell (World.block_lt_of_cell? w _ hw487_0)).trans hw487_0), ((HB.out.cell (World.block_lt_of_cell? w _ hw487_1)).trans hw487_1), ((HB.out.cell (World.block_lt_of_cell? w _ hw489_0)).trans hw489_0), ((HB.out.cell (World.block_lt_of_cell? w _ hw489_1)).trans hw489_1)⟩ (fun hHeld => ?_); refine with_tabW bursarref04_Valid.tab6 bursarref04_Valid.bits6 (fun HT_ HW_ => ?_)
         generalize wr.drew = w15 at HB hx487_0 hx487_1 hx489_0 hx489_1 hHeld ⊢
         refine pure_ (i := 0) (N := some 13) (v := ?_) (a' := ?_) (bl 1 41) rfl rfl (any_of HT_.out (by kernel_rfl)) (fun _ _ _ h => h) (Or.inl ⟨by rfl, ?_⟩) ?_ ?_
         rotate_left
         ·intro w'
          go_simp
          with_reducible rfl
         rotate_left
         ·simp only [Act.put, List.setIfInBounds_toArray, List.set_cons_zero, List.set_cons_succ, i64_w, i32_w]
          rfl
         refine pure_ (i := 1) (N := some 14) (v := ?_) (a' := ?_) (bl 2 40) rfl rfl (any_of HT_.out (by kernel_rfl)) (fun _ _ _ h => h) (Or.inl ⟨by rfl, ?_⟩) ?_ ?_
         rotate_left
         ·intro w'
          go_simp
          with_reducible rfl
         rotate_left
         ·simp only [Act.put, List.setIfInBounds_toArray, List.set_cons_zero, List.set_cons_succ, i64_w, i32_w]
          rfl
         refine pure_ (i := 2) (N := some 15) (v := ?_) (a' := ?_) (bl 3 39) rfl rfl (any_of HT_.out (by kernel_rfl)) (fun _ _ _ h => h) (Or.inl ⟨by rfl, ?_⟩) ?_ ?_
         rotate_left
         ·intro w'
          go_simp
          with_reducible rfl
         rotate_left
         ·simp only [Act.put, List.setIfInBounds_toArray, List.set_cons_zero, List.set_cons_succ, i64_w, i32_w]
          rfl
         refine pure_ (i := 3) (N := some 16) (v := ?_) (a' := ?_) (bl 4 38) rfl rfl (any_of HT_.out (by kernel_rfl)) (fun _ _ _ h => h) (Or.inl ⟨by rfl, ?_⟩) ?_ ?_
         rotate_left
         ·intro w'
          go_simp
          with_reducible rfl
         rotate_left
         ·simp only [Act.put, List.setIfInBounds_toArray, List.set_cons_zero, List.set_cons_succ, i64_w, i32_w]
          rfl
         refine take_ (i := 4) (N := some 17) (v := ?_) (a' := ?_) (bl 5 37) rfl rfl (take_ofW HT_.out HW_.out (by kernel_rfl)) (fun _ _ _ h => h) (Or.inl ⟨by rfl, ?_⟩) hHeld ?_ ?_
         rotate_left
         ·rintro w' ⟨s0, s1, s2, s3⟩
          go_simp
          with_reducible rfl
         rotate_left
         ·simp only [Act.put, List.setIfInBounds_toArray, List.set_cons_zero, List.set_cons_succ, i64_w, i32_w]
          rfl
         refine one_ (i := 5) (N := some 18) (bl 6 36) rfl rfl (one_of HT_.out (by kernel_rfl)) (by decide) (fun K hK => ?_)
         refine goes_ Tryd.func19 (by kernel_rfl) rfl #[.string ((rd_T51 l0 x3_1).f0)] (by rfl) rfl rfl (by (try simp only [List.map_toArray, List.map_cons, List.map_nil]); first | done | rfl | (simp only [List.length_drop, List.length_take]; rfl)) ?_
         with_reducible refine (bursarref04_Name.calls k1 ((rd_T51 l0 x3_1).f0) true _ A5.out).mono ?_
         rintro e w' ⟨rfl, ⟨nd, rfl⟩⟩
         refine ⟨_, rfl, ?_⟩
         refine hK.out _ _ ⟨((HB.out.cell (World.block_lt_of_cell? w _ hw487_0)).trans hw487_0), ((HB.out.cell (World.block_lt_of_cell? w _ hw487_1)).trans hw487_1), ((HB.out.cell (World.block_lt_of_cell? w _ hw489_0)).trans hw489_0), ((HB.out.cell (World.block_lt_of_cell? w _ hw489_1)).trans hw489_1)⟩ (fun hHeld => ?_)
         clear hK K
         refine norm_ (a' := ?_) ?_ ?_
         rotate_left
         ·show Act.put _ (some 18) _ = _
          simp only [Act.put, List.setIfInBounds_toArray, List.set_cons_zero, List.set_cons_succ, i64_w, i32_w]
          rfl
         refine pure_ (i := 6) (N := some 19) (v := ?_) (a' := ?_) (bl 7 35) rfl rfl (any_of HT_.out (by kernel_rfl)) (fun _ _ _ h => h) (Or.inl ⟨by rfl, ?_⟩) ?_ ?_
         rotate_left
         ·intro w'
          go_simp
          with_reducible rfl
         rotate_left
         ·simp only [Act.put, List.setIfInBounds_toArray, List.set_cons_zero, List.set_cons_succ, i64_w, i32_w]
          rfl
         refine pure_ (i := 7) (N := some 20) (v := ?_) (a' := ?_) (bl 8 34) rfl rfl (any_of HT_.out (by kernel_rfl)) (fun _ _ _ h => h) (Or.inl ⟨by rfl, ?_⟩) ?_ ?_
         rotate_left
         ·intro w'
          go_simp
          with_reducible rfl
         rotate_left
         ·simp only [Act.put, List.setIfInBounds_toArray, List.set_cons_zero, List.set_cons_succ, i64_w, i32_w]
          rfl
         refine pure_ (i := 8) (N := some 21) (v := ?_) (a' := ?_) (bl 9 33) rfl rfl (any_of HT_.out (by kernel_rfl)) (fun _ _ _ h => h) (Or.inl ⟨by rfl, ?_⟩) ?_ ?_
         rotate_left
         ·intro w'
          go_simp
          with_reducible rfl
         rotate_left
         ·simp only [Act.put, List.setIfInBounds_toArray, List.set_cons_zero, List.set_cons_succ, i64_w, i32_w]
          rfl
         refine pure_ (i := 9) (N := some 22) (v := ?_) (a' := ?_) (bl 10 32) rfl rfl (any_of HT_.out (by kernel_rfl)) (fun _ _ _ h => h) (Or.inl ⟨by rfl, ?_⟩) ?_ ?_
         rotate_left
         ·intro w'
          go_simp
          with_reducible rfl
         rotate_left
         ·simp only [Act.put, List.setIfInBounds_toArray, List.set_cons_zero, List.set_cons_succ, i64_w, i32_w]
          rfl
         refine pure_ (i := 10) (N := some 23) (v := ?_) (a' := ?_) (bl 11 31) rfl rfl (any_of HT_.out (by kernel_rfl)) (fun _ _ _ h => h) (Or.inl ⟨by rfl, ?_⟩) ?_ ?_
         rotate_left
         ·intro w'
          go_simp
          with_reducible rfl
         rotate_left
         ·simp only [Act.put, List.setIfInBounds_toArray, List.set_cons_zero, List.set_cons_succ, i64_w, i32_w]
          rfl
         refine pure_ (i := 11) (N := some 24) (v := ?_) (a' := ?_) (bl 12 30) rfl rfl (any_of HT_.out (by kernel_rfl)) (fun _ _ _ h => h) (Or.inl ⟨by rfl, ?_⟩) ?_ ?_
         rotate_left
         ·intro w'
          go_simp
          with_reducible rfl
         rotate_left
         ·simp only [Act.put, List.setIfInBounds_toArray, List.set_cons_zero, List.set_cons_succ, i64_w, i32_w]
          rfl
         refine take_ (i := 12) (N := some 25) (v := ?_) (a' := ?_) (bl 13 29) rfl rfl (take_ofW HT_.out HW_.out (by kernel_rfl)) (fun _ _ _ h => h) (Or.inl ⟨by rfl, ?_⟩) hHeld ?_ ?_
         rotate_left
         ·rintro w' ⟨s0, s1, s2, s3⟩
          go_simp
          with_reducible rfl
         rotate_left
         ·simp only [Act.put, List.setIfInBounds_toArray, List.set_cons_zero, List.set_cons_succ, i64_w, i32_w]
          rfl
         refine pure_ (i := 13) (N := some 26) (v := ?_) (a' := ?_) (bl 14 28) rfl rfl (any_of HT_.out (by kernel_rfl)) (fun _ _ _ h => h) (Or.inl ⟨by rfl, ?_⟩) ?_ ?_
         rotate_left
         ·intro w'
          go_simp
          with_reducible rfl
         rotate_left
         ·simp only [Act.put, List.setIfInBounds_toArray, List.set_cons_zero, List.set_cons_succ, i64_w, i32_w]
          rfl
         refine pure_ (i := 14) (N := some 27) (v := ?_) (a' := ?_) (bl 15 27) rfl rfl (any_of HT_.out (by kernel_rfl)) (fun _ _ _ h => h) (Or.inl ⟨by rfl, ?_⟩) ?_ ?_
         rotate_left
         ·intro w'
          go_simp
          with_reducible rfl
         rotate_left
         ·simp only [Act.put, List.setIfInBounds_toArray, List.set_cons_zero, List.set_cons_succ, i64_w, i32_w]
          rfl
         refine pure_ (i := 15) (N := some 28) (v := undef) (a' := ?_) (bl 16 26) rfl rfl (any_of HT_.out (by kernel_rfl)) (fun _ _ _ h => h) (Or.inr ⟨by rfl, rfl⟩) ?_ ?_
         rotate_left
         ·simp only [Act.put, List.setIfInBounds_toArray, List.set_cons_zero, List.set_cons_succ, i64_w, i32_w]
          rfl
         refine pure_ (i := 16) (N := some 29) (v := undef) (a' := ?_) (bl 17 25) rfl rfl (any_of HT_.out (by kernel_rfl)) (fun _ _ _ h => h) (Or.inr ⟨by rfl, rfl⟩) ?_ ?_
         rotate_left
         ·simp only [Act.put, List.setIfInBounds_toArray, List.set_cons_zero, List.set_cons_succ, i64_w, i32_w]
          rfl
         refine pure_ (i := 17) (N := some 30) (v := undef) (a' := ?_) (bl 18 24) rfl rfl (any_of HT_.out (by kernel_rfl)) (fun _ _ _ h => h) (Or.inr ⟨by rfl, rfl⟩) ?_ ?_
         rotate_left
         ·simp only [Act.put, List.setIfInBounds_toArray, List.set_cons_zero, List.set_cons_succ, i64_w, i32_w]
          rfl
         refine pure_ (i := 18) (N := some 31) (v := undef) (a' := ?_) (bl 19 23) rfl rfl (any_of HT_.out (by kernel_rfl)) (fun _ _ _ h => h) (Or.inr ⟨by rfl, rfl⟩) ?_ ?_
         rotate_left
         ·simp only [Act.put, List.setIfInBounds_toArray, List.set_cons_zero, List.set_cons_succ, i64_w, i32_w]
          rfl
         refine pure_ (i := 19) (N := some 32) (v := undef) (a' := ?_) (bl 20 22) rfl rfl (any_of HT_.out (by kernel_rfl)) (fun _ _ _ h => h) (Or.inr ⟨by rfl, rfl⟩) ?_ ?_
         rotate_left
         ·simp only [Act.put, List.setIfInBounds_toArray, List.set_cons_zero, List.set_cons_succ, i64_w, i32_w]
          rfl
         refine pure_ (i := 20) (N := some 33) (v := undef) (a' := ?_) (bl 21 21) rfl rfl (any_of HT_.out (by kernel_rfl)) (fun _ _ _ h => h) (Or.inr ⟨by rfl, rfl⟩) ?_ ?_
         rotate_left
         ·simp only [Act.put, List.setIfInBounds_toArray, List.set_cons_zero, List.set_cons_succ, i64_w, i32_w]
          rfl
         refine pure_ (i := 21) (N := some 34) (v := undef) (a' := ?_) (bl 22 20) rfl rfl (any_of HT_.out (by kernel_rfl)) (fun _ _ _ h => h) (Or.inr ⟨by rfl, rfl⟩) ?_ ?_
         rotate_left
         ·simp only [Act.put, List.setIfInBounds_toArray, List.set_cons_zero, List.set_cons_succ, i64_w, i32_w]
          rfl
         refine pure_ (i := 22) (N := some 35) (v := ?_) (a' := ?_) (bl 23 19) rfl rfl (any_of HT_.out (by kernel_rfl)) (fun _ _ _ h => h) (Or.inl ⟨by rfl, ?_⟩) ?_ ?_
         rotate_left
         ·intro w'
          go_simp
          with_reducible rfl
         rotate_left
         ·simp only [Act.put, List.setIfInBounds_toArray, List.set_cons_zero, List.set_cons_succ, i64_w, i32_w]
          rfl
         refine pure_ (i := 23) (N := some 36) (v := ?_) (a' := ?_) (bl 24 18) rfl rfl (any_of HT_.out (by kernel_rfl)) (fun _ _ _ h => h) (Or.inl ⟨by rfl, ?_⟩) ?_ ?_
         rotate_left
         ·intro w'
          go_simp
          with_reducible rfl
         rotate_left
         ·simp only [Act.put, List.setIfInBounds_toArray, List.set_cons_zero, List.set_cons_succ, i64_w, i32_w]
          rfl
         refine pure_ (i := 24) (N := some 37) (v := ?_) (a' := ?_) (bl 25 17) rfl rfl (any_of HT_.out (by kernel_rfl)) (fun _ _ _ h => h) (Or.inl ⟨by rfl, ?_⟩) ?_ ?_
         rotate_left
         ·intro w'
          go_simp
          with_reducible rfl
         rotate_left
         ·simp only [Act.put, List.setIfInBounds_toArray, List.set_cons_zero, List.set_cons_succ, i64_w, i32_w]
          rfl
         refine pure_ (i := 25) (N := some 38) (v := ?_) (a' := ?_) (bl 26 16) rfl rfl (any_of HT_.out (by kernel_rfl)) (fun _ _ _ h => h) (Or.inl ⟨by rfl, ?_⟩) ?_ ?_
         rotate_left
         ·intro w'
          go_simp
          with_reducible rfl
         rotate_left
         ·simp only [Act.put, List.setIfInBounds_toArray, List.set_cons_zero, List.set_cons_succ, i64_w, i32_w]
          rfl
         refine pure_ (i := 26) (N := some 39) (v := ?_) (a' := ?_) (bl 27 15) rfl rfl (any_of HT_.out (by kernel_rfl)) (fun _ _ _ h => h) (Or.inl ⟨by rfl, ?_⟩) ?_ ?_
         rotate_left
         ·intro w'
          go_simp
          with_reducible rfl
         rotate_left
         ·simp only [Act.put, List.setIfInBounds_toArray, List.set_cons_zero, List.set_cons_succ, i64_w, i32_w]
          rfl
         refine pure_ (i := 27) (N := some 40) (v := ?_) (a' := ?_) (bl 28 14) rfl rfl (any_of HT_.out (by kernel_rfl)) (fun _ _ _ h => h) (Or.inl ⟨by rfl, ?_⟩) ?_ ?_
         rotate_left
         ·intro w'
          go_simp
          with_reducible rfl
         rotate_left
         ·simp only [Act.put, List.setIfInBounds_toArray, List.set_cons_zero, List.set_cons_succ, i64_w, i32_w]
          rfl
         refine pure_ (i := 28) (N := some 41) (v := undef) (a' := ?_) (bl 29 13) rfl rfl (any_of HT_.out (by kernel_rfl)) (fun _ _ _ h => h) (Or.inr ⟨by rfl, rfl⟩) ?_ ?_
         rotate_left
         ·simp only [Act.put, List.setIfInBounds_toArray, List.set_cons_zero, List.set_cons_succ, i64_w, i32_w]
          rfl
         refine pure_ (i := 29) (N := some 42) (v := undef) (a' := ?_) (bl 30 12) rfl rfl (any_of HT_.out (by kernel_rfl)) (fun _ _ _ h => h) (Or.inr ⟨by rfl, rfl⟩) ?_ ?_
         rotate_left
         ·simp only [Act.put, List.setIfInBounds_toArray, List.set_cons_zero, List.set_cons_succ, i64_w, i32_w]
          rfl
         refine pure_ (i := 30) (N := some 43) (v := undef) (a' := ?_) (bl 31 11) rfl rfl (any_of HT_.out (by kernel_rfl)) (fun _ _ _ h => h) (Or.inr ⟨by rfl, rfl⟩) ?_ ?_
         rotate_left
         ·simp only [Act.put, List.setIfInBounds_toArray, List.set_cons_zero, List.set_cons_succ, i64_w, i32_w]
          rfl
         refine pure_ (i := 31) (N := some 44) (v := undef) (a' := ?_) (bl 32 10) rfl rfl (any_of HT_.out (by kernel_rfl)) (fun _ _ _ h => h) (Or.inr ⟨by rfl, rfl⟩) ?_ ?_
         rotate_left
         ·simp only [Act.put, List.setIfInBounds_toArray, List.set_cons_zero, List.set_cons_succ, i64_w, i32_w]
          rfl
         refine pure_ (i := 32) (N := some 45) (v := undef) (a' := ?_) (bl 33 9) rfl rfl (any_of HT_.out (by kernel_rfl)) (fun _ _ _ h => h) (Or.inr ⟨by rfl, rfl⟩) ?_ ?_
         rotate_left
         ·simp only [Act.put, List.setIfInBounds_toArray, List.set_cons_zero, List.set_cons_succ, i64_w, i32_w]
          rfl
         refine pure_ (i := 33) (N := some 46) (v := undef) (a' := ?_) (bl 34 8) rfl rfl (any_of HT_.out (by kernel_rfl)) (fun _ _ _ h => h) (Or.inr ⟨by rfl, rfl⟩) ?_ ?_
         rotate_left
         ·simp only [Act.put, List.setIfInBounds_toArray, List.set_cons_zero, List.set_cons_succ, i64_w, i32_w]
          rfl
         refine pure_ (i := 34) (N := some 47) (v := undef) (a' := ?_) (bl 35 7) rfl rfl (any_of HT_.out (by kernel_rfl)) (fun _ _ _ h => h) (Or.inr ⟨by rfl, rfl⟩) ?_ ?_
         rotate_left
         ·simp only [Act.put, List.setIfInBounds_toArray, List.set_cons_zero, List.set_cons_succ, i64_w, i32_w]
          rfl
         refine pure_ (i := 35) (N := some 48) (v := undef) (a' := ?_) (bl 36 6) rfl rfl (any_of HT_.out (by kernel_rfl)) (fun _ _ _ h => h) (Or.inr ⟨by rfl, rfl⟩) ?_ ?_
         rotate_left
         ·simp only [Act.put, List.setIfInBounds_toArray, List.set_cons_zero, List.set_cons_succ, i64_w, i32_w]
          rfl
         refine pure_ (i := 36) (N := some 49) (v := undef) (a' := ?_) (bl 37 5) rfl rfl (any_of HT_.out (by kernel_rfl)) (fun _ _ _ h => h) (Or.inr ⟨by rfl, rfl⟩) ?_ ?_
         rotate_left
         ·simp only [Act.put, List.setIfInBounds_toArray, List.set_cons_zero, List.set_cons_succ, i64_w, i32_w]
          rfl
         refine pure_ (i := 37) (N := some 50) (v := undef) (a' := ?_) (bl 38 4) rfl rfl (any_of HT_.out (by kernel_rfl)) (fun _ _ _ h => h) (Or.inr ⟨by rfl, rfl⟩) ?_ ?_
         rotate_left
         ·simp only [Act.put, List.setIfInBounds_toArray, List.set_cons_zero, List.set_cons_succ, i64_w, i32_w]
          rfl
         refine pure_ (i := 38) (N := some 51) (v := undef) (a' := ?_) (bl 39 3) rfl rfl (any_of HT_.out (by kernel_rfl)) (fun _ _ _ h => h) (Or.inr ⟨by rfl, rfl⟩) ?_ ?_
         rotate_left
         ·simp only [Act.put, List.setIfInBounds_toArray, List.set_cons_zero, List.set_cons_succ, i64_w, i32_w]
          rfl
         refine pure_ (i := 39) (N := some 52) (v := undef) (a' := ?_) (bl 40 2) rfl rfl (any_of HT_.out (by kernel_rfl)) (fun _ _ _ h => h) (Or.inr ⟨by rfl, rfl⟩) ?_ ?_
         rotate_left
         ·simp only [Act.put, List.setIfInBounds_toArray, List.set_cons_zero, List.set_cons_succ, i64_w, i32_w]
          rfl
         refine pure_ (i := 40) (N := some 53) (v := ?_) (a' := ?_) (bl 41 1) rfl rfl (any_of HT_.out (by kernel_rfl)) (fun _ _ _ h => h) (Or.inl ⟨by rfl, ?_⟩) ?_ ?_
         rotate_left
         ·intro w'
          go_simp
          with_reducible rfl
         rotate_left
         ·simp only [Act.put, List.setIfInBounds_toArray, List.set_cons_zero, List.set_cons_succ, i64_w, i32_w]
          rfl
         refine pure_ (i := 41) (N := some 54) (v := ?_) (a' := ?_) (bl 42 0) rfl rfl (any_of HT_.out (by kernel_rfl)) (fun _ _ _ h => h) (Or.inl ⟨by rfl, ?_⟩) ?_ ?_
         rotate_left
         ·intro w'
          go_simp
          with_reducible rfl
         rotate_left
         ·simp only [Act.put, List.setIfInBounds_toArray, List.set_cons_zero, List.set_cons_succ, i64_w, i32_w]
          rfl
         refine done_ (done_of HT_.out (by kernel_rfl)) ?_
         try go_wp2
         go_roundg k1
         case measure => have := HK1.out; omega
         case rel => exact ⟨(wrap64 (x3_1 + 1)), (by first | rfl | (simp; done) | (simp [*]; done) | (simp; rw [Bool.eq_iff_iff]; simp; done) | (rw [Bool.eq_iff_iff]; simp; done)), H', ⟨by have := HK1.out; omega⟩, ⟨by repeat (first | (with_reducible first | exact HB.out | apply below_alloc | apply pw_below_drewN | apply below_drew1) | exact HB.out)⟩⟩
       ·rw [if_neg c7] at H
        have c7b0 : (((rd_T51 l0 x3_1).f1).toList == ([] : List UInt8)) = false := beq_eq_false_iff_ne.mpr c7
        have c7b1 : (((rd_T51 l0 x3_1).f1).toList != ([] : List UInt8)) = true := bne_iff_ne.mpr c7
        replace H := Option.bind_eq_some_iff.mp H
        obtain ⟨t493, A160, H⟩ := H
        replace H : (if t493 = true then (if x3_1 > 0 then (if 0 ≤ (wrap64 (x3_1 - 1)) then (if (wrap64 (x3_1 - 1)) < (l0.length : Int) then (if ((Op.bytesLess (((rd_T51 l0 (wrap64 (x3_1 - 1))).f0).toList) (((rd_T51 l0 x3_1).f0).toList)) = true) then (bursarref04_Valid.l0 k1 l0 (wrap64 (x3_1 + 1))) else (some 42)) else (none)) else (none)) else (bursarref04_Valid.l0 k1 l0 (wrap64 (x3_1 + 1)))) else (some 42)) = some r := H
        have A16 := Aside0.mk A160
        clear A160
        by_cases c17 : t493 = true
        ·subst c17
         have H1 : (if x3_1 > 0 then (if 0 ≤ (wrap64 (x3_1 - 1)) then (if (wrap64 (x3_1 - 1)) < (l0.length : Int) then (if ((Op.bytesLess (((rd_T51 l0 (wrap64 (x3_1 - 1))).f0).toList) (((rd_T51 l0 x3_1).f0).toList)) = true) then (bursarref04_Valid.l0 k1 l0 (wrap64 (x3_1 + 1))) else (some 42)) else (none)) else (none)) else (bursarref04_Valid.l0 k1 l0 (wrap64 (x3_1 + 1)))) = some r := by rw [if_pos rfl] at H; exact H
         clear H
         have H := H1
         clear H1
         by_cases c18 : x3_1 > 0
         ·rw [if_pos c18] at H
          have c18b0 : decide (0 < x3_1) = true := decide_eq_true c18
          clear c18
          obtain ⟨ji19, hji19⟩ : ∃ j_ : Int, (wrap64 (x3_1 - 1)) = j_ := ⟨_, rfl⟩
          replace H : (if 0 ≤ (ji19) then (if (ji19) < (l0.length : Int) then (if ((Op.bytesLess (((rd_T51 l0 (ji19)).f0).toList) (((rd_T51 l0 x3_1).f0).toList)) = true) then (bursarref04_Valid.l0 k1 l0 (wrap64 (x3_1 + 1))) else (some 42)) else (none)) else (none)) = some r := by first | (rw [hji19] at H; exact H) | (simp only [hji19] at H ⊢; exact H)
          (try rw [hji19] at A5)
          (try rw [hji19] at A16)
          have hji19w : (IntKind.i64.wrap (x3_1 - 1)) = ji19 := (i64_w _).trans hji19
          by_cases c20 : 0 ≤ (ji19)
          ·rw [if_pos c20] at H
           have c20b0 : decide (0 ≤ (ji19)) = true := decide_eq_true c20
           clear c20
           by_cases c21 : (ji19) < (l0.length : Int)
           ·rw [if_pos c21] at H
            have c21b0 : decide ((ji19) < (l0.length : Int)) = true := decide_eq_true c21
            clear c21
            by_cases c22 : ((Op.bytesLess (((rd_T51 l0 (ji19)).f0).toList) (((rd_T51 l0 x3_1).f0).toList)) = true)
            ·rw [if_pos c22] at H
             have c22b0 : (Op.bytesLess (((rd_T51 l0 (ji19)).f0).toList) (((rd_T51 l0 x3_1).f0).toList)) = true := c22
             clear c22
             have H' := Aside0.mk H
             clear H
             try go_wp2
             have n0_ := Aside0.mk (below_drew1 HB.out)
             clear HB
             have HB := n0_
             clear n0_
             have p487 : 0 ≤ (x3_1 : Int) := of_decide_eq_true (by first | (with_reducible assumption) | assumption)
             have q487 : x3_1 < (l0.length : Int) := of_decide_eq_true (by first | (with_reducible assumption) | assumption)
             obtain ⟨ad487, e487, hx487_0, hx487_1⟩ := at_T51 HR0.out x3_1 p487 q487
             have hw487_1 := hx487_1
             have hw487_0 := hx487_0
             cases e487
             replace hx487_0 := (HB.out.cell (World.block_lt_of_cell? w _ hx487_0)).trans hx487_0
             replace hx487_1 := (HB.out.cell (World.block_lt_of_cell? w _ hx487_1)).trans hx487_1
             replace p487 := eq_true p487
             replace q487 := eq_true q487
             have p489 : 0 ≤ (x3_1 : Int) := of_decide_eq_true (by first | (with_reducible assumption) | assumption)
             have q489 : x3_1 < (l0.length : Int) := of_decide_eq_true (by first | (with_reducible assumption) | assumption)
             obtain ⟨ad489, e489, hx489_0, hx489_1⟩ := at_T51 HR0.out x3_1 p489 q489
             have hw489_1 := hx489_1
             have hw489_0 := hx489_0
             obtain rfl : ad487 = ad489 := (by injection e489)
             replace hx489_0 := (HB.out.cell (World.block_lt_of_cell? w _ hx489_0)).trans hx489_0
             replace hx489_1 := (HB.out.cell (World.block_lt_of_cell? w _ hx489_1)).trans hx489_1
             replace p489 := eq_true p489
             replace q489 := eq_true q489
             have p492 : 0 ≤ (x3_1 : Int) := of_decide_eq_true (by first | (with_reducible assumption) | assumption)
             have q492 : x3_1 < (l0.length : Int) := of_decide_eq_true (by first | (with_reducible assumption) | assumption)
             obtain ⟨ad492, e492, hx492_0, hx492_1⟩ := at_T51 HR0.out x3_1 p492 q492
             have hw492_1 := hx492_1
             have hw492_0 := hx492_0
             obtain rfl : ad487 = ad492 := (by injection e492)
             replace hx492_0 := (HB.out.cell (World.block_lt_of_cell? w _ hx492_0)).trans hx492_0
             replace hx492_1 := (HB.out.cell (World.block_lt_of_cell? w _ hx492_1)).trans hx492_1
             replace p492 := eq_true p492
             replace q492 := eq_true q492
             have p494 : 0 ≤ (x3_1 : Int) := of_decide_eq_true (by first | (with_reducible assumption) | assumption)
             have q494 : x3_1 < (l0.length : Int) := of_decide_eq_true (by first | (with_reducible assumption) | assumption)
             obtain ⟨ad494, e494, hx494_0, hx494_1⟩ := at_T51 HR0.out x3_1 p494 q494
             have hw494_1 := hx494_1
             have hw494_0 := hx494_0
             obtain rfl : ad487 = ad494 := (by injection e494)
             replace hx494_0 := (HB.out.cell (World.block_lt_of_cell? w _ hx494_0)).trans hx494_0
             replace hx494_1 := (HB.out.cell (World.block_lt_of_cell? w _ hx494_1)).trans hx494_1
             replace p494 := eq_true p494
             replace q494 := eq_true q494
             have p495 : 0 ≤ ((ji19) : Int) := of_decide_eq_true (by first | (with_reducible assumption) | assumption)
             have q495 : (ji19) < (l0.length : Int) := of_decide_eq_true (by first | (with_reducible assumption) | assumption)
             obtain ⟨ad495, e495, hx495_0, hx495_1⟩ := at_T51 HR0.out (ji19) p495 q495
             have hw495_1 := hx495_1
             have hw495_0 := hx495_0
             obtain rfl : ad487 = ad495 := (by injection e495)
             replace hx495_0 := (HB.out.cell (World.block_lt_of_cell? w _ hx495_0)).trans hx495_0
             replace hx495_1 := (HB.out.cell (World.block_lt_of_cell? w _ hx495_1)).trans hx495_1
             replace p495 := eq_true p495
             replace q495 := eq_true q495
             refine start_ (n := 42) (S := fun w' => w'.cell? (ad487.add ((x3_1).toNat * 2)) = some (.string ((rd_T51 l0 x3_1).f0)) ∧ w'.cell? ⟨(ad487.add ((x3_1).toNat * 2)).block, (ad487.add ((x3_1).toNat * 2)).off + 1, none⟩ = some (.string ((rd_T51 l0 x3_1).f1)) ∧ w'.cell? (ad487.add ((x3_1).toNat * 2)) = some (.string ((rd_T51 l0 x3_1).f0)) ∧ w'.cell? ⟨(ad487.add ((x3_1).toNat * 2)).block, (ad487.add ((x3_1).toNat * 2)).off + 1, none⟩ = some (.string ((rd_T51 l0 x3_1).f1)) ∧ w'.cell? (ad487.add ((x3_1).toNat * 2)) = some (.string ((rd_T51 l0 x3_1).f0)) ∧ w'.cell? ⟨(ad487.add ((x3_1).toNat * 2)).block, (ad487.add ((x3_1).toNat * 2)).off + 1, none⟩ = some (.string ((rd_T51 l0 x3_1).f1)) ∧ w'.cell? (ad487.add ((x3_1).toNat * 2)) = some (.string ((rd_T51 l0 x3_1).f0)) ∧ w'.cell? ⟨(ad487.add ((x3_1).toNat * 2)).block, (ad487.add ((x3_1).toNat * 2)).off + 1, none⟩ = some (.string ((rd_T51 l0 x3_1).f1)) ∧ w'.cell? (ad487.add (((ji19)).toNat * 2)) = some (.string ((rd_T51 l0 (ji19)).f0)) ∧ w'.cell? ⟨(ad487.add (((ji19)).toNat * 2)).block, (ad487.add (((ji19)).toNat * 2)).off + 1, none⟩ = some (.string ((rd_T51 l0 (ji19)).f1))) (ds := []) (bl 0 42) (by kernel_rfl) rfl rfl ⟨((HB.out.cell (World.block_lt_of_cell? w _ hw487_0)).trans hw487_0), ((HB.out.cell (World.block_lt_of_cell? w _ hw487_1)).trans hw487_1), ((HB.out.cell (World.block_lt_of_cell? w _ hw489_0)).trans hw489_0), ((HB.out.cell (World.block_lt_of_cell? w _ hw489_1)).trans hw489_1), ((HB.out.cell (World.block_lt_of_cell? w _ hw492_0)).trans hw492_0), ((HB.out.cell (World.block_lt_of_cell? w _ hw492_1)).trans hw492_1), ((HB.out.cell (World.block_lt_of_cell? w _ hw494_0)).trans hw494_0), ((HB.out.cell (World.block_lt_of_cell? w _ hw494_1)).trans hw494_1), ((HB.out.cell (World.block_lt_of_cell? w _ hw495_0)).trans hw495_0), ((HB.out.cell (World.block_lt_of_cell? w _ hw495_1)).trans hw495_1)⟩ (fun hHeld => ?_); refine with_tabW bursarref04_Valid.tab6 bursarref04_Valid.bits6 (fun HT_ HW_ => ?_)
             generalize wr.drew = w23 at HB hx487_0 hx487_1 hx489_0 hx489_1 hx492_0 hx492_1 hx494_0 hx494_1 hx495_0 hx495_1 hHeld ⊢
             refine pure_ (i := 0) (N := some 13) (v := ?_) (a' := ?_) (bl 1 41) rfl rfl (any_of HT_.out (by kernel_rfl)) (fun _ _ _ h => h) (Or.inl ⟨by rfl, ?_⟩) ?_ ?_
             rotate_left
             ·intro w'
              go_simp
              with_reducible rfl
             rotate_left
             ·simp only [Act.put, List.setIfInBounds_toArray, List.set_cons_zero, List.set_cons_succ, i64_w, i32_w]
              rfl
             refine pure_ (i := 1) (N := some 14) (v := ?_) (a' := ?_) (bl 2 40) rfl rfl (any_of HT_.out (by kernel_rfl)) (fun _ _ _ h => h) (Or.inl ⟨by rfl, ?_⟩) ?_ ?_
             rotate_left
             ·intro w'
              go_simp
              with_reducible rfl
             rotate_left
             ·simp only [Act.put, List.setIfInBounds_toArray, List.set_cons_zero, List.set_cons_succ, i64_w, i32_w]
              rfl
             refine pure_ (i := 2) (N := some 15) (v := ?_) (a' := ?_) (bl 3 39) rfl rfl (any_of HT_.out (by kernel_rfl)) (fun _ _ _ h => h) (Or.inl ⟨by rfl, ?_⟩) ?_ ?_
             rotate_left
             ·intro w'
              go_simp
              with_reducible rfl
             rotate_left
             ·simp only [Act.put, List.setIfInBounds_toArray, List.set_cons_zero, List.set_cons_succ, i64_w, i32_w]
              rfl
             refine pure_ (i := 3) (N := some 16) (v := ?_) (a' := ?_) (bl 4 38) rfl rfl (any_of HT_.out (by kernel_rfl)) (fun _ _ _ h => h) (Or.inl ⟨by rfl, ?_⟩) ?_ ?_
             rotate_left
             ·intro w'
              go_simp
              with_reducible rfl
             rotate_left
             ·simp only [Act.put, List.setIfInBounds_toArray, List.set_cons_zero, List.set_cons_succ, i64_w, i32_w]
              rfl
             refine take_ (i := 4) (N := some 17) (v := ?_) (a' := ?_) (bl 5 37) rfl rfl (take_ofW HT_.out HW_.out (by kernel_rfl)) (fun _ _ _ h => h) (Or.inl ⟨by rfl, ?_⟩) hHeld ?_ ?_
             rotate_left
             ·rintro w' ⟨s0, s1, s2, s3, s4, s5, s6, s7, s8, s9⟩
              go_simp
              with_reducible rfl
             rotate_left
             ·simp only [Act.put, List.setIfInBounds_toArray, List.set_cons_zero, List.set_cons_succ, i64_w, i32_w]
              rfl
             refine one_ (i := 5) (N := some 18) (bl 6 36) rfl rfl (one_of HT_.out (by kernel_rfl)) (by decide) (fun K hK => ?_)
             refine goes_ Tryd.func19 (by kernel_rfl) rfl #[.string ((rd_T51 l0 x3_1).f0)] (by rfl) rfl rfl (by (try simp only [List.map_toArray, List.map_cons, List.map_nil]); first | done | rfl | (simp only [List.length_drop, List.length_take]; rfl)) ?_
             with_reducible refine (bursarref04_Name.calls k1 ((rd_T51 l0 x3_1).f0) true _ A5.out).mono ?_
             rintro e w' ⟨rfl, ⟨nd, rfl⟩⟩
             refine ⟨_, rfl, ?_⟩
             refine hK.out _ _ ⟨((HB.out.cell (World.block_lt_of_cell? w _ hw487_0)).trans hw487_0), ((HB.out.cell (World.block_lt_of_cell? w _ hw487_1)).trans hw487_1), ((HB.out.cell (World.block_lt_of_cell? w _ hw489_0)).trans hw489_0), ((HB.out.cell (World.block_lt_of_cell? w _ hw489_1)).trans hw489_1), ((HB.out.cell (World.block_lt_of_cell? w _ hw492_0)).trans hw492_0), ((HB.out.cell (World.block_lt_of_cell? w _ hw492_1)).trans hw492_1), ((HB.out.cell (World.block_lt_of_cell? w _ hw494_0)).trans hw494_0), ((HB.out.cell (World.block_lt_of_cell? w _ hw494_1)).trans hw494_1), ((HB.out.cell (World.block_lt_of_cell? w _ hw495_0)).trans hw495_0), ((HB.out.cell (World.block_lt_of_cell? w _ hw495_1)).trans hw495_1)⟩ (fun hHeld => ?_)
             clear hK K
             refine norm_ (a' := ?_) ?_ ?_
             rotate_left
             ·show Act.put _ (some 18) _ = _
              simp only [Act.put, List.setIfInBounds_toArray, List.set_cons_zero, List.set_cons_succ, i64_w, i32_w]
              rfl
             refine pure_ (i := 6) (N := some 19) (v := ?_) (a' := ?_) (bl 7 35) rfl rfl (any_of HT_.out (by kernel_rfl)) (fun _ _ _ h => h) (Or.inl ⟨by rfl, ?_⟩) ?_ ?_
             rotate_left
             ·intro w'
              go_simp
              with_reducible rfl
             rotate_left
             ·simp only [Act.put, List.setIfInBounds_toArray, List.set_cons_zero, List.set_cons_succ, i64_w, i32_w]
              rfl
             refine pure_ (i := 7) (N := some 20) (v := ?_) (a' := ?_) (bl 8 34) rfl rfl (any_of HT_.out (by kernel_rfl)) (fun _ _ _ h => h) (Or.inl ⟨by rfl, ?_⟩) ?_ ?_
             rotate_left
             ·intro w'
              go_simp
              with_reducible rfl
             rotate_left
             ·simp only [Act.put, List.setIfInBounds_toArray, List.set_cons_zero, List.set_cons_succ, i64_w, i32_w]
              rfl
             refine pure_ (i := 8) (N := some 21) (v := ?_) (a' := ?_) (bl 9 33) rfl rfl (any_of HT_.out (by kernel_rfl)) (fun _ _ _ h => h) (Or.inl ⟨by rfl, ?_⟩) ?_ ?_
             rotate_left
             ·intro w'
              go_simp
              with_reducible rfl
             rotate_left
             ·simp only [Act.put, List.setIfInBounds_toArray, List.set_cons_zero, List.set_cons_succ, i64_w, i32_w]
              rfl
             refine pure_ (i := 9) (N := some 22) (v := ?_) (a' := ?_) (bl 10 32) rfl rfl (any_of HT_.out (by kernel_rfl)) (fun _ _ _ h => h) (Or.inl ⟨by rfl, ?_⟩) ?_ ?_
             rotate_left
             ·intro w'
              go_simp
              with_reducible rfl
             rotate_left
             ·simp only [Act.put, List.setIfInBounds_toArray, List.set_cons_zero, List.set_cons_succ, i64_w, i32_w]
              rfl
             refine pure_ (i := 10) (N := some 23) (v := ?_) (a' := ?_) (bl 11 31) rfl rfl (any_of HT_.out (by kernel_rfl)) (fun _ _ _ h => h) (Or.inl ⟨by rfl, ?_⟩) ?_ ?_
             rotate_left
             ·intro w'
              go_simp
              with_reducible rfl
             rotate_left
             ·simp only [Act.put, List.setIfInBounds_toArray, List.set_cons_zero, List.set_cons_succ, i64_w, i32_w]
              rfl
             refine pure_ (i := 11) (N := some 24) (v := ?_) (a' := ?_) (bl 12 30) rfl rfl (any_of HT_.out (by kernel_rfl)) (fun _ _ _ h => h) (Or.inl ⟨by rfl, ?_⟩) ?_ ?_
             rotate_left
             ·intro w'
              go_simp
              with_reducible rfl
             rotate_left
             ·simp only [Act.put, List.setIfInBounds_toArray, List.set_cons_zero, List.set_cons_succ, i64_w, i32_w]
              rfl
             refine take_ (i := 12) (N := some 25) (v := ?_) (a' := ?_) (bl 13 29) rfl rfl (take_ofW HT_.out HW_.out (by kernel_rfl)) (fun _ _ _ h => h) (Or.inl ⟨by rfl, ?_⟩) hHeld ?_ ?_
             rotate_left
             ·rintro w' ⟨s0, s1, s2, s3, s4, s5, s6, s7, s8, s9⟩
              go_simp
              with_reducible rfl
             rotate_left
             ·simp only [Act.put, List.setIfInBounds_toArray, List.set_cons_zero, List.set_cons_succ, i64_w, i32_w]
              rfl
             refine pure_ (i := 13) (N := some 26) (v := ?_) (a' := ?_) (bl 14 28) rfl rfl (any_of HT_.out (by kernel_rfl)) (fun _ _ _ h => h) (Or.inl ⟨by rfl, ?_⟩) ?_ ?_
             rotate_left
             ·intro w'
              go_simp
              with_reducible rfl
             rotate_left
             ·simp only [Act.put, List.setIfInBounds_toArray, List.set_cons_zero, List.set_cons_succ, i64_w, i32_w]
              rfl
             refine pure_ (i := 14) (N := some 27) (v := ?_) (a' := ?_) (bl 15 27) rfl rfl (any_of HT_.out (by kernel_rfl)) (fun _ _ _ h => h) (Or.inl ⟨by rfl, ?_⟩) ?_ ?_
             rotate_left
             ·intro w'
              go_simp
              with_reducible rfl
             rotate_left
             ·simp only [Act.put, List.setIfInBounds_toArray, List.set_cons_zero, List.set_cons_succ, i64_w, i32_w]
              rfl
             refine pure_ (i := 15) (N := some 28) (v := ?_) (a' := ?_) (bl 16 26) rfl rfl (any_of HT_.out (by kernel_rfl)) (fun _ _ _ h => h) (Or.inl ⟨by rfl, ?_⟩) ?_ ?_
             rotate_left
             ·intro w'
              go_simp
              with_reducible rfl
             rotate_left
             ·simp only [Act.put, List.setIfInBounds_toArray, List.set_cons_zero, List.set_cons_succ, i64_w, i32_w]
              rfl
             refine pure_ (i := 16) (N := some 29) (v := ?_) (a' := ?_) (bl 17 25) rfl rfl (any_of HT_.out (by kernel_rfl)) (fun _ _ _ h => h) (Or.inl ⟨by rfl, ?_⟩) ?_ ?_
             rotate_left
             ·intro w'
              go_simp
              with_reducible rfl
             rotate_left
             ·simp only [Act.put, List.setIfInBounds_toArray, List.set_cons_zero, List.set_cons_succ, i64_w, i32_w]
              rfl
             refine pure_ (i := 17) (N := some 30) (v := ?_) (a' := ?_) (bl 18 24) rfl rfl (any_of HT_.out (by kernel_rfl)) (fun _ _ _ h => h) (Or.inl ⟨by rfl, ?_⟩) ?_ ?_
             rotate_left
             ·intro w'
              go_simp
              with_reducible rfl
             rotate_left
             ·simp only [Act.put, List.setIfInBounds_toArray, List.set_cons_zero, List.set_cons_succ, i64_w, i32_w]
              rfl
             refine pure_ (i := 18) (N := some 31) (v := ?_) (a' := ?_) (bl 19 23) rfl rfl (any_of HT_.out (by kernel_rfl)) (fun _ _ _ h => h) (Or.inl ⟨by rfl, ?_⟩) ?_ ?_
             rotate_left
             ·intro w'
              go_simp
              with_reducible rfl
             rotate_left
             ·simp only [Act.put, List.setIfInBounds_toArray, List.set_cons_zero, List.set_cons_succ, i64_w, i32_w]
              rfl
             refine take_ (i := 19) (N := some 32) (v := ?_) (a' := ?_) (bl 20 22) rfl rfl (take_ofW HT_.out HW_.out (by kernel_rfl)) (fun _ _ _ h => h) (Or.inl ⟨by rfl, ?_⟩) hHeld ?_ ?_
             rotate_left
             ·rintro w' ⟨s0, s1, s2, s3, s4, s5, s6, s7, s8, s9⟩
              go_simp
              with_reducible rfl
             rotate_left
             ·simp only [Act.put, List.setIfInBounds_toArray, List.set_cons_zero, List.set_cons_succ, i64_w, i32_w]
              rfl
             refine one_ (i := 20) (N := some 33) (bl 21 21) rfl rfl (one_of HT_.out (by kernel_rfl)) (by decide) (fun K hK => ?_)
             refine goes_ Tryd.func19 (by kernel_rfl) rfl #[.string ((rd_T51 l0 x3_1).f1)] (by rfl) rfl rfl (by (try simp only [List.map_toArray, List.map_cons, List.map_nil]); first | done | rfl | (simp only [List.length_drop, List.length_take]; rfl)) ?_
             with_reducible refine (bursarref04_Name.calls k1 ((rd_T51 l0 x3_1).f1) true _ A16.out).mono ?_
             rintro e w' ⟨rfl, ⟨nd, rfl⟩⟩
             refine ⟨_, rfl, ?_⟩
             refine hK.out _ _ ⟨((HB.out.cell (World.block_lt_of_cell? w _ hw487_0)).trans hw487_0), ((HB.out.cell (World.block_lt_of_cell? w _ hw487_1)).trans hw487_1), ((HB.out.cell (World.block_lt_of_cell? w _ hw489_0)).trans hw489_0), ((HB.out.cell (World.block_lt_of_cell? w _ hw489_1)).trans hw489_1), ((HB.out.cell (World.block_lt_of_cell? w _ hw492_0)).trans hw492_0), ((HB.out.cell (World.block_lt_of_cell? w _ hw492_1)).trans hw492_1), ((HB.out.cell (World.block_lt_of_cell? w _ hw494_0)).trans hw494_0), ((HB.out.cell (World.block_lt_of_cell? w _ hw494_1)).trans hw494_1), ((HB.out.cell (World.block_lt_of_cell? w _ hw495_0)).trans hw495_0), ((HB.out.cell (World.block_lt_of_cell? w _ hw495_1)).trans hw495_1)⟩ (fun hHeld => ?_)
             clear hK K
             refine norm_ (a' := ?_) ?_ ?_
             rotate_left
             ·show Act.put _ (some 33) _ = _
              simp only [Act.put, List.setIfInBounds_toArray, List.set_cons_zero, List.set_cons_succ, i64_w, i32_w]
              rfl
             refine pure_ (i := 21) (N := some 34) (v := ?_) (a' := ?_) (bl 22 20) rfl rfl (any_of HT_.out (by kernel_rfl)) (fun _ _ _ h => h) (Or.inl ⟨by rfl, ?_⟩) ?_ ?_
             rotate_left
             ·intro w'
              go_simp
              with_reducible rfl
             rotate_left
             ·simp only [Act.put, List.setIfInBounds_toArray, List.set_cons_zero, List.set_cons_succ, i64_w, i32_w]
              rfl
             refine pure_ (i := 22) (N := some 35) (v := ?_) (a' := ?_) (bl 23 19) rfl rfl (any_of HT_.out (by kernel_rfl)) (fun _ _ _ h => h) (Or.inl ⟨by rfl, ?_⟩) ?_ ?_
             rotate_left
             ·intro w'
              go_simp
              with_reducible rfl
             rotate_left
             ·simp only [Act.put, List.setIfInBounds_toArray, List.set_cons_zero, List.set_cons_succ, i64_w, i32_w]
              rfl
             refine pure_ (i := 23) (N := some 36) (v := ?_) (a' := ?_) (bl 24 18) rfl rfl (any_of HT_.out (by kernel_rfl)) (fun _ _ _ h => h) (Or.inl ⟨by rfl, ?_⟩) ?_ ?_
             rotate_left
             ·intro w'
              go_simp
              with_reducible rfl
             rotate_left
             ·simp only [Act.put, List.setIfInBounds_toArray, List.set_cons_zero, List.set_cons_succ, i64_w, i32_w]
              rfl
             refine pure_ (i := 24) (N := some 37) (v := ?_) (a' := ?_) (bl 25 17) rfl rfl (any_of HT_.out (by kernel_rfl)) (fun _ _ _ h => h) (Or.inl ⟨by rfl, ?_⟩) ?_ ?_
             rotate_left
             ·intro w'
              go_simp
              with_reducible rfl
             rotate_left
             ·simp only [Act.put, List.setIfInBounds_toArray, List.set_cons_zero, List.set_cons_succ, i64_w, i32_w]
              rfl
             refine pure_ (i := 25) (N := some 38) (v := ?_) (a' := ?_) (bl 26 16) rfl rfl (any_of HT_.out (by kernel_rfl)) (fun _ _ _ h => h) (Or.inl ⟨by rfl, ?_⟩) ?_ ?_
             rotate_left
             ·intro w'
              go_simp
              with_reducible rfl
             rotate_left
             ·simp only [Act.put, List.setIfInBounds_toArray, List.set_cons_zero, List.set_cons_succ, i64_w, i32_w]
              rfl
             refine pure_ (i := 26) (N := some 39) (v := ?_) (a' := ?_) (bl 27 15) rfl rfl (any_of HT_.out (by kernel_rfl)) (fun _ _ _ h => h) (Or.inl ⟨by rfl, ?_⟩) ?_ ?_
             rotate_left
             ·intro w'
              go_simp
              with_reducible rfl
             rotate_left
             ·simp only [Act.put, List.setIfInBounds_toArray, List.set_cons_zero, List.set_cons_succ, i64_w, i32_w]
              rfl
             refine pure_ (i := 27) (N := some 40) (v := ?_) (a' := ?_) (bl 28 14) rfl rfl (any_of HT_.out (by kernel_rfl)) (fun _ _ _ h => h) (Or.inl ⟨by rfl, ?_⟩) ?_ ?_
             rotate_left
             ·intro w'
              go_simp
              with_reducible rfl
             rotate_left
             ·simp only [Act.put, List.setIfInBounds_toArray, List.set_cons_zero, List.set_cons_succ, i64_w, i32_w]
              rfl
             refine pure_ (i := 28) (N := some 41) (v := ?_) (a' := ?_) (bl 29 13) rfl rfl (any_of HT_.out (by kernel_rfl)) (fun _ _ _ h => h) (Or.inl ⟨by rfl, ?_⟩) ?_ ?_
             rotate_left
             ·intro w'
              go_simp
              with_reducible rfl
             rotate_left
             ·simp only [Act.put, List.setIfInBounds_toArray, List.set_cons_zero, List.set_cons_succ, i64_w, i32_w]
              rfl
             refine pure_ (i := 29) (N := some 42) (v := ?_) (a' := ?_) (bl 30 12) rfl rfl (any_of HT_.out (by kernel_rfl)) (fun _ _ _ h => h) (Or.inl ⟨by rfl, ?_⟩) ?_ ?_
             rotate_left
             ·intro w'
              go_simp
              with_reducible rfl
             rotate_left
             ·simp only [Act.put, List.setIfInBounds_toArray, List.set_cons_zero, List.set_cons_succ, i64_w, i32_w]
              rfl
             refine pure_ (i := 30) (N := some 43) (v := ?_) (a' := ?_) (bl 31 11) rfl rfl (any_of HT_.out (by kernel_rfl)) (fun _ _ _ h => h) (Or.inl ⟨by rfl, ?_⟩) ?_ ?_
             rotate_left
             ·intro w'
              go_simp
              with_reducible rfl
             rotate_left
             ·simp only [Act.put, List.setIfInBounds_toArray, List.set_cons_zero, List.set_cons_succ, i64_w, i32_w]
              rfl
             refine pure_ (i := 31) (N := some 44) (v := ?_) (a' := ?_) (bl 32 10) rfl rfl (any_of HT_.out (by kernel_rfl)) (fun _ _ _ h => h) (Or.inl ⟨by rfl, ?_⟩) ?_ ?_
             rotate_left
             ·intro w'
              go_simp
              with_reducible rfl
             rotate_left
             ·simp only [Act.put, List.setIfInBounds_toArray, List.set_cons_zero, List.set_cons_succ, i64_w, i32_w]
              rfl
             refine pure_ (i := 33) (N := some 46) (v := ?_) (a' := ?_) #[true, true, true, true, true, true, true, true, true, true, true, true, true, true, true, true, true, true, true, true, true, true, true, true, true, true, true, true, true, true, true, true, false, true, false, false, false, false, false, false, false, false] rfl rfl (any_of HT_.out (by kernel_rfl)) (fun _ _ _ h => h) (Or.inl ⟨by rfl, ?_⟩) ?_ ?_
             rotate_left
             ·intro w'
              go_simp
              with_reducible rfl
             rotate_left
             ·simp only [Act.put, List.setIfInBounds_toArray, List.set_cons_zero, List.set_cons_succ, i64_w, i32_w]
              rfl
             refine pure_ (i := 34) (N := some 47) (v := ?_) (a' := ?_) #[true, true, true, true, true, true, true, true, true, true, true, true, true, true, true, true, true, true, true, true, true, true, true, true, true, true, true, true, true, true, true, true, false, true, true, false, false, false, false, false, false, false] rfl rfl (any_of HT_.out (by kernel_rfl)) (fun _ _ _ h => h) (Or.inl ⟨by rfl, ?_⟩) ?_ ?_
             rotate_left
             ·intro w'
              go_simp
              with_reducible rfl
             rotate_left
             ·simp only [Act.put, List.setIfInBounds_toArray, List.set_cons_zero, List.set_cons_succ, i64_w, i32_w]
              rfl
             refine pure_ (i := 35) (N := some 48) (v := ?_) (a' := ?_) #[true, true, true, true, true, true, true, true, true, true, true, true, true, true, true, true, true, true, true, true, true, true, true, true, true, true, true, true, true, true, true, true, false, true, true, true, false, false, false, false, false, false] rfl rfl (any_of HT_.out (by kernel_rfl)) (fun _ _ _ h => h) (Or.inl ⟨by rfl, ?_⟩) ?_ ?_
             rotate_left
             ·intro w'
              go_simp
              with_reducible rfl
             rotate_left
             ·simp only [Act.put, List.setIfInBounds_toArray, List.set_cons_zero, List.set_cons_succ, i64_w, i32_w]
              rfl
             refine pure_ (i := 36) (N := some 49) (v := ?_) (a' := ?_) #[true, true, true, true, true, true, true, true, true, true, true, true, true, true, true, true, true, true, true, true, true, true, true, true, true, true, true, true, true, true, true, true, false, true, true, true, true, false, false, false, false, false] rfl rfl (any_of HT_.out (by kernel_rfl)) (fun _ _ _ h => h) (Or.inl ⟨by rfl, ?_⟩) ?_ ?_
             rotate_left
             ·intro w'
              go_simp
              with_reducible rfl
             rotate_left
             ·simp only [Act.put, List.setIfInBounds_toArray, List.set_cons_zero, List.set_cons_succ, i64_w, i32_w]
              rfl
             refine pure_ (i := 37) (N := some 50) (v := ?_) (a' := ?_) #[true, true, true, true, true, true, true, true, true, true, true, true, true, true, true, true, true, true, true, true, true, true, true, true, true, true, true, true, true, true, true, true, false, true, true, true, true, true, false, false, false, false] rfl rfl (any_of HT_.out (by kernel_rfl)) (fun _ _ _ h => h) (Or.inl ⟨by rfl, ?_⟩) ?_ ?_
             rotate_left
             ·intro w'
              go_simp
              with_reducible rfl
             rotate_left
             ·simp only [Act.put, List.setIfInBounds_toArray, List.set_cons_zero, List.set_cons_succ, i64_w, i32_w]
              rfl
             refine take_ (i := 32) (N := some 45) (v := ?_) (a' := ?_) (bl 38 4) rfl rfl (take_ofW HT_.out HW_.out (by kernel_rfl)) (fun _ _ _ h => h) (Or.inl ⟨by rfl, ?_⟩) hHeld ?_ ?_
             rotate_left
             ·rintro w' ⟨s0, s1, s2, s3, s4, s5, s6, s7, s8, s9⟩
              go_simp
              with_reducible rfl
             rotate_left
             ·simp only [Act.put, List.setIfInBounds_toArray, List.set_cons_zero, List.set_cons_succ, i64_w, i32_w]
              rfl
             refine take_ (i := 38) (N := some 51) (v := ?_) (a' := ?_) (bl 39 3) rfl rfl (take_ofW HT_.out HW_.out (by kernel_rfl)) (fun _ _ _ h => h) (Or.inl ⟨by rfl, ?_⟩) hHeld ?_ ?_
             rotate_left
             ·rintro w' ⟨s0, s1, s2, s3, s4, s5, s6, s7, s8, s9⟩
              go_simp
              with_reducible rfl
             rotate_left
             ·simp only [Act.put, List.setIfInBounds_toArray, List.set_cons_zero, List.set_cons_succ, i64_w, i32_w]
              rfl
             refine pure_ (i := 39) (N := some 52) (v := ?_) (a' := ?_) (bl 40 2) rfl rfl (any_of HT_.out (by kernel_rfl)) (fun _ _ _ h => h) (Or.inl ⟨by rfl, ?_⟩) ?_ ?_
             rotate_left
             ·intro w'
              go_simp
              with_reducible rfl
             rotate_left
             ·simp only [Act.put, List.setIfInBounds_toArray, List.set_cons_zero, List.set_cons_succ, i64_w, i32_w]
              rfl
             refine pure_ (i := 40) (N := some 53) (v := ?_) (a' := ?_) (bl 41 1) rfl rfl (any_of HT_.out (by kernel_rfl)) (fun _ _ _ h => h) (Or.inl ⟨by rfl, ?_⟩) ?_ ?_
             rotate_left
             ·intro w'
              go_simp
              with_reducible rfl
             rotate_left
             ·simp only [Act.put, List.setIfInBounds_toArray, List.set_cons_zero, List.set_cons_succ, i64_w, i32_w]
              rfl
             refine pure_ (i := 41) (N := some 54) (v := ?_) (a' := ?_) (bl 42 0) rfl rfl (any_of HT_.out (by kernel_rfl)) (fun _ _ _ h => h) (Or.inl ⟨by rfl, ?_⟩) ?_ ?_
             rotate_left
             ·intro w'
              go_simp
              with_reducible rfl
             rotate_left
             ·simp only [Act.put, List.setIfInBounds_toArray, List.set_cons_zero, List.set_cons_succ, i64_w, i32_w]
              rfl
             refine done_ (done_of HT_.out (by kernel_rfl)) ?_
             try go_wp2
             go_roundg k1
             case measure => have := HK1.out; omega
             case rel => exact ⟨(wrap64 (x3_1 + 1)), (by first | rfl | (simp; done) | (simp [*]; done) | (simp; rw [Bool.eq_iff_iff]; simp; done) | (rw [Bool.eq_iff_iff]; simp; done)), H', ⟨by have := HK1.out; omega⟩, ⟨by repeat (first | (with_reducible first | exact HB.out | apply below_alloc | apply pw_below_drewN | apply below_drew1) | exact HB.out)⟩⟩
            ·rw [if_neg c22] at H
             have c22b0 : (Op.bytesLess (((rd_T51 l0 (ji19)).f0).toList) (((rd_T51 l0 x3_1).f0).toList)) = false := by simpa using c22
             clear c22
             obtain rfl := Option.some.inj H
             try go_wp2
             have n0_ := Aside0.mk (below_drew1 HB.out)
             clear HB
             have HB := n0_
             clear n0_
             have p487 : 0 ≤ (x3_1 : Int) := of_decide_eq_true (by first | (with_reducible assumption) | assumption)
             have q487 : x3_1 < (l0.length : Int) := of_decide_eq_true (by first | (with_reducible assumption) | assumption)
             obtain ⟨ad487, e487, hx487_0, hx487_1⟩ := at_T51 HR0.out x3_1 p487 q487
             have hw487_1 := hx487_1
             have hw487_0 := hx487_0
             cases e487
             replace hx487_0 := (HB.out.cell (World.block_lt_of_cell? w _ hx487_0)).trans hx487_0
             replace hx487_1 := (HB.out.cell (World.block_lt_of_cell? w _ hx487_1)).trans hx487_1
             replace p487 := eq_true p487
             replace q487 := eq_true q487
             have p489 : 0 ≤ (x3_1 : Int) := of_decide_eq_true (by first | (with_reducible assumption) | assumption)
             have q489 : x3_1 < (l0.length : Int) := of_decide_eq_true (by first | (with_reducible assumption) | assumption)
             obtain ⟨ad489, e489, hx489_0, hx489_1⟩ := at_T51 HR0.out x3_1 p489 q489
             have hw489_1 := hx489_1
             have hw489_0 := hx489_0
             obtain rfl : ad487 = ad489 := (by injection e489)
             replace hx489_0 := (HB.out.cell (World.block_lt_of_cell? w _ hx489_0)).trans hx489_0
             replace hx489_1 := (HB.out.cell (World.block_lt_of_cell? w _ hx489_1)).trans hx489_1
             replace p489 := eq_true p489
             replace q489 := eq_true q489
             have p492 : 0 ≤ (x3_1 : Int) := of_decide_eq_true (by first | (with_reducible assumption) | assumption)
             have q492 : x3_1 < (l0.length : Int) := of_decide_eq_true (by first | (with_reducible assumption) | assumption)
             obtain ⟨ad492, e492, hx492_0, hx492_1⟩ := at_T51 HR0.out x3_1 p492 q492
             have hw492_1 := hx492_1
             have hw492_0 := hx492_0
             obtain rfl : ad487 = ad492 := (by injection e492)
             replace hx492_0 := (HB.out.cell (World.block_lt_of_cell? w _ hx492_0)).trans hx492_0
             replace hx492_1 := (HB.out.cell (World.block_lt_of_cell? w _ hx492_1)).trans hx492_1
             replace p492 := eq_true p492
             replace q492 := eq_true q492
             have p494 : 0 ≤ (x3_1 : Int) := of_decide_eq_true (by first | (with_reducible assumption) | assumption)
             have q494 : x3_1 < (l0.length : Int) := of_decide_eq_true (by first | (with_reducible assumption) | assumption)
             obtain ⟨ad494, e494, hx494_0, hx494_1⟩ := at_T51 HR0.out x3_1 p494 q494
             have hw494_1 := hx494_1
             have hw494_0 := hx494_0
             obtain rfl : ad487 = ad494 := (by injection e494)
             replace hx494_0 := (HB.out.cell (World.block_lt_of_cell? w _ hx494_0)).trans hx494_0
             replace hx494_1 := (HB.out.cell (World.block_lt_of_cell? w _ hx494_1)).trans hx494_1
             replace p494 := eq_true p494
             replace q494 := eq_true q494
             have p495 : 0 ≤ ((ji19) : Int) := of_decide_eq_true (by first | (with_reducible assumption) | assumption)
             have q495 : (ji19) < (l0.length : Int) := of_decide_eq_true (by first | (with_reducible assumption) | assumption)
             obtain ⟨ad495, e495, hx495_0, hx495_1⟩ := at_T51 HR0.out (ji19) p495 q495
             have hw495_1 := hx495_1
             have hw495_0 := hx495_0
             obtain rfl : ad487 = ad495 := (by injection e495)
             replace hx495_0 := (HB.out.cell (World.block_lt_of_cell? w _ hx495_0)).trans hx495_0
             replace hx495_1 := (HB.out.cell (World.block_lt_of_cell? w _ hx495_1)).trans hx495_1
             replace p495 := eq_true p495
             replace q495 := eq_true q495
             refine start_ (n := 42) (S := fun w' => w'.cell? (ad487.add ((x3_1).toNat * 2)) = some (.string ((rd_T51 l0 x3_1).f0)) ∧ w'.cell? ⟨(ad487.add ((x3_1).toNat * 2)).block, (ad487.add ((x3_1).toNat * 2)).off + 1, none⟩ = some (.string ((rd_T51 l0 x3_1).f1)) ∧ w'.cell? (ad487.add ((x3_1).toNat * 2)) = some (.string ((rd_T51 l0 x3_1).f0)) ∧ w'.cell? ⟨(ad487.add ((x3_1).toNat * 2)).block, (ad487.add ((x3_1).toNat * 2)).off + 1, none⟩ = some (.string ((rd_T51 l0 x3_1).f1)) ∧ w'.cell? (ad487.add ((x3_1).toNat * 2)) = some (.string ((rd_T51 l0 x3_1).f0)) ∧ w'.cell? ⟨(ad487.add ((x3_1).toNat * 2)).block, (ad487.add ((x3_1).toNat * 2)).off + 1, none⟩ = some (.string ((rd_T51 l0 x3_1).f1)) ∧ w'.cell? (ad487.add ((x3_1).toNat * 2)) = some (.string ((rd_T51 l0 x3_1).f0)) ∧ w'.cell? ⟨(ad487.add ((x3_1).toNat * 2)).block, (ad487.add ((x3_1).toNat * 2)).off + 1, none⟩ = some (.string ((rd_T51 l0 x3_1).f1)) ∧ w'.cell? (ad487.add (((ji19)).toNat * 2)) = some (.string ((rd_T51 l0 (ji19)).f0)) ∧ w'.cell? ⟨(ad487.add (((ji19)).toNat * 2)).block, (ad487.add (((ji19)).toNat * 2)).off + 1, none⟩ = some (.string ((rd_T51 l0 (ji19)).f1))) (ds := []) (bl 0 42) (by kernel_rfl) rfl rfl ⟨((HB.out.cell (World.block_lt_of_cell? w _ hw487_0)).trans hw487_0), ((HB.out.cell (World.block_lt_of_cell? w _ hw487_1)).trans hw487_1), ((HB.out.cell (World.block_lt_of_cell? w _ hw489_0)).trans hw489_0), ((HB.out.cell (World.block_lt_of_cell? w _ hw489_1)).trans hw489_1), ((HB.out.cell (World.block_lt_of_cell? w _ hw492_0)).trans hw492_0), ((HB.out.cell (World.block_lt_of_cell? w _ hw492_1)).trans hw492_1), ((HB.out.cell (World.block_lt_of_cell? w _ hw494_0)).trans hw494_0), ((HB.out.cell (World.block_lt_of_cell? w _ hw494_1)).trans hw494_1), ((HB.out.cell (World.block_lt_of_cell? w _ hw495_0)).trans hw495_0), ((HB.out.cell (World.block_lt_of_cell? w _ hw495_1)).trans hw495_1)⟩ (fun hHeld => ?_); refine with_tabW bursarref04_Valid.tab6 bursarref04_Valid.bits6 (fun HT_ HW_ => ?_)
             generalize wr.drew = w24 at HB hx487_0 hx487_1 hx489_0 hx489_1 hx492_0 hx492_1 hx494_0 hx494_1 hx495_0 hx495_1 hHeld ⊢
             refine pure_ (i := 0) (N := some 13) (v := ?_) (a' := ?_) (bl 1 41) rfl rfl (any_of HT_.out (by kernel_rfl)) (fun _ _ _ h => h) (Or.inl ⟨by rfl, ?_⟩) ?_ ?_
             rotate_left
             ·intro w'
              go_simp
              with_reducible rfl
             rotate_left
             ·simp only [Act.put, List.setIfInBounds_toArray, List.set_cons_zero, List.set_cons_succ, i64_w, i32_w]
              rfl
             refine pure_ (i := 1) (N := some 14) (v := ?_) (a' := ?_) (bl 2 40) rfl rfl (any_of HT_.out (by kernel_rfl)) (fun _ _ _ h => h) (Or.inl ⟨by rfl, ?_⟩) ?_ ?_
             rotate_left
             ·intro w'
              go_simp
              with_reducible rfl
             rotate_left
             ·simp only [Act.put, List.setIfInBounds_toArray, List.set_cons_zero, List.set_cons_succ, i64_w, i32_w]
              rfl
             refine pure_ (i := 2) (N := some 15) (v := ?_) (a' := ?_) (bl 3 39) rfl rfl (any_of HT_.out (by kernel_rfl)) (fun _ _ _ h => h) (Or.inl ⟨by rfl, ?_⟩) ?_ ?_
             rotate_left
             ·intro w'
              go_simp
              with_reducible rfl
             rotate_left
             ·simp only [Act.put, List.setIfInBounds_toArray, List.set_cons_zero, List.set_cons_succ, i64_w, i32_w]
              rfl
             refine pure_ (i := 3) (N := some 16) (v := ?_) (a' := ?_) (bl 4 38) rfl rfl (any_of HT_.out (by kernel_rfl)) (fun _ _ _ h => h) (Or.inl ⟨by rfl, ?_⟩) ?_ ?_
             rotate_left
             ·intro w'
              go_simp
              with_reducible rfl
             rotate_left
             ·simp only [Act.put, List.setIfInBounds_toArray, List.set_cons_zero, List.set_cons_succ, i64_w, i32_w]
              rfl
             refine take_ (i := 4) (N := some 17) (v := ?_) (a' := ?_) (bl 5 37) rfl rfl (take_ofW HT_.out HW_.out (by kernel_rfl)) (fun _ _ _ h => h) (Or.inl ⟨by rfl, ?_⟩) hHeld ?_ ?_
             rotate_left
             ·rintro w' ⟨s0, s1, s2, s3, s4, s5, s6, s7, s8, s9⟩
              go_simp
              with_reducible rfl
             rotate_left
             ·simp only [Act.put, List.setIfInBounds_toArray, List.set_cons_zero, List.set_cons_succ, i64_w, i32_w]
              rfl
             refine one_ (i := 5) (N := some 18) (bl 6 36) rfl rfl (one_of HT_.out (by kernel_rfl)) (by decide) (fun K hK => ?_)
             refine goes_ Tryd.func19 (by kernel_rfl) rfl #[.string ((rd_T51 l0 x3_1).f0)] (by rfl) rfl rfl (by (try simp only [List.map_toArray, List.map_cons, List.map_nil]); first | done | rfl | (simp only [List.length_drop, List.length_take]; rfl)) ?_
             with_reducible refine (bursarref04_Name.calls k1 ((rd_T51 l0 x3_1).f0) true _ A5.out).mono ?_
             rintro e w' ⟨rfl, ⟨nd, rfl⟩⟩
             refine ⟨_, rfl, ?_⟩
             refine hK.out _ _ ⟨((HB.out.cell (World.block_lt_of_cell? w _ hw487_0)).trans hw487_0), ((HB.out.cell (World.block_lt_of_cell? w _ hw487_1)).trans hw487_1), ((HB.out.cell (World.block_lt_of_cell? w _ hw489_0)).trans hw489_0), ((HB.out.cell (World.block_lt_of_cell? w _ hw489_1)).trans hw489_1), ((HB.out.cell (World.block_lt_of_cell? w _ hw492_0)).trans hw492_0), ((HB.out.cell (World.block_lt_of_cell? w _ hw492_1)).trans hw492_1), ((HB.out.cell (World.block_lt_of_cell? w _ hw494_0)).trans hw494_0), ((HB.out.cell (World.block_lt_of_cell? w _ hw494_1)).trans hw494_1), ((HB.out.cell (World.block_lt_of_cell? w _ hw495_0)).trans hw495_0), ((HB.out.cell (World.block_lt_of_cell? w _ hw495_1)).trans hw495_1)⟩ (fun hHeld => ?_)
             clear hK K
             refine norm_ (a' := ?_) ?_ ?_
             rotate_left
             ·show Act.put _ (some 18) _ = _
              simp only [Act.put, List.setIfInBounds_toArray, List.set_cons_zero, List.set_cons_succ, i64_w, i32_w]
              rfl
             refine pure_ (i := 6) (N := some 19) (v := ?_) (a' := ?_) (bl 7 35) rfl rfl (any_of HT_.out (by kernel_rfl)) (fun _ _ _ h => h) (Or.inl ⟨by rfl, ?_⟩) ?_ ?_
             rotate_left
             ·intro w'
              go_simp
              with_reducible rfl
             rotate_left
             ·simp only [Act.put, List.setIfInBounds_toArray, List.set_cons_zero, List.set_cons_succ, i64_w, i32_w]
              rfl
             refine pure_ (i := 7) (N := some 20) (v := ?_) (a' := ?_) (bl 8 34) rfl rfl (any_of HT_.out (by kernel_rfl)) (fun _ _ _ h => h) (Or.inl ⟨by rfl, ?_⟩) ?_ ?_
             rotate_left
             ·intro w'
              go_simp
              with_reducible rfl
             rotate_left
             ·simp only [Act.put, List.setIfInBounds_toArray, List.set_cons_zero, List.set_cons_succ, i64_w, i32_w]
              rfl
             refine pure_ (i := 8) (N := some 21) (v := ?_) (a' := ?_) (bl 9 33) rfl rfl (any_of HT_.out (by kernel_rfl)) (fun _ _ _ h => h) (Or.inl ⟨by rfl, ?_⟩) ?_ ?_
             rotate_left
             ·intro w'
              go_simp
              with_reducible rfl
             rotate_left
             ·simp only [Act.put, List.setIfInBounds_toArray, List.set_cons_zero, List.set_cons_succ, i64_w, i32_w]
              rfl
             refine pure_ (i := 9) (N := some 22) (v := ?_) (a' := ?_) (bl 10 32) rfl rfl (any_of HT_.out (by kernel_rfl)) (fun _ _ _ h => h) (Or.inl ⟨by rfl, ?_⟩) ?_ ?_
             rotate_left
             ·intro w'
              go_simp
              with_reducible rfl
             rotate_left
             ·simp only [Act.put, List.setIfInBounds_toArray, List.set_cons_zero, List.set_cons_succ, i64_w, i32_w]
              rfl
             refine pure_ (i := 10) (N := some 23) (v := ?_) (a' := ?_) (bl 11 31) rfl rfl (any_of HT_.out (by kernel_rfl)) (fun _ _ _ h => h) (Or.inl ⟨by rfl, ?_⟩) ?_ ?_
             rotate_left
             ·intro w'
              go_simp
              with_reducible rfl
             rotate_left
             ·simp only [Act.put, List.setIfInBounds_toArray, List.set_cons_zero, List.set_cons_succ, i64_w, i32_w]
              rfl
             refine pure_ (i := 11) (N := some 24) (v := ?_) (a' := ?_) (bl 12 30) rfl rfl (any_of HT_.out (by kernel_rfl)) (fun _ _ _ h => h) (Or.inl ⟨by rfl, ?_⟩) ?_ ?_
             rotate_left
             ·intro w'
              go_simp
              with_reducible rfl
             rotate_left
             ·simp only [Act.put, List.setIfInBounds_toArray, List.set_cons_zero, List.set_cons_succ, i64_w, i32_w]
              rfl
             refine take_ (i := 12) (N := some 25) (v := ?_) (a' := ?_) (bl 13 29) rfl rfl (take_ofW HT_.out HW_.out (by kernel_rfl)) (fun _ _ _ h => h) (Or.inl ⟨by rfl, ?_⟩) hHeld ?_ ?_
             rotate_left
             ·rintro w' ⟨s0, s1, s2, s3, s4, s5, s6, s7, s8, s9⟩
              go_simp
              with_reducible rfl
             rotate_left
             ·simp only [Act.put, List.setIfInBounds_toArray, List.set_cons_zero, List.set_cons_succ, i64_w, i32_w]
              rfl
             refine pure_ (i := 13) (N := some 26) (v := ?_) (a' := ?_) (bl 14 28) rfl rfl (any_of HT_.out (by kernel_rfl)) (fun _ _ _ h => h) (Or.inl ⟨by rfl, ?_⟩) ?_ ?_
             rotate_left
             ·intro w'
              go_simp
              with_reducible rfl
             rotate_left
             ·simp only [Act.put, List.setIfInBounds_toArray, List.set_cons_zero, List.set_cons_succ, i64_w, i32_w]
              rfl
             refine pure_ (i := 14) (N := some 27) (v := ?_) (a' := ?_) (bl 15 27) rfl rfl (any_of HT_.out (by kernel_rfl)) (fun _ _ _ h => h) (Or.inl ⟨by rfl, ?_⟩) ?_ ?_
             rotate_left
             ·intro w'
              go_simp
              with_reducible rfl
             rotate_left
             ·simp only [Act.put, List.setIfInBounds_toArray, List.set_cons_zero, List.set_cons_succ, i64_w, i32_w]
              rfl
             refine pure_ (i := 15) (N := some 28) (v := ?_) (a' := ?_) (bl 16 26) rfl rfl (any_of HT_.out (by kernel_rfl)) (fun _ _ _ h => h) (Or.inl ⟨by rfl, ?_⟩) ?_ ?_
             rotate_left
             ·intro w'
              go_simp
              with_reducible rfl
             rotate_left
             ·simp only [Act.put, List.setIfInBounds_toArray, List.set_cons_zero, List.set_cons_succ, i64_w, i32_w]
              rfl
             refine pure_ (i := 16) (N := some 29) (v := ?_) (a' := ?_) (bl 17 25) rfl rfl (any_of HT_.out (by kernel_rfl)) (fun _ _ _ h => h) (Or.inl ⟨by rfl, ?_⟩) ?_ ?_
             rotate_left
             ·intro w'
              go_simp
              with_reducible rfl
             rotate_left
             ·simp only [Act.put, List.setIfInBounds_toArray, List.set_cons_zero, List.set_cons_succ, i64_w, i32_w]
              rfl
             refine pure_ (i := 17) (N := some 30) (v := ?_) (a' := ?_) (bl 18 24) rfl rfl (any_of HT_.out (by kernel_rfl)) (fun _ _ _ h => h) (Or.inl ⟨by rfl, ?_⟩) ?_ ?_
             rotate_left
             ·intro w'
              go_simp
              with_reducible rfl
             rotate_left
             ·simp only [Act.put, List.setIfInBounds_toArray, List.set_cons_zero, List.set_cons_succ, i64_w, i32_w]
              rfl
             refine pure_ (i := 18) (N := some 31) (v := ?_) (a' := ?_) (bl 19 23) rfl rfl (any_of HT_.out (by kernel_rfl)) (fun _ _ _ h => h) (Or.inl ⟨by rfl, ?_⟩) ?_ ?_
             rotate_left
             ·intro w'
              go_simp
              with_reducible rfl
             rotate_left
             ·simp only [Act.put, List.setIfInBounds_toArray, List.set_cons_zero, List.set_cons_succ, i64_w, i32_w]
              rfl
             refine take_ (i := 19) (N := some 32) (v := ?_) (a' := ?_) (bl 20 22) rfl rfl (take_ofW HT_.out HW_.out (by kernel_rfl)) (fun _ _ _ h => h) (Or.inl ⟨by rfl, ?_⟩) hHeld ?_ ?_
             rotate_left
             ·rintro w' ⟨s0, s1, s2, s3, s4, s5, s6, s7, s8, s9⟩
              go_simp
              with_reducible rfl
             rotate_left
             ·simp only [Act.put, List.setIfInBounds_toArray, List.set_cons_zero, List.set_cons_succ, i64_w, i32_w]
              rfl
             refine one_ (i := 20) (N := some 33) (bl 21 21) rfl rfl (one_of HT_.out (by kernel_rfl)) (by decide) (fun K hK => ?_)
             refine goes_ Tryd.func19 (by kernel_rfl) rfl #[.string ((rd_T51 l0 x3_1).f1)] (by rfl) rfl rfl (by (try simp only [List.map_toArray, List.map_cons, List.map_nil]); first | done | rfl | (simp only [List.length_drop, List.length_take]; rfl)) ?_
             with_reducible refine (bursarref04_Name.calls k1 ((rd_T51 l0 x3_1).f1) true _ A16.out).mono ?_
             rintro e w' ⟨rfl, ⟨nd, rfl⟩⟩
             refine ⟨_, rfl, ?_⟩
             refine hK.out _ _ ⟨((HB.out.cell (World.block_lt_of_cell? w _ hw487_0)).trans hw487_0), ((HB.out.cell (World.block_lt_of_cell? w _ hw487_1)).trans hw487_1), ((HB.out.cell (World.block_lt_of_cell? w _ hw489_0)).trans hw489_0), ((HB.out.cell (World.block_lt_of_cell? w _ hw489_1)).trans hw489_1), ((HB.out.cell (World.block_lt_of_cell? w _ hw492_0)).trans hw492_0), ((HB.out.cell (World.block_lt_of_cell? w _ hw492_1)).trans hw492_1), ((HB.out.cell (World.block_lt_of_cell? w _ hw494_0)).trans hw494_0), ((HB.out.cell (World.block_lt_of_cell? w _ hw494_1)).trans hw494_1), ((HB.out.cell (World.block_lt_of_cell? w _ hw495_0)).trans hw495_0), ((HB.out.cell (World.block_lt_of_cell? w _ hw495_1)).trans hw495_1)⟩ (fun hHeld => ?_)
             clear hK K
             refine norm_ (a' := ?_) ?_ ?_
             rotate_left
             ·show Act.put _ (some 33) _ = _
              simp only [Act.put, List.setIfInBounds_toArray, List.set_cons_zero, List.set_cons_succ, i64_w, i32_w]
              rfl
             refine pure_ (i := 21) (N := some 34) (v := ?_) (a' := ?_) (bl 22 20) rfl rfl (any_of HT_.out (by kernel_rfl)) (fun _ _ _ h => h) (Or.inl ⟨by rfl, ?_⟩) ?_ ?_
             rotate_left
             ·intro w'
              go_simp
              with_reducible rfl
             rotate_left
             ·simp only [Act.put, List.setIfInBounds_toArray, List.set_cons_zero, List.set_cons_succ, i64_w, i32_w]
              rfl
             refine pure_ (i := 22) (N := some 35) (v := ?_) (a' := ?_) (bl 23 19) rfl rfl (any_of HT_.out (by kernel_rfl)) (fun _ _ _ h => h) (Or.inl ⟨by rfl, ?_⟩) ?_ ?_
             rotate_left
             ·intro w'
              go_simp
              with_reducible rfl
             rotate_left
             ·simp only [Act.put, List.setIfInBounds_toArray, List.set_cons_zero, List.set_cons_succ, i64_w, i32_w]
              rfl
             refine pure_ (i := 23) (N := some 36) (v := ?_) (a' := ?_) (bl 24 18) rfl rfl (any_of HT_.out (by kernel_rfl)) (fun _ _ _ h => h) (Or.inl ⟨by rfl, ?_⟩) ?_ ?_
             rotate_left
             ·intro w'
              go_simp
              with_reducible rfl
             rotate_left
             ·simp only [Act.put, List.setIfInBounds_toArray, List.set_cons_zero, List.set_cons_succ, i64_w, i32_w]
              rfl
             refine pure_ (i := 24) (N := some 37) (v := ?_) (a' := ?_) (bl 25 17) rfl rfl (any_of HT_.out (by kernel_rfl)) (fun _ _ _ h => h) (Or.inl ⟨by rfl, ?_⟩) ?_ ?_
             rotate_left
             ·intro w'
              go_simp
              with_reducible rfl
             rotate_left
             ·simp only [Act.put, List.setIfInBounds_toArray, List.set_cons_zero, List.set_cons_succ, i64_w, i32_w]
              rfl
             refine pure_ (i := 25) (N := some 38) (v := ?_) (a' := ?_) (bl 26 16) rfl rfl (any_of HT_.out (by kernel_rfl)) (fun _ _ _ h => h) (Or.inl ⟨by rfl, ?_⟩) ?_ ?_
             rotate_left
             ·intro w'
              go_simp
              with_reducible rfl
             rotate_left
             ·simp only [Act.put, List.setIfInBounds_toArray, List.set_cons_zero, List.set_cons_succ, i64_w, i32_w]
              rfl
             refine pure_ (i := 26) (N := some 39) (v := ?_) (a' := ?_) (bl 27 15) rfl rfl (any_of HT_.out (by kernel_rfl)) (fun _ _ _ h => h) (Or.inl ⟨by rfl, ?_⟩) ?_ ?_
             rotate_left
             ·intro w'
              go_simp
              with_reducible rfl
             rotate_left
             ·simp only [Act.put, List.setIfInBounds_toArray, List.set_cons_zero, List.set_cons_succ, i64_w, i32_w]
              rfl
             refine pure_ (i := 27) (N := some 40) (v := ?_) (a' := ?_) (bl 28 14) rfl rfl (any_of HT_.out (by kernel_rfl)) (fun _ _ _ h => h) (Or.inl ⟨by rfl, ?_⟩) ?_ ?_
             rotate_left
             ·intro w'
              go_simp
              with_reducible rfl
             rotate_left
             ·simp only [Act.put, List.setIfInBounds_toArray, List.set_cons_zero, List.set_cons_succ, i64_w, i32_w]
              rfl
             refine pure_ (i := 28) (N := some 41) (v := ?_) (a' := ?_) (bl 29 13) rfl rfl (any_of HT_.out (by kernel_rfl)) (fun _ _ _ h => h) (Or.inl ⟨by rfl, ?_⟩) ?_ ?_
             rotate_left
             ·intro w'
              go_simp
              with_reducible rfl
             rotate_left
             ·simp only [Act.put, List.setIfInBounds_toArray, List.set_cons_zero, List.set_cons_succ, i64_w, i32_w]
              rfl
             refine pure_ (i := 29) (N := some 42) (v := ?_) (a' := ?_) (bl 30 12) rfl rfl (any_of HT_.out (by kernel_rfl)) (fun _ _ _ h => h) (Or.inl ⟨by rfl, ?_⟩) ?_ ?_
             rotate_left
             ·intro w'
              go_simp
              with_reducible rfl
             rotate_left
             ·simp only [Act.put, List.setIfInBounds_toArray, List.set_cons_zero, List.set_cons_succ, i64_w, i32_w]
              rfl
             refine pure_ (i := 30) (N := some 43) (v := ?_) (a' := ?_) (bl 31 11) rfl rfl (any_of HT_.out (by kernel_rfl)) (fun _ _ _ h => h) (Or.inl ⟨by rfl, ?_⟩) ?_ ?_
             rotate_left
             ·intro w'
              go_simp
              with_reducible rfl
             rotate_left
             ·simp only [Act.put, List.setIfInBounds_toArray, List.set_cons_zero, List.set_cons_succ, i64_w, i32_w]
              rfl
             refine pure_ (i := 31) (N := some 44) (v := ?_) (a' := ?_) (bl 32 10) rfl rfl (any_of HT_.out (by kernel_rfl)) (fun _ _ _ h => h) (Or.inl ⟨by rfl, ?_⟩) ?_ ?_
             rotate_left
             ·intro w'
              go_simp
              with_reducible rfl
             rotate_left
             ·simp only [Act.put, List.setIfInBounds_toArray, List.set_cons_zero, List.set_cons_succ, i64_w, i32_w]
              rfl
             refine pure_ (i := 33) (N := some 46) (v := ?_) (a' := ?_) #[true, true, true, true, true, true, true, true, true, true, true, true, true, true, true, true, true, true, true, true, true, true, true, true, true, true, true, true, true, true, true, true, false, true, false, false, false, false, false, false, false, false] rfl rfl (any_of HT_.out (by kernel_rfl)) (fun _ _ _ h => h) (Or.inl ⟨by rfl, ?_⟩) ?_ ?_
             rotate_left
             ·intro w'
              go_simp
              with_reducible rfl
             rotate_left
             ·simp only [Act.put, List.setIfInBounds_toArray, List.set_cons_zero, List.set_cons_succ, i64_w, i32_w]
              rfl
             refine pure_ (i := 34) (N := some 47) (v := ?_) (a' := ?_) #[true, true, true, true, true, true, true, true, true, true, true, true, true, true, true, true, true, true, true, true, true, true, true, true, true, true, true, true, true, true, true, true, false, true, true, false, false, false, false, false, false, false] rfl rfl (any_of HT_.out (by kernel_rfl)) (fun _ _ _ h => h) (Or.inl ⟨by rfl, ?_⟩) ?_ ?_
             rotate_left
             ·intro w'
              go_simp
              with_reducible rfl
             rotate_left
             ·simp only [Act.put, List.setIfInBounds_toArray, List.set_cons_zero, List.set_cons_succ, i64_w, i32_w]
              rfl
             refine pure_ (i := 35) (N := some 48) (v := ?_) (a' := ?_) #[true, true, true, true, true, true, true, true, true, true, true, true, true, true, true, true, true, true, true, true, true, true, true, true, true, true, true, true, true, true, true, true, false, true, true, true, false, false, false, false, false, false] rfl rfl (any_of HT_.out (by kernel_rfl)) (fun _ _ _ h => h) (Or.inl ⟨by rfl, ?_⟩) ?_ ?_
             rotate_left
             ·intro w'
              go_simp
              with_reducible rfl
             rotate_left
             ·simp only [Act.put, List.setIfInBounds_toArray, List.set_cons_zero, List.set_cons_succ, i64_w, i32_w]
              rfl
             refine pure_ (i := 36) (N := some 49) (v := ?_) (a' := ?_) #[true, true, true, true, true, true, true, true, true, true, true, true, true, true, true, true, true, true, true, true, true, true, true, true, true, true, true, true, true, true, true, true, false, true, true, true, true, false, false, false, false, false] rfl rfl (any_of HT_.out (by kernel_rfl)) (fun _ _ _ h => h) (Or.inl ⟨by rfl, ?_⟩) ?_ ?_
             rotate_left
             ·intro w'
              go_simp
              with_reducible rfl
             rotate_left
             ·simp only [Act.put, List.setIfInBounds_toArray, List.set_cons_zero, List.set_cons_succ, i64_w, i32_w]
              rfl
             refine pure_ (i := 37) (N := some 50) (v := ?_) (a' := ?_) #[true, true, true, true, true, true, true, true, true, true, true, true, true, true, true, true, true, true, true, true, true, true, true, true, true, true, true, true, true, true, true, true, false, true, true, true, true, true, false, false, false, false] rfl rfl (any_of HT_.out (by kernel_rfl)) (fun _ _ _ h => h) (Or.inl ⟨by rfl, ?_⟩) ?_ ?_
             rotate_left
             ·intro w'
              go_simp
              with_reducible rfl
             rotate_left
             ·simp only [Act.put, List.setIfInBounds_toArray, List.set_cons_zero, List.set_cons_succ, i64_w, i32_w]
              rfl
             refine take_ (i := 32) (N := some 45) (v := ?_) (a' := ?_) (bl 38 4) rfl rfl (take_ofW HT_.out HW_.out (by kernel_rfl)) (fun _ _ _ h => h) (Or.inl ⟨by rfl, ?_⟩) hHeld ?_ ?_
             rotate_left
             ·rintro w' ⟨s0, s1, s2, s3, s4, s5, s6, s7, s8, s9⟩
              go_simp
              with_reducible rfl
             rotate_left
             ·simp only [Act.put, List.setIfInBounds_toArray, List.set_cons_zero, List.set_cons_succ, i64_w, i32_w]
              rfl
             refine take_ (i := 38) (N := some 51) (v := ?_) (a' := ?_) (bl 39 3) rfl rfl (take_ofW HT_.out HW_.out (by kernel_rfl)) (fun _ _ _ h => h) (Or.inl ⟨by rfl, ?_⟩) hHeld ?_ ?_
             rotate_left
             ·rintro w' ⟨s0, s1, s2, s3, s4, s5, s6, s7, s8, s9⟩
              go_simp
              with_reducible rfl
             rotate_left
             ·simp only [Act.put, List.setIfInBounds_toArray, List.set_cons_zero, List.set_cons_succ, i64_w, i32_w]
              rfl
             refine pure_ (i := 39) (N := some 52) (v := ?_) (a' := ?_) (bl 40 2) rfl rfl (any_of HT_.out (by kernel_rfl)) (fun _ _ _ h => h) (Or.inl ⟨by rfl, ?_⟩) ?_ ?_
             rotate_left
             ·intro w'
              go_simp
              with_reducible rfl
             rotate_left
             ·simp only [Act.put, List.setIfInBounds_toArray, List.set_cons_zero, List.set_cons_succ, i64_w, i32_w]
              rfl
             refine pure_ (i := 40) (N := some 53) (v := ?_) (a' := ?_) (bl 41 1) rfl rfl (any_of HT_.out (by kernel_rfl)) (fun _ _ _ h => h) (Or.inl ⟨by rfl, ?_⟩) ?_ ?_
             rotate_left
             ·intro w'
              go_simp
              with_reducible rfl
             rotate_left
             ·simp only [Act.put, List.setIfInBounds_toArray, List.set_cons_zero, List.set_cons_succ, i64_w, i32_w]
              rfl
             refine pure_ (i := 41) (N := some 54) (v := ?_) (a' := ?_) (bl 42 0) rfl rfl (any_of HT_.out (by kernel_rfl)) (fun _ _ _ h => h) (Or.inl ⟨by rfl, ?_⟩) ?_ ?_
             rotate_left
             ·intro w'
              go_simp
              with_reducible rfl
             rotate_left
             ·simp only [Act.put, List.setIfInBounds_toArray, List.set_cons_zero, List.set_cons_succ, i64_w, i32_w]
              rfl
             refine done_ (done_of HT_.out (by kernel_rfl)) ?_
             try go_wp2
             go_ret
             exact ⟨by first | rfl | (simp [errW_none, errW_some] <;> rfl) | (simp only [← hji19]; first | rfl | (simp [errW_none, errW_some] <;> rfl)) | (simp [*, errW_none, errW_some] <;> rfl), by repeat (first | (with_reducible first | exact HB.out | apply below_alloc | apply pw_below_drewN | apply below_drew1) | exact HB.out)⟩
           ·rw [if_neg c21] at H
            exact absurd H (by simp)
          ·rw [if_neg c20] at H
           exact absurd H (by simp)
         ·rw [if_neg c18] at H
          have c18b0 : decide (0 < x3_1) = false := decide_eq_false c18
          clear c18
          have H' := Aside0.mk H
          clear H
          try go_wp2
          have n0_ := Aside0.mk (below_drew1 HB.out)
          clear HB
          have HB := n0_
          clear n0_
          have p487 : 0 ≤ (x3_1 : Int) := of_decide_eq_true (by first | (with_reducible assumption) | assumption)
          have q487 : x3_1 < (l0.length : Int) := of_decide_eq_true (by first | (with_reducible assumption) | assumption)
          obtain ⟨ad487, e487, hx487_0, hx487_1⟩ := at_T51 HR0.out x3_1 p487 q487
          have hw487_1 := hx487_1
          have hw487_0 := hx487_0
          cases e487
          replace hx487_0 := (HB.out.cell (World.block_lt_of_cell? w _ hx487_0)).trans hx487_0
          replace hx487_1 := (HB.out.cell (World.block_lt_of_cell? w _ hx487_1)).trans hx487_1
          replace p487 := eq_true p487
          replace q487 := eq_true q487
          have p489 : 0 ≤ (x3_1 : Int) := of_decide_eq_true (by first | (with_reducible assumption) | assumption)
          have q489 : x3_1 < (l0.length : Int) := of_decide_eq_true (by first | (with_reducible assumption) | assumption)
          obtain ⟨ad489, e489, hx489_0, hx489_1⟩ := at_T51 HR0.out x3_1 p489 q489
          have hw489_1 := hx489_1
          have hw489_0 := hx489_0
          obtain rfl : ad487 = ad489 := (by injection e489)
          replace hx489_0 := (HB.out.cell (World.block_lt_of_cell? w _ hx489_0)).trans hx489_0
          replace hx489_1 := (HB.out.cell (World.block_lt_of_cell? w _ hx489_1)).trans hx489_1
          replace p489 := eq_true p489
          replace q489 := eq_true q489
          have p492 : 0 ≤ (x3_1 : Int) := of_decide_eq_true (by first | (with_reducible assumption) | assumption)
          have q492 : x3_1 < (l0.length : Int) := of_decide_eq_true (by first | (with_reducible assumption) | assumption)
          obtain ⟨ad492, e492, hx492_0, hx492_1⟩ := at_T51 HR0.out x3_1 p492 q492
          have hw492_1 := hx492_1
          have hw492_0 := hx492_0
          obtain rfl : ad487 = ad492 := (by injection e492)
          replace hx492_0 := (HB.out.cell (World.block_lt_of_cell? w _ hx492_0)).trans hx492_0
          replace hx492_1 := (HB.out.cell (World.block_lt_of_cell? w _ hx492_1)).trans hx492_1
          replace p492 := eq_true p492
          replace q492 := eq_true q492
          refine start_ (n := 42) (S := fun w' => w'.cell? (ad487.add ((x3_1).toNat * 2)) = some (.string ((rd_T51 l0 x3_1).f0)) ∧ w'.cell? ⟨(ad487.add ((x3_1).toNat * 2)).block, (ad487.add ((x3_1).toNat * 2)).off + 1, none⟩ = some (.string ((rd_T51 l0 x3_1).f1)) ∧ w'.cell? (ad487.add ((x3_1).toNat * 2)) = some (.string ((rd_T51 l0 x3_1).f0)) ∧ w'.cell? ⟨(ad487.add ((x3_1).toNat * 2)).block, (ad487.add ((x3_1).toNat * 2)).off + 1, none⟩ = some (.string ((rd_T51 l0 x3_1).f1)) ∧ w'.cell? (ad487.add ((x3_1).toNat * 2)) = some (.string ((rd_T51 l0 x3_1).f0)) ∧ w'.cell? ⟨(ad487.add ((x3_1).toNat * 2)).block, (ad487.add ((x3_1).toNat * 2)).off + 1, none⟩ = some (.string ((rd_T51 l0 x3_1).f1))) (ds := []) (bl 0 42) (by kernel_rfl) rfl rfl ⟨((HB.out.cell (World.block_lt_of_cell? w _ hw487_0)).trans hw487_0), ((HB.out.cell (World.block_lt_of_cell? w _ hw487_1)).trans hw487_1), ((HB.out.cell (World.block_lt_of_cell? w _ hw489_0)).trans hw489_0), ((HB.out.cell (World.block_lt_of_cell? w _ hw489_1)).trans hw489_1), ((HB.out.cell (World.block_lt_of_cell? w _ hw492_0)).trans hw492_0), ((HB.out.cell (World.block_lt_of_cell? w _ hw492_1)).trans hw492_1)⟩ (fun hHeld => ?_); refine with_tabW bursarref04_Valid.tab6 bursarref04_Valid.bits6 (fun HT_ HW_ => ?_)
          generalize wr.drew = w25 at HB hx487_0 hx487_1 hx489_0 hx489_1 hx492_0 hx492_1 hHeld ⊢
          refine pure_ (i := 0) (N := some 13) (v := ?_) (a' := ?_) (bl 1 41) rfl rfl (any_of HT_.out (by kernel_rfl)) (fun _ _ _ h => h) (Or.inl ⟨by rfl, ?_⟩) ?_ ?_
          rotate_left
          ·intro w'
           go_simp
           with_reducible rfl
          rotate_left
          ·simp only [Act.put, List.setIfInBounds_toArray, List.set_cons_zero, List.set_cons_succ, i64_w, i32_w]
           rfl
          refine pure_ (i := 1) (N := some 14) (v := ?_) (a' := ?_) (bl 2 40) rfl rfl (any_of HT_.out (by kernel_rfl)) (fun _ _ _ h => h) (Or.inl ⟨by rfl, ?_⟩) ?_ ?_
          rotate_left
          ·intro w'
           go_simp
           with_reducible rfl
          rotate_left
          ·simp only [Act.put, List.setIfInBounds_toArray, List.set_cons_zero, List.set_cons_succ, i64_w, i32_w]
           rfl
          refine pure_ (i := 2) (N := some 15) (v := ?_) (a' := ?_) (bl 3 39) rfl rfl (any_of HT_.out (by kernel_rfl)) (fun _ _ _ h => h) (Or.inl ⟨by rfl, ?_⟩) ?_ ?_
          rotate_left
          ·intro w'
           go_simp
           with_reducible rfl
          rotate_left
          ·simp only [Act.put, List.setIfInBounds_toArray, List.set_cons_zero, List.set_cons_succ, i64_w, i32_w]
           rfl
          refine pure_ (i := 3) (N := some 16) (v := ?_) (a' := ?_) (bl 4 38) rfl rfl (any_of HT_.out (by kernel_rfl)) (fun _ _ _ h => h) (Or.inl ⟨by rfl, ?_⟩) ?_ ?_
          rotate_left
          ·intro w'
           go_simp
           with_reducible rfl
          rotate_left
          ·simp only [Act.put, List.setIfInBounds_toArray, List.set_cons_zero, List.set_cons_succ, i64_w, i32_w]
           rfl
          refine take_ (i := 4) (N := some 17) (v := ?_) (a' := ?_) (bl 5 37) rfl rfl (take_ofW HT_.out HW_.out (by kernel_rfl)) (fun _ _ _ h => h) (Or.inl ⟨by rfl, ?_⟩) hHeld ?_ ?_
          rotate_left
          ·rintro w' ⟨s0, s1, s2, s3, s4, s5⟩
           go_simp
           with_reducible rfl
          rotate_left
          ·simp only [Act.put, List.setIfInBounds_toArray, List.set_cons_zero, List.set_cons_succ, i64_w, i32_w]
           rfl
          refine one_ (i := 5) (N := some 18) (bl 6 36) rfl rfl (one_of HT_.out (by kernel_rfl)) (by decide) (fun K hK => ?_)
          refine goes_ Tryd.func19 (by kernel_rfl) rfl #[.string ((rd_T51 l0 x3_1).f0)] (by rfl) rfl rfl (by (try simp only [List.map_toArray, List.map_cons, List.map_nil]); first | done | rfl | (simp only [List.length_drop, List.length_take]; rfl)) ?_
          with_reducible refine (bursarref04_Name.calls k1 ((rd_T51 l0 x3_1).f0) true _ A5.out).mono ?_
          rintro e w' ⟨rfl, ⟨nd, rfl⟩⟩
          refine ⟨_, rfl, ?_⟩
          refine hK.out _ _ ⟨((HB.out.cell (World.block_lt_of_cell? w _ hw487_0)).trans hw487_0), ((HB.out.cell (World.block_lt_of_cell? w _ hw487_1)).trans hw487_1), ((HB.out.cell (World.block_lt_of_cell? w _ hw489_0)).trans hw489_0), ((HB.out.cell (World.block_lt_of_cell? w _ hw489_1)).trans hw489_1), ((HB.out.cell (World.block_lt_of_cell? w _ hw492_0)).trans hw492_0), ((HB.out.cell (World.block_lt_of_cell? w _ hw492_1)).trans hw492_1)⟩ (fun hHeld => ?_)
          clear hK K
          refine norm_ (a' := ?_) ?_ ?_
          rotate_left
          ·show Act.put _ (some 18) _ = _
           simp only [Act.put, List.setIfInBounds_toArray, List.set_cons_zero, List.set_cons_succ, i64_w, i32_w]
           rfl
          refine pure_ (i := 6) (N := some 19) (v := ?_) (a' := ?_) (bl 7 35) rfl rfl (any_of HT_.out (by kernel_rfl)) (fun _ _ _ h => h) (Or.inl ⟨by rfl, ?_⟩) ?_ ?_
          rotate_left
          ·intro w'
           go_simp
           with_reducible rfl
          rotate_left
          ·simp only [Act.put, List.setIfInBounds_toArray, List.set_cons_zero, List.set_cons_succ, i64_w, i32_w]
           rfl
          refine pure_ (i := 7) (N := some 20) (v := ?_) (a' := ?_) (bl 8 34) rfl rfl (any_of HT_.out (by kernel_rfl)) (fun _ _ _ h => h) (Or.inl ⟨by rfl, ?_⟩) ?_ ?_
          rotate_left
          ·intro w'
           go_simp
           with_reducible rfl
          rotate_left
          ·simp only [Act.put, List.setIfInBounds_toArray, List.set_cons_zero, List.set_cons_succ, i64_w, i32_w]
           rfl
          refine pure_ (i := 8) (N := some 21) (v := ?_) (a' := ?_) (bl 9 33) rfl rfl (any_of HT_.out (by kernel_rfl)) (fun _ _ _ h => h) (Or.inl ⟨by rfl, ?_⟩) ?_ ?_
          rotate_left
          ·intro w'
           go_simp
           with_reducible rfl
          rotate_left
          ·simp only [Act.put, List.setIfInBounds_toArray, List.set_cons_zero, List.set_cons_succ, i64_w, i32_w]
           rfl
          refine pure_ (i := 9) (N := some 22) (v := ?_) (a' := ?_) (bl 10 32) rfl rfl (any_of HT_.out (by kernel_rfl)) (fun _ _ _ h => h) (Or.inl ⟨by rfl, ?_⟩) ?_ ?_
          rotate_left
          ·intro w'
           go_simp
           with_reducible rfl
          rotate_left
          ·simp only [Act.put, List.setIfInBounds_toArray, List.set_cons_zero, List.set_cons_succ, i64_w, i32_w]
           rfl
          refine pure_ (i := 10) (N := some 23) (v := ?_) (a' := ?_) (bl 11 31) rfl rfl (any_of HT_.out (by kernel_rfl)) (fun _ _ _ h => h) (Or.inl ⟨by rfl, ?_⟩) ?_ ?_
          rotate_left
          ·intro w'
           go_simp
           with_reducible rfl
          rotate_left
          ·simp only [Act.put, List.setIfInBounds_toArray, List.set_cons_zero, List.set_cons_succ, i64_w, i32_w]
           rfl
          refine pure_ (i := 11) (N := some 24) (v := ?_) (a' := ?_) (bl 12 30) rfl rfl (any_of HT_.out (by kernel_rfl)) (fun _ _ _ h => h) (Or.inl ⟨by rfl, ?_⟩) ?_ ?_
          rotate_left
          ·intro w'
           go_simp
           with_reducible rfl
          rotate_left
          ·simp only [Act.put, List.setIfInBounds_toArray, List.set_cons_zero, List.set_cons_succ, i64_w, i32_w]
           rfl
          refine take_ (i := 12) (N := some 25) (v := ?_) (a' := ?_) (bl 13 29) rfl rfl (take_ofW HT_.out HW_.out (by kernel_rfl)) (fun _ _ _ h => h) (Or.inl ⟨by rfl, ?_⟩) hHeld ?_ ?_
          rotate_left
          ·rintro w' ⟨s0, s1, s2, s3, s4, s5⟩
           go_simp
           with_reducible rfl
          rotate_left
          ·simp only [Act.put, List.setIfInBounds_toArray, List.set_cons_zero, List.set_cons_succ, i64_w, i32_w]
           rfl
          refine pure_ (i := 13) (N := some 26) (v := ?_) (a' := ?_) (bl 14 28) rfl rfl (any_of HT_.out (by kernel_rfl)) (fun _ _ _ h => h) (Or.inl ⟨by rfl, ?_⟩) ?_ ?_
          rotate_left
          ·intro w'
           go_simp
           with_reducible rfl
          rotate_left
          ·simp only [Act.put, List.setIfInBounds_toArray, List.set_cons_zero, List.set_cons_succ, i64_w, i32_w]
           rfl
          refine pure_ (i := 14) (N := some 27) (v := ?_) (a' := ?_) (bl 15 27) rfl rfl (any_of HT_.out (by kernel_rfl)) (fun _ _ _ h => h) (Or.inl ⟨by rfl, ?_⟩) ?_ ?_
          rotate_left
          ·intro w'
           go_simp
           with_reducible rfl
          rotate_left
          ·simp only [Act.put, List.setIfInBounds_toArray, List.set_cons_zero, List.set_cons_succ, i64_w, i32_w]
           rfl
          refine pure_ (i := 15) (N := some 28) (v := ?_) (a' := ?_) (bl 16 26) rfl rfl (any_of HT_.out (by kernel_rfl)) (fun _ _ _ h => h) (Or.inl ⟨by rfl, ?_⟩) ?_ ?_
          rotate_left
          ·intro w'
           go_simp
           with_reducible rfl
          rotate_left
          ·simp only [Act.put, List.setIfInBounds_toArray, List.set_cons_zero, List.set_cons_succ, i64_w, i32_w]
           rfl
          refine pure_ (i := 16) (N := some 29) (v := ?_) (a' := ?_) (bl 17 25) rfl rfl (any_of HT_.out (by kernel_rfl)) (fun _ _ _ h => h) (Or.inl ⟨by rfl, ?_⟩) ?_ ?_
          rotate_left
          ·intro w'
           go_simp
           with_reducible rfl
          rotate_left
          ·simp only [Act.put, List.setIfInBounds_toArray, List.set_cons_zero, List.set_cons_succ, i64_w, i32_w]
           rfl
          refine pure_ (i := 17) (N := some 30) (v := ?_) (a' := ?_) (bl 18 24) rfl rfl (any_of HT_.out (by kernel_rfl)) (fun _ _ _ h => h) (Or.inl ⟨by rfl, ?_⟩) ?_ ?_
          rotate_left
          ·intro w'
           go_simp
           with_reducible rfl
          rotate_left
          ·simp only [Act.put, List.setIfInBounds_toArray, List.set_cons_zero, List.set_cons_succ, i64_w, i32_w]
           rfl
          refine pure_ (i := 18) (N := some 31) (v := ?_) (a' := ?_) (bl 19 23) rfl rfl (any_of HT_.out (by kernel_rfl)) (fun _ _ _ h => h) (Or.inl ⟨by rfl, ?_⟩) ?_ ?_
          rotate_left
          ·intro w'
           go_simp
           with_reducible rfl
          rotate_left
          ·simp only [Act.put, List.setIfInBounds_toArray, List.set_cons_zero, List.set_cons_succ, i64_w, i32_w]
           rfl
          refine take_ (i := 19) (N := some 32) (v := ?_) (a' := ?_) (bl 20 22) rfl rfl (take_ofW HT_.out HW_.out (by kernel_rfl)) (fun _ _ _ h => h) (Or.inl ⟨by rfl, ?_⟩) hHeld ?_ ?_
          rotate_left
          ·rintro w' ⟨s0, s1, s2, s3, s4, s5⟩
           go_simp
           with_reducible rfl
          rotate_left
          ·simp only [Act.put, List.setIfInBounds_toArray, List.set_cons_zero, List.set_cons_succ, i64_w, i32_w]
           rfl
          refine one_ (i := 20) (N := some 33) (bl 21 21) rfl rfl (one_of HT_.out (by kernel_rfl)) (by decide) (fun K hK => ?_)
          refine goes_ Tryd.func19 (by kernel_rfl) rfl #[.string ((rd_T51 l0 x3_1).f1)] (by rfl) rfl rfl (by (try simp only [List.map_toArray, List.map_cons, List.map_nil]); first | done | rfl | (simp only [List.length_drop, List.length_take]; rfl)) ?_
          with_reducible refine (bursarref04_Name.calls k1 ((rd_T51 l0 x3_1).f1) true _ A16.out).mono ?_
          rintro e w' ⟨rfl, ⟨nd, rfl⟩⟩
          refine ⟨_, rfl, ?_⟩
          refine hK.out _ _ ⟨((HB.out.cell (World.block_lt_of_cell? w _ hw487_0)).trans hw487_0), ((HB.out.cell (World.block_lt_of_cell? w _ hw487_1)).trans hw487_1), ((HB.out.cell (World.block_lt_of_cell? w _ hw489_0)).trans hw489_0), ((HB.out.cell (World.block_lt_of_cell? w _ hw489_1)).trans hw489_1), ((HB.out.cell (World.block_lt_of_cell? w _ hw492_0)).trans hw492_0), ((HB.out.cell (World.block_lt_of_cell? w _ hw492_1)).trans hw492_1)⟩ (fun hHeld => ?_)
          clear hK K
          refine norm_ (a' := ?_) ?_ ?_
          rotate_left
          ·show Act.put _ (some 33) _ = _
           simp only [Act.put, List.setIfInBounds_toArray, List.set_cons_zero, List.set_cons_succ, i64_w, i32_w]
           rfl
          refine pure_ (i := 21) (N := some 34) (v := ?_) (a' := ?_) (bl 22 20) rfl rfl (any_of HT_.out (by kernel_rfl)) (fun _ _ _ h => h) (Or.inl ⟨by rfl, ?_⟩) ?_ ?_
          rotate_left
          ·intro w'
           go_simp
           with_reducible rfl
          rotate_left
          ·simp only [Act.put, List.setIfInBounds_toArray, List.set_cons_zero, List.set_cons_succ, i64_w, i32_w]
           rfl
          refine pure_ (i := 22) (N := some 35) (v := ?_) (a' := ?_) (bl 23 19) rfl rfl (any_of HT_.out (by kernel_rfl)) (fun _ _ _ h => h) (Or.inl ⟨by rfl, ?_⟩) ?_ ?_
          rotate_left
          ·intro w'
           go_simp
           with_reducible rfl
          rotate_left
          ·simp only [Act.put, List.setIfInBounds_toArray, List.set_cons_zero, List.set_cons_succ, i64_w, i32_w]
           rfl
          refine pure_ (i := 23) (N := some 36) (v := ?_) (a' := ?_) (bl 24 18) rfl rfl (any_of HT_.out (by kernel_rfl)) (fun _ _ _ h => h) (Or.inl ⟨by rfl, ?_⟩) ?_ ?_
          rotate_left
          ·intro w'
           go_simp
           with_reducible rfl
          rotate_left
          ·simp only [Act.put, List.setIfInBounds_toArray, List.set_cons_zero, List.set_cons_succ, i64_w, i32_w]
           rfl
          refine pure_ (i := 24) (N := some 37) (v := ?_) (a' := ?_) (bl 25 17) rfl rfl (any_of HT_.out (by kernel_rfl)) (fun _ _ _ h => h) (Or.inl ⟨by rfl, ?_⟩) ?_ ?_
          rotate_left
          ·intro w'
           go_simp
           with_reducible rfl
          rotate_left
          ·simp only [Act.put, List.setIfInBounds_toArray, List.set_cons_zero, List.set_cons_succ, i64_w, i32_w]
           rfl
          refine pure_ (i := 25) (N := some 38) (v := ?_) (a' := ?_) (bl 26 16) rfl rfl (any_of HT_.out (by kernel_rfl)) (fun _ _ _ h => h) (Or.inl ⟨by rfl, ?_⟩) ?_ ?_
          rotate_left
          ·intro w'
           go_simp
           with_reducible rfl
          rotate_left
          ·simp only [Act.put, List.setIfInBounds_toArray, List.set_cons_zero, List.set_cons_succ, i64_w, i32_w]
           rfl
          refine pure_ (i := 26) (N := some 39) (v := ?_) (a' := ?_) (bl 27 15) rfl rfl (any_of HT_.out (by kernel_rfl)) (fun _ _ _ h => h) (Or.inl ⟨by rfl, ?_⟩) ?_ ?_
          rotate_left
          ·intro w'
           go_simp
           with_reducible rfl
          rotate_left
          ·simp only [Act.put, List.setIfInBounds_toArray, List.set_cons_zero, List.set_cons_succ, i64_w, i32_w]
           rfl
          refine pure_ (i := 27) (N := some 40) (v := ?_) (a' := ?_) (bl 28 14) rfl rfl (any_of HT_.out (by kernel_rfl)) (fun _ _ _ h => h) (Or.inl ⟨by rfl, ?_⟩) ?_ ?_
          rotate_left
          ·intro w'
           go_simp
           with_reducible rfl
          rotate_left
          ·simp only [Act.put, List.setIfInBounds_toArray, List.set_cons_zero, List.set_cons_succ, i64_w, i32_w]
           rfl
          refine pure_ (i := 28) (N := some 41) (v := undef) (a' := ?_) (bl 29 13) rfl rfl (any_of HT_.out (by kernel_rfl)) (fun _ _ _ h => h) (Or.inr ⟨by rfl, rfl⟩) ?_ ?_
          rotate_left
          ·simp only [Act.put, List.setIfInBounds_toArray, List.set_cons_zero, List.set_cons_succ, i64_w, i32_w]
           rfl
          refine pure_ (i := 29) (N := some 42) (v := undef) (a' := ?_) (bl 30 12) rfl rfl (any_of HT_.out (by kernel_rfl)) (fun _ _ _ h => h) (Or.inr ⟨by rfl, rfl⟩) ?_ ?_
          rotate_left
          ·simp only [Act.put, List.setIfInBounds_toArray, List.set_cons_zero, List.set_cons_succ, i64_w, i32_w]
           rfl
          refine pure_ (i := 30) (N := some 43) (v := undef) (a' := ?_) (bl 31 11) rfl rfl (any_of HT_.out (by kernel_rfl)) (fun _ _ _ h => h) (Or.inr ⟨by rfl, rfl⟩) ?_ ?_
          rotate_left
          ·simp only [Act.put, List.setIfInBounds_toArray, List.set_cons_zero, List.set_cons_succ, i64_w, i32_w]
           rfl
          refine pure_ (i := 31) (N := some 44) (v := undef) (a' := ?_) (bl 32 10) rfl rfl (any_of HT_.out (by kernel_rfl)) (fun _ _ _ h => h) (Or.inr ⟨by rfl, rfl⟩) ?_ ?_
          rotate_left
          ·simp only [Act.put, List.setIfInBounds_toArray, List.set_cons_zero, List.set_cons_succ, i64_w, i32_w]
           rfl
          refine pure_ (i := 32) (N := some 45) (v := undef) (a' := ?_) (bl 33 9) rfl rfl (any_of HT_.out (by kernel_rfl)) (fun _ _ _ h => h) (Or.inr ⟨by rfl, rfl⟩) ?_ ?_
          rotate_left
          ·simp only [Act.put, List.setIfInBounds_toArray, List.set_cons_zero, List.set_cons_succ, i64_w, i32_w]
           rfl
          refine pure_ (i := 33) (N := some 46) (v := undef) (a' := ?_) (bl 34 8) rfl rfl (any_of HT_.out (by kernel_rfl)) (fun _ _ _ h => h) (Or.inr ⟨by rfl, rfl⟩) ?_ ?_
          rotate_left
          ·simp only [Act.put, List.setIfInBounds_toArray, List.set_cons_zero, List.set_cons_succ, i64_w, i32_w]
           rfl
          refine pure_ (i := 34) (N := some 47) (v := undef) (a' := ?_) (bl 35 7) rfl rfl (any_of HT_.out (by kernel_rfl)) (fun _ _ _ h => h) (Or.inr ⟨by rfl, rfl⟩) ?_ ?_
          rotate_left
          ·simp only [Act.put, List.setIfInBounds_toArray, List.set_cons_zero, List.set_cons_succ, i64_w, i32_w]
           rfl
          refine pure_ (i := 35) (N := some 48) (v := undef) (a' := ?_) (bl 36 6) rfl rfl (any_of HT_.out (by kernel_rfl)) (fun _ _ _ h => h) (Or.inr ⟨by rfl, rfl⟩) ?_ ?_
          rotate_left
          ·simp only [Act.put, List.setIfInBounds_toArray, List.set_cons_zero, List.set_cons_succ, i64_w, i32_w]
           rfl
          refine pure_ (i := 36) (N := some 49) (v := undef) (a' := ?_) (bl 37 5) rfl rfl (any_of HT_.out (by kernel_rfl)) (fun _ _ _ h => h) (Or.inr ⟨by rfl, rfl⟩) ?_ ?_
          rotate_left
          ·simp only [Act.put, List.setIfInBounds_toArray, List.set_cons_zero, List.set_cons_succ, i64_w, i32_w]
           rfl
          refine pure_ (i := 37) (N := some 50) (v := undef) (a' := ?_) (bl 38 4) rfl rfl (any_of HT_.out (by kernel_rfl)) (fun _ _ _ h => h) (Or.inr ⟨by rfl, rfl⟩) ?_ ?_
          rotate_left
          ·simp only [Act.put, List.setIfInBounds_toArray, List.set_cons_zero, List.set_cons_succ, i64_w, i32_w]
           rfl
          refine pure_ (i := 38) (N := some 51) (v := undef) (a' := ?_) (bl 39 3) rfl rfl (any_of HT_.out (by kernel_rfl)) (fun _ _ _ h => h) (Or.inr ⟨by rfl, rfl⟩) ?_ ?_
          rotate_left
          ·simp only [Act.put, List.setIfInBounds_toArray, List.set_cons_zero, List.set_cons_succ, i64_w, i32_w]
           rfl
          refine pure_ (i := 39) (N := some 52) (v := undef) (a' := ?_) (bl 40 2) rfl rfl (any_of HT_.out (by kernel_rfl)) (fun _ _ _ h => h) (Or.inr ⟨by rfl, rfl⟩) ?_ ?_
          rotate_left
          ·simp only [Act.put, List.setIfInBounds_toArray, List.set_cons_zero, List.set_cons_succ, i64_w, i32_w]
           rfl
          refine pure_ (i := 40) (N := some 53) (v := ?_) (a' := ?_) (bl 41 1) rfl rfl (any_of HT_.out (by kernel_rfl)) (fun _ _ _ h => h) (Or.inl ⟨by rfl, ?_⟩) ?_ ?_
          rotate_left
          ·intro w'
           go_simp
           with_reducible rfl
          rotate_left
          ·simp only [Act.put, List.setIfInBounds_toArray, List.set_cons_zero, List.set_cons_succ, i64_w, i32_w]
           rfl
          refine pure_ (i := 41) (N := some 54) (v := ?_) (a' := ?_) (bl 42 0) rfl rfl (any_of HT_.out (by kernel_rfl)) (fun _ _ _ h => h) (Or.inl ⟨by rfl, ?_⟩) ?_ ?_
          rotate_left
          ·intro w'
           go_simp
           with_reducible rfl
          rotate_left
          ·simp only [Act.put, List.setIfInBounds_toArray, List.set_cons_zero, List.set_cons_succ, i64_w, i32_w]
           rfl
          refine done_ (done_of HT_.out (by kernel_rfl)) ?_
          try go_wp2
          go_roundg k1
          case measure => have := HK1.out; omega
          case rel => exact ⟨(wrap64 (x3_1 + 1)), (by first | rfl | (simp; done) | (simp [*]; done) | (simp; rw [Bool.eq_iff_iff]; simp; done) | (rw [Bool.eq_iff_iff]; simp; done)), H', ⟨by have := HK1.out; omega⟩, ⟨by repeat (first | (with_reducible first | exact HB.out | apply below_alloc | apply pw_below_drewN | apply below_drew1) | exact HB.out)⟩⟩
        ·replace c17 := Bool.eq_false_iff.mpr c17
         subst c17
         have H1 : (some 42) = some r := by rw [if_neg (show ¬ (false = true) by decide)] at H; exact H
         clear H
         have H := H1
         clear H1
         obtain rfl := Option.some.inj H
         try go_wp2
         have n0_ := Aside0.mk (below_drew1 HB.out)
         clear HB
         have HB := n0_
         clear n0_
         have p487 : 0 ≤ (x3_1 : Int) := of_decide_eq_true (by first | (with_reducible assumption) | assumption)
         have q487 : x3_1 < (l0.length : Int) := of_decide_eq_true (by first | (with_reducible assumption) | assumption)
         obtain ⟨ad487, e487, hx487_0, hx487_1⟩ := at_T51 HR0.out x3_1 p487 q487
         have hw487_1 := hx487_1
         have hw487_0 := hx487_0
         cases e487
         replace hx487_0 := (HB.out.cell (World.block_lt_of_cell? w _ hx487_0)).trans hx487_0
         replace hx487_1 := (HB.out.cell (World.block_lt_of_cell? w _ hx487_1)).trans hx487_1
         replace p487 := eq_true p487
         replace q487 := eq_true q487
         have p489 : 0 ≤ (x3_1 : Int) := of_decide_eq_true (by first | (with_reducible assumption) | assumption)
         have q489 : x3_1 < (l0.length : Int) := of_decide_eq_true (by first | (with_reducible assumption) | assumption)
         obtain ⟨ad489, e489, hx489_0, hx489_1⟩ := at_T51 HR0.out x3_1 p489 q489
         have hw489_1 := hx489_1
         have hw489_0 := hx489_0
         obtain rfl : ad487 = ad489 := (by injection e489)
         replace hx489_0 := (HB.out.cell (World.block_lt_of_cell? w _ hx489_0)).trans hx489_0
         replace hx489_1 := (HB.out.cell (World.block_lt_of_cell? w _ hx489_1)).trans hx489_1
         replace p489 := eq_true p489
         replace q489 := eq_true q489
         have p492 : 0 ≤ (x3_1 : Int) := of_decide_eq_true (by first | (with_reducible assumption) | assumption)
         have q492 : x3_1 < (l0.length : Int) := of_decide_eq_true (by first | (with_reducible assumption) | assumption)
         obtain ⟨ad492, e492, hx492_0, hx492_1⟩ := at_T51 HR0.out x3_1 p492 q492
         have hw492_1 := hx492_1
         have hw492_0 := hx492_0
         obtain rfl : ad487 = ad492 := (by injection e492)
         replace hx492_0 := (HB.out.cell (World.block_lt_of_cell? w _ hx492_0)).trans hx492_0
         replace hx492_1 := (HB.out.cell (World.block_lt_of_cell? w _ hx492_1)).trans hx492_1
         replace p492 := eq_true p492
         replace q492 := eq_true q492
         refine start_ (n := 42) (S := fun w' => w'.cell? (ad487.add ((x3_1).toNat * 2)) = some (.string ((rd_T51 l0 x3_1).f0)) ∧ w'.cell? ⟨(ad487.add ((x3_1).toNat * 2)).block, (ad487.add ((x3_1).toNat * 2)).off + 1, none⟩ = some (.string ((rd_T51 l0 x3_1).f1)) ∧ w'.cell? (ad487.add ((x3_1).toNat * 2)) = some (.string ((rd_T51 l0 x3_1).f0)) ∧ w'.cell? ⟨(ad487.add ((x3_1).toNat * 2)).block, (ad487.add ((x3_1).toNat * 2)).off + 1, none⟩ = some (.string ((rd_T51 l0 x3_1).f1)) ∧ w'.cell? (ad487.add ((x3_1).toNat * 2)) = some (.string ((rd_T51 l0 x3_1).f0)) ∧ w'.cell? ⟨(ad487.add ((x3_1).toNat * 2)).block, (ad487.add ((x3_1).toNat * 2)).off + 1, none⟩ = some (.string ((rd_T51 l0 x3_1).f1))) (ds := []) (bl 0 42) (by kernel_rfl) rfl rfl ⟨((HB.out.cell (World.block_lt_of_cell? w _ hw487_0)).trans hw487_0), ((HB.out.cell (World.block_lt_of_cell? w _ hw487_1)).trans hw487_1), ((HB.out.cell (World.block_lt_of_cell? w _ hw489_0)).trans hw489_0), ((HB.out.cell (World.block_lt_of_cell? w _ hw489_1)).trans hw489_1), ((HB.out.cell (World.block_lt_of_cell? w _ hw492_0)).trans hw492_0), ((HB.out.cell (World.block_lt_of_cell? w _ hw492_1)).trans hw492_1)⟩ (fun hHeld => ?_); refine with_tabW bursarref04_Valid.tab6 bursarref04_Valid.bits6 (fun HT_ HW_ => ?_)
         generalize wr.drew = w26 at HB hx487_0 hx487_1 hx489_0 hx489_1 hx492_0 hx492_1 hHeld ⊢
         refine pure_ (i := 0) (N := some 13) (v := ?_) (a' := ?_) (bl 1 41) rfl rfl (any_of HT_.out (by kernel_rfl)) (fun _ _ _ h => h) (Or.inl ⟨by rfl, ?_⟩) ?_ ?_
         rotate_left
         ·intro w'
          go_simp
          with_reducible rfl
         rotate_left
         ·simp only [Act.put, List.setIfInBounds_toArray, List.set_cons_zero, List.set_cons_succ, i64_w, i32_w]
          rfl
         refine pure_ (i := 1) (N := some 14) (v := ?_) (a' := ?_) (bl 2 40) rfl rfl (any_of HT_.out (by kernel_rfl)) (fun _ _ _ h => h) (Or.inl ⟨by rfl, ?_⟩) ?_ ?_
         rotate_left
         ·intro w'
          go_simp
          with_reducible rfl
         rotate_left
         ·simp only [Act.put, List.setIfInBounds_toArray, List.set_cons_zero, List.set_cons_succ, i64_w, i32_w]
          rfl
         refine pure_ (i := 2) (N := some 15) (v := ?_) (a' := ?_) (bl 3 39) rfl rfl (any_of HT_.out (by kernel_rfl)) (fun _ _ _ h => h) (Or.inl ⟨by rfl, ?_⟩) ?_ ?_
         rotate_left
         ·intro w'
          go_simp
          with_reducible rfl
         rotate_left
         ·simp only [Act.put, List.setIfInBounds_toArray, List.set_cons_zero, List.set_cons_succ, i64_w, i32_w]
          rfl
         refine pure_ (i := 3) (N := some 16) (v := ?_) (a' := ?_) (bl 4 38) rfl rfl (any_of HT_.out (by kernel_rfl)) (fun _ _ _ h => h) (Or.inl ⟨by rfl, ?_⟩) ?_ ?_
         rotate_left
         ·intro w'
          go_simp
          with_reducible rfl
         rotate_left
         ·simp only [Act.put, List.setIfInBounds_toArray, List.set_cons_zero, List.set_cons_succ, i64_w, i32_w]
          rfl
         refine take_ (i := 4) (N := some 17) (v := ?_) (a' := ?_) (bl 5 37) rfl rfl (take_ofW HT_.out HW_.out (by kernel_rfl)) (fun _ _ _ h => h) (Or.inl ⟨by rfl, ?_⟩) hHeld ?_ ?_
         rotate_left
         ·rintro w' ⟨s0, s1, s2, s3, s4, s5⟩
          go_simp
          with_reducible rfl
         rotate_left
         ·simp only [Act.put, List.setIfInBounds_toArray, List.set_cons_zero, List.set_cons_succ, i64_w, i32_w]
          rfl
         refine one_ (i := 5) (N := some 18) (bl 6 36) rfl rfl (one_of HT_.out (by kernel_rfl)) (by decide) (fun K hK => ?_)
         refine goes_ Tryd.func19 (by kernel_rfl) rfl #[.string ((rd_T51 l0 x3_1).f0)] (by rfl) rfl rfl (by (try simp only [List.map_toArray, List.map_cons, List.map_nil]); first | done | rfl | (simp only [List.length_drop, List.length_take]; rfl)) ?_
         with_reducible refine (bursarref04_Name.calls k1 ((rd_T51 l0 x3_1).f0) true _ A5.out).mono ?_
         rintro e w' ⟨rfl, ⟨nd, rfl⟩⟩
         refine ⟨_, rfl, ?_⟩
         refine hK.out _ _ ⟨((HB.out.cell (World.block_lt_of_cell? w _ hw487_0)).trans hw487_0), ((HB.out.cell (World.block_lt_of_cell? w _ hw487_1)).trans hw487_1), ((HB.out.cell (World.block_lt_of_cell? w _ hw489_0)).trans hw489_0), ((HB.out.cell (World.block_lt_of_cell? w _ hw489_1)).trans hw489_1), ((HB.out.cell (World.block_lt_of_cell? w _ hw492_0)).trans hw492_0), ((HB.out.cell (World.block_lt_of_cell? w _ hw492_1)).trans hw492_1)⟩ (fun hHeld => ?_)
         clear hK K
         refine norm_ (a' := ?_) ?_ ?_
         rotate_left
         ·show Act.put _ (some 18) _ = _
          simp only [Act.put, List.setIfInBounds_toArray, List.set_cons_zero, List.set_cons_succ, i64_w, i32_w]
          rfl
         refine pure_ (i := 6) (N := some 19) (v := ?_) (a' := ?_) (bl 7 35) rfl rfl (any_of HT_.out (by kernel_rfl)) (fun _ _ _ h => h) (Or.inl ⟨by rfl, ?_⟩) ?_ ?_
         rotate_left
         ·intro w'
          go_simp
          with_reducible rfl
         rotate_left
         ·simp only [Act.put, List.setIfInBounds_toArray, List.set_cons_zero, List.set_cons_succ, i64_w, i32_w]
          rfl
         refine pure_ (i := 7) (N := some 20) (v := ?_) (a' := ?_) (bl 8 34) rfl rfl (any_of HT_.out (by kernel_rfl)) (fun _ _ _ h => h) (Or.inl ⟨by rfl, ?_⟩) ?_ ?_
         rotate_left
         ·intro w'
          go_simp
          with_reducible rfl
         rotate_left
         ·simp only [Act.put, List.setIfInBounds_toArray, List.set_cons_zero, List.set_cons_succ, i64_w, i32_w]
          rfl
         refine pure_ (i := 8) (N := some 21) (v := ?_) (a' := ?_) (bl 9 33) rfl rfl (any_of HT_.out (by kernel_rfl)) (fun _ _ _ h => h) (Or.inl ⟨by rfl, ?_⟩) ?_ ?_
         rotate_left
         ·intro w'
          go_simp
          with_reducible rfl
         rotate_left
         ·simp only [Act.put, List.setIfInBounds_toArray, List.set_cons_zero, List.set_cons_succ, i64_w, i32_w]
          rfl
         refine pure_ (i := 9) (N := some 22) (v := ?_) (a' := ?_) (bl 10 32) rfl rfl (any_of HT_.out (by kernel_rfl)) (fun _ _ _ h => h) (Or.inl ⟨by rfl, ?_⟩) ?_ ?_
         rotate_left
         ·intro w'
          go_simp
          with_reducible rfl
         rotate_left
         ·simp only [Act.put, List.setIfInBounds_toArray, List.set_cons_zero, List.set_cons_succ, i64_w, i32_w]
          rfl
         refine pure_ (i := 10) (N := some 23) (v := ?_) (a' := ?_) (bl 11 31) rfl rfl (any_of HT_.out (by kernel_rfl)) (fun _ _ _ h => h) (Or.inl ⟨by rfl, ?_⟩) ?_ ?_
         rotate_left
         ·intro w'
          go_simp
          with_reducible rfl
         rotate_left
         ·simp only [Act.put, List.setIfInBounds_toArray, List.set_cons_zero, List.set_cons_succ, i64_w, i32_w]
          rfl
         refine pure_ (i := 11) (N := some 24) (v := ?_) (a' := ?_) (bl 12 30) rfl rfl (any_of HT_.out (by kernel_rfl)) (fun _ _ _ h => h) (Or.inl ⟨by rfl, ?_⟩) ?_ ?_
         rotate_left
         ·intro w'
          go_simp
          with_reducible rfl
         rotate_left
         ·simp only [Act.put, List.setIfInBounds_toArray, List.set_cons_zero, List.set_cons_succ, i64_w, i32_w]
          rfl
         refine take_ (i := 12) (N := some 25) (v := ?_) (a' := ?_) (bl 13 29) rfl rfl (take_ofW HT_.out HW_.out (by kernel_rfl)) (fun _ _ _ h => h) (Or.inl ⟨by rfl, ?_⟩) hHeld ?_ ?_
         rotate_left
         ·rintro w' ⟨s0, s1, s2, s3, s4, s5⟩
          go_simp
          with_reducible rfl
         rotate_left
         ·simp only [Act.put, List.setIfInBounds_toArray, List.set_cons_zero, List.set_cons_succ, i64_w, i32_w]
          rfl
         refine pure_ (i := 13) (N := some 26) (v := ?_) (a' := ?_) (bl 14 28) rfl rfl (any_of HT_.out (by kernel_rfl)) (fun _ _ _ h => h) (Or.inl ⟨by rfl, ?_⟩) ?_ ?_
         rotate_left
         ·intro w'
          go_simp
          with_reducible rfl
         rotate_left
         ·simp only [Act.put, List.setIfInBounds_toArray, List.set_cons_zero, List.set_cons_succ, i64_w, i32_w]
          rfl
         refine pure_ (i := 14) (N := some 27) (v := ?_) (a' := ?_) (bl 15 27) rfl rfl (any_of HT_.out (by kernel_rfl)) (fun _ _ _ h => h) (Or.inl ⟨by rfl, ?_⟩) ?_ ?_
         rotate_left
         ·intro w'
          go_simp
          with_reducible rfl
         rotate_left
         ·simp only [Act.put, List.setIfInBounds_toArray, List.set_cons_zero, List.set_cons_succ, i64_w, i32_w]
          rfl
         refine pure_ (i := 15) (N := some 28) (v := ?_) (a' := ?_) (bl 16 26) rfl rfl (any_of HT_.out (by kernel_rfl)) (fun _ _ _ h => h) (Or.inl ⟨by rfl, ?_⟩) ?_ ?_
         rotate_left
         ·intro w'
          go_simp
          with_reducible rfl
         rotate_left
         ·simp only [Act.put, List.setIfInBounds_toArray, List.set_cons_zero, List.set_cons_succ, i64_w, i32_w]
          rfl
         refine pure_ (i := 16) (N := some 29) (v := ?_) (a' := ?_) (bl 17 25) rfl rfl (any_of HT_.out (by kernel_rfl)) (fun _ _ _ h => h) (Or.inl ⟨by rfl, ?_⟩) ?_ ?_
         rotate_left
         ·intro w'
          go_simp
          with_reducible rfl
         rotate_left
         ·simp only [Act.put, List.setIfInBounds_toArray, List.set_cons_zero, List.set_cons_succ, i64_w, i32_w]
          rfl
         refine pure_ (i := 17) (N := some 30) (v := ?_) (a' := ?_) (bl 18 24) rfl rfl (any_of HT_.out (by kernel_rfl)) (fun _ _ _ h => h) (Or.inl ⟨by rfl, ?_⟩) ?_ ?_
         rotate_left
         ·intro w'
          go_simp
          with_reducible rfl
         rotate_left
         ·simp only [Act.put, List.setIfInBounds_toArray, List.set_cons_zero, List.set_cons_succ, i64_w, i32_w]
          rfl
         refine pure_ (i := 18) (N := some 31) (v := ?_) (a' := ?_) (bl 19 23) rfl rfl (any_of HT_.out (by kernel_rfl)) (fun _ _ _ h => h) (Or.inl ⟨by rfl, ?_⟩) ?_ ?_
         rotate_left
         ·intro w'
          go_simp
          with_reducible rfl
         rotate_left
         ·simp only [Act.put, List.setIfInBounds_toArray, List.set_cons_zero, List.set_cons_succ, i64_w, i32_w]
          rfl
         refine take_ (i := 19) (N := some 32) (v := ?_) (a' := ?_) (bl 20 22) rfl rfl (take_ofW HT_.out HW_.out (by kernel_rfl)) (fun _ _ _ h => h) (Or.inl ⟨by rfl, ?_⟩) hHeld ?_ ?_
         rotate_left
         ·rintro w' ⟨s0, s1, s2, s3, s4, s5⟩
          go_simp
          with_reducible rfl
         rotate_left
         ·simp only [Act.put, List.setIfInBounds_toArray, List.set_cons_zero, List.set_cons_succ, i64_w, i32_w]
          rfl
         refine one_ (i := 20) (N := some 33) (bl 21 21) rfl rfl (one_of HT_.out (by kernel_rfl)) (by decide) (fun K hK => ?_)
         refine goes_ Tryd.func19 (by kernel_rfl) rfl #[.string ((rd_T51 l0 x3_1).f1)] (by rfl) rfl rfl (by (try simp only [List.map_toArray, List.map_cons, List.map_nil]); first | done | rfl | (simp only [List.length_drop, List.length_take]; rfl)) ?_
         with_reducible refine (bursarref04_Name.calls k1 ((rd_T51 l0 x3_1).f1) false _ A16.out).mono ?_
         rintro e w' ⟨rfl, ⟨nd, rfl⟩⟩
         refine ⟨_, rfl, ?_⟩
         refine hK.out _ _ ⟨((HB.out.cell (World.block_lt_of_cell? w _ hw487_0)).trans hw487_0), ((HB.out.cell (World.block_lt_of_cell? w _ hw487_1)).trans hw487_1), ((HB.out.cell (World.block_lt_of_cell? w _ hw489_0)).trans hw489_0), ((HB.out.cell (World.block_lt_of_cell? w _ hw489_1)).trans hw489_1), ((HB.out.cell (World.block_lt_of_cell? w _ hw492_0)).trans hw492_0), ((HB.out.cell (World.block_lt_of_cell? w _ hw492_1)).trans hw492_1)⟩ (fun hHeld => ?_)
         clear hK K
         refine norm_ (a' := ?_) ?_ ?_
         rotate_left
         ·show Act.put _ (some 33) _ = _
          simp only [Act.put, List.setIfInBounds_toArray, List.set_cons_zero, List.set_cons_succ, i64_w, i32_w]
          rfl
         refine pure_ (i := 21) (N := some 34) (v := ?_) (a' := ?_) (bl 22 20) rfl rfl (any_of HT_.out (by kernel_rfl)) (fun _ _ _ h => h) (Or.inl ⟨by rfl, ?_⟩) ?_ ?_
         rotate_left
         ·intro w'
          go_simp
          with_reducible rfl
         rotate_left
         ·simp only [Act.put, List.setIfInBounds_toArray, List.set_cons_zero, List.set_cons_succ, i64_w, i32_w]
          rfl
         refine pure_ (i := 22) (N := some 35) (v := ?_) (a' := ?_) (bl 23 19) rfl rfl (any_of HT_.out (by kernel_rfl)) (fun _ _ _ h => h) (Or.inl ⟨by rfl, ?_⟩) ?_ ?_
         rotate_left
         ·intro w'
          go_simp
          with_reducible rfl
         rotate_left
         ·simp only [Act.put, List.setIfInBounds_toArray, List.set_cons_zero, List.set_cons_succ, i64_w, i32_w]
          rfl
         refine pure_ (i := 23) (N := some 36) (v := ?_) (a' := ?_) (bl 24 18) rfl rfl (any_of HT_.out (by kernel_rfl)) (fun _ _ _ h => h) (Or.inl ⟨by rfl, ?_⟩) ?_ ?_
         rotate_left
         ·intro w'
          go_simp
          with_reducible rfl
         rotate_left
         ·simp only [Act.put, List.setIfInBounds_toArray, List.set_cons_zero, List.set_cons_succ, i64_w, i32_w]
          rfl
         refine pure_ (i := 24) (N := some 37) (v := ?_) (a' := ?_) (bl 25 17) rfl rfl (any_of HT_.out (by kernel_rfl)) (fun _ _ _ h => h) (Or.inl ⟨by rfl, ?_⟩) ?_ ?_
         rotate_left
         ·intro w'
          go_simp
          with_reducible rfl
         rotate_left
         ·simp only [Act.put, List.setIfInBounds_toArray, List.set_cons_zero, List.set_cons_succ, i64_w, i32_w]
          rfl
         refine pure_ (i := 25) (N := some 38) (v := undef) (a' := ?_) (bl 26 16) rfl rfl (any_of HT_.out (by kernel_rfl)) (fun _ _ _ h => h) (Or.inr ⟨by rfl, rfl⟩) ?_ ?_
         rotate_left
         ·simp only [Act.put, List.setIfInBounds_toArray, List.set_cons_zero, List.set_cons_succ, i64_w, i32_w]
          rfl
         refine pure_ (i := 26) (N := some 39) (v := undef) (a' := ?_) (bl 27 15) rfl rfl (any_of HT_.out (by kernel_rfl)) (fun _ _ _ h => h) (Or.inr ⟨by rfl, rfl⟩) ?_ ?_
         rotate_left
         ·simp only [Act.put, List.setIfInBounds_toArray, List.set_cons_zero, List.set_cons_succ, i64_w, i32_w]
          rfl
         refine pure_ (i := 27) (N := some 40) (v := undef) (a' := ?_) (bl 28 14) rfl rfl (any_of HT_.out (by kernel_rfl)) (fun _ _ _ h => h) (Or.inr ⟨by rfl, rfl⟩) ?_ ?_
         rotate_left
         ·simp only [Act.put, List.setIfInBounds_toArray, List.set_cons_zero, List.set_cons_succ, i64_w, i32_w]
          rfl
         refine pure_ (i := 28) (N := some 41) (v := undef) (a' := ?_) (bl 29 13) rfl rfl (any_of HT_.out (by kernel_rfl)) (fun _ _ _ h => h) (Or.inr ⟨by rfl, rfl⟩) ?_ ?_
         rotate_left
         ·simp only [Act.put, List.setIfInBounds_toArray, List.set_cons_zero, List.set_cons_succ, i64_w, i32_w]
          rfl
         refine pure_ (i := 29) (N := some 42) (v := undef) (a' := ?_) (bl 30 12) rfl rfl (any_of HT_.out (by kernel_rfl)) (fun _ _ _ h => h) (Or.inr ⟨by rfl, rfl⟩) ?_ ?_
         rotate_left
         ·simp only [Act.put, List.setIfInBounds_toArray, List.set_cons_zero, List.set_cons_succ, i64_w, i32_w]
          rfl
         refine pure_ (i := 30) (N := some 43) (v := undef) (a' := ?_) (bl 31 11) rfl rfl (any_of HT_.out (by kernel_rfl)) (fun _ _ _ h => h) (Or.inr ⟨by rfl, rfl⟩) ?_ ?_
         rotate_left
         ·simp only [Act.put, List.setIfInBounds_toArray, List.set_cons_zero, List.set_cons_succ, i64_w, i32_w]
          rfl
         refine pure_ (i := 31) (N := some 44) (v := undef) (a' := ?_) (bl 32 10) rfl rfl (any_of HT_.out (by kernel_rfl)) (fun _ _ _ h => h) (Or.inr ⟨by rfl, rfl⟩) ?_ ?_
         rotate_left
         ·simp only [Act.put, List.setIfInBounds_toArray, List.set_cons_zero, List.set_cons_succ, i64_w, i32_w]
          rfl
         refine pure_ (i := 32) (N := some 45) (v := undef) (a' := ?_) (bl 33 9) rfl rfl (any_of HT_.out (by kernel_rfl)) (fun _ _ _ h => h) (Or.inr ⟨by rfl, rfl⟩) ?_ ?_
         rotate_left
         ·simp only [Act.put, List.setIfInBounds_toArray, List.set_cons_zero, List.set_cons_succ, i64_w, i32_w]
          rfl
         refine pure_ (i := 33) (N := some 46) (v := undef) (a' := ?_) (bl 34 8) rfl rfl (any_of HT_.out (by kernel_rfl)) (fun _ _ _ h => h) (Or.inr ⟨by rfl, rfl⟩) ?_ ?_
         rotate_left
         ·simp only [Act.put, List.setIfInBounds_toArray, List.set_cons_zero, List.set_cons_succ, i64_w, i32_w]
          rfl
         refine pure_ (i := 34) (N := some 47) (v := undef) (a' := ?_) (bl 35 7) rfl rfl (any_of HT_.out (by kernel_rfl)) (fun _ _ _ h => h) (Or.inr ⟨by rfl, rfl⟩) ?_ ?_
         rotate_left
         ·simp only [Act.put, List.setIfInBounds_toArray, List.set_cons_zero, List.set_cons_succ, i64_w, i32_w]
          rfl
         refine pure_ (i := 35) (N := some 48) (v := undef) (a' := ?_) (bl 36 6) rfl rfl (any_of HT_.out (by kernel_rfl)) (fun _ _ _ h => h) (Or.inr ⟨by rfl, rfl⟩) ?_ ?_
         rotate_left
         ·simp only [Act.put, List.setIfInBounds_toArray, List.set_cons_zero, List.set_cons_succ, i64_w, i32_w]
          rfl
         refine pure_ (i := 36) (N := some 49) (v := undef) (a' := ?_) (bl 37 5) rfl rfl (any_of HT_.out (by kernel_rfl)) (fun _ _ _ h => h) (Or.inr ⟨by rfl, rfl⟩) ?_ ?_
         rotate_left
         ·simp only [Act.put, List.setIfInBounds_toArray, List.set_cons_zero, List.set_cons_succ, i64_w, i32_w]
          rfl
         refine pure_ (i := 37) (N := some 50) (v := undef) (a' := ?_) (bl 38 4) rfl rfl (any_of HT_.out (by kernel_rfl)) (fun _ _ _ h => h) (Or.inr ⟨by rfl, rfl⟩) ?_ ?_
         rotate_left
         ·simp only [Act.put, List.setIfInBounds_toArray, List.set_cons_zero, List.set_cons_succ, i64_w, i32_w]
          rfl
         refine pure_ (i := 38) (N := some 51) (v := undef) (a' := ?_) (bl 39 3) rfl rfl (any_of HT_.out (by kernel_rfl)) (fun _ _ _ h => h) (Or.inr ⟨by rfl, rfl⟩) ?_ ?_
         rotate_left
         ·simp only [Act.put, List.setIfInBounds_toArray, List.set_cons_zero, List.set_cons_succ, i64_w, i32_w]
          rfl
         refine pure_ (i := 39) (N := some 52) (v := undef) (a' := ?_) (bl 40 2) rfl rfl (any_of HT_.out (by kernel_rfl)) (fun _ _ _ h => h) (Or.inr ⟨by rfl, rfl⟩) ?_ ?_
         rotate_left
         ·simp only [Act.put, List.setIfInBounds_toArray, List.set_cons_zero, List.set_cons_succ, i64_w, i32_w]
          rfl
         refine pure_ (i := 40) (N := some 53) (v := undef) (a' := ?_) (bl 41 1) rfl rfl (any_of HT_.out (by kernel_rfl)) (fun _ _ _ h => h) (Or.inr ⟨by rfl, rfl⟩) ?_ ?_
         rotate_left
         ·simp only [Act.put, List.setIfInBounds_toArray, List.set_cons_zero, List.set_cons_succ, i64_w, i32_w]
          rfl
         refine pure_ (i := 41) (N := some 54) (v := ?_) (a' := ?_) (bl 42 0) rfl rfl (any_of HT_.out (by kernel_rfl)) (fun _ _ _ h => h) (Or.inl ⟨by rfl, ?_⟩) ?_ ?_
         rotate_left
         ·intro w'
          go_simp
          with_reducible rfl
         rotate_left
         ·simp only [Act.put, List.setIfInBounds_toArray, List.set_cons_zero, List.set_cons_succ, i64_w, i32_w]
          rfl
         refine done_ (done_of HT_.out (by kernel_rfl)) ?_
         try go_wp2
         go_ret
         exact ⟨by first | rfl | (simp [errW_none, errW_some] <;> rfl) | (simp [*, errW_none, errW_some] <;> rfl), by repeat (first | (with_reducible first | exact HB.out | apply below_alloc | apply pw_below_drewN | apply below_drew1) | exact HB.out)⟩
      ·replace c6 := Bool.eq_false_iff.mpr c6
       subst c6
       have H1 : (some 42) = some r := by rw [if_neg (show ¬ (false = true) by decide)] at H; exact H
       clear H
       have H := H1
       clear H1
       obtain rfl := Option.some.inj H
       try go_wp2
       have n0_ := Aside0.mk (below_drew1 HB.out)
       clear HB
       have HB := n0_
       clear n0_
       have p487 : 0 ≤ (x3_1 : Int) := of_decide_eq_true (by first | (with_reducible assumption) | assumption)
       have q487 : x3_1 < (l0.length : Int) := of_decide_eq_true (by first | (with_reducible assumption) | assumption)
       obtain ⟨ad487, e487, hx487_0, hx487_1⟩ := at_T51 HR0.out x3_1 p487 q487
       have hw487_1 := hx487_1
       have hw487_0 := hx487_0
       cases e487
       replace hx487_0 := (HB.out.cell (World.block_lt_of_cell? w _ hx487_0)).trans hx487_0
       replace hx487_1 := (HB.out.cell (World.block_lt_of_cell? w _ hx487_1)).trans hx487_1
       replace p487 := eq_true p487
       replace q487 := eq_true q487
       refine start_ (n := 42) (S := fun w' => w'.cell? (ad487.add ((x3_1).toNat * 2)) = some (.string ((rd_T51 l0 x3_1).f0)) ∧ w'.cell? ⟨(ad487.add ((x3_1).toNat * 2)).block, (ad487.add ((x3_1).toNat * 2)).off + 1, none⟩ = some (.string ((rd_T51 l0 x3_1).f1))) (ds := []) (bl 0 42) (by kernel_rfl) rfl rfl ⟨((HB.out.cell (World.block_lt_of_cell? w _ hw487_0)).trans hw487_0), ((HB.out.cell (World.block_lt_of_cell? w _ hw487_1)).trans hw487_1)⟩ (fun hHeld => ?_); refine with_tabW bursarref04_Valid.tab6 bursarref04_Valid.bits6 (fun HT_ HW_ => ?_)
       generalize wr.drew = w27 at HB hx487_0 hx487_1 hHeld ⊢
       refine pure_ (i := 0) (N := some 13) (v := ?_) (a' := ?_) (bl 1 41) rfl rfl (any_of HT_.out (by kernel_rfl)) (fun _ _ _ h => h) (Or.inl ⟨by rfl, ?_⟩) ?_ ?_
       rotate_left
       ·intro w'
        go_simp
        with_reducible rfl
       rotate_left
       ·simp only [Act.put, List.setIfInBounds_toArray, List.set_cons_zero, List.set_cons_succ, i64_w, i32_w]
        rfl
       refine pure_ (i := 1) (N := some 14) (v := ?_) (a' := ?_) (bl 2 40) rfl rfl (any_of HT_.out (by kernel_rfl)) (fun _ _ _ h => h) (Or.inl ⟨by rfl, ?_⟩) ?_ ?_
       rotate_left
       ·intro w'
        go_simp
        with_reducible rfl
       rotate_left
       ·simp only [Act.put, List.setIfInBounds_toArray, List.set_cons_zero, List.set_cons_succ, i64_w, i32_w]
        rfl
       refine pure_ (i := 2) (N := some 15) (v := ?_) (a' := ?_) (bl 3 39) rfl rfl (any_of HT_.out (by kernel_rfl)) (fun _ _ _ h => h) (Or.inl ⟨by rfl, ?_⟩) ?_ ?_
       rotate_left
       ·intro w'
        go_simp
        with_reducible rfl
       rotate_left
       ·simp only [Act.put, List.setIfInBounds_toArray, List.set_cons_zero, List.set_cons_succ, i64_w, i32_w]
        rfl
       refine pure_ (i := 3) (N := some 16) (v := ?_) (a' := ?_) (bl 4 38) rfl rfl (any_of HT_.out (by kernel_rfl)) (fun _ _ _ h => h) (Or.inl ⟨by rfl, ?_⟩) ?_ ?_
       rotate_left
       ·intro w'
        go_simp
        with_reducible rfl
       rotate_left
       ·simp only [Act.put, List.setIfInBounds_toArray, List.set_cons_zero, List.set_cons_succ, i64_w, i32_w]
        rfl
       refine take_ (i := 4) (N := some 17) (v := ?_) (a' := ?_) (bl 5 37) rfl rfl (take_ofW HT_.out HW_.out (by kernel_rfl)) (fun _ _ _ h => h) (Or.inl ⟨by rfl, ?_⟩) hHeld ?_ ?_
       rotate_left
       ·rintro w' ⟨s0, s1⟩
        go_simp
        with_reducible rfl
       rotate_left
       ·simp only [Act.put, List.setIfInBounds_toArray, List.set_cons_zero, List.set_cons_succ, i64_w, i32_w]
        rfl
       refine one_ (i := 5) (N := some 18) (bl 6 36) rfl rfl (one_of HT_.out (by kernel_rfl)) (by decide) (fun K hK => ?_)
       refine goes_ Tryd.func19 (by kernel_rfl) rfl #[.string ((rd_T51 l0 x3_1).f0)] (by rfl) rfl rfl (by (try simp only [List.map_toArray, List.map_cons, List.map_nil]); first | done | rfl | (simp only [List.length_drop, List.length_take]; rfl)) ?_
       with_reducible refine (bursarref04_Name.calls k1 ((rd_T51 l0 x3_1).f0) false _ A5.out).mono ?_
       rintro e w' ⟨rfl, ⟨nd, rfl⟩⟩
       refine ⟨_, rfl, ?_⟩
       refine hK.out _ _ ⟨((HB.out.cell (World.block_lt_of_cell? w _ hw487_0)).trans hw487_0), ((HB.out.cell (World.block_lt_of_cell? w _ hw487_1)).trans hw487_1)⟩ (fun hHeld => ?_)
       clear hK K
       refine norm_ (a' := ?_) ?_ ?_
       rotate_left
       ·show Act.put _ (some 18) _ = _
        simp only [Act.put, List.setIfInBounds_toArray, List.set_cons_zero, List.set_cons_succ, i64_w, i32_w]
        rfl
       refine pure_ (i := 6) (N := some 19) (v := ?_) (a' := ?_) (bl 7 35) rfl rfl (any_of HT_.out (by kernel_rfl)) (fun _ _ _ h => h) (Or.inl ⟨by rfl, ?_⟩) ?_ ?_
       rotate_left
       ·intro w'
        go_simp
        with_reducible rfl
       rotate_left
       ·simp only [Act.put, List.setIfInBounds_toArray, List.set_cons_zero, List.set_cons_succ, i64_w, i32_w]
        rfl
       refine pure_ (i := 7) (N := some 20) (v := ?_) (a' := ?_) (bl 8 34) rfl rfl (any_of HT_.out (by kernel_rfl)) (fun _ _ _ h => h) (Or.inl ⟨by rfl, ?_⟩) ?_ ?_
       rotate_left
       ·intro w'
        go_simp
        with_reducible rfl
       rotate_left
       ·simp only [Act.put, List.setIfInBounds_toArray, List.set_cons_zero, List.set_cons_succ, i64_w, i32_w]
        rfl
       refine pure_ (i := 8) (N := some 21) (v := undef) (a' := ?_) (bl 9 33) rfl rfl (any_of HT_.out (by kernel_rfl)) (fun _ _ _ h => h) (Or.inr ⟨by rfl, rfl⟩) ?_ ?_
       rotate_left
       ·simp only [Act.put, List.setIfInBounds_toArray, List.set_cons_zero, List.set_cons_succ, i64_w, i32_w]
        rfl
       refine pure_ (i := 9) (N := some 22) (v := undef) (a' := ?_) (bl 10 32) rfl rfl (any_of HT_.out (by kernel_rfl)) (fun _ _ _ h => h) (Or.inr ⟨by rfl, rfl⟩) ?_ ?_
       rotate_left
       ·simp only [Act.put, List.setIfInBounds_toArray, List.set_cons_zero, List.set_cons_succ, i64_w, i32_w]
        rfl
       refine pure_ (i := 10) (N := some 23) (v := undef) (a' := ?_) (bl 11 31) rfl rfl (any_of HT_.out (by kernel_rfl)) (fun _ _ _ h => h) (Or.inr ⟨by rfl, rfl⟩) ?_ ?_
       rotate_left
       ·simp only [Act.put, List.setIfInBounds_toArray, List.set_cons_zero, List.set_cons_succ, i64_w, i32_w]
        rfl
       refine pure_ (i := 11) (N := some 24) (v := undef) (a' := ?_) (bl 12 30) rfl rfl (any_of HT_.out (by kernel_rfl)) (fun _ _ _ h => h) (Or.inr ⟨by rfl, rfl⟩) ?_ ?_
       rotate_left
       ·simp only [Act.put, List.setIfInBounds_toArray, List.set_cons_zero, List.set_cons_succ, i64_w, i32_w]
        rfl
       refine pure_ (i := 12) (N := some 25) (v := undef) (a' := ?_) (bl 13 29) rfl rfl (any_of HT_.out (by kernel_rfl)) (fun _ _ _ h => h) (Or.inr ⟨by rfl, rfl⟩) ?_ ?_
       rotate_left
       ·simp only [Act.put, List.setIfInBounds_toArray, List.set_cons_zero, List.set_cons_succ, i64_w, i32_w]
        rfl
       refine pure_ (i := 13) (N := some 26) (v := undef) (a' := ?_) (bl 14 28) rfl rfl (any_of HT_.out (by kernel_rfl)) (fun _ _ _ h => h) (Or.inr ⟨by rfl, rfl⟩) ?_ ?_
       rotate_left
       ·simp only [Act.put, List.setIfInBounds_toArray, List.set_cons_zero, List.set_cons_succ, i64_w, i32_w]
        rfl
       refine pure_ (i := 14) (N := some 27) (v := undef) (a' := ?_) (bl 15 27) rfl rfl (any_of HT_.out (by kernel_rfl)) (fun _ _ _ h => h) (Or.inr ⟨by rfl, rfl⟩) ?_ ?_
       rotate_left
       ·simp only [Act.put, List.setIfInBounds_toArray, List.set_cons_zero, List.set_cons_succ, i64_w, i32_w]
        rfl
       refine pure_ (i := 15) (N := some 28) (v := undef) (a' := ?_) (bl 16 26) rfl rfl (any_of HT_.out (by kernel_rfl)) (fun _ _ _ h => h) (Or.inr ⟨by rfl, rfl⟩) ?_ ?_
       rotate_left
       ·simp only [Act.put, List.setIfInBounds_toArray, List.set_cons_zero, List.set_cons_succ, i64_w, i32_w]
        rfl
       refine pure_ (i := 16) (N := some 29) (v := undef) (a' := ?_) (bl 17 25) rfl rfl (any_of HT_.out (by kernel_rfl)) (fun _ _ _ h => h) (Or.inr ⟨by rfl, rfl⟩) ?_ ?_
       rotate_left
       ·simp only [Act.put, List.setIfInBounds_toArray, List.set_cons_zero, List.set_cons_succ, i64_w, i32_w]
        rfl
       refine pure_ (i := 17) (N := some 30) (v := undef) (a' := ?_) (bl 18 24) rfl rfl (any_of HT_.out (by kernel_rfl)) (fun _ _ _ h => h) (Or.inr ⟨by rfl, rfl⟩) ?_ ?_
       rotate_left
       ·simp only [Act.put, List.setIfInBounds_toArray, List.set_cons_zero, List.set_cons_succ, i64_w, i32_w]
        rfl
       refine pure_ (i := 18) (N := some 31) (v := undef) (a' := ?_) (bl 19 23) rfl rfl (any_of HT_.out (by kernel_rfl)) (fun _ _ _ h => h) (Or.inr ⟨by rfl, rfl⟩) ?_ ?_
       rotate_left
       ·simp only [Act.put, List.setIfInBounds_toArray, List.set_cons_zero, List.set_cons_succ, i64_w, i32_w]
        rfl
       refine pure_ (i := 19) (N := some 32) (v := undef) (a' := ?_) (bl 20 22) rfl rfl (any_of HT_.out (by kernel_rfl)) (fun _ _ _ h => h) (Or.inr ⟨by rfl, rfl⟩) ?_ ?_
       rotate_left
       ·simp only [Act.put, List.setIfInBounds_toArray, List.set_cons_zero, List.set_cons_succ, i64_w, i32_w]
        rfl
       refine pure_ (i := 20) (N := some 33) (v := undef) (a' := ?_) (bl 21 21) rfl rfl (any_of HT_.out (by kernel_rfl)) (fun _ _ _ h => h) (Or.inr ⟨by rfl, rfl⟩) ?_ ?_
       rotate_left
       ·simp only [Act.put, List.setIfInBounds_toArray, List.set_cons_zero, List.set_cons_succ, i64_w, i32_w]
        rfl
       refine pure_ (i := 21) (N := some 34) (v := undef) (a' := ?_) (bl 22 20) rfl rfl (any_of HT_.out (by kernel_rfl)) (fun _ _ _ h => h) (Or.inr ⟨by rfl, rfl⟩) ?_ ?_
       rotate_left
       ·simp only [Act.put, List.setIfInBounds_toArray, List.set_cons_zero, List.set_cons_succ, i64_w, i32_w]
        rfl
       refine pure_ (i := 22) (N := some 35) (v := undef) (a' := ?_) (bl 23 19) rfl rfl (any_of HT_.out (by kernel_rfl)) (fun _ _ _ h => h) (Or.inr ⟨by rfl, rfl⟩) ?_ ?_
       rotate_left
       ·simp only [Act.put, List.setIfInBounds_toArray, List.set_cons_zero, List.set_cons_succ, i64_w, i32_w]
        rfl
       refine pure_ (i := 23) (N := some 36) (v := ?_) (a' := ?_) (bl 24 18) rfl rfl (any_of HT_.out (by kernel_rfl)) (fun _ _ _ h => h) (Or.inl ⟨by rfl, ?_⟩) ?_ ?_
       rotate_left
       ·intro w'
        go_simp
        with_reducible rfl
       rotate_left
       ·simp only [Act.put, List.setIfInBounds_toArray, List.set_cons_zero, List.set_cons_succ, i64_w, i32_w]
        rfl
       refine pure_ (i := 24) (N := some 37) (v := ?_) (a' := ?_) (bl 25 17) rfl rfl (any_of HT_.out (by kernel_rfl)) (fun _ _ _ h => h) (Or.inl ⟨by rfl, ?_⟩) ?_ ?_
       rotate_left
       ·intro w'
        go_simp
        with_reducible rfl
       rotate_left
       ·simp only [Act.put, List.setIfInBounds_toArray, List.set_cons_zero, List.set_cons_succ, i64_w, i32_w]
        rfl
       refine pure_ (i := 25) (N := some 38) (v := undef) (a' := ?_) (bl 26 16) rfl rfl (any_of HT_.out (by kernel_rfl)) (fun _ _ _ h => h) (Or.inr ⟨by rfl, rfl⟩) ?_ ?_
       rotate_left
       ·simp only [Act.put, List.setIfInBounds_toArray, List.set_cons_zero, List.set_cons_succ, i64_w, i32_w]
        rfl
       refine pure_ (i := 26) (N := some 39) (v := undef) (a' := ?_) (bl 27 15) rfl rfl (any_of HT_.out (by kernel_rfl)) (fun _ _ _ h => h) (Or.inr ⟨by rfl, rfl⟩) ?_ ?_
       rotate_left
       ·simp only [Act.put, List.setIfInBounds_toArray, List.set_cons_zero, List.set_cons_succ, i64_w, i32_w]
        rfl
       refine pure_ (i := 27) (N := some 40) (v := undef) (a' := ?_) (bl 28 14) rfl rfl (any_of HT_.out (by kernel_rfl)) (fun _ _ _ h => h) (Or.inr ⟨by rfl, rfl⟩) ?_ ?_
       rotate_left
       ·simp only [Act.put, List.setIfInBounds_toArray, List.set_cons_zero, List.set_cons_succ, i64_w, i32_w]
        rfl
       refine pure_ (i := 28) (N := some 41) (v := undef) (a' := ?_) (bl 29 13) rfl rfl (any_of HT_.out (by kernel_rfl)) (fun _ _ _ h => h) (Or.inr ⟨by rfl, rfl⟩) ?_ ?_
       rotate_left
       ·simp only [Act.put, List.setIfInBounds_toArray, List.set_cons_zero, List.set_cons_succ, i64_w, i32_w]
        rfl
       refine pure_ (i := 29) (N := some 42) (v := undef) (a' := ?_) (bl 30 12) rfl rfl (any_of HT_.out (by kernel_rfl)) (fun _ _ _ h => h) (Or.inr ⟨by rfl, rfl⟩) ?_ ?_
       rotate_left
       ·simp only [Act.put, List.setIfInBounds_toArray, List.set_cons_zero, List.set_cons_succ, i64_w, i32_w]
        rfl
       refine pure_ (i := 30) (N := some 43) (v := undef) (a' := ?_) (bl 31 11) rfl rfl (any_of HT_.out (by kernel_rfl)) (fun _ _ _ h => h) (Or.inr ⟨by rfl, rfl⟩) ?_ ?_
       rotate_left
       ·simp only [Act.put, List.setIfInBounds_toArray, List.set_cons_zero, List.set_cons_succ, i64_w, i32_w]
        rfl
       refine pure_ (i := 31) (N := some 44) (v := undef) (a' := ?_) (bl 32 10) rfl rfl (any_of HT_.out (by kernel_rfl)) (fun _ _ _ h => h) (Or.inr ⟨by rfl, rfl⟩) ?_ ?_
       rotate_left
       ·simp only [Act.put, List.setIfInBounds_toArray, List.set_cons_zero, List.set_cons_succ, i64_w, i32_w]
        rfl
       refine pure_ (i := 32) (N := some 45) (v := undef) (a' := ?_) (bl 33 9) rfl rfl (any_of HT_.out (by kernel_rfl)) (fun _ _ _ h => h) (Or.inr ⟨by rfl, rfl⟩) ?_ ?_
       rotate_left
       ·simp only [Act.put, List.setIfInBounds_toArray, List.set_cons_zero, List.set_cons_succ, i64_w, i32_w]
        rfl
       refine pure_ (i := 33) (N := some 46) (v := undef) (a' := ?_) (bl 34 8) rfl rfl (any_of HT_.out (by kernel_rfl)) (fun _ _ _ h => h) (Or.inr ⟨by rfl, rfl⟩) ?_ ?_
       rotate_left
       ·simp only [Act.put, List.setIfInBounds_toArray, List.set_cons_zero, List.set_cons_succ, i64_w, i32_w]
        rfl
       refine pure_ (i := 34) (N := some 47) (v := undef) (a' := ?_) (bl 35 7) rfl rfl (any_of HT_.out (by kernel_rfl)) (fun _ _ _ h => h) (Or.inr ⟨by rfl, rfl⟩) ?_ ?_
       rotate_left
       ·simp only [Act.put, List.setIfInBounds_toArray, List.set_cons_zero, List.set_cons_succ, i64_w, i32_w]
        rfl
       refine pure_ (i := 35) (N := some 48) (v := undef) (a' := ?_) (bl 36 6) rfl rfl (any_of HT_.out (by kernel_rfl)) (fun _ _ _ h => h) (Or.inr ⟨by rfl, rfl⟩) ?_ ?_
       rotate_left
       ·simp only [Act.put, List.setIfInBounds_toArray, List.set_cons_zero, List.set_cons_succ, i64_w, i32_w]
        rfl
       refine pure_ (i := 36) (N := some 49) (v := undef) (a' := ?_) (bl 37 5) rfl rfl (any_of HT_.out (by kernel_rfl)) (fun _ _ _ h => h) (Or.inr ⟨by rfl, rfl⟩) ?_ ?_
       rotate_left
       ·simp only [Act.put, List.setIfInBounds_toArray, List.set_cons_zero, List.set_cons_succ, i64_w, i32_w]
        rfl
       refine pure_ (i := 37) (N := some 50) (v := undef) (a' := ?_) (bl 38 4) rfl rfl (any_of HT_.out (by kernel_rfl)) (fun _ _ _ h => h) (Or.inr ⟨by rfl, rfl⟩) ?_ ?_
       rotate_left
       ·simp only [Act.put, List.setIfInBounds_toArray, List.set_cons_zero, List.set_cons_succ, i64_w, i32_w]
        rfl
       refine pure_ (i := 38) (N := some 51) (v := undef) (a' := ?_) (bl 39 3) rfl rfl (any_of HT_.out (by kernel_rfl)) (fun _ _ _ h => h) (Or.inr ⟨by rfl, rfl⟩) ?_ ?_
       rotate_left
       ·simp only [Act.put, List.setIfInBounds_toArray, List.set_cons_zero, List.set_cons_succ, i64_w, i32_w]
        rfl
       refine pure_ (i := 39) (N := some 52) (v := undef) (a' := ?_) (bl 40 2) rfl rfl (any_of HT_.out (by kernel_rfl)) (fun _ _ _ h => h) (Or.inr ⟨by rfl, rfl⟩) ?_ ?_
       rotate_left
       ·simp only [Act.put, List.setIfInBounds_toArray, List.set_cons_zero, List.set_cons_succ, i64_w, i32_w]
        rfl
       refine pure_ (i := 40) (N := some 53) (v := undef) (a' := ?_) (bl 41 1) rfl rfl (any_of HT_.out (by kernel_rfl)) (fun _ _ _ h => h) (Or.inr ⟨by rfl, rfl⟩) ?_ ?_
       rotate_left
       ·simp only [Act.put, List.setIfInBounds_toArray, List.set_cons_zero, List.set_cons_succ, i64_w, i32_w]
        rfl
       refine pure_ (i := 41) (N := some 54) (v := ?_) (a' := ?_) (bl 42 0) rfl rfl (any_of HT_.out (by kernel_rfl)) (fun _ _ _ h => h) (Or.inl ⟨by rfl, ?_⟩) ?_ ?_
       rotate_left
       ·intro w'
        go_simp
        with_reducible rfl
       rotate_left
       ·simp only [Act.put, List.setIfInBounds_toArray, List.set_cons_zero, List.set_cons_succ, i64_w, i32_w]
        rfl
       refine done_ (done_of HT_.out (by kernel_rfl)) ?_
       try go_wp2
       go_ret
       exact ⟨by first | rfl | (simp [errW_none, errW_some] <;> rfl) | (simp [*, errW_none, errW_some] <;> rfl), by repeat (first | (with_reducible first | exact HB.out | apply below_alloc | apply pw_below_drewN | apply below_drew1) | exact HB.out)⟩
     ·rw [if_neg c4] at H
      exact absurd H (by simp)
    ·rw [if_neg c3] at H
     have c3b0 : decide (x3_1 < (l0.length : Int)) = false := decide_eq_false c3
     clear c3
     obtain rfl := Option.some.inj H
     go_wp2
     go_ret
     exact ⟨by first | rfl | (simp [errW_none, errW_some] <;> rfl) | (simp [*, errW_none, errW_some] <;> rfl), by repeat (first | (with_reducible first | exact HB.out | apply below_alloc | apply pw_below_drewN | apply below_drew1) | exact HB.out)⟩
end Go.Proofs.YteaiobgnhlpblaaDoor.Q
namespace Go.Proofs.YteaiobgnhlpblaaDoor.Q
open Go.RowKit Go.Proofs.YteaiobgnhlpblaaDoorW.PrintWords Go.Proofs.YteaiobgnhlpblaaDoorW.PrintLast Go.Proofs.YteaiobgnhlpblaaDoorW.PrintMore
attribute [local go_sem] max2_int min2_int max_two min_two max_three min_three max_four min_four   -- for this text's walks alone
set_option linter.unusedVariables false
set_option linter.unusedSimpArgs false
mutual
def bursarref04_holds.l0 : Nat → List (S51) → Int → ByteArray → Int → List ByteArray → Option (Bool)
  | 0, _, _, _, _, _ => none
  | k + 1, x1, x5, x497000, x497001, x497002 => if x5 < (x1.length : Int) then (if 0 ≤ x5 then (if ((rd_T51 x1 x5).f0).toList = x497000.toList then (bursarref04_holds.l1 k x1 x5 false 0 x497000 x497001 x497002) else (bursarref04_holds.l0 k x1 (wrap64 (x5 + 1)) x497000 x497001 x497002)) else (none)) else (if x497001 = 1 then (some true) else (some (x497001 == 3)))
def bursarref04_holds.l1 : Nat → List (S51) → Int → Bool → Int → ByteArray → Int → List ByteArray → Option (Bool)
  | 0, _, _, _, _, _, _, _ => none
  | k + 1, x1, x5, x6, x7, x497000, x497001, x497002 => if x7 < (x497002.length : Int) then (if x6 = true then (bursarref04_holds.l1 k x1 x5 true (wrap64 (x7 + 1)) x497000 x497001 x497002) else (if 0 ≤ x7 then (if 0 ≤ x5 then (if x5 < (x1.length : Int) then (bursarref04_holds.l1 k x1 x5 ((rdOf ByteArray.empty x497002 x7).toList == ((rd_T51 x1 x5).f1).toList) (wrap64 (x7 + 1)) x497000 x497001 x497002) else (none)) else (none)) else (none))) else (if x497001 = 0 then (some x6) else (if x497001 = 1 then (some (!x6)) else (some (x497001 == 2))))
end
def bursarref04_holds.f (k : Nat) (a0_0 : ByteArray) (a0_1 : Int) (l0_2 : List ByteArray) (l1 : List (S51)) : Option (Bool) := bursarref04_holds.l0 k l1 0 a0_0 a0_1 l0_2
theorem bursarref04_holds.mono_l : ∀ k, (∀ y0 y1 y2 y3 y4, LeO (bursarref04_holds.l0 k y0 y1 y2 y3 y4) (bursarref04_holds.l0 (k + 1) y0 y1 y2 y3 y4)) ∧ (∀ y0 y1 y2 y3 y4 y5 y6, LeO (bursarref04_holds.l1 k y0 y1 y2 y3 y4 y5 y6) (bursarref04_holds.l1 (k + 1) y0 y1 y2 y3 y4 y5 y6))
  | 0 => ⟨fun _ _ _ _ _ r h => by simp [bursarref04_holds.l0] at h, fun _ _ _ _ _ _ _ r h => by simp [bursarref04_holds.l1] at h⟩
  | k + 1 => by
    obtain ⟨ih0, ih1⟩ := bursarref04_holds.mono_l k
    refine ⟨?_, ?_⟩
    · intro y0 y1 y2 y3 y4
      unfold bursarref04_holds.l0
      repeat' first
      | (with_reducible exact ih0 _ _ _ _ _)
      | (with_reducible exact ih1 _ _ _ _ _ _ _)
      | (with_reducible exact LeO.refl _)
      | (with_reducible exact LeO.none _)
      | (with_reducible refine LeO.ite ?_ ?_)
      | (with_reducible refine LeO.bind ?_ (fun _ => ?_))
      | exact ih0 _ _ _ _ _
      | exact ih1 _ _ _ _ _ _ _
      | exact LeO.none _
      | refine LeO.ite ?_ ?_
      | refine LeO.bind ?_ (fun _ => ?_)
    · intro y0 y1 y2 y3 y4 y5 y6
      unfold bursarref04_holds.l1
      repeat' first
      | (with_reducible exact ih0 _ _ _ _ _)
      | (with_reducible exact ih1 _ _ _ _ _ _ _)
      | (with_reducible exact LeO.refl _)
      | (with_reducible exact LeO.none _)
      | (with_reducible refine LeO.ite ?_ ?_)
      | (with_reducible refine LeO.bind ?_ (fun _ => ?_))
      | exact ih0 _ _ _ _ _
      | exact ih1 _ _ _ _ _ _ _
      | exact LeO.none _
      | refine LeO.ite ?_ ?_
      | refine LeO.bind ?_ (fun _ => ?_)
theorem bursarref04_holds.mono : ∀ a0 a1 a2 a3 k, LeO (bursarref04_holds.f k a0 a1 a2 a3) (bursarref04_holds.f (k + 1) a0 a1 a2 a3) := by
  intro a0 a1 a2 a3 k
  obtain ⟨ih0, ih1⟩ := bursarref04_holds.mono_l k
  unfold bursarref04_holds.f
  repeat' first
      | (with_reducible exact ih0 _ _ _ _ _)
      | (with_reducible exact ih1 _ _ _ _ _ _ _)
      | (with_reducible exact LeO.refl _)
      | (with_reducible exact LeO.none _)
      | (with_reducible refine LeO.ite ?_ ?_)
      | (with_reducible refine LeO.bind ?_ (fun _ => ?_))
      | exact ih0 _ _ _ _ _
      | exact ih1 _ _ _ _ _ _ _
      | exact LeO.none _
      | refine LeO.ite ?_ ?_
      | refine LeO.bind ?_ (fun _ => ?_)
set_option maxHeartbeats 8000000 in
set_option maxRecDepth 100000 in
theorem bursarref04_holds.calls (k : Nat) (a0_0 : ByteArray) (a0_1 : Int) (A0_2 : Option Addr) (c0_2 : Nat) (l0_2 : List ByteArray) (A1 : Option Addr) (c1 : Nat) (l1 : List (S51)) (r : Bool) (w : World) (hr0_2 : Kd.C Kd.string w A0_2 l0_2.length l0_2) (hc0_2 : l0_2.length ≤ c0_2) (hr1 : Kd.C k51 w A1 l1.length l1) (hc1 : l1.length ≤ c1) (h : bursarref04_holds.f k a0_0 a0_1 l0_2 l1 = some r) :
    Calls Tryd.prog 56 #[.agg #[.string a0_0, .int .i64 a0_1, .slice A0_2 l0_2.length c0_2], .slice A1 l1.length c1] w fun e w' => e = .returned (.bool r) ∧ Below w.heap.size w w' := by
  have hu45 := Tryd.underlying45
  have HR0_2 := Aside0.mk hr0_2
  have HC0_2 := Aside0.mk hc0_2
  clear hr0_2 hc0_2
  have HR1 := Aside0.mk hr1
  have HC1 := Aside0.mk hc1
  clear hr1 hc1
  have HB := Aside0.mk (Below.refl w.heap.size w)
  have H : (bursarref04_holds.l0 k l1 0 a0_0 a0_1 l0_2) = some r := h
  clear h
  have H' := Aside0.mk H
  clear H
  go_enter Tryd.func56, Tryd.ntmps56
  go_wp2_with (first | ((with_reducible refine gate_dst (N := 2) rfl ?_); refine box_event ?hg (N := 2) ?hd (cs := #[.string a0_0, .int .i64 a0_1, .slice A0_2 l0_2.length c0_2]) (t := 45) ?hr ?_; (case hd => rfl); (case hg => rfl); (case hr => first | (go_simp; done) | (go_simp; rfl)); intro gb496 hg w3 hbox hb; have n0_ := Aside0.mk (below_step (by repeat (first | (with_reducible first | exact HB.out | apply below_alloc | apply pw_below_drewN | apply below_drew1) | exact HB.out)) hb); have n1_ := Aside0.mk (hbox); have n2_ := Aside0.mk ((by rw [hg]; exact (below_size (by repeat (first | (with_reducible first | exact HB.out | apply below_alloc | apply pw_below_drewN | apply below_drew1) | exact HB.out))) : w.heap.size ≤ gb496)); have n3_ := Aside0.mk ((by rw [hg]; exact (below_size (by repeat (first | (with_reducible first | exact HB.out | apply below_alloc | apply pw_below_drewN | apply below_drew1) | exact HB.out))) : w.heap.size ≤ gb496)); clear HB; have HB := n0_; have BK496 := n1_; have GW496 := n2_; have GE496 := n3_; clear n0_ n1_ n2_ n3_; clear hb hbox hg))
  repeat (go_quiet (first | ((with_reducible refine gate_dst (N := 2) rfl ?_); refine box_event ?hg (N := 2) ?hd (cs := #[.string a0_0, .int .i64 a0_1, .slice A0_2 l0_2.length c0_2]) (t := 45) ?hr ?_; (case hd => rfl); (case hg => rfl); (case hr => first | (go_simp; done) | (go_simp; rfl)); intro gb496 hg w3 hbox hb; have n0_ := Aside0.mk (below_step (by repeat (first | (with_reducible first | exact HB.out | apply below_alloc | apply pw_below_drewN | apply below_drew1) | exact HB.out)) hb); have n1_ := Aside0.mk (hbox); have n2_ := Aside0.mk ((by rw [hg]; exact (below_size (by repeat (first | (with_reducible first | exact HB.out | apply below_alloc | apply pw_below_drewN | apply below_drew1) | exact HB.out))) : w.heap.size ≤ gb496)); have n3_ := Aside0.mk ((by rw [hg]; exact (below_size (by repeat (first | (with_reducible first | exact HB.out | apply below_alloc | apply pw_below_drewN | apply below_drew1) | exact HB.out))) : w.heap.size ≤ gb496)); clear HB; have HB := n0_; have BK496 := n1_; have GW496 := n2_; have GE496 := n3_; clear n0_ n1_ n2_ n3_; clear hb hbox hg)); try go_wp2_with (first | ((with_reducible refine gate_dst (N := 2) rfl ?_); refine box_event ?hg (N := 2) ?hd (cs := #[.string a0_0, .int .i64 a0_1, .slice A0_2 l0_2.length c0_2]) (t := 45) ?hr ?_; (case hd => rfl); (case hg => rfl); (case hr => first | (go_simp; done) | (go_simp; rfl)); intro gb496 hg w3 hbox hb; have n0_ := Aside0.mk (below_step (by repeat (first | (with_reducible first | exact HB.out | apply below_alloc | apply pw_below_drewN | apply below_drew1) | exact HB.out)) hb); have n1_ := Aside0.mk (hbox); have n2_ := Aside0.mk ((by rw [hg]; exact (below_size (by repeat (first | (with_reducible first | exact HB.out | apply below_alloc | apply pw_below_drewN | apply below_drew1) | exact HB.out))) : w.heap.size ≤ gb496)); have n3_ := Aside0.mk ((by rw [hg]; exact (below_size (by repeat (first | (with_reducible first | exact HB.out | apply below_alloc | apply pw_below_drewN | apply below_drew1) | exact HB.out))) : w.heap.size ≤ gb496)); clear HB; have HB := n0_; have BK496 := n1_; have GW496 := n2_; have GE496 := n3_; clear n0_ n1_ n2_ n3_; clear hb hbox hg)))
  go_loopg [5] k (fun kq v5 w' => ∃ (x5_1 : Int), v5 = .int .i64 x5_1 ∧ Aside0 (bursarref04_holds.l0 kq l1 x5_1 a0_0 a0_1 l0_2 = some r) ∧ Aside0 (kq ≤ k) ∧ Aside0 (w'.heap[gb496]? = some (.cells #[.string a0_0, .int .i64 a0_1, (.slice A0_2 l0_2.length c0_2)] 45 (0, 0))) ∧ Aside0 (Below w.heap.size w w'))
  case atStart => exact ⟨(0), (by first | rfl | (simp; done) | (simp [*]; done) | (simp; rw [Bool.eq_iff_iff]; simp; done) | (rw [Bool.eq_iff_iff]; simp; done)), H', ⟨Nat.le_refl _⟩, ⟨by (with_reducible repeat (first | refine blk_drewN ?_ _ | refine blk_drew ?_ | refine blk_alloc ?_ _)); exact BK496.out⟩, ⟨by repeat (first | (with_reducible first | exact HB.out | apply below_alloc | apply pw_below_drewN | apply below_drew1 | refine below_set ?_ GE496.out) | exact HB.out)⟩⟩
  case round =>
    clear H'
    try clear c1
    try clear p2
    obtain ⟨x5_1, rfl, HA, HK1, BK496, HB⟩ := hrel
    cases gk with
    | zero => exact absurd HA.out (by simp [bursarref04_holds.l0])
    | succ k1 =>
      have H := HA.out
      clear HA
      simp only [bursarref04_holds.l0] at H
      by_cases c4 : x5_1 < (l1.length : Int)
      · rw [if_pos c4] at H
        have c4b0 : decide (x5_1 < (l1.length : Int)) = true := decide_eq_true c4
        clear c4
        by_cases c5 : 0 ≤ x5_1
        · rw [if_pos c5] at H
          have c5b0 : decide (0 ≤ x5_1) = true := decide_eq_true c5
          clear c5
          by_cases c6 : ((rd_T51 l1 x5_1).f0).toList = a0_0.toList
          · rw [if_pos c6] at H
            have c6b0 : (((rd_T51 l1 x5_1).f0).toList == a0_0.toList) = true := beq_iff_eq.mpr c6
            have c6b1 : (((rd_T51 l1 x5_1).f0).toList != a0_0.toList) = false := bne_eq_false_iff_eq.mpr c6
            clear c6
            have H' := Aside0.mk H
            clear H
            have p497 : 0 ≤ (x5_1 : Int) := of_decide_eq_true (by first | (with_reducible assumption) | assumption)
            have q497 : x5_1 < (l1.length : Int) := of_decide_eq_true (by first | (with_reducible assumption) | assumption)
            obtain ⟨ad497, e497, hx497_0, hx497_1⟩ := at_T51 HR1.out x5_1 p497 q497
            cases e497
            replace hx497_0 := (HB.out.cell (World.block_lt_of_cell? w _ hx497_0)).trans hx497_0
            replace hx497_1 := (HB.out.cell (World.block_lt_of_cell? w _ hx497_1)).trans hx497_1
            replace p497 := eq_true p497
            replace q497 := eq_true q497
            have hcz7_0 : wr.cell? ⟨gb496, 0, none⟩ = some (.string a0_0) := (blk_cell BK496.out 0).trans rfl
            have hcz7_1 : wr.cell? ⟨gb496, 1, none⟩ = some (.int .i64 a0_1) := (blk_cell BK496.out 1).trans rfl
            have hcz7_2 : wr.cell? ⟨gb496, 2, none⟩ = some (.slice A0_2 l0_2.length c0_2) := (blk_cell BK496.out 2).trans rfl
            have hfz7_0 := blk_frozen BK496.out 0
            have hfz7_1 := blk_frozen BK496.out 1
            have hfz7_2 := blk_frozen BK496.out 2
            go_wp2
            repeat (go_quiet (fail); try go_wp2)
            go_loopg [6, 7] k1 (fun kq v6 v7 w' => ∃ (x6_2 : Bool) (x7_2 : Int), v6 = .bool x6_2 ∧ v7 = .int .i64 x7_2 ∧ Aside0 (bursarref04_holds.l1 kq l1 x5_1 x6_2 x7_2 a0_0 a0_1 l0_2 = some r) ∧ Aside0 (kq ≤ k1) ∧ Aside0 (w'.heap[gb496]? = some (.cells #[.string a0_0, .int .i64 a0_1, (.slice A0_2 l0_2.length c0_2)] 45 (0, 0))) ∧ Aside0 (Below w.heap.size w w'))
            case atStart => exact ⟨(false), (0), (by first | rfl | (simp; done) | (simp [*]; done) | (simp; rw [Bool.eq_iff_iff]; simp; done) | (rw [Bool.eq_iff_iff]; simp; done)), (by first | rfl | (simp; done) | (simp [*]; done) | (simp; rw [Bool.eq_iff_iff]; simp; done) | (rw [Bool.eq_iff_iff]; simp; done)), H', ⟨Nat.le_refl _⟩, ⟨by (with_reducible repeat (first | refine blk_drewN ?_ _ | refine blk_drew ?_ | refine blk_alloc ?_ _)); exact BK496.out⟩, ⟨by repeat (first | (with_reducible first | exact HB.out | apply below_alloc | apply pw_below_drewN | apply below_drew1 | refine below_set ?_ GE496.out) | exact HB.out)⟩⟩
            case round =>
              clear H'
              try clear c1
              try clear p2
              try clear c4
              try clear c4b0
              try clear p4
              try clear q4
              try clear hx4
              try clear c5
              try clear c5b0
              try clear c6
              try clear c6b0
              try clear c6b1
              try clear hcz7_0
              try clear hcz7_1
              try clear hcz7_2
              try clear hfz7_0
              try clear hfz7_1
              try clear hfz7_2
              try clear hx497_0
              try clear hx497_1
              try clear p2
              try clear p497
              try clear q497
              obtain ⟨x6_2, x7_2, rfl, rfl, HA, HK2, BK496, HB⟩ := hrel
              cases gk with
              | zero => exact absurd HA.out (by simp [bursarref04_holds.l1])
              | succ k2 =>
                have H := HA.out
                clear HA
                simp only [bursarref04_holds.l1] at H
                by_cases c8 : x7_2 < (l0_2.length : Int)
                · rw [if_pos c8] at H
                  have c8b0 : decide (x7_2 < (l0_2.length : Int)) = true := decide_eq_true c8
                  clear c8
                  by_cases c9 : x6_2 = true
                  · subst c9
                    have H1 : (bursarref04_holds.l1 k2 l1 x5_1 true (wrap64 (x7_2 + 1)) a0_0 a0_1 l0_2) = some r := by rw [if_pos rfl] at H; exact H
                    clear H
                    have H := H1
                    clear H1
                    have H' := Aside0.mk H
                    clear H
                    have hcz10_0 : wr.cell? ⟨gb496, 0, none⟩ = some (.string a0_0) := (blk_cell BK496.out 0).trans rfl
                    have hcz10_1 : wr.cell? ⟨gb496, 1, none⟩ = some (.int .i64 a0_1) := (blk_cell BK496.out 1).trans rfl
                    have hcz10_2 : wr.cell? ⟨gb496, 2, none⟩ = some (.slice A0_2 l0_2.length c0_2) := (blk_cell BK496.out 2).trans rfl
                    have hfz10_0 := blk_frozen BK496.out 0
                    have hfz10_1 := blk_frozen BK496.out 1
                    have hfz10_2 := blk_frozen BK496.out 2
                    go_wp2
                    repeat (go_quiet (fail); try go_wp2)
                    go_roundg k2
                    case measure => have := HK1.out; have := HK2.out; omega
                    case rel => exact ⟨(true), (wrap64 (x7_2 + 1)), (by first | rfl | (simp; done) | (simp [*]; done) | (simp; rw [Bool.eq_iff_iff]; simp; done) | (rw [Bool.eq_iff_iff]; simp; done)), (by first | rfl | (simp; done) | (simp [*]; done) | (simp; rw [Bool.eq_iff_iff]; simp; done) | (rw [Bool.eq_iff_iff]; simp; done)), H', ⟨by have := HK1.out; have := HK2.out; omega⟩, ⟨by (with_reducible repeat (first | refine blk_drewN ?_ _ | refine blk_drew ?_ | refine blk_alloc ?_ _)); exact BK496.out⟩, ⟨by repeat (first | (with_reducible first | exact HB.out | apply below_alloc | apply pw_below_drewN | apply below_drew1 | refine below_set ?_ GE496.out) | exact HB.out)⟩⟩
                  · replace c9 := Bool.eq_false_iff.mpr c9
                    subst c9
                    have H1 : (if 0 ≤ x7_2 then (if 0 ≤ x5_1 then (if x5_1 < (l1.length : Int) then (bursarref04_holds.l1 k2 l1 x5_1 ((rdOf ByteArray.empty l0_2 x7_2).toList == ((rd_T51 l1 x5_1).f1).toList) (wrap64 (x7_2 + 1)) a0_0 a0_1 l0_2) else (none)) else (none)) else (none)) = some r := by rw [if_neg (show ¬ (false = true) by decide)] at H; exact H
                    clear H
                    have H := H1
                    clear H1
                    by_cases c11 : 0 ≤ x7_2
                    · rw [if_pos c11] at H
                      have c11b0 : decide (0 ≤ x7_2) = true := decide_eq_true c11
                      clear c11
                      by_cases c12 : 0 ≤ x5_1
                      · rw [if_pos c12] at H
                        have c12b0 : decide (0 ≤ x5_1) = true := decide_eq_true c12
                        clear c12
                        by_cases c13 : x5_1 < (l1.length : Int)
                        · rw [if_pos c13] at H
                          have c13b0 : decide (x5_1 < (l1.length : Int)) = true := decide_eq_true c13
                          clear c13
                          have H' := Aside0.mk H
                          clear H
                          have hcz14_0 : wr.cell? ⟨gb496, 0, none⟩ = some (.string a0_0) := (blk_cell BK496.out 0).trans rfl
                          have hcz14_1 : wr.cell? ⟨gb496, 1, none⟩ = some (.int .i64 a0_1) := (blk_cell BK496.out 1).trans rfl
                          have hcz14_2 : wr.cell? ⟨gb496, 2, none⟩ = some (.slice A0_2 l0_2.length c0_2) := (blk_cell BK496.out 2).trans rfl
                          have hfz14_0 := blk_frozen BK496.out 0
                          have hfz14_1 := blk_frozen BK496.out 1
                          have hfz14_2 := blk_frozen BK496.out 2
                          have p498 : 0 ≤ (x7_2 : Int) := of_decide_eq_true (by first | (with_reducible assumption) | assumption)
                          have q498 : x7_2 < (l0_2.length : Int) := of_decide_eq_true (by first | (with_reducible assumption) | assumption)
                          obtain ⟨ad498, e498, hx498_0⟩ := Kd.at_string HR0_2.out x7_2 p498 q498
                          cases e498
                          replace hx498_0 := (HB.out.cell (World.block_lt_of_cell? w _ hx498_0)).trans hx498_0
                          replace p498 := eq_true p498
                          replace q498 := eq_true q498
                          have p499 : 0 ≤ (x5_1 : Int) := of_decide_eq_true (by first | (with_reducible assumption) | assumption)
                          have q499 : x5_1 < (l1.length : Int) := of_decide_eq_true (by first | (with_reducible assumption) | assumption)
                          obtain ⟨ad499, e499, hx499_0, hx499_1⟩ := at_T51 HR1.out x5_1 p499 q499
                          obtain rfl : ad497 = ad499 := (by injection e499)
                          replace hx499_0 := (HB.out.cell (World.block_lt_of_cell? w _ hx499_0)).trans hx499_0
                          replace hx499_1 := (HB.out.cell (World.block_lt_of_cell? w _ hx499_1)).trans hx499_1
                          replace p499 := eq_true p499
                          replace q499 := eq_true q499
                          go_wp2
                          repeat (go_quiet (fail); try go_wp2)
                          go_roundg k2
                          case measure => have := HK1.out; have := HK2.out; omega
                          case rel => exact ⟨(((rdOf ByteArray.empty l0_2 x7_2).toList == ((rd_T51 l1 x5_1).f1).toList)), (wrap64 (x7_2 + 1)), (by first | rfl | (simp; done) | (simp [*]; done) | (simp; rw [Bool.eq_iff_iff]; simp; done) | (rw [Bool.eq_iff_iff]; simp; done)), (by first | rfl | (simp; done) | (simp [*]; done) | (simp; rw [Bool.eq_iff_iff]; simp; done) | (rw [Bool.eq_iff_iff]; simp; done)), H', ⟨by have := HK1.out; have := HK2.out; omega⟩, ⟨by (with_reducible repeat (first | refine blk_drewN ?_ _ | refine blk_drew ?_ | refine blk_alloc ?_ _)); exact BK496.out⟩, ⟨by repeat (first | (with_reducible first | exact HB.out | apply below_alloc | apply pw_below_drewN | apply below_drew1 | refine below_set ?_ GE496.out) | exact HB.out)⟩⟩
                        · rw [if_neg c13] at H
                          exact absurd H (by simp)
                      · rw [if_neg c12] at H
                        exact absurd H (by simp)
                    · rw [if_neg c11] at H
                      exact absurd H (by simp)
                · rw [if_neg c8] at H
                  have c8b0 : decide (x7_2 < (l0_2.length : Int)) = false := decide_eq_false c8
                  clear c8
                  by_cases c15 : a0_1 = 0
                  · rw [if_pos c15] at H
                    have c15b0 : (a0_1 == 0) = true := beq_iff_eq.mpr c15
                    have c15b1 : (a0_1 != 0) = false := bne_eq_false_iff_eq.mpr c15
                    clear c15
                    obtain rfl := Option.some.inj H
                    have hcz16_0 : wr.cell? ⟨gb496, 0, none⟩ = some (.string a0_0) := (blk_cell BK496.out 0).trans rfl
                    have hcz16_1 : wr.cell? ⟨gb496, 1, none⟩ = some (.int .i64 a0_1) := (blk_cell BK496.out 1).trans rfl
                    have hcz16_2 : wr.cell? ⟨gb496, 2, none⟩ = some (.slice A0_2 l0_2.length c0_2) := (blk_cell BK496.out 2).trans rfl
                    have hfz16_0 := blk_frozen BK496.out 0
                    have hfz16_1 := blk_frozen BK496.out 1
                    have hfz16_2 := blk_frozen BK496.out 2
                    go_wp2
                    repeat (go_quiet (fail); try go_wp2)
                    go_ret
                    exact ⟨by first | rfl | (simp [errW_none, errW_some] <;> rfl) | (simp [*, errW_none, errW_some] <;> rfl), by repeat (first | (with_reducible first | exact HB.out | apply below_alloc | apply pw_below_drewN | apply below_drew1 | refine below_set ?_ GE496.out) | exact HB.out)⟩
                  · rw [if_neg c15] at H
                    have c15b0 : (a0_1 == 0) = false := beq_eq_false_iff_ne.mpr c15
                    have c15b1 : (a0_1 != 0) = true := bne_iff_ne.mpr c15
                    by_cases c17 : a0_1 = 1
                    · rw [if_pos c17] at H
                      have c17b0 : (a0_1 == 1) = true := beq_iff_eq.mpr c17
                      have c17b1 : (a0_1 != 1) = false := bne_eq_false_iff_eq.mpr c17
                      clear c17
                      obtain rfl := Option.some.inj H
                      have hcz18_0 : wr.cell? ⟨gb496, 0, none⟩ = some (.string a0_0) := (blk_cell BK496.out 0).trans rfl
                      have hcz18_1 : wr.cell? ⟨gb496, 1, none⟩ = some (.int .i64 a0_1) := (blk_cell BK496.out 1).trans rfl
                      have hcz18_2 : wr.cell? ⟨gb496, 2, none⟩ = some (.slice A0_2 l0_2.length c0_2) := (blk_cell BK496.out 2).trans rfl
                      have hfz18_0 := blk_frozen BK496.out 0
                      have hfz18_1 := blk_frozen BK496.out 1
                      have hfz18_2 := blk_frozen BK496.out 2
                      go_wp2
                      repeat (go_quiet (fail); try go_wp2)
                      go_ret
                      exact ⟨by first | rfl | (simp [errW_none, errW_some] <;> rfl) | (simp [*, errW_none, errW_some] <;> rfl), by repeat (first | (with_reducible first | exact HB.out | apply below_alloc | apply pw_below_drewN | apply below_drew1 | refine below_set ?_ GE496.out) | exact HB.out)⟩
                    · rw [if_neg c17] at H
                      have c17b0 : (a0_1 == 1) = false := beq_eq_false_iff_ne.mpr c17
                      have c17b1 : (a0_1 != 1) = true := bne_iff_ne.mpr c17
                      obtain rfl := Option.some.inj H
                      have hcz19_0 : wr.cell? ⟨gb496, 0, none⟩ = some (.string a0_0) := (blk_cell BK496.out 0).trans rfl
                      have hcz19_1 : wr.cell? ⟨gb496, 1, none⟩ = some (.int .i64 a0_1) := (blk_cell BK496.out 1).trans rfl
                      have hcz19_2 : wr.cell? ⟨gb496, 2, none⟩ = some (.slice A0_2 l0_2.length c0_2) := (blk_cell BK496.out 2).trans rfl
                      have hfz19_0 := blk_frozen BK496.out 0
                      have hfz19_1 := blk_frozen BK496.out 1
                      have hfz19_2 := blk_frozen BK496.out 2
                      go_wp2
                      repeat (go_quiet (fail); try go_wp2)
                      go_ret
                      exact ⟨by first | rfl | (simp [errW_none, errW_some] <;> rfl) | (simp [*, errW_none, errW_some] <;> rfl), by repeat (first | (with_reducible first | exact HB.out | apply below_alloc | apply pw_below_drewN | apply below_drew1 | refine below_set ?_ GE496.out) | exact HB.out)⟩
          · rw [if_neg c6] at H
            have c6b0 : (((rd_T51 l1 x5_1).f0).toList == a0_0.toList) = false := beq_eq_false_iff_ne.mpr c6
            have c6b1 : (((rd_T51 l1 x5_1).f0).toList != a0_0.toList) = true := bne_iff_ne.mpr c6
            have H' := Aside0.mk H
            clear H
            have p497 : 0 ≤ (x5_1 : Int) := of_decide_eq_true (by first | (with_reducible assumption) | assumption)
            have q497 : x5_1 < (l1.length : Int) := of_decide_eq_true (by first | (with_reducible assumption) | assumption)
            obtain ⟨ad497, e497, hx497_0, hx497_1⟩ := at_T51 HR1.out x5_1 p497 q497
            cases e497
            replace hx497_0 := (HB.out.cell (World.block_lt_of_cell? w _ hx497_0)).trans hx497_0
            replace hx497_1 := (HB.out.cell (World.block_lt_of_cell? w _ hx497_1)).trans hx497_1
            replace p497 := eq_true p497
            replace q497 := eq_true q497
            have hcz20_0 : wr.cell? ⟨gb496, 0, none⟩ = some (.string a0_0) := (blk_cell BK496.out 0).trans rfl
            have hcz20_1 : wr.cell? ⟨gb496, 1, none⟩ = some (.int .i64 a0_1) := (blk_cell BK496.out 1).trans rfl
            have hcz20_2 : wr.cell? ⟨gb496, 2, none⟩ = some (.slice A0_2 l0_2.length c0_2) := (blk_cell BK496.out 2).trans rfl
            have hfz20_0 := blk_frozen BK496.out 0
            have hfz20_1 := blk_frozen BK496.out 1
            have hfz20_2 := blk_frozen BK496.out 2
            go_wp2
            repeat (go_quiet (fail); try go_wp2)
            go_roundg k1
            case measure => have := HK1.out; omega
            case rel => exact ⟨(wrap64 (x5_1 + 1)), (by first | rfl | (simp; done) | (simp [*]; done) | (simp; rw [Bool.eq_iff_iff]; simp; done) | (rw [Bool.eq_iff_iff]; simp; done)), H', ⟨by have := HK1.out; omega⟩, ⟨by (with_reducible repeat (first | refine blk_drewN ?_ _ | refine blk_drew ?_ | refine blk_alloc ?_ _)); exact BK496.out⟩, ⟨by repeat (first | (with_reducible first | exact HB.out | apply below_alloc | apply pw_below_drewN | apply below_drew1 | refine below_set ?_ GE496.out) | exact HB.out)⟩⟩
        · rw [if_neg c5] at H
          exact absurd H (by simp)
      · rw [if_neg c4] at H
        have c4b0 : decide (x5_1 < (l1.length : Int)) = false := decide_eq_false c4
        clear c4
        by_cases c21 : a0_1 = 1
        · rw [if_pos c21] at H
          have c21b0 : (a0_1 == 1) = true := beq_iff_eq.mpr c21
          have c21b1 : (a0_1 != 1) = false := bne_eq_false_iff_eq.mpr c21
          clear c21
          obtain rfl := Option.some.inj H
          have hcz22_0 : wr.cell? ⟨gb496, 0, none⟩ = some (.string a0_0) := (blk_cell BK496.out 0).trans rfl
          have hcz22_1 : wr.cell? ⟨gb496, 1, none⟩ = some (.int .i64 a0_1) := (blk_cell BK496.out 1).trans rfl
          have hcz22_2 : wr.cell? ⟨gb496, 2, none⟩ = some (.slice A0_2 l0_2.length c0_2) := (blk_cell BK496.out 2).trans rfl
          have hfz22_0 := blk_frozen BK496.out 0
          have hfz22_1 := blk_frozen BK496.out 1
          have hfz22_2 := blk_frozen BK496.out 2
          go_wp2
          repeat (go_quiet (fail); try go_wp2)
          go_ret
          exact ⟨by first | rfl | (simp [errW_none, errW_some] <;> rfl) | (simp [*, errW_none, errW_some] <;> rfl), by repeat (first | (with_reducible first | exact HB.out | apply below_alloc | apply pw_below_drewN | apply below_drew1 | refine below_set ?_ GE496.out) | exact HB.out)⟩
        · rw [if_neg c21] at H
          have c21b0 : (a0_1 == 1) = false := beq_eq_false_iff_ne.mpr c21
          have c21b1 : (a0_1 != 1) = true := bne_iff_ne.mpr c21
          obtain rfl := Option.some.inj H
          have hcz23_0 : wr.cell? ⟨gb496, 0, none⟩ = some (.string a0_0) := (blk_cell BK496.out 0).trans rfl
          have hcz23_1 : wr.cell? ⟨gb496, 1, none⟩ = some (.int .i64 a0_1) := (blk_cell BK496.out 1).trans rfl
          have hcz23_2 : wr.cell? ⟨gb496, 2, none⟩ = some (.slice A0_2 l0_2.length c0_2) := (blk_cell BK496.out 2).trans rfl
          have hfz23_0 := blk_frozen BK496.out 0
          have hfz23_1 := blk_frozen BK496.out 1
          have hfz23_2 := blk_frozen BK496.out 2
          go_wp2
          repeat (go_quiet (fail); try go_wp2)
          go_ret
          exact ⟨by first | rfl | (simp [errW_none, errW_some] <;> rfl) | (simp [*, errW_none, errW_some] <;> rfl), by repeat (first | (with_reducible first | exact HB.out | apply below_alloc | apply pw_below_drewN | apply below_drew1 | refine below_set ?_ GE496.out) | exact HB.out)⟩
end Go.Proofs.YteaiobgnhlpblaaDoor.Q
namespace Go.Proofs.YteaiobgnhlpblaaDoor.Q
open Go.RowKit Go.Proofs.YteaiobgnhlpblaaDoorW.PrintWords Go.Proofs.YteaiobgnhlpblaaDoorW.PrintLast Go.Proofs.YteaiobgnhlpblaaDoorW.PrintMore
attribute [local go_sem] max2_int min2_int max_two min_two max_three min_three max_four min_four   -- for this text's walks alone
set_option linter.unusedVariables false
set_option linter.unusedSimpArgs false
def bursarref04_Match.l0 : Nat → List (S45) → List (S51) → Int → Option (Bool × Int)
  | 0, _, _, _ => none
  | k + 1, x0, x1, x8 => if x8 < (x0.length : Int) then (if 0 ≤ x8 then ((bursarref04_holds.f k ((rd_T45 x0 x8).f0) ((rd_T45 x0 x8).f1) ((rd_T45 x0 x8).f2) x1).bind fun t503 => (if t503 = true then (bursarref04_Match.l0 k x0 x1 (wrap64 (x8 + 1))) else (some (false, 0)))) else (none)) else (some (true, 0))
def bursarref04_Match.f (k : Nat) (l0 : List (S45)) (l1 : List (S51)) : Option (Bool × Int) := (bursarref04_terms.f k l0).bind fun t500 => (if t500 = true then ((bursarref04_Valid.f k l1).bind fun t501 => (if t501 = 0 then (bursarref04_Match.l0 k l0 l1 0) else (some (false, t501)))) else (some (false, 43)))
theorem bursarref04_Match.mono_l : ∀ k, (∀ y0 y1 y2, LeO (bursarref04_Match.l0 k y0 y1 y2) (bursarref04_Match.l0 (k + 1) y0 y1 y2))
  | 0 => fun _ _ _ r h => by simp [bursarref04_Match.l0] at h
  | k + 1 => by
    have ih0 := bursarref04_Match.mono_l k
    · intro y0 y1 y2
      unfold bursarref04_Match.l0
      repeat' first
      | (with_reducible exact ih0 _ _ _)
      | (with_reducible exact bursarref04_Valid.mono _ _)
      | (with_reducible exact bursarref04_holds.mono _ _ _ _ _)
      | (with_reducible exact bursarref04_terms.mono _ _)
      | (with_reducible exact LeO.refl _)
      | (with_reducible exact LeO.none _)
      | (with_reducible refine LeO.ite ?_ ?_)
      | (with_reducible refine LeO.bind ?_ (fun _ => ?_))
      | exact ih0 _ _ _
      | exact bursarref04_Valid.mono _ _
      | exact bursarref04_holds.mono _ _ _ _ _
      | exact bursarref04_terms.mono _ _
      | exact LeO.none _
      | refine LeO.ite ?_ ?_
      | refine LeO.bind ?_ (fun _ => ?_)
theorem bursarref04_Match.mono : ∀ a0 a1 k, LeO (bursarref04_Match.f k a0 a1) (bursarref04_Match.f (k + 1) a0 a1) := by
  intro a0 a1 k
  have ih0 := bursarref04_Match.mono_l k
  unfold bursarref04_Match.f
  repeat' first
      | (with_reducible exact ih0 _ _ _)
      | (with_reducible exact bursarref04_Valid.mono _ _)
      | (with_reducible exact bursarref04_holds.mono _ _ _ _ _)
      | (with_reducible exact bursarref04_terms.mono _ _)
      | (with_reducible exact LeO.refl _)
      | (with_reducible exact LeO.none _)
      | (with_reducible refine LeO.ite ?_ ?_)
      | (with_reducible refine LeO.bind ?_ (fun _ => ?_))
      | exact ih0 _ _ _
      | exact bursarref04_Valid.mono _ _
      | exact bursarref04_holds.mono _ _ _ _ _
      | exact bursarref04_terms.mono _ _
      | exact LeO.none _
      | refine LeO.ite ?_ ?_
      | refine LeO.bind ?_ (fun _ => ?_)
set_option maxHeartbeats 8000000 in
set_option maxRecDepth 100000 in
theorem bursarref04_Match.calls (k : Nat) (A0 : Option Addr) (c0 : Nat) (l0 : List (S45)) (A1 : Option Addr) (c1 : Nat) (l1 : List (S51)) (r1 : Bool) (r2 : Int) (w : World) (hr0 : Kd.C k45 w A0 l0.length l0) (hc0 : l0.length ≤ c0) (hr1 : Kd.C k51 w A1 l1.length l1) (hc1 : l1.length ≤ c1) (h : bursarref04_Match.f k l0 l1 = some (r1, r2)) :
    Calls Tryd.prog 38 #[.slice A0 l0.length c0, .slice A1 l1.length c1] w fun e w' => e = .returned (.tuple #[.bool r1, .int .i64 r2]) ∧ Below w.heap.size w w' := by
  have hu45 := Tryd.underlying45
  have HR0 := Aside0.mk hr0
  have HC0 := Aside0.mk hc0
  clear hr0 hc0
  have HR1 := Aside0.mk hr1
  have HC1 := Aside0.mk hc1
  clear hr1 hc1
  have HB := Aside0.mk (Below.refl w.heap.size w)
  have H : ((bursarref04_terms.f k l0).bind fun t500 => (if t500 = true then ((bursarref04_Valid.f k l1).bind fun t501 => (if t501 = 0 then (bursarref04_Match.l0 k l0 l1 0) else (some (false, t501)))) else (some (false, 43)))) = some (r1, r2) := h
  clear h
  replace H := Option.bind_eq_some_iff.mp H
  obtain ⟨t500, A30, H⟩ := H
  replace H : (if t500 = true then ((bursarref04_Valid.f k l1).bind fun t501 => (if t501 = 0 then (bursarref04_Match.l0 k l0 l1 0) else (some (false, t501)))) else (some (false, 43))) = some (r1, r2) := H
  have A3 := Aside0.mk A30
  clear A30
  by_cases c4 : t500 = true
  · subst c4
    have H1 : ((bursarref04_Valid.f k l1).bind fun t501 => (if t501 = 0 then (bursarref04_Match.l0 k l0 l1 0) else (some (false, t501)))) = some (r1, r2) := by rw [if_pos rfl] at H; exact H
    clear H
    have H := H1
    clear H1
    replace H := Option.bind_eq_some_iff.mp H
    obtain ⟨t501, A50, H⟩ := H
    replace H : (if t501 = 0 then (bursarref04_Match.l0 k l0 l1 0) else (some (false, t501))) = some (r1, r2) := H
    have A5 := Aside0.mk A50
    clear A50
    by_cases c6 : t501 = 0
    · rw [if_pos c6] at H
      have c6b0 : (t501 == 0) = true := beq_iff_eq.mpr c6
      have c6b1 : (t501 != 0) = false := bne_eq_false_iff_eq.mpr c6
      clear c6
      have H' := Aside0.mk H
      clear H
      go_enter Tryd.func38, Tryd.ntmps38
      go_wp2_with (first | ((with_reducible refine gate_callee (f := 52) rfl ?_); refine goesL_ (some 10) rfl rfl Tryd.func52 (by kernel_rfl) rfl #[.slice A0 l0.length c0] rfl (by (try simp only [List.map_toArray, List.map_cons, List.map_nil]); first | done | rfl | (simp only [List.length_drop, List.length_take]; rfl)) ?_; (with_reducible refine (bursarref04_terms.calls k _ _ l0 true _ ?side1 ?side2 A3.out).mono ?_); (case side1 => repeat (first | exact HR0.out | (with_reducible refine Kd.C_alloc ?_ _) | (with_reducible refine Kd.C_drewN ?_ _) | (with_reducible refine Kd.C_drew ?_))); (case side2 => exact HC0.out); rintro e w7 ⟨rfl, hb⟩; refine ⟨_, rfl, ?_⟩; have n0_ := Aside0.mk (below_step (by repeat (first | (with_reducible first | exact HB.out | apply below_alloc | apply pw_below_drewN | apply below_drew1) | exact HB.out)) hb); clear HB; have HB := n0_; clear n0_; (try clear hb); (try clear hb2); (try clear hk); (try clear hi)) | ((with_reducible refine gate_callee (f := 36) rfl ?_); refine goesL_ (some 14) rfl rfl Tryd.func36 (by kernel_rfl) rfl #[.slice A1 l1.length c1] rfl (by (try simp only [List.map_toArray, List.map_cons, List.map_nil]); first | done | rfl | (simp only [List.length_drop, List.length_take]; rfl)) ?_; (with_reducible refine (bursarref04_Valid.calls k _ _ l1 t501 _ ?side1 ?side2 A5.out).mono ?_); (case side1 => repeat (first | exact (Kd.C_below HR1.out HB.out) | (with_reducible refine Kd.C_alloc ?_ _) | (with_reducible refine Kd.C_drewN ?_ _) | (with_reducible refine Kd.C_drew ?_))); (case side2 => exact HC1.out); rintro e w8 ⟨rfl, hb⟩; refine ⟨_, rfl, ?_⟩; have n0_ := Aside0.mk (below_step (by repeat (first | (with_reducible first | exact HB.out | apply below_alloc | apply pw_below_drewN | apply below_drew1) | exact HB.out)) hb); clear HB; have HB := n0_; clear n0_; (try clear hb); (try clear hb2); (try clear hk); (try clear hi)))
      go_loopg [8] k (fun kq v8 w' => ∃ (x8_1 : Int), v8 = .int .i64 x8_1 ∧ Aside0 (bursarref04_Match.l0 kq l0 l1 x8_1 = some (r1, r2)) ∧ Aside0 (kq ≤ k) ∧ Aside0 (Below w.heap.size w w'))
      case atStart => exact ⟨(0), (by first | rfl | (simp; done) | (simp [*]; done) | (simp; rw [Bool.eq_iff_iff]; simp; done) | (rw [Bool.eq_iff_iff]; simp; done)), H', ⟨Nat.le_refl _⟩, ⟨by repeat (first | (with_reducible first | exact HB.out | apply below_alloc | apply pw_below_drewN | apply below_drew1) | exact HB.out)⟩⟩
      case round =>
        clear H'
        try clear c1
        try clear p2
        try clear c3
        try clear c4
        try clear c5
        try clear c6
        try clear c6b0
        try clear c6b1
        obtain ⟨x8_1, rfl, HA, HK1, HB⟩ := hrel
        cases gk with
        | zero => exact absurd HA.out (by simp [bursarref04_Match.l0])
        | succ k1 =>
          have H := HA.out
          clear HA
          simp only [bursarref04_Match.l0] at H
          by_cases c9 : x8_1 < (l0.length : Int)
          · rw [if_pos c9] at H
            have c9b0 : decide (x8_1 < (l0.length : Int)) = true := decide_eq_true c9
            clear c9
            by_cases c10 : 0 ≤ x8_1
            · rw [if_pos c10] at H
              have c10b0 : decide (0 ≤ x8_1) = true := decide_eq_true c10
              clear c10
              replace H := Option.bind_eq_some_iff.mp H
              obtain ⟨t503, A110, H⟩ := H
              replace H : (if t503 = true then (bursarref04_Match.l0 k1 l0 l1 (wrap64 (x8_1 + 1))) else (some (false, 0))) = some (r1, r2) := H
              have A11 := Aside0.mk A110
              clear A110
              by_cases c12 : t503 = true
              · subst c12
                have H1 : (bursarref04_Match.l0 k1 l0 l1 (wrap64 (x8_1 + 1))) = some (r1, r2) := by rw [if_pos rfl] at H; exact H
                clear H
                have H := H1
                clear H1
                have H' := Aside0.mk H
                clear H
                have p502 : 0 ≤ (x8_1 : Int) := of_decide_eq_true (by first | (with_reducible assumption) | assumption)
                have q502 : x8_1 < (l0.length : Int) := of_decide_eq_true (by first | (with_reducible assumption) | assumption)
                obtain ⟨ad502, A502_2, c502_2, e502, hx502_0, hx502_1, hx502_2, hl502_2, hi502_2⟩ := at_T45 HR0.out x8_1 p502 q502
                cases e502
                replace hx502_0 := (HB.out.cell (World.block_lt_of_cell? w _ hx502_0)).trans hx502_0
                replace hx502_1 := (HB.out.cell (World.block_lt_of_cell? w _ hx502_1)).trans hx502_1
                replace hx502_2 := (HB.out.cell (World.block_lt_of_cell? w _ hx502_2)).trans hx502_2
                have HR502_2 := Aside0.mk hi502_2
                have HC502_2 := Aside0.mk hl502_2
                clear hi502_2 hl502_2
                replace p502 := eq_true p502
                replace q502 := eq_true q502
                go_wp2_with (first | ((with_reducible refine gate_callee (f := 56) rfl ?_); refine goesL_ (some 29) rfl rfl Tryd.func56 (by kernel_rfl) rfl #[.agg #[.string ((rd_T45 l0 x8_1).f0), .int .i64 ((rd_T45 l0 x8_1).f1), .slice A502_2 ((rd_T45 l0 x8_1).f2).length c502_2], .slice A1 l1.length c1] rfl (by (try simp only [List.map_toArray, List.map_cons, List.map_nil]); first | done | rfl | (simp only [List.length_drop, List.length_take]; rfl)) ?_; (with_reducible refine (bursarref04_holds.calls k1 ((rd_T45 l0 x8_1).f0) ((rd_T45 l0 x8_1).f1) _ _ ((rd_T45 l0 x8_1).f2) _ _ l1 true _ ?side1 ?side2 ?side3 ?side4 A11.out).mono ?_); (case side1 => repeat (first | exact (Kd.C_below HR502_2.out HB.out) | (with_reducible refine Kd.C_alloc ?_ _) | (with_reducible refine Kd.C_drewN ?_ _) | (with_reducible refine Kd.C_drew ?_))); (case side2 => exact HC502_2.out); (case side3 => repeat (first | exact (Kd.C_below HR1.out HB.out) | (with_reducible refine Kd.C_alloc ?_ _) | (with_reducible refine Kd.C_drewN ?_ _) | (with_reducible refine Kd.C_drew ?_))); (case side4 => exact HC1.out); rintro e w13 ⟨rfl, hb⟩; refine ⟨_, rfl, ?_⟩; have n0_ := Aside0.mk (below_step (by repeat (first | (with_reducible first | exact HB.out | apply below_alloc | apply pw_below_drewN | apply below_drew1) | exact HB.out)) hb); clear HB; have HB := n0_; clear n0_; (try clear hb); (try clear hb2); (try clear hk); (try clear hi)))
                go_roundg k1
                case measure => have := HK1.out; omega
                case rel => exact ⟨(wrap64 (x8_1 + 1)), (by first | rfl | (simp; done) | (simp [*]; done) | (simp; rw [Bool.eq_iff_iff]; simp; done) | (rw [Bool.eq_iff_iff]; simp; done)), H', ⟨by have := HK1.out; omega⟩, ⟨by repeat (first | (with_reducible first | exact HB.out | apply below_alloc | apply pw_below_drewN | apply below_drew1) | exact HB.out)⟩⟩
              · replace c12 := Bool.eq_false_iff.mpr c12
                subst c12
                have H1 : (some (false, 0)) = some (r1, r2) := by rw [if_neg (show ¬ (false = true) by decide)] at H; exact H
                clear H
                have H := H1
                clear H1
                simp only [Option.some.injEq, Prod.mk.injEq] at H
                obtain ⟨rfl, rfl⟩ := H
                have p502 : 0 ≤ (x8_1 : Int) := of_decide_eq_true (by first | (with_reducible assumption) | assumption)
                have q502 : x8_1 < (l0.length : Int) := of_decide_eq_true (by first | (with_reducible assumption) | assumption)
                obtain ⟨ad502, A502_2, c502_2, e502, hx502_0, hx502_1, hx502_2, hl502_2, hi502_2⟩ := at_T45 HR0.out x8_1 p502 q502
                cases e502
                replace hx502_0 := (HB.out.cell (World.block_lt_of_cell? w _ hx502_0)).trans hx502_0
                replace hx502_1 := (HB.out.cell (World.block_lt_of_cell? w _ hx502_1)).trans hx502_1
                replace hx502_2 := (HB.out.cell (World.block_lt_of_cell? w _ hx502_2)).trans hx502_2
                have HR502_2 := Aside0.mk hi502_2
                have HC502_2 := Aside0.mk hl502_2
                clear hi502_2 hl502_2
                replace p502 := eq_true p502
                replace q502 := eq_true q502
                go_wp2_with (first | ((with_reducible refine gate_callee (f := 56) rfl ?_); refine goesL_ (some 29) rfl rfl Tryd.func56 (by kernel_rfl) rfl #[.agg #[.string ((rd_T45 l0 x8_1).f0), .int .i64 ((rd_T45 l0 x8_1).f1), .slice A502_2 ((rd_T45 l0 x8_1).f2).length c502_2], .slice A1 l1.length c1] rfl (by (try simp only [List.map_toArray, List.map_cons, List.map_nil]); first | done | rfl | (simp only [List.length_drop, List.length_take]; rfl)) ?_; (with_reducible refine (bursarref04_holds.calls k1 ((rd_T45 l0 x8_1).f0) ((rd_T45 l0 x8_1).f1) _ _ ((rd_T45 l0 x8_1).f2) _ _ l1 false _ ?side1 ?side2 ?side3 ?side4 A11.out).mono ?_); (case side1 => repeat (first | exact (Kd.C_below HR502_2.out HB.out) | (with_reducible refine Kd.C_alloc ?_ _) | (with_reducible refine Kd.C_drewN ?_ _) | (with_reducible refine Kd.C_drew ?_))); (case side2 => exact HC502_2.out); (case side3 => repeat (first | exact (Kd.C_below HR1.out HB.out) | (with_reducible refine Kd.C_alloc ?_ _) | (with_reducible refine Kd.C_drewN ?_ _) | (with_reducible refine Kd.C_drew ?_))); (case side4 => exact HC1.out); rintro e w14 ⟨rfl, hb⟩; refine ⟨_, rfl, ?_⟩; have n0_ := Aside0.mk (below_step (by repeat (first | (with_reducible first | exact HB.out | apply below_alloc | apply pw_below_drewN | apply below_drew1) | exact HB.out)) hb); clear HB; have HB := n0_; clear n0_; (try clear hb); (try clear hb2); (try clear hk); (try clear hi)))
                go_ret2
                exact ⟨by first | rfl | (simp [errW_none, errW_some] <;> rfl) | (simp [*, errW_none, errW_some] <;> rfl), by repeat (first | (with_reducible first | exact HB.out | apply below_alloc | apply pw_below_drewN | apply below_drew1) | exact HB.out)⟩
            · rw [if_neg c10] at H
              exact absurd H (by simp)
          · rw [if_neg c9] at H
            have c9b0 : decide (x8_1 < (l0.length : Int)) = false := decide_eq_false c9
            clear c9
            simp only [Option.some.injEq, Prod.mk.injEq] at H
            obtain ⟨rfl, rfl⟩ := H
            go_wp2
            go_ret2
            exact ⟨by first | rfl | (simp [errW_none, errW_some] <;> rfl) | (simp [*, errW_none, errW_some] <;> rfl), by repeat (first | (with_reducible first | exact HB.out | apply below_alloc | apply pw_below_drewN | apply below_drew1) | exact HB.out)⟩
    · rw [if_neg c6] at H
      have c6b0 : (t501 == 0) = false := beq_eq_false_iff_ne.mpr c6
      have c6b1 : (t501 != 0) = true := bne_iff_ne.mpr c6
      simp only [Option.some.injEq, Prod.mk.injEq] at H
      obtain ⟨rfl, rfl⟩ := H
      go_enter Tryd.func38, Tryd.ntmps38
      go_wp2_with (first | ((with_reducible refine gate_callee (f := 52) rfl ?_); refine goesL_ (some 10) rfl rfl Tryd.func52 (by kernel_rfl) rfl #[.slice A0 l0.length c0] rfl (by (try simp only [List.map_toArray, List.map_cons, List.map_nil]); first | done | rfl | (simp only [List.length_drop, List.length_take]; rfl)) ?_; (with_reducible refine (bursarref04_terms.calls k _ _ l0 true _ ?side1 ?side2 A3.out).mono ?_); (case side1 => repeat (first | exact HR0.out | (with_reducible refine Kd.C_alloc ?_ _) | (with_reducible refine Kd.C_drewN ?_ _) | (with_reducible refine Kd.C_drew ?_))); (case side2 => exact HC0.out); rintro e w15 ⟨rfl, hb⟩; refine ⟨_, rfl, ?_⟩; have n0_ := Aside0.mk (below_step (by repeat (first | (with_reducible first | exact HB.out | apply below_alloc | apply pw_below_drewN | apply below_drew1) | exact HB.out)) hb); clear HB; have HB := n0_; clear n0_; (try clear hb); (try clear hb2); (try clear hk); (try clear hi)) | ((with_reducible refine gate_callee (f := 36) rfl ?_); refine goesL_ (some 14) rfl rfl Tryd.func36 (by kernel_rfl) rfl #[.slice A1 l1.length c1] rfl (by (try simp only [List.map_toArray, List.map_cons, List.map_nil]); first | done | rfl | (simp only [List.length_drop, List.length_take]; rfl)) ?_; (with_reducible refine (bursarref04_Valid.calls k _ _ l1 t501 _ ?side1 ?side2 A5.out).mono ?_); (case side1 => repeat (first | exact (Kd.C_below HR1.out HB.out) | (with_reducible refine Kd.C_alloc ?_ _) | (with_reducible refine Kd.C_drewN ?_ _) | (with_reducible refine Kd.C_drew ?_))); (case side2 => exact HC1.out); rintro e w16 ⟨rfl, hb⟩; refine ⟨_, rfl, ?_⟩; have n0_ := Aside0.mk (below_step (by repeat (first | (with_reducible first | exact HB.out | apply below_alloc | apply pw_below_drewN | apply below_drew1) | exact HB.out)) hb); clear HB; have HB := n0_; clear n0_; (try clear hb); (try clear hb2); (try clear hk); (try clear hi)))
      go_ret2
      exact ⟨by first | rfl | (simp [errW_none, errW_some] <;> rfl) | (simp [*, errW_none, errW_some] <;> rfl), by repeat (first | (with_reducible first | exact HB.out | apply below_alloc | apply pw_below_drewN | apply below_drew1) | exact HB.out)⟩
  · replace c4 := Bool.eq_false_iff.mpr c4
    subst c4
    have H1 : (some (false, 43)) = some (r1, r2) := by rw [if_neg (show ¬ (false = true) by decide)] at H; exact H
    clear H
    have H := H1
    clear H1
    simp only [Option.some.injEq, Prod.mk.injEq] at H
    obtain ⟨rfl, rfl⟩ := H
    go_enter Tryd.func38, Tryd.ntmps38
    go_wp2_with (first | ((with_reducible refine gate_callee (f := 52) rfl ?_); refine goesL_ (some 10) rfl rfl Tryd.func52 (by kernel_rfl) rfl #[.slice A0 l0.length c0] rfl (by (try simp only [List.map_toArray, List.map_cons, List.map_nil]); first | done | rfl | (simp only [List.length_drop, List.length_take]; rfl)) ?_; (with_reducible refine (bursarref04_terms.calls k _ _ l0 false _ ?side1 ?side2 A3.out).mono ?_); (case side1 => repeat (first | exact HR0.out | (with_reducible refine Kd.C_alloc ?_ _) | (with_reducible refine Kd.C_drewN ?_ _) | (with_reducible refine Kd.C_drew ?_))); (case side2 => exact HC0.out); rintro e w17 ⟨rfl, hb⟩; refine ⟨_, rfl, ?_⟩; have n0_ := Aside0.mk (below_step (by repeat (first | (with_reducible first | exact HB.out | apply below_alloc | apply pw_below_drewN | apply below_drew1) | exact HB.out)) hb); clear HB; have HB := n0_; clear n0_; (try clear hb); (try clear hb2); (try clear hk); (try clear hi)))
    go_ret2
    exact ⟨by first | rfl | (simp [errW_none, errW_some] <;> rfl) | (simp [*, errW_none, errW_some] <;> rfl), by repeat (first | (with_reducible first | exact HB.out | apply below_alloc | apply pw_below_drewN | apply below_drew1) | exact HB.out)⟩
end Go.Proofs.YteaiobgnhlpblaaDoor.Q
namespace Go.Proofs.YteaiobgnhlpblaaDoor.Q
open Go.RowKit Go.WideMaps Go.Maps Go.Proofs.YteaiobgnhlpblaaDoorW.PrintWords Go.Proofs.YteaiobgnhlpblaaDoorW.PrintLast
set_option linter.unusedVariables false
set_option linter.unusedSimpArgs false
def keyN (l : List S51) (j : Nat) : ByteArray := (rd_T51 l (j : Int)).f0
def lastN (l : List S51) (x : ByteArray) : Nat → Option Nat
  | 0 => none
  | i + 1 => if keyN l i = x then some i else lastN l x i
def putN (l : List S51) : Nat → DataW Unit
  | 0 => .map []
  | i + 1 => (putN l i).put (.string (keyN l i).data.toList) (.lit (.int .i64 (i : Int)))
theorem putN_map (l : List S51) : ∀ i, IsMap (putN l i)
  | 0 => isMap_empty
  | i + 1 => (putN_map l i).put _ _
theorem lastN_lt (l : List S51) (x : ByteArray) : ∀ i j, lastN l x i = some j → j < i ∧ keyN l j = x
  | 0, j, h => by simp [lastN] at h
  | i + 1, j, h => by
    unfold lastN at h
    split at h
    · rename_i hk
      obtain rfl := Option.some.inj h
      exact ⟨by omega, hk⟩
    · have := lastN_lt l x i j h
      exact ⟨by omega, this.2⟩
theorem putN_has (l : List S51) (x : ByteArray) : ∀ i, Maps.has (putN l i) (.string x.data.toList) = (lastN l x i).isSome
  | 0 => rfl
  | i + 1 => by
    unfold lastN
    by_cases hk : keyN l i = x
    · rw [if_pos hk]
      subst hk
      exact has_put_same (putN_map l i) (by trivial) _
    · rw [if_neg hk, ← putN_has l x i]
      exact has_put_other (fun e => hk (ba_ext (by injection e with e; exact e.symm))) _
theorem putN_at (l : List S51) (x : ByteArray) (z : DataW Unit) : ∀ i j, lastN l x i = some j → (putN l i).atKey (.string x.data.toList) z = .lit (.int .i64 (j : Int))
  | 0, j, h => by simp [lastN] at h
  | i + 1, j, h => by
    unfold lastN at h
    by_cases hk : keyN l i = x
    · rw [if_pos hk] at h
      obtain rfl := Option.some.inj h
      subst hk
      exact atKey_put_same (putN_map l i) (by trivial) _ z
    · rw [if_neg hk] at h
      rw [← putN_at l x z i j h]
      exact atKey_put_other (fun e => hk (ba_ext (by injection e with e; exact e.symm))) _ z
theorem putN_none (l : List S51) (x : ByteArray) (z : DataW Unit) (i : Nat) (h : lastN l x i = none) : (putN l i).atKey (.string x.data.toList) z = z :=
  atKey_of_not_has (by rw [putN_has, h]; rfl) z
theorem lookup_known {P : Program} (w : World) {ops : Array Oper} {rest : List Oper} {o : Oper} {a : Act} {Q : Exit → Act → World → Prop}
    (hg : o.guard = none) (m x : Operand) (t : TypeId) (hop : o.op = Op.lookup t m x true)
    (k e : TypeId) (q : IntKind) (K : Keyed P k) (ht : P.underlying t = some (.map k e)) (he : P.underlying e = some (.int q)) (hz : (zeroValue e).run P w = .ok (.int q 0) w) (b n : Nat) (D : DataW Unit)
    (hm : a.eval m = .map (some b)) (hown : w.ownsMap P k (plainElem P e) b n D) (key : Value) (kl : Lit) (hx : a.eval x = key) (hkey : keyOf P k key = some kl)
    (c : Int) (B : Bool) (hc : D.atKey kl (.lit (.int q 0)) = .lit (.int q c)) (hB : Maps.has D kl = B)
    (hK : wpList P ops Q rest (a.put o.dst (.tuple #[.int q c, .bool B])) w) :
    wpList P ops Q (o :: rest) a w := by
  refine wpList_lookup_own_ok_int w hg m x t hop k e q K ht he hz b n D hm hown key kl hx hkey (fun c' hc' _ => ?_)
  rw [hc] at hc'
  injection hc' with h1
  injection h1 with _ h2
  subst h2
  rw [hB]
  exact hK
def holdB (l : List S51) (t : S45) : Bool :=
  match lastN l t.f0 l.length with
  | some j => if t.f1 = 0 then memB t.f2 (rd_T51 l (j : Int)).f1 else if t.f1 = 1 then !memB t.f2 (rd_T51 l (j : Int)).f1 else if t.f1 = 2 then true else false
  | none => if t.f1 = 0 then false else if t.f1 = 1 then true else if t.f1 = 2 then false else true
def label_Match.f (k : Nat) (l0 : List S45) (l1 : List S51) : Option (Bool × Int) :=
  if (decide (l0.length ≤ 8) && l0.all propB) = true then ((label_Valid.f k l1).bind fun e => if e = 0 then some (l0.all (holdB l1), 0) else some (false, e)) else some (false, 43)
theorem label_Match.mono : ∀ a0 a1 k, LeO (label_Match.f k a0 a1) (label_Match.f (k + 1) a0 a1) := by
  intro a0 a1 k
  unfold label_Match.f
  refine LeO.ite (LeO.bind (label_Valid.mono _ _) (fun _ => LeO.refl _)) (LeO.refl _)
theorem nameB_size {s : ByteArray} (h : nameB s = true) : s.size ≤ 32 := by
  unfold nameB at h
  simp only [Bool.and_eq_true, decide_eq_true_eq] at h
  exact h.1.1.1.2
theorem valid_keys (l : List S51) (h16 : l.length ≤ 16) : ∀ (k i : Nat), label_Valid.l0 k l l (l.length : Int) (i : Int) = some 0 → ∀ j : Nat, i ≤ j → j < l.length → nameB (keyN l j) = true
  | 0, i, h => by simp [label_Valid.l0] at h
  | k + 1, i, h => by
    intro j hj hjl
    have hnx : label_Valid.l0 k l l (l.length : Int) (wrap64 ((i : Int) + 1)) = some 0 → i ≠ j → nameB (keyN l j) = true := fun hx hne => by
      rw [w64 i (by omega)] at hx
      exact valid_keys l h16 k (i + 1) hx j (by omega) hjl
    simp only [label_Valid.l0] at h
    rw [if_pos (by omega), if_pos (by omega), if_pos (by omega)] at h
    obtain ⟨a, ha, h⟩ := Option.bind_eq_some_iff.mp h
    by_cases hA : a = true
    rotate_left
    · rw [if_neg hA] at h; cases h
    rw [if_pos hA] at h
    obtain ⟨b, hb, h⟩ := Option.bind_eq_some_iff.mp h
    by_cases hB : b = true
    rotate_left
    · rw [if_neg hB] at h; cases h
    rw [if_pos hB] at h
    by_cases hij : i = j
    · subst hij
      have : nameB (keyN l i) = a := Option.some.inj ha
      rw [this, hA]
    · by_cases hgt : (i : Int) > 0
      · rw [if_pos hgt] at h
        by_cases hp : 0 ≤ wrap64 ((i : Int) - 1)
        · rw [if_pos hp] at h
          by_cases hq : wrap64 ((i : Int) - 1) < (l.length : Int)
          · rw [if_pos hq] at h
            split at h
            · exact hnx h hij
            · cases h
          · rw [if_neg hq] at h; cases h
        · rw [if_neg hp] at h; cases h
      · rw [if_neg hgt] at h
        exact hnx h hij
theorem valid_key (l : List S51) (k : Nat) (h : label_Valid.f k l = some 0) (j : Nat) (hj : j < l.length) : (keyN l j).size ≤ 32 := by
  unfold label_Valid.f at h
  split at h
  · cases h
  · exact nameB_size (valid_keys l (by omega) k 0 h j (by omega) hj)
theorem prop_key {t : S45} (h : propB t = true) : t.f0.size ≤ 32 := by
  unfold propB properB at h
  rw [Bool.and_eq_true] at h
  exact nameB_size h.1
theorem prop_how {t : S45} (h : propB t = true) : t.f1 = 2 ∨ t.f1 = 3 ∨ ((t.f1 = 0 ∨ t.f1 = 1) ∧ t.f2.length ≤ 8) := by
  unfold propB properB at h
  rw [Bool.and_eq_true] at h
  have h2 := h.2
  split at h2
  · rename_i hc
    rcases hc with hc | hc
    · exact .inl hc
    · exact .inr (.inl hc)
  · split at h2
    · rename_i hc
      rw [Bool.and_eq_true, Bool.and_eq_true] at h2
      exact .inr (.inr ⟨hc, of_decide_eq_true h2.1.2⟩)
    · cases h2
theorem prop_at {l : List S45} (h : l.all propB = true) (i : Nat) (hi : i < l.length) : propB (rd_T45 l (i : Int)) = true := by
  have : rd_T45 l (i : Int) = l[i] := by simp [rd_T45, List.getD_eq_getElem?_getD, List.getElem?_eq_getElem hi]
  rw [this]
  exact List.all_eq_true.1 h _ (List.getElem_mem _)
theorem hold_true {l : List S45} {p : S45 → Bool} (h : ∀ j, j < l.length → p (rd_T45 l (j : Int)) = true) : l.all p = true := by
  rw [List.all_eq_true]
  intro x hx
  obtain ⟨j, hj, rfl⟩ := List.getElem_of_mem hx
  have := h j hj
  simpa [rd_T45, List.getD_eq_getElem?_getD, List.getElem?_eq_getElem hj] using this
theorem hold_false {l : List S45} {p : S45 → Bool} (j : Nat) (hj : j < l.length) (h : p (rd_T45 l (j : Int)) = false) : l.all p = false := by
  rw [List.all_eq_false]
  refine ⟨l[j], List.getElem_mem _, ?_⟩
  have : rd_T45 l (j : Int) = l[j] := by simp [rd_T45, List.getD_eq_getElem?_getD, List.getElem?_eq_getElem hj]
  rw [this] at h
  simp [h]
theorem wf_small (i : Nat) {n : Nat} (h : i < n) (hn : n ≤ 16) : (Lit.int .i64 (i : Int)).wf = true := by
  have : i < 16 := by omega
  have hh : ∀ j : Fin 16, (Lit.int .i64 ((j.1 : Nat) : Int)).wf = true := by decide
  exact hh ⟨i, this⟩
theorem grown_of_below {w w' : World} (h : Below w.heap.size w w') : w.grownBy w' none := ⟨h.os, h.tape, h.output, h.size, fun k hk _ => h.block k hk⟩
theorem lawM : Keyed Tryd.prog 9 := string_keyed Tryd.underlying9
theorem zeroM (w : World) : (zeroValue 3).run Tryd.prog w = .ok (.int .i64 0) w := by kernel_rfl
theorem keyM {s : ByteArray} (h : s.size ≤ 32) : keyOf Tryd.prog 9 (.string s) = some (.string s.data.toList) := keyOf_string_mk Tryd.underlying9 (by unfold maxLen; omega)
set_option maxHeartbeats 8000000 in
set_option maxRecDepth 100000 in
theorem label_Match.calls (k : Nat) (A0 : Option Addr) (c0 : Nat) (l0 : List S45) (A1 : Option Addr) (c1 : Nat) (l1 : List S51) (r1 : Bool) (r2 : Int) (w : World)
    (hr0 : Kd.C k45 w A0 l0.length l0) (hc0 : l0.length ≤ c0) (hr1 : Kd.C k51 w A1 l1.length l1) (hc1 : l1.length ≤ c1) (h : label_Match.f k l0 l1 = some (r1, r2)) :
    Calls Tryd.prog 37 #[.slice A0 l0.length c0, .slice A1 l1.length c1] w fun e w' => e = .returned (.tuple #[.bool r1, .int .i64 r2]) ∧ Below w.heap.size w w' := by
  have HR0 := Aside0.mk hr0
  have HC0 := Aside0.mk hc0
  have HR1 := Aside0.mk hr1
  have HC1 := Aside0.mk hc1
  clear hr0 hc0 hr1 hc1
  have hu45 := Tryd.underlying45
  have hu51 := Tryd.underlying51
  have hmm := @run_makeMap Tryd.prog
  unfold label_Match.f at h
  cases hall : (decide (l0.length ≤ 8) && l0.all propB) with
  | false =>
    have HALL := Lib.hid hall
    rw [hall, if_neg (by decide)] at h
    simp only [Option.some.injEq, Prod.mk.injEq] at h
    obtain ⟨rfl, rfl⟩ := h
    clear hall
    go_enter Tryd.func37, Tryd.ntmps37
    go_wp2_with (go_at_call 45; refine (label_all.calls A0 c0 l0 _ _ HR0.out HC0.out rfl).mono ?_; rintro e w1 ⟨rfl, hb1⟩; rw [HALL.out])
    go_ret2
    exact ⟨rfl, hb1⟩
  | true =>
    have HALL := Lib.hid hall
    rw [hall, if_pos rfl] at h
    obtain ⟨e0, hv, h⟩ := Option.bind_eq_some_iff.mp h
    have HV := Lib.hid hv
    have HP := Lib.hid (show l0.all propB = true by rw [Bool.and_eq_true] at hall; exact hall.2)
    have h8l : l0.length ≤ 8 := by rw [Bool.and_eq_true] at hall; exact of_decide_eq_true hall.1
    clear hall
    by_cases he : e0 = 0
    rotate_left
    · rw [if_neg he] at h
      simp only [Option.some.injEq, Prod.mk.injEq] at h
      obtain ⟨rfl, rfl⟩ := h
      have hne : (e0 != 0) = true := bne_iff_ne.mpr he
      clear hv he
      go_enter Tryd.func37, Tryd.ntmps37
      go_wp2_with (first | (go_at_call 45; refine (label_all.calls A0 c0 l0 _ _ HR0.out HC0.out rfl).mono ?_; rintro e w1 ⟨rfl, hb1⟩; rw [HALL.out]) | (go_at_call 35; refine (label_Valid.calls k A1 c1 l1 e0 _ (Kd.C_below HR1.out hb1) HC1.out HV.out).mono ?_; rintro e w2 ⟨rfl, hb2⟩; have hb3 := below_step hb1 hb2; clear hb2))
      go_ret2
      exact ⟨rfl, hb3⟩
    subst he
    rw [if_pos rfl] at h
    simp only [Option.some.injEq, Prod.mk.injEq] at h
    obtain ⟨hr, rfl⟩ := h
    have HRR := Lib.hid hr
    have HKEY := Lib.hid (valid_key l1 k hv)
    clear hv hr
    have h16 : l1.length ≤ 16 := by
      have := HV.out
      unfold label_Valid.f at this
      split at this
      · cases this
      · omega
    go_enter Tryd.func37, Tryd.ntmps37
    go_wp2_with (first | (go_at_call 45; refine (label_all.calls A0 c0 l0 _ _ HR0.out HC0.out rfl).mono ?_; rintro e w1 ⟨rfl, hb1⟩; rw [HALL.out]) | (go_at_call 35; refine (label_Valid.calls k A1 c1 l1 0 _ (Kd.C_below HR1.out hb1) HC1.out HV.out).mono ?_; rintro e w2 ⟨rfl, hb2⟩; have HB2 := Aside0.mk (below_step hb1 hb2); clear hb2 hb1))
    obtain ⟨gm, hgm⟩ : ∃ gm, gm = w2.heap.size := ⟨_, rfl⟩
    have HGM := Lib.hid hgm
    have HGW : w.heap.size ≤ gm := by rw [hgm]; exact HB2.out.size
    have HOWN0 := Aside0.mk (World.ownsMap_made w2 Tryd.prog 9 (plainElem (H := Unit) Tryd.prog 3))
    have HB3 := Aside0.mk (HB2.out.alloc HB2.out.size (.map #[] 0))
    rw [← hgm] at HOWN0
    rw [← hgm]
    clear hgm
    go_loopg [8, 9, 27] l1.length (fun g v8 v9 v27 wr => ∃ i : Nat, v27 = .int .i64 i ∧ i ≤ l1.length ∧ l1.length ≤ i + g ∧ Aside0 (wr.ownsMap Tryd.prog 9 (plainElem (H := Unit) Tryd.prog 3) gm i (putN l1 i)) ∧ Aside0 (Below w.heap.size w wr))
    case atStart => exact ⟨0, rfl, by omega, by omega, HOWN0, HB3⟩
    case round =>
      clear HOWN0 HB3
      obtain ⟨i, rfl, hin, hig, hown, hbw⟩ := hrel
      by_cases hlt : i < l1.length
      · cases gk with
        | zero => omega
        | succ g =>
          obtain ⟨ad, eA, hx0, hx1⟩ := at_T51 HR1.out (i : Int) (by omega) (by omega)
          cases eA
          rw [Int.toNat_natCast] at hx0 hx1
          replace hx0 := (hbw.out.cell (World.block_lt_of_cell? w _ hx0)).trans hx0
          replace hx1 := (hbw.out.cell (World.block_lt_of_cell? w _ hx1)).trans hx1
          have hkey := Lib.hid (keyM (HKEY.out i hlt))
          unfold keyN at hkey
          go_wp2_with (first
            | (at_mapUpdate; refine wpList_mapUpdate_own _ rfl _ _ _ 64 rfl 9 3 lawM Tryd.underlying64 _ gm i _ rfl (hown.out.alloc _) (by unfold maxLen; omega) _ _ _ rfl rfl hkey.out _ [] (plainElem_int Tryd.underlying3 (wf_small _ hlt h16)) ?_; intro w5 hown1 hgrow1; have HO1 := Aside0.mk hown1; have HB1 := Aside0.mk ((hbw.out.alloc hbw.out.size _).grown hgrow1 (hbw.out.alloc hbw.out.size _).size (fun j hj => by cases hj; exact HGW)); clear hown1 hgrow1))
          go_roundg g
          case measure => omega
          case rel => exact ⟨i + 1, by go_num, by omega, by omega, HO1, HB1⟩
      · obtain rfl : i = l1.length := by omega
        go_wp2
        go_loopg [11, 12, 13, 14, 15, 39] l0.length (fun g v11 v12 v13 v14 v15 v39 ws => ∃ j : Nat, v39 = .int .i64 j ∧ j ≤ l0.length ∧ l0.length ≤ j + g ∧ Aside0 (∀ y, y < j → holdB l1 (rd_T45 l0 (y : Int)) = true) ∧ Aside0 (ws.ownsMap Tryd.prog 9 (plainElem (H := Unit) Tryd.prog 3) gm l1.length (putN l1 l1.length)) ∧ Aside0 (Below w.heap.size w ws))
        case atStart => exact ⟨0, rfl, by omega, by omega, ⟨fun y hy => by omega⟩, hown, hbw⟩
        case round =>
          clear hown hbw
          obtain ⟨j, rfl, hjn, hjg, hhold, hown, hbw⟩ := hrel
          by_cases hlt2 : j < l0.length
          · cases gk with
            | zero => omega
            | succ g =>
              obtain ⟨ad, A2, c2, eA, hx0, hx1, hx2, hl2, hi2⟩ := at_T45 HR0.out (j : Int) (by omega) (by omega)
              cases eA
              rw [Int.toNat_natCast] at hx0 hx1 hx2
              replace hx0 := (hbw.out.cell (World.block_lt_of_cell? w _ hx0)).trans hx0
              replace hx1 := (hbw.out.cell (World.block_lt_of_cell? w _ hx1)).trans hx1
              replace hx2 := (hbw.out.cell (World.block_lt_of_cell? w _ hx2)).trans hx2
              have hp := prop_at HP.out j hlt2
              have hon : holdB l1 (rd_T45 l0 (j : Int)) = true → ∀ y, y < j + 1 → holdB l1 (rd_T45 l0 (y : Int)) = true := fun h1 y hy => by
                rcases Nat.lt_or_ge y j with h | h
                · exact hhold.out y h
                · have e : y = j := by omega
                  rw [e]; exact h1
              have HON := Lib.hid hon
              have HOFF := Lib.hid (fun h1 => HRR.out.symm.trans (hold_false (p := holdB l1) j hlt2 h1))
              clear hon hhold
              have HPP := Lib.hid hp
              have hkey := Lib.hid (keyM (prop_key hp))
              have HR2 := Aside0.mk hi2
              have HC2 := Aside0.mk hl2
              clear hi2 hl2 hp
              generalize rd_T45 l0 (j : Int) = t at *
              cases hat : lastN l1 t.f0 l1.length with
              | some jj =>
                have HAT := Lib.hid (putN_at l1 t.f0 (.lit (.int .i64 0)) l1.length jj hat)
                have HHAS := Lib.hid (show Maps.has (putN l1 l1.length) (.string t.f0.data.toList) = true by rw [putN_has, hat]; rfl)
                have hjj := (lastN_lt l1 t.f0 _ _ hat).1
                obtain ⟨ad1, eA1, hy0, hy1⟩ := at_T51 HR1.out (jj : Int) (by omega) (by omega)
                cases eA1
                rw [Int.toNat_natCast] at hy0 hy1
                have HY1 := Lib.hid hy1
                clear hy0 hy1
                have HBW1 := Aside0.mk (hbw.out.alloc hbw.out.size (.cells #[.string t.f0, .int .i64 t.f1, .slice A2 t.f2.length c2] 45))
                rcases prop_how HPP.out with hh | hh | ⟨hh | hh, H8⟩
                · rw [hh] at hx1 HBW1
                  have hy3 := (HBW1.out.cell (World.block_lt_of_cell? w _ HY1.out)).trans HY1.out
                  have HH := Lib.hid (show holdB l1 t = true by unfold holdB; rw [hat]; simp only [hh]; rfl)
                  clear hh hat
                  go_wp2_with (first | (at_lookup; refine lookup_known _ rfl _ _ 64 rfl 9 3 .i64 lawM Tryd.underlying64 Tryd.underlying3 (zeroM _) gm l1.length _ rfl (hown.out.alloc _) _ _ rfl hkey.out (jj : Int) true HAT.out HHAS.out ?_))
                  go_roundg g
                  case measure => omega
                  case rel => exact ⟨j + 1, by go_num, by omega, by omega, ⟨HON.out HH.out⟩, ⟨hown.out.alloc _⟩, HBW1⟩
                · rw [hh] at hx1 HBW1
                  have hy3 := (HBW1.out.cell (World.block_lt_of_cell? w _ HY1.out)).trans HY1.out
                  have HH := Lib.hid (show holdB l1 t = false by unfold holdB; rw [hat]; simp only [hh]; rfl)
                  clear hh hat
                  go_wp2_with (first | (at_lookup; refine lookup_known _ rfl _ _ 64 rfl 9 3 .i64 lawM Tryd.underlying64 Tryd.underlying3 (zeroM _) gm l1.length _ rfl (hown.out.alloc _) _ _ rfl hkey.out (jj : Int) true HAT.out HHAS.out ?_))
                  go_ret2
                  exact ⟨by rw [HOFF.out HH.out]; rfl, HBW1.out⟩
                · rw [hh] at hx1 HBW1
                  have hy3 := (HBW1.out.cell (World.block_lt_of_cell? w _ HY1.out)).trans HY1.out
                  cases hm : memB t.f2 (rd_T51 l1 (jj : Int)).f1 with
                  | true =>
                    have HM := Lib.hid hm
                    have HH := Lib.hid (show holdB l1 t = true by unfold holdB; rw [hat]; simp only [hh, hm]; rfl)
                    clear hm hh hat
                    go_wp2_with (first | (at_lookup; refine lookup_known _ rfl _ _ 64 rfl 9 3 .i64 lawM Tryd.underlying64 Tryd.underlying3 (zeroM _) gm l1.length _ rfl (hown.out.alloc _) _ _ rfl hkey.out (jj : Int) true HAT.out HHAS.out ?_) | (go_at_call 55; refine (contains_at t.f2 t.f2.length (Nat.le_refl _) H8 A2 c2 HC2.out (rd_T51 l1 (jj : Int)).f1 w _ HR2.out HBW1.out).mono ?_; rintro e w4 ⟨rfl, hb4⟩; rw [List.take_length, HM.out]; have hbw5 := Aside0.mk (below_step HBW1.out hb4); have hown5 := Aside0.mk (World.ownsMap.kept (hown.out.alloc _) (grown_of_below hb4) (by simp)); clear hb4))
                    go_roundg g
                    case measure => omega
                    case rel => exact ⟨j + 1, by go_num, by omega, by omega, ⟨HON.out HH.out⟩, hown5, hbw5⟩
                  | false =>
                    have HM := Lib.hid hm
                    have HH := Lib.hid (show holdB l1 t = false by unfold holdB; rw [hat]; simp only [hh, hm]; rfl)
                    clear hm hh hat
                    go_wp2_with (first | (at_lookup; refine lookup_known _ rfl _ _ 64 rfl 9 3 .i64 lawM Tryd.underlying64 Tryd.underlying3 (zeroM _) gm l1.length _ rfl (hown.out.alloc _) _ _ rfl hkey.out (jj : Int) true HAT.out HHAS.out ?_) | (go_at_call 55; refine (contains_at t.f2 t.f2.length (Nat.le_refl _) H8 A2 c2 HC2.out (rd_T51 l1 (jj : Int)).f1 w _ HR2.out HBW1.out).mono ?_; rintro e w4 ⟨rfl, hb4⟩; rw [List.take_length, HM.out]; have hbw5 := Aside0.mk (below_step HBW1.out hb4); have hown5 := Aside0.mk (World.ownsMap.kept (hown.out.alloc _) (grown_of_below hb4) (by simp)); clear hb4))
                    go_ret2
                    exact ⟨by rw [HOFF.out HH.out]; rfl, hbw5.out⟩
                · rw [hh] at hx1 HBW1
                  have hy3 := (HBW1.out.cell (World.block_lt_of_cell? w _ HY1.out)).trans HY1.out
                  cases hm : memB t.f2 (rd_T51 l1 (jj : Int)).f1 with
                  | true =>
                    have HM := Lib.hid hm
                    have HH := Lib.hid (show holdB l1 t = false by unfold holdB; rw [hat]; simp only [hh, hm]; rfl)
                    clear hm hh hat
                    go_wp2_with (first | (at_lookup; refine lookup_known _ rfl _ _ 64 rfl 9 3 .i64 lawM Tryd.underlying64 Tryd.underlying3 (zeroM _) gm l1.length _ rfl (hown.out.alloc _) _ _ rfl hkey.out (jj : Int) true HAT.out HHAS.out ?_) | (go_at_call 55; refine (contains_at t.f2 t.f2.length (Nat.le_refl _) H8 A2 c2 HC2.out (rd_T51 l1 (jj : Int)).f1 w _ HR2.out HBW1.out).mono ?_; rintro e w4 ⟨rfl, hb4⟩; rw [List.take_length, HM.out]; have hbw5 := Aside0.mk (below_step HBW1.out hb4); have hown5 := Aside0.mk (World.ownsMap.kept (hown.out.alloc _) (grown_of_below hb4) (by simp)); clear hb4))
                    go_ret2
                    exact ⟨by rw [HOFF.out HH.out]; rfl, hbw5.out⟩
                  | false =>
                    have HM := Lib.hid hm
                    have HH := Lib.hid (show holdB l1 t = true by unfold holdB; rw [hat]; simp only [hh, hm]; rfl)
                    clear hm hh hat
                    go_wp2_with (first | (at_lookup; refine lookup_known _ rfl _ _ 64 rfl 9 3 .i64 lawM Tryd.underlying64 Tryd.underlying3 (zeroM _) gm l1.length _ rfl (hown.out.alloc _) _ _ rfl hkey.out (jj : Int) true HAT.out HHAS.out ?_) | (go_at_call 55; refine (contains_at t.f2 t.f2.length (Nat.le_refl _) H8 A2 c2 HC2.out (rd_T51 l1 (jj : Int)).f1 w _ HR2.out HBW1.out).mono ?_; rintro e w4 ⟨rfl, hb4⟩; rw [List.take_length, HM.out]; have hbw5 := Aside0.mk (below_step HBW1.out hb4); have hown5 := Aside0.mk (World.ownsMap.kept (hown.out.alloc _) (grown_of_below hb4) (by simp)); clear hb4))
                    go_roundg g
                    case measure => omega
                    case rel => exact ⟨j + 1, by go_num, by omega, by omega, ⟨HON.out HH.out⟩, hown5, hbw5⟩
              | none =>
                have HAT := Lib.hid (putN_none l1 t.f0 (.lit (.int .i64 0)) l1.length hat)
                have HHAS := Lib.hid (show Maps.has (putN l1 l1.length) (.string t.f0.data.toList) = false by rw [putN_has, hat]; rfl)
                have HBW1 := Aside0.mk (hbw.out.alloc hbw.out.size (.cells #[.string t.f0, .int .i64 t.f1, .slice A2 t.f2.length c2] 45))
                rcases prop_how HPP.out with hh | hh | ⟨hh | hh, H8⟩
                · rw [hh] at hx1 HBW1
                  have HH := Lib.hid (show holdB l1 t = false by unfold holdB; rw [hat]; simp only [hh]; rfl)
                  clear hh hat
                  go_wp2_with (first | (at_lookup; refine lookup_known _ rfl _ _ 64 rfl 9 3 .i64 lawM Tryd.underlying64 Tryd.underlying3 (zeroM _) gm l1.length _ rfl (hown.out.alloc _) _ _ rfl hkey.out 0 false HAT.out HHAS.out ?_))
                  go_ret2
                  exact ⟨by rw [HOFF.out HH.out]; rfl, HBW1.out⟩
                · rw [hh] at hx1 HBW1
                  have HH := Lib.hid (show holdB l1 t = true by unfold holdB; rw [hat]; simp only [hh]; rfl)
                  clear hh hat
                  go_wp2_with (first | (at_lookup; refine lookup_known _ rfl _ _ 64 rfl 9 3 .i64 lawM Tryd.underlying64 Tryd.underlying3 (zeroM _) gm l1.length _ rfl (hown.out.alloc _) _ _ rfl hkey.out 0 false HAT.out HHAS.out ?_))
                  go_roundg g
                  case measure => omega
                  case rel => exact ⟨j + 1, by go_num, by omega, by omega, ⟨HON.out HH.out⟩, ⟨hown.out.alloc _⟩, HBW1⟩
                · rw [hh] at hx1 HBW1
                  have HH := Lib.hid (show holdB l1 t = false by unfold holdB; rw [hat]; simp only [hh]; rfl)
                  clear hh hat
                  go_wp2_with (first | (at_lookup; refine lookup_known _ rfl _ _ 64 rfl 9 3 .i64 lawM Tryd.underlying64 Tryd.underlying3 (zeroM _) gm l1.length _ rfl (hown.out.alloc _) _ _ rfl hkey.out 0 false HAT.out HHAS.out ?_))
                  go_ret2
                  exact ⟨by rw [HOFF.out HH.out]; rfl, HBW1.out⟩
                · rw [hh] at hx1 HBW1
                  have HH := Lib.hid (show holdB l1 t = true by unfold holdB; rw [hat]; simp only [hh]; rfl)
                  clear hh hat
                  go_wp2_with (first | (at_lookup; refine lookup_known _ rfl _ _ 64 rfl 9 3 .i64 lawM Tryd.underlying64 Tryd.underlying3 (zeroM _) gm l1.length _ rfl (hown.out.alloc _) _ _ rfl hkey.out 0 false HAT.out HHAS.out ?_))
                  go_roundg g
                  case measure => omega
                  case rel => exact ⟨j + 1, by go_num, by omega, by omega, ⟨HON.out HH.out⟩, ⟨hown.out.alloc _⟩, HBW1⟩
          · obtain rfl : j = l0.length := by omega
            have HF := Lib.hid (HRR.out.symm.trans (hold_true hhold.out))
            clear hhold
            go_wp2
            go_ret2
            exact ⟨by rw [HF.out]; rfl, hbw.out⟩
end Go.Proofs.YteaiobgnhlpblaaDoor.Q
