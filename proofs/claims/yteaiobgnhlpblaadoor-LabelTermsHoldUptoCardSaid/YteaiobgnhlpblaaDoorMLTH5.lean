/- What the statement LabelTermsHoldUptoCardSaid rests on, part 5 of 6: walks and plain laws; what of the printer's words it leans on. -/
import Derived.Test.YteaiobgnhlpblaaDoorMLTH3
import Derived.Test.YteaiobgnhlpblaaDoorMLTH4
import Derived.Maps.OwnSet
import Derived.Maps.Views
namespace Go.Proofs.YteaiobgnhlpblaaDoor.Q
open Go.RowKit Go.Proofs.YteaiobgnhlpblaaDoorW.PrintWords Go.Proofs.YteaiobgnhlpblaaDoorW.PrintLast Go.Proofs.YteaiobgnhlpblaaDoorW.PrintMore
attribute [local go_sem] binOp_leq_ binOp_gtr_ binOp_geq_ max2_int min2_int max_two min_two max_three min_three max_four min_four   -- for this text's walks alone
set_option linter.unusedVariables false
set_option linter.unusedSimpArgs false
def label_Valid.l0 : Nat → List (S51) → List (S51) → Int → Int → Option (Int)
 | 0, _, _, _, _ => none
 | k + 1, x0, x8, x9, x10 => if x10 < x9 then (if 0 ≤ x10 then (if x10 < (x8.length : Int) then ((label_Name.f ((rd_T51 x8 x10).f0)).bind fun t484 => (if t484 = true then ((label_value.f ((rd_T51 x8 x10).f1)).bind fun t485 => (if t485 = true then (if x10 > 0 then (if 0 ≤ (wrap64 (x10 - 1)) then (if (wrap64 (x10 - 1)) < (x0.length : Int) then (if ((Op.bytesLess (((rd_T51 x0 (wrap64 (x10 - 1))).f0).toList) (((rd_T51 x8 x10).f0).toList)) = true) then (label_Valid.l0 k x0 x8 x9 (wrap64 (x10 + 1))) else (some 42)) else (none)) else (none)) else (label_Valid.l0 k x0 x8 x9 (wrap64 (x10 + 1)))) else (some 42))) else (some 42))) else (none)) else (none)) else (some 0)
def label_Valid.f (k : Nat) (l0 : List (S51)) : Option (Int) := if (l0.length : Int) > 16 then (some 42) else (label_Valid.l0 k l0 l0 (l0.length : Int) 0)
theorem label_Valid.mono_l : ∀ k, (∀ y0 y1 y2 y3, LeO (label_Valid.l0 k y0 y1 y2 y3) (label_Valid.l0 (k + 1) y0 y1 y2 y3))
 | 0 => fun _ _ _ _ r h => by simp [label_Valid.l0] at h
 | k + 1 => by
  have ih0 := label_Valid.mono_l k
  ·intro y0 y1 y2 y3
   unfold label_Valid.l0
   repeat' first
   | (with_reducible exact ih0 _ _ _ _)
   | (with_reducible exact LeO.refl _)
   | (with_reducible exact LeO.none _)
   | (with_reducible refine LeO.ite ?_ ?_)
   | (with_reducible refine LeO.bind ?_ (fun _ => ?_))
   | exact ih0 _ _ _ _
   | exact LeO.none _
   | refine LeO.ite ?_ ?_
   | refine LeO.bind ?_ (fun _ => ?_)
theorem label_Valid.mono : ∀ a0 k, LeO (label_Valid.f k a0) (label_Valid.f (k + 1) a0) := by
 intro a0 k
 have ih0 := label_Valid.mono_l k
 unfold label_Valid.f
 repeat' first
   | (with_reducible exact ih0 _ _ _ _)
   | (with_reducible exact LeO.refl _)
   | (with_reducible exact LeO.none _)
   | (with_reducible refine LeO.ite ?_ ?_)
   | (with_reducible refine LeO.bind ?_ (fun _ => ?_))
   | exact ih0 _ _ _ _
   | exact LeO.none _
   | refine LeO.ite ?_ ?_
   | refine LeO.bind ?_ (fun _ => ?_)
def label_Valid.T6 : Bool × List (List Nat × List Nat) := (true, [([], []), ([0], [0]), ([1], [1]), ([2], [2]), ([3, 2], [3]), ([4], [4]), ([5, 4], [4, 5]), ([6, 4, 4], [4, 6]), ([7, 4], [4, 7]), ([4, 8], [4, 8]), ([9, 7], [9]), ([10], [10]), ([11, 10], [10, 11]), ([12, 10, 10], [10, 12]), ([13], [13]), ([13], [13]), ([15, 13], [13, 15]), ([14, 16, 13], [13, 14, 16]), ([17, 13], [13, 17]), ([18, 13], [13, 18]), ([13], [13]), ([20, 13], [13, 20]), ([19, 21, 13], [13, 19, 21]), ([13, 22, 10], [10, 13, 22]), ([10, 23], [10, 23])])
def label_Valid.B6 : List Nat := [0, 1, 3, 7, 15, 31, 63, 127, 255, 511, 1023, 2047, 4095, 8191, 16383, 16383, 49151, 131071, 262143, 524287, 16383, 1064959, 4194303, 8388607, 16777215]
theorem label_Valid.tab6 : rtab .any (opsOf Tryd.f35 6) = label_Valid.T6 := by kernel_rfl
theorem label_Valid.bits6 : waitsOk label_Valid.T6.2 label_Valid.B6 = true := by kernel_rfl
set_option maxHeartbeats 8000000 in
set_option maxRecDepth 100000 in
theorem label_Valid.calls (k : Nat) (A0 : Option Addr) (c0 : Nat) (l0 : List (S51)) (r : Int) (w : World) (hr0 : Kd.C k51 w A0 l0.length l0) (hc0 : l0.length ≤ c0) (h : label_Valid.f k l0 = some r) :
  Calls Tryd.prog 35 #[.slice A0 l0.length c0] w fun e w' => e = .returned (.int .i64 r) ∧ Below w.heap.size w w' := by
 have hu51 := Tryd.underlying51
 have HR0 := Aside0.mk hr0
 have HC0 := Aside0.mk hc0
 clear hr0 hc0
 have HB := Aside0.mk (Below.refl w.heap.size w)
 have H : (if (l0.length : Int) > 16 then (some 42) else (label_Valid.l0 k l0 l0 (l0.length : Int) 0)) = some r := h
 clear h
 by_cases c2 : (l0.length : Int) > 16
 ·rw [if_pos c2] at H
  have c2b0 : decide (16 < (l0.length : Int)) = true := decide_eq_true c2
  have c2b1 : decide (16 < l0.length) = true := decide_eq_true (by omega)
  clear c2
  obtain rfl := Option.some.inj H
  go_enter Tryd.func35, Tryd.ntmps35
  go_wp2
  go_ret
  exact ⟨by first | rfl | (simp [errW_none, errW_some] <;> rfl) | (simp [*, errW_none, errW_some] <;> rfl), by repeat (first | (with_reducible first | exact HB.out | apply below_alloc | apply pw_below_drewN | apply below_drew1) | exact HB.out)⟩
 ·rw [if_neg c2] at H
  have c2b0 : decide (16 < (l0.length : Int)) = false := decide_eq_false c2
  have c2b1 : decide (16 < l0.length) = false := decide_eq_false (by omega)
  clear c2
  have H' := Aside0.mk H
  clear H
  go_enter Tryd.func35, Tryd.ntmps35
  go_wp2
  go_loopg [10] k (fun kq v10 w' => ∃ (x10_1 : Int), v10 = .int .i64 x10_1 ∧ Aside0 (label_Valid.l0 kq l0 l0 (l0.length : Int) x10_1 = some r) ∧ Aside0 (kq ≤ k) ∧ Aside0 (Below w.heap.size w w'))
  case atStart => exact ⟨(0), (by first | rfl | (simp; done) | (simp [*]; done) | (simp; rw [Bool.eq_iff_iff]; simp; done) | (rw [Bool.eq_iff_iff]; simp; done)), H', ⟨Nat.le_refl _⟩, ⟨by repeat (first | (with_reducible first | exact HB.out | apply below_alloc | apply pw_below_drewN | apply below_drew1) | exact HB.out)⟩⟩
  case round =>
   clear H'
   try clear c2
   try clear c2b0
   try clear c2b1
   try clear p2
   obtain ⟨x10_1, rfl, HA, HK1, HB⟩ := hrel
   cases gk with
   | zero => exact absurd HA.out (by simp [label_Valid.l0])
   | succ k1 =>
    have H := HA.out
    clear HA
    simp only [label_Valid.l0] at H
    by_cases c3 : x10_1 < (l0.length : Int)
    ·rw [if_pos c3] at H
     have c3b0 : decide (x10_1 < (l0.length : Int)) = true := decide_eq_true c3
     clear c3
     by_cases c4 : 0 ≤ x10_1
     ·rw [if_pos c4] at H
      have c4b0 : decide (0 ≤ x10_1) = true := decide_eq_true c4
      clear c4
      by_cases c5 : x10_1 < (l0.length : Int)
      ·rw [if_pos c5] at H
       have c5b0 : decide (x10_1 < (l0.length : Int)) = true := decide_eq_true c5
       clear c5
       replace H := Option.bind_eq_some_iff.mp H
       obtain ⟨t484, A60, H⟩ := H
       replace H : (if t484 = true then ((label_value.f ((rd_T51 l0 x10_1).f1)).bind fun t485 => (if t485 = true then (if x10_1 > 0 then (if 0 ≤ (wrap64 (x10_1 - 1)) then (if (wrap64 (x10_1 - 1)) < (l0.length : Int) then (if ((Op.bytesLess (((rd_T51 l0 (wrap64 (x10_1 - 1))).f0).toList) (((rd_T51 l0 x10_1).f0).toList)) = true) then (label_Valid.l0 k1 l0 l0 (l0.length : Int) (wrap64 (x10_1 + 1))) else (some 42)) else (none)) else (none)) else (label_Valid.l0 k1 l0 l0 (l0.length : Int) (wrap64 (x10_1 + 1)))) else (some 42))) else (some 42)) = some r := H
       have A6 := Aside0.mk A60
       clear A60
       by_cases c7 : t484 = true
       ·subst c7
        have H1 : ((label_value.f ((rd_T51 l0 x10_1).f1)).bind fun t485 => (if t485 = true then (if x10_1 > 0 then (if 0 ≤ (wrap64 (x10_1 - 1)) then (if (wrap64 (x10_1 - 1)) < (l0.length : Int) then (if ((Op.bytesLess (((rd_T51 l0 (wrap64 (x10_1 - 1))).f0).toList) (((rd_T51 l0 x10_1).f0).toList)) = true) then (label_Valid.l0 k1 l0 l0 (l0.length : Int) (wrap64 (x10_1 + 1))) else (some 42)) else (none)) else (none)) else (label_Valid.l0 k1 l0 l0 (l0.length : Int) (wrap64 (x10_1 + 1)))) else (some 42))) = some r := by rw [if_pos rfl] at H; exact H
        clear H
        have H := H1
        clear H1
        replace H := Option.bind_eq_some_iff.mp H
        obtain ⟨t485, A80, H⟩ := H
        replace H : (if t485 = true then (if x10_1 > 0 then (if 0 ≤ (wrap64 (x10_1 - 1)) then (if (wrap64 (x10_1 - 1)) < (l0.length : Int) then (if ((Op.bytesLess (((rd_T51 l0 (wrap64 (x10_1 - 1))).f0).toList) (((rd_T51 l0 x10_1).f0).toList)) = true) then (label_Valid.l0 k1 l0 l0 (l0.length : Int) (wrap64 (x10_1 + 1))) else (some 42)) else (none)) else (none)) else (label_Valid.l0 k1 l0 l0 (l0.length : Int) (wrap64 (x10_1 + 1)))) else (some 42)) = some r := H
        have A8 := Aside0.mk A80
        clear A80
        by_cases c9 : t485 = true
        ·subst c9
         have H1 : (if x10_1 > 0 then (if 0 ≤ (wrap64 (x10_1 - 1)) then (if (wrap64 (x10_1 - 1)) < (l0.length : Int) then (if ((Op.bytesLess (((rd_T51 l0 (wrap64 (x10_1 - 1))).f0).toList) (((rd_T51 l0 x10_1).f0).toList)) = true) then (label_Valid.l0 k1 l0 l0 (l0.length : Int) (wrap64 (x10_1 + 1))) else (some 42)) else (none)) else (none)) else (label_Valid.l0 k1 l0 l0 (l0.length : Int) (wrap64 (x10_1 + 1)))) = some r := by rw [if_pos rfl] at H; exact H
         clear H
         have H := H1
         clear H1
         by_cases c10 : x10_1 > 0
         ·rw [if_pos c10] at H
          have c10b0 : decide (0 < x10_1) = true := decide_eq_true c10
          clear c10
          obtain ⟨ji11, hji11⟩ : ∃ j_ : Int, (wrap64 (x10_1 - 1)) = j_ := ⟨_, rfl⟩
          replace H : (if 0 ≤ (ji11) then (if (ji11) < (l0.length : Int) then (if ((Op.bytesLess (((rd_T51 l0 (ji11)).f0).toList) (((rd_T51 l0 x10_1).f0).toList)) = true) then (label_Valid.l0 k1 l0 l0 (l0.length : Int) (wrap64 (x10_1 + 1))) else (some 42)) else (none)) else (none)) = some r := by first | (rw [hji11] at H; exact H) | (simp only [hji11] at H ⊢; exact H)
          (try rw [hji11] at A6)
          (try rw [hji11] at A8)
          have hji11w : (IntKind.i64.wrap (x10_1 - 1)) = ji11 := (i64_w _).trans hji11
          by_cases c12 : 0 ≤ (ji11)
          ·rw [if_pos c12] at H
           have c12b0 : decide (0 ≤ (ji11)) = true := decide_eq_true c12
           clear c12
           by_cases c13 : (ji11) < (l0.length : Int)
           ·rw [if_pos c13] at H
            have c13b0 : decide ((ji11) < (l0.length : Int)) = true := decide_eq_true c13
            clear c13
            by_cases c14 : ((Op.bytesLess (((rd_T51 l0 (ji11)).f0).toList) (((rd_T51 l0 x10_1).f0).toList)) = true)
            ·rw [if_pos c14] at H
             have c14b0 : (Op.bytesLess (((rd_T51 l0 (ji11)).f0).toList) (((rd_T51 l0 x10_1).f0).toList)) = true := c14
             clear c14
             have H' := Aside0.mk H
             clear H
             have p482 : 0 ≤ (x10_1 : Int) := of_decide_eq_true (by first | (with_reducible assumption) | assumption)
             have q482 : x10_1 < (l0.length : Int) := of_decide_eq_true (by first | (with_reducible assumption) | assumption)
             obtain ⟨ad482, e482, hx482_0, hx482_1⟩ := at_T51 HR0.out x10_1 p482 q482
             cases e482
             replace hx482_0 := (HB.out.cell (World.block_lt_of_cell? w _ hx482_0)).trans hx482_0
             replace hx482_1 := (HB.out.cell (World.block_lt_of_cell? w _ hx482_1)).trans hx482_1
             replace p482 := eq_true p482
             replace q482 := eq_true q482
             try go_wp2_with (first | ((with_reducible refine gate_dst (N := 4) rfl ?_); refine box_event ?hg (N := 4) ?hd (cs := #[.string (⟨#[]⟩ : ByteArray), .string (⟨#[]⟩ : ByteArray)]) (t := 51) ?hr ?_; (case hd => rfl); (case hg => rfl); (case hr => first | (go_simp; done) | (go_simp; rfl)); intro gb483 hg w15 hbox hb; have n0_ := Aside0.mk (below_step (by repeat (first | (with_reducible first | exact HB.out | apply below_alloc | apply pw_below_drewN | apply below_drew1) | exact HB.out)) hb); have n1_ := Aside0.mk (hbox); have n2_ := Aside0.mk ((by rw [hg]; exact (below_size (by repeat (first | (with_reducible first | exact HB.out | apply below_alloc | apply pw_below_drewN | apply below_drew1) | exact HB.out))) : w.heap.size ≤ gb483)); have n3_ := Aside0.mk ((by rw [hg]; exact (below_size (by repeat (first | (with_reducible first | exact HB.out | apply below_alloc | apply pw_below_drewN | apply below_drew1) | exact HB.out))) : w.heap.size ≤ gb483)); clear HB; have HB := n0_; have BK483 := n1_; have GW483 := n2_; have GE483 := n3_; clear n0_ n1_ n2_ n3_; clear hb hbox hg; have hcz16_0 : w15.cell? ⟨gb483, 0, none⟩ = some (.string (⟨#[]⟩ : ByteArray)) := (blk_cell BK483.out 0).trans rfl; have hcz16_1 : w15.cell? ⟨gb483, 1, none⟩ = some (.string (⟨#[]⟩ : ByteArray)) := (blk_cell BK483.out 1).trans rfl; have hfz16_0 := blk_frozen BK483.out 0; have hfz16_1 := blk_frozen BK483.out 1))
             have n0_ : Aside0 (((w15.setCell ⟨gb483, 0, none⟩ (.string ((rd_T51 l0 x10_1).f0))).setCell ⟨gb483, 1, none⟩ (.string ((rd_T51 l0 x10_1).f1))).heap[gb483]? = some (.cells #[.string ((rd_T51 l0 x10_1).f0), .string ((rd_T51 l0 x10_1).f1)] 51 (0, 0))) := ⟨by (with_reducible repeat (first | refine blk_drewN ?_ _ | refine blk_drew ?_ | refine blk_alloc ?_ _)); refine blk_put (cs := #[.string ((rd_T51 l0 x10_1).f0), .string (⟨#[]⟩ : ByteArray)]) ?_ 1 _ rfl; (with_reducible repeat (first | refine blk_drewN ?_ _ | refine blk_drew ?_ | refine blk_alloc ?_ _)); refine blk_put (cs := #[.string (⟨#[]⟩ : ByteArray), .string (⟨#[]⟩ : ByteArray)]) ?_ 0 _ rfl; (with_reducible repeat (first | refine blk_drewN ?_ _ | refine blk_drew ?_ | refine blk_alloc ?_ _)); exact BK483.out⟩
             have n1_ : Aside0 (Below w.heap.size w ((w15.setCell ⟨gb483, 0, none⟩ (.string ((rd_T51 l0 x10_1).f0))).setCell ⟨gb483, 1, none⟩ (.string ((rd_T51 l0 x10_1).f1)))) := ⟨by repeat (first | (with_reducible first | exact HB.out | apply below_alloc | apply pw_below_drewN | apply below_drew1 | refine below_set ?_ GE483.out) | exact HB.out)⟩
             (try clear BK483)
             (try clear HB)
             generalize ((w15.setCell ⟨gb483, 0, none⟩ (.string ((rd_T51 l0 x10_1).f0))).setCell ⟨gb483, 1, none⟩ (.string ((rd_T51 l0 x10_1).f1))) = w17 at n0_ n1_ ⊢
             have BK483 := n0_
             have HB := n1_
             clear n0_ n1_
             have n0_ := Aside0.mk (blk_drew BK483.out)
             have n1_ := Aside0.mk (below_drew1 HB.out)
             clear BK483
             clear HB
             have BK483 := n0_
             have HB := n1_
             clear n0_ n1_
             have p486 : 0 ≤ ((ji11) : Int) := of_decide_eq_true (by first | (with_reducible assumption) | assumption)
             have q486 : (ji11) < (l0.length : Int) := of_decide_eq_true (by first | (with_reducible assumption) | assumption)
             obtain ⟨ad486, e486, hx486_0, hx486_1⟩ := at_T51 HR0.out (ji11) p486 q486
             have hw486_1 := hx486_1
             have hw486_0 := hx486_0
             obtain rfl : ad482 = ad486 := (by injection e486)
             replace hx486_0 := (HB.out.cell (World.block_lt_of_cell? w _ hx486_0)).trans hx486_0
             replace hx486_1 := (HB.out.cell (World.block_lt_of_cell? w _ hx486_1)).trans hx486_1
             replace p486 := eq_true p486
             replace q486 := eq_true q486
             refine start_ (n := 25) (S := fun w' => w'.cell? ⟨gb483, 0, none⟩ = some (.string ((rd_T51 l0 x10_1).f0)) ∧ w'.cell? ⟨gb483, 1, none⟩ = some (.string ((rd_T51 l0 x10_1).f1)) ∧ w'.cell? (ad482.add (((ji11)).toNat * 2)) = some (.string ((rd_T51 l0 (ji11)).f0)) ∧ w'.cell? ⟨(ad482.add (((ji11)).toNat * 2)).block, (ad482.add (((ji11)).toNat * 2)).off + 1, none⟩ = some (.string ((rd_T51 l0 (ji11)).f1))) (ds := []) (bl 0 25) (by kernel_rfl) rfl rfl ⟨(blk_cell BK483.out 0).trans rfl, (blk_cell BK483.out 1).trans rfl, ((HB.out.cell (World.block_lt_of_cell? w _ hw486_0)).trans hw486_0), ((HB.out.cell (World.block_lt_of_cell? w _ hw486_1)).trans hw486_1)⟩ (fun hHeld => ?_); refine with_tabW label_Valid.tab6 label_Valid.bits6 (fun HT_ HW_ => ?_)
             generalize w17.drew = w18 at BK483 HB hx486_0 hx486_1 hHeld ⊢
             refine pure_ (i := 0) (N := some 15) (v := ?_) (a' := ?_) (bl 1 24) rfl rfl (any_of HT_.out (by kernel_rfl)) (fun _ _ _ h => h) (Or.inl ⟨by rfl, ?_⟩) ?_ ?_
             rotate_left
             ·intro w'
              go_simp
              with_reducible rfl
             rotate_left
             ·simp only [Act.put, List.setIfInBounds_toArray, List.set_cons_zero, List.set_cons_succ, i64_w, i32_w]
              rfl
             refine take_ (i := 1) (N := some 16) (v := ?_) (a' := ?_) (bl 2 23) rfl rfl (take_ofW HT_.out HW_.out (by kernel_rfl)) (fun _ _ _ h => h) (Or.inl ⟨by rfl, ?_⟩) hHeld ?_ ?_
             rotate_left
             ·rintro w' ⟨s0, s1, s2, s3⟩
              go_simp
              with_reducible rfl
             rotate_left
             ·simp only [Act.put, List.setIfInBounds_toArray, List.set_cons_zero, List.set_cons_succ, i64_w, i32_w]
              rfl
             refine one_ (i := 2) (N := some 17) (bl 3 22) rfl rfl (one_of HT_.out (by kernel_rfl)) (by decide) (fun K hK => ?_)
             refine goes_ Tryd.func18 (by kernel_rfl) rfl #[.string ((rd_T51 l0 x10_1).f0)] (by rfl) rfl rfl (by (try simp only [List.map_toArray, List.map_cons, List.map_nil]); first | done | rfl | (simp only [List.length_drop, List.length_take]; rfl)) ?_
             with_reducible refine (label_Name.calls ((rd_T51 l0 x10_1).f0) true _ A6.out).mono ?_
             rintro e w19 ⟨rfl, hb⟩
             refine ⟨_, rfl, ?_⟩
             have n0_ := Aside0.mk (blk_below (g := gb483) (o := .cells #[.string ((rd_T51 l0 x10_1).f0), .string ((rd_T51 l0 x10_1).f1)] 51 (0, 0)) (by (with_reducible repeat (first | refine blk_drewN ?_ _ | refine blk_drew ?_ | refine blk_alloc ?_ _)); exact BK483.out) hb)
             have n1_ := Aside0.mk (below_step (by repeat (first | (with_reducible first | exact HB.out | apply below_alloc | apply pw_below_drewN | apply below_drew1 | refine below_set ?_ GE483.out) | exact HB.out)) hb)
             clear BK483
             clear HB
             have BK483 := n0_
             have HB := n1_
             clear n0_ n1_
             (try clear hb)
             (try clear hb2)
             (try clear hk)
             (try clear hi)
             refine hK.out _ _ ⟨(blk_cell BK483.out 0).trans rfl, (blk_cell BK483.out 1).trans rfl, ((HB.out.cell (World.block_lt_of_cell? w _ hw486_0)).trans hw486_0), ((HB.out.cell (World.block_lt_of_cell? w _ hw486_1)).trans hw486_1)⟩ (fun hHeld => ?_)
             clear hK K
             refine norm_ (a' := ?_) ?_ ?_
             rotate_left
             ·show Act.put _ (some 17) _ = _
              simp only [Act.put, List.setIfInBounds_toArray, List.set_cons_zero, List.set_cons_succ, i64_w, i32_w]
              rfl
             refine pure_ (i := 3) (N := some 18) (v := ?_) (a' := ?_) (bl 4 21) rfl rfl (any_of HT_.out (by kernel_rfl)) (fun _ _ _ h => h) (Or.inl ⟨by rfl, ?_⟩) ?_ ?_
             rotate_left
             ·intro w'
              go_simp
              with_reducible rfl
             rotate_left
             ·simp only [Act.put, List.setIfInBounds_toArray, List.set_cons_zero, List.set_cons_succ, i64_w, i32_w]
              rfl
             refine pure_ (i := 4) (N := some 19) (v := ?_) (a' := ?_) (bl 5 20) rfl rfl (any_of HT_.out (by kernel_rfl)) (fun _ _ _ h => h) (Or.inl ⟨by rfl, ?_⟩) ?_ ?_
             rotate_left
             ·intro w'
              go_simp
              with_reducible rfl
             rotate_left
             ·simp only [Act.put, List.setIfInBounds_toArray, List.set_cons_zero, List.set_cons_succ, i64_w, i32_w]
              rfl
             refine pure_ (i := 5) (N := some 20) (v := ?_) (a' := ?_) (bl 6 19) rfl rfl (any_of HT_.out (by kernel_rfl)) (fun _ _ _ h => h) (Or.inl ⟨by rfl, ?_⟩) ?_ ?_
             rotate_left
             ·intro w'
              go_simp
              with_reducible rfl
             rotate_left
             ·simp only [Act.put, List.setIfInBounds_toArray, List.set_cons_zero, List.set_cons_succ, i64_w, i32_w]
              rfl
             refine take_ (i := 6) (N := some 21) (v := ?_) (a' := ?_) (bl 7 18) rfl rfl (take_ofW HT_.out HW_.out (by kernel_rfl)) (fun _ _ _ h => h) (Or.inl ⟨by rfl, ?_⟩) hHeld ?_ ?_
             rotate_left
             ·rintro w' ⟨s0, s1, s2, s3⟩
              go_simp
              with_reducible rfl
             rotate_left
             ·simp only [Act.put, List.setIfInBounds_toArray, List.set_cons_zero, List.set_cons_succ, i64_w, i32_w]
              rfl
             refine one_ (i := 7) (N := some 22) (bl 8 17) rfl rfl (one_of HT_.out (by kernel_rfl)) (by decide) (fun K hK => ?_)
             refine goes_ Tryd.func54 (by kernel_rfl) rfl #[.string ((rd_T51 l0 x10_1).f1)] (by rfl) rfl rfl (by (try simp only [List.map_toArray, List.map_cons, List.map_nil]); first | done | rfl | (simp only [List.length_drop, List.length_take]; rfl)) ?_
             with_reducible refine (label_value.calls ((rd_T51 l0 x10_1).f1) true _ A8.out).mono ?_
             rintro e w20 ⟨rfl, hb⟩
             refine ⟨_, rfl, ?_⟩
             have n0_ := Aside0.mk (blk_below (g := gb483) (o := .cells #[.string ((rd_T51 l0 x10_1).f0), .string ((rd_T51 l0 x10_1).f1)] 51 (0, 0)) (by (with_reducible repeat (first | refine blk_drewN ?_ _ | refine blk_drew ?_ | refine blk_alloc ?_ _)); exact BK483.out) hb)
             have n1_ := Aside0.mk (below_step (by repeat (first | (with_reducible first | exact HB.out | apply below_alloc | apply pw_below_drewN | apply below_drew1 | refine below_set ?_ GE483.out) | exact HB.out)) hb)
             clear BK483
             clear HB
             have BK483 := n0_
             have HB := n1_
             clear n0_ n1_
             (try clear hb)
             (try clear hb2)
             (try clear hk)
             (try clear hi)
             refine hK.out _ _ ⟨(blk_cell BK483.out 0).trans rfl, (blk_cell BK483.out 1).trans rfl, ((HB.out.cell (World.block_lt_of_cell? w _ hw486_0)).trans hw486_0), ((HB.out.cell (World.block_lt_of_cell? w _ hw486_1)).trans hw486_1)⟩ (fun hHeld => ?_)
             clear hK K
             refine norm_ (a' := ?_) ?_ ?_
             rotate_left
             ·show Act.put _ (some 22) _ = _
              simp only [Act.put, List.setIfInBounds_toArray, List.set_cons_zero, List.set_cons_succ, i64_w, i32_w]
              rfl
             refine pure_ (i := 8) (N := some 23) (v := ?_) (a' := ?_) (bl 9 16) rfl rfl (any_of HT_.out (by kernel_rfl)) (fun _ _ _ h => h) (Or.inl ⟨by rfl, ?_⟩) ?_ ?_
             rotate_left
             ·intro w'
              go_simp
              with_reducible rfl
             rotate_left
             ·simp only [Act.put, List.setIfInBounds_toArray, List.set_cons_zero, List.set_cons_succ, i64_w, i32_w]
              rfl
             refine pure_ (i := 9) (N := some 24) (v := ?_) (a' := ?_) (bl 10 15) rfl rfl (any_of HT_.out (by kernel_rfl)) (fun _ _ _ h => h) (Or.inl ⟨by rfl, ?_⟩) ?_ ?_
             rotate_left
             ·intro w'
              go_simp
              with_reducible rfl
             rotate_left
             ·simp only [Act.put, List.setIfInBounds_toArray, List.set_cons_zero, List.set_cons_succ, i64_w, i32_w]
              rfl
             refine pure_ (i := 10) (N := some 25) (v := ?_) (a' := ?_) (bl 11 14) rfl rfl (any_of HT_.out (by kernel_rfl)) (fun _ _ _ h => h) (Or.inl ⟨by rfl, ?_⟩) ?_ ?_
             rotate_left
             ·intro w'
              go_simp
              with_reducible rfl
             rotate_left
             ·simp only [Act.put, List.setIfInBounds_toArray, List.set_cons_zero, List.set_cons_succ, i64_w, i32_w]
              rfl
             refine pure_ (i := 11) (N := some 26) (v := ?_) (a' := ?_) (bl 12 13) rfl rfl (any_of HT_.out (by kernel_rfl)) (fun _ _ _ h => h) (Or.inl ⟨by rfl, ?_⟩) ?_ ?_
             rotate_left
             ·intro w'
              go_simp
              with_reducible rfl
             rotate_left
             ·simp only [Act.put, List.setIfInBounds_toArray, List.set_cons_zero, List.set_cons_succ, i64_w, i32_w]
              rfl
             refine pure_ (i := 12) (N := some 27) (v := ?_) (a' := ?_) (bl 13 12) rfl rfl (any_of HT_.out (by kernel_rfl)) (fun _ _ _ h => h) (Or.inl ⟨by rfl, ?_⟩) ?_ ?_
             rotate_left
             ·intro w'
              go_simp
              with_reducible rfl
             rotate_left
             ·simp only [Act.put, List.setIfInBounds_toArray, List.set_cons_zero, List.set_cons_succ, i64_w, i32_w]
              rfl
             refine pure_ (i := 13) (N := some 28) (v := ?_) (a' := ?_) (bl 14 11) rfl rfl (any_of HT_.out (by kernel_rfl)) (fun _ _ _ h => h) (Or.inl ⟨by rfl, ?_⟩) ?_ ?_
             rotate_left
             ·intro w'
              go_simp
              with_reducible rfl
             rotate_left
             ·simp only [Act.put, List.setIfInBounds_toArray, List.set_cons_zero, List.set_cons_succ, i64_w, i32_w]
              rfl
             refine pure_ (i := 14) (N := some 29) (v := ?_) (a' := ?_) (bl 15 10) rfl rfl (any_of HT_.out (by kernel_rfl)) (fun _ _ _ h => h) (Or.inl ⟨by rfl, ?_⟩) ?_ ?_
             rotate_left
             ·intro w'
              go_simp
              with_reducible rfl
             rotate_left
             ·simp only [Act.put, List.setIfInBounds_toArray, List.set_cons_zero, List.set_cons_succ, i64_w, i32_w]
              rfl
             refine pure_ (i := 15) (N := some 30) (v := ?_) (a' := ?_) (bl 16 9) rfl rfl (any_of HT_.out (by kernel_rfl)) (fun _ _ _ h => h) (Or.inl ⟨by rfl, ?_⟩) ?_ ?_
             rotate_left
             ·intro w'
              go_simp
              with_reducible rfl
             rotate_left
             ·simp only [Act.put, List.setIfInBounds_toArray, List.set_cons_zero, List.set_cons_succ, i64_w, i32_w]
              rfl
             refine pure_ (i := 16) (N := some 31) (v := ?_) (a' := ?_) (bl 17 8) rfl rfl (any_of HT_.out (by kernel_rfl)) (fun _ _ _ h => h) (Or.inl ⟨by rfl, ?_⟩) ?_ ?_
             rotate_left
             ·intro w'
              go_simp
              with_reducible rfl
             rotate_left
             ·simp only [Act.put, List.setIfInBounds_toArray, List.set_cons_zero, List.set_cons_succ, i64_w, i32_w]
              rfl
             refine pure_ (i := 17) (N := some 32) (v := ?_) (a' := ?_) (bl 18 7) rfl rfl (any_of HT_.out (by kernel_rfl)) (fun _ _ _ h => h) (Or.inl ⟨by rfl, ?_⟩) ?_ ?_
             rotate_left
             ·intro w'
              go_simp
              with_reducible rfl
             rotate_left
             ·simp only [Act.put, List.setIfInBounds_toArray, List.set_cons_zero, List.set_cons_succ, i64_w, i32_w]
              rfl
             refine pure_ (i := 18) (N := some 33) (v := ?_) (a' := ?_) (bl 19 6) rfl rfl (any_of HT_.out (by kernel_rfl)) (fun _ _ _ h => h) (Or.inl ⟨by rfl, ?_⟩) ?_ ?_
             rotate_left
             ·intro w'
              go_simp
              with_reducible rfl
             rotate_left
             ·simp only [Act.put, List.setIfInBounds_toArray, List.set_cons_zero, List.set_cons_succ, i64_w, i32_w]
              rfl
             refine pure_ (i := 20) (N := some 35) (v := ?_) (a' := ?_) #[true, true, true, true, true, true, true, true, true, true, true, true, true, true, true, true, true, true, true, false, true, false, false, false, false] rfl rfl (any_of HT_.out (by kernel_rfl)) (fun _ _ _ h => h) (Or.inl ⟨by rfl, ?_⟩) ?_ ?_
             rotate_left
             ·intro w'
              go_simp
              with_reducible rfl
             rotate_left
             ·simp only [Act.put, List.setIfInBounds_toArray, List.set_cons_zero, List.set_cons_succ, i64_w, i32_w]
              rfl
             refine take_ (i := 19) (N := some 34) (v := ?_) (a' := ?_) (bl 21 4) rfl rfl (take_ofW HT_.out HW_.out (by kernel_rfl)) (fun _ _ _ h => h) (Or.inl ⟨by rfl, ?_⟩) hHeld ?_ ?_
             rotate_left
             ·rintro w' ⟨s0, s1, s2, s3⟩
              go_simp
              with_reducible rfl
             rotate_left
             ·simp only [Act.put, List.setIfInBounds_toArray, List.set_cons_zero, List.set_cons_succ, i64_w, i32_w]
              rfl
             refine take_ (i := 21) (N := some 36) (v := ?_) (a' := ?_) (bl 22 3) rfl rfl (take_ofW HT_.out HW_.out (by kernel_rfl)) (fun _ _ _ h => h) (Or.inl ⟨by rfl, ?_⟩) hHeld ?_ ?_
             rotate_left
             ·rintro w' ⟨s0, s1, s2, s3⟩
              go_simp
              with_reducible rfl
             rotate_left
             ·simp only [Act.put, List.setIfInBounds_toArray, List.set_cons_zero, List.set_cons_succ, i64_w, i32_w]
              rfl
             refine pure_ (i := 22) (N := some 37) (v := ?_) (a' := ?_) (bl 23 2) rfl rfl (any_of HT_.out (by kernel_rfl)) (fun _ _ _ h => h) (Or.inl ⟨by rfl, ?_⟩) ?_ ?_
             rotate_left
             ·intro w'
              go_simp
              with_reducible rfl
             rotate_left
             ·simp only [Act.put, List.setIfInBounds_toArray, List.set_cons_zero, List.set_cons_succ, i64_w, i32_w]
              rfl
             refine pure_ (i := 23) (N := some 38) (v := ?_) (a' := ?_) (bl 24 1) rfl rfl (any_of HT_.out (by kernel_rfl)) (fun _ _ _ h => h) (Or.inl ⟨by rfl, ?_⟩) ?_ ?_
             rotate_left
             ·intro w'
              go_simp
              with_reducible rfl
             rotate_left
             ·simp only [Act.put, List.setIfInBounds_toArray, List.set_cons_zero, List.set_cons_succ, i64_w, i32_w]
              rfl
             refine pure_ (i := 24) (N := some 39) (v := ?_) (a' := ?_) (bl 25 0) rfl rfl (any_of HT_.out (by kernel_rfl)) (fun _ _ _ h => h) (Or.inl ⟨by rfl, ?_⟩) ?_ ?_
             rotate_left
             ·intro w'
              go_simp
              with_reducible rfl
             rotate_left
             ·simp only [Act.put, List.setIfInBounds_toArray, List.set_cons_zero, List.set_cons_succ, i64_w, i32_w]
              rfl
             refine done_ (done_of HT_.out (by kernel_rfl)) ?_
             try go_wp2
             go_roundg k1
             case measure => have := HK1.out; omega
             case rel => exact ⟨(wrap64 (x10_1 + 1)), (by first | rfl | (simp; done) | (simp [*]; done) | (simp; rw [Bool.eq_iff_iff]; simp; done) | (rw [Bool.eq_iff_iff]; simp; done)), H', ⟨by have := HK1.out; omega⟩, ⟨by repeat (first | (with_reducible first | exact HB.out | apply below_alloc | apply pw_below_drewN | apply below_drew1 | refine below_set ?_ GE483.out) | exact HB.out)⟩⟩
            ·rw [if_neg c14] at H
             have c14b0 : (Op.bytesLess (((rd_T51 l0 (ji11)).f0).toList) (((rd_T51 l0 x10_1).f0).toList)) = false := by simpa using c14
             clear c14
             obtain rfl := Option.some.inj H
             have p482 : 0 ≤ (x10_1 : Int) := of_decide_eq_true (by first | (with_reducible assumption) | assumption)
             have q482 : x10_1 < (l0.length : Int) := of_decide_eq_true (by first | (with_reducible assumption) | assumption)
             obtain ⟨ad482, e482, hx482_0, hx482_1⟩ := at_T51 HR0.out x10_1 p482 q482
             cases e482
             replace hx482_0 := (HB.out.cell (World.block_lt_of_cell? w _ hx482_0)).trans hx482_0
             replace hx482_1 := (HB.out.cell (World.block_lt_of_cell? w _ hx482_1)).trans hx482_1
             replace p482 := eq_true p482
             replace q482 := eq_true q482
             try go_wp2_with (first | ((with_reducible refine gate_dst (N := 4) rfl ?_); refine box_event ?hg (N := 4) ?hd (cs := #[.string (⟨#[]⟩ : ByteArray), .string (⟨#[]⟩ : ByteArray)]) (t := 51) ?hr ?_; (case hd => rfl); (case hg => rfl); (case hr => first | (go_simp; done) | (go_simp; rfl)); intro gb483 hg w21 hbox hb; have n0_ := Aside0.mk (below_step (by repeat (first | (with_reducible first | exact HB.out | apply below_alloc | apply pw_below_drewN | apply below_drew1) | exact HB.out)) hb); have n1_ := Aside0.mk (hbox); have n2_ := Aside0.mk ((by rw [hg]; exact (below_size (by repeat (first | (with_reducible first | exact HB.out | apply below_alloc | apply pw_below_drewN | apply below_drew1) | exact HB.out))) : w.heap.size ≤ gb483)); have n3_ := Aside0.mk ((by rw [hg]; exact (below_size (by repeat (first | (with_reducible first | exact HB.out | apply below_alloc | apply pw_below_drewN | apply below_drew1) | exact HB.out))) : w.heap.size ≤ gb483)); clear HB; have HB := n0_; have BK483 := n1_; have GW483 := n2_; have GE483 := n3_; clear n0_ n1_ n2_ n3_; clear hb hbox hg; have hcz22_0 : w21.cell? ⟨gb483, 0, none⟩ = some (.string (⟨#[]⟩ : ByteArray)) := (blk_cell BK483.out 0).trans rfl; have hcz22_1 : w21.cell? ⟨gb483, 1, none⟩ = some (.string (⟨#[]⟩ : ByteArray)) := (blk_cell BK483.out 1).trans rfl; have hfz22_0 := blk_frozen BK483.out 0; have hfz22_1 := blk_frozen BK483.out 1))
             have n0_ : Aside0 (((w21.setCell ⟨gb483, 0, none⟩ (.string ((rd_T51 l0 x10_1).f0))).setCell ⟨gb483, 1, none⟩ (.string ((rd_T51 l0 x10_1).f1))).heap[gb483]? = some (.cells #[.string ((rd_T51 l0 x10_1).f0), .string ((rd_T51 l0 x10_1).f1)] 51 (0, 0))) := ⟨by (with_reducible repeat (first | refine blk_drewN ?_ _ | refine blk_drew ?_ | refine blk_alloc ?_ _)); refine blk_put (cs := #[.string ((rd_T51 l0 x10_1).f0), .string (⟨#[]⟩ : ByteArray)]) ?_ 1 _ rfl; (with_reducible repeat (first | refine blk_drewN ?_ _ | refine blk_drew ?_ | refine blk_alloc ?_ _)); refine blk_put (cs := #[.string (⟨#[]⟩ : ByteArray), .string (⟨#[]⟩ : ByteArray)]) ?_ 0 _ rfl; (with_reducible repeat (first | refine blk_drewN ?_ _ | refine blk_drew ?_ | refine blk_alloc ?_ _)); exact BK483.out⟩
             have n1_ : Aside0 (Below w.heap.size w ((w21.setCell ⟨gb483, 0, none⟩ (.string ((rd_T51 l0 x10_1).f0))).setCell ⟨gb483, 1, none⟩ (.string ((rd_T51 l0 x10_1).f1)))) := ⟨by repeat (first | (with_reducible first | exact HB.out | apply below_alloc | apply pw_below_drewN | apply below_drew1 | refine below_set ?_ GE483.out) | exact HB.out)⟩
             (try clear BK483)
             (try clear HB)
             generalize ((w21.setCell ⟨gb483, 0, none⟩ (.string ((rd_T51 l0 x10_1).f0))).setCell ⟨gb483, 1, none⟩ (.string ((rd_T51 l0 x10_1).f1))) = w23 at n0_ n1_ ⊢
             have BK483 := n0_
             have HB := n1_
             clear n0_ n1_
             have n0_ := Aside0.mk (blk_drew BK483.out)
             have n1_ := Aside0.mk (below_drew1 HB.out)
             clear BK483
             clear HB
             have BK483 := n0_
             have HB := n1_
             clear n0_ n1_
             have p486 : 0 ≤ ((ji11) : Int) := of_decide_eq_true (by first | (with_reducible assumption) | assumption)
             have q486 : (ji11) < (l0.length : Int) := of_decide_eq_true (by first | (with_reducible assumption) | assumption)
             obtain ⟨ad486, e486, hx486_0, hx486_1⟩ := at_T51 HR0.out (ji11) p486 q486
             have hw486_1 := hx486_1
             have hw486_0 := hx486_0
             obtain rfl : ad482 = ad486 := (by injection e486)
             replace hx486_0 := (HB.out.cell (World.block_lt_of_cell? w _ hx486_0)).trans hx486_0
             replace hx486_1 := (HB.out.cell (World.block_lt_of_cell? w _ hx486_1)).trans hx486_1
             replace p486 := eq_true p486
             replace q486 := eq_true q486
             refine start_ (n := 25) (S := fun w' => w'.cell? ⟨gb483, 0, none⟩ = some (.string ((rd_T51 l0 x10_1).f0)) ∧ w'.cell? ⟨gb483, 1, none⟩ = some (.string ((rd_T51 l0 x10_1).f1)) ∧ w'.cell? (ad482.add (((ji11)).toNat * 2)) = some (.string ((rd_T51 l0 (ji11)).f0)) ∧ w'.cell? ⟨(ad482.add (((ji11)).toNat * 2)).block, (ad482.add (((ji11)).toNat * 2)).off + 1, none⟩ = some (.string ((rd_T51 l0 (ji11)).f1))) (ds := []) (bl 0 25) (by kernel_rfl) rfl rfl ⟨(blk_cell BK483.out 0).trans rfl, (blk_cell BK483.out 1).trans rfl, ((HB.out.cell (World.block_lt_of_cell? w _ hw486_0)).trans hw486_0), ((HB.out.cell (World.block_lt_of_cell? w _ hw486_1)).trans hw486_1)⟩ (fun hHeld => ?_); refine with_tabW label_Valid.tab6 label_Valid.bits6 (fun HT_ HW_ => ?_)
             generalize w23.drew = w24 at BK483 HB hx486_0 hx486_1 hHeld ⊢
             refine pure_ (i := 0) (N := some 15) (v := ?_) (a' := ?_) (bl 1 24) rfl rfl (any_of HT_.out (by kernel_rfl)) (fun _ _ _ h => h) (Or.inl ⟨by rfl, ?_⟩) ?_ ?_
             rotate_left
             ·intro w'
              go_simp
              with_reducible rfl
             rotate_left
             ·simp only [Act.put, List.setIfInBounds_toArray, List.set_cons_zero, List.set_cons_succ, i64_w, i32_w]
              rfl
             refine take_ (i := 1) (N := some 16) (v := ?_) (a' := ?_) (bl 2 23) rfl rfl (take_ofW HT_.out HW_.out (by kernel_rfl)) (fun _ _ _ h => h) (Or.inl ⟨by rfl, ?_⟩) hHeld ?_ ?_
             rotate_left
             ·rintro w' ⟨s0, s1, s2, s3⟩
              go_simp
              with_reducible rfl
             rotate_left
             ·simp only [Act.put, List.setIfInBounds_toArray, List.set_cons_zero, List.set_cons_succ, i64_w, i32_w]
              rfl
             refine one_ (i := 2) (N := some 17) (bl 3 22) rfl rfl (one_of HT_.out (by kernel_rfl)) (by decide) (fun K hK => ?_)
             refine goes_ Tryd.func18 (by kernel_rfl) rfl #[.string ((rd_T51 l0 x10_1).f0)] (by rfl) rfl rfl (by (try simp only [List.map_toArray, List.map_cons, List.map_nil]); first | done | rfl | (simp only [List.length_drop, List.length_take]; rfl)) ?_
             with_reducible refine (label_Name.calls ((rd_T51 l0 x10_1).f0) true _ A6.out).mono ?_
             rintro e w25 ⟨rfl, hb⟩
             refine ⟨_, rfl, ?_⟩
             have n0_ := Aside0.mk (blk_below (g := gb483) (o := .cells #[.string ((rd_T51 l0 x10_1).f0), .string ((rd_T51 l0 x10_1).f1)] 51 (0, 0)) (by (with_reducible repeat (first | refine blk_drewN ?_ _ | refine blk_drew ?_ | refine blk_alloc ?_ _)); exact BK483.out) hb)
             have n1_ := Aside0.mk (below_step (by repeat (first | (with_reducible first | exact HB.out | apply below_alloc | apply pw_below_drewN | apply below_drew1 | refine below_set ?_ GE483.out) | exact HB.out)) hb)
             clear BK483
             clear HB
             have BK483 := n0_
             have HB := n1_
             clear n0_ n1_
             (try clear hb)
             (try clear hb2)
             (try clear hk)
             (try clear hi)
             refine hK.out _ _ ⟨(blk_cell BK483.out 0).trans rfl, (blk_cell BK483.out 1).trans rfl, ((HB.out.cell (World.block_lt_of_cell? w _ hw486_0)).trans hw486_0), ((HB.out.cell (World.block_lt_of_cell? w _ hw486_1)).trans hw486_1)⟩ (fun hHeld => ?_)
             clear hK K
             refine norm_ (a' := ?_) ?_ ?_
             rotate_left
             ·show Act.put _ (some 17) _ = _
              simp only [Act.put, List.setIfInBounds_toArray, List.set_cons_zero, List.set_cons_succ, i64_w, i32_w]
              rfl
             refine pure_ (i := 3) (N := some 18) (v := ?_) (a' := ?_) (bl 4 21) rfl rfl (any_of HT_.out (by kernel_rfl)) (fun _ _ _ h => h) (Or.inl ⟨by rfl, ?_⟩) ?_ ?_
             rotate_left
             ·intro w'
              go_simp
              with_reducible rfl
             rotate_left
             ·simp only [Act.put, List.setIfInBounds_toArray, List.set_cons_zero, List.set_cons_succ, i64_w, i32_w]
              rfl
             refine pure_ (i := 4) (N := some 19) (v := ?_) (a' := ?_) (bl 5 20) rfl rfl (any_of HT_.out (by kernel_rfl)) (fun _ _ _ h => h) (Or.inl ⟨by rfl, ?_⟩) ?_ ?_
             rotate_left
             ·intro w'
              go_simp
              with_reducible rfl
             rotate_left
             ·simp only [Act.put, List.setIfInBounds_toArray, List.set_cons_zero, List.set_cons_succ, i64_w, i32_w]
              rfl
             refine pure_ (i := 5) (N := some 20) (v := ?_) (a' := ?_) (bl 6 19) rfl rfl (any_of HT_.out (by kernel_rfl)) (fun _ _ _ h => h) (Or.inl ⟨by rfl, ?_⟩) ?_ ?_
             rotate_left
             ·intro w'
              go_simp
              with_reducible rfl
             rotate_left
             ·simp only [Act.put, List.setIfInBounds_toArray, List.set_cons_zero, List.set_cons_succ, i64_w, i32_w]
              rfl
             refine take_ (i := 6) (N := some 21) (v := ?_) (a' := ?_) (bl 7 18) rfl rfl (take_ofW HT_.out HW_.out (by kernel_rfl)) (fun _ _ _ h => h) (Or.inl ⟨by rfl, ?_⟩) hHeld ?_ ?_
             rotate_left
             ·rintro w' ⟨s0, s1, s2, s3⟩
              go_simp
              with_reducible rfl
             rotate_left
             ·simp only [Act.put, List.setIfInBounds_toArray, List.set_cons_zero, List.set_cons_succ, i64_w, i32_w]
              rfl
             refine one_ (i := 7) (N := some 22) (bl 8 17) rfl rfl (one_of HT_.out (by kernel_rfl)) (by decide) (fun K hK => ?_)
             refine goes_ Tryd.func54 (by kernel_rfl) rfl #[.string ((rd_T51 l0 x10_1).f1)] (by rfl) rfl rfl (by (try simp only [List.map_toArray, List.map_cons, List.map_nil]); first | done | rfl | (simp only [List.length_drop, List.length_take]; rfl)) ?_
             with_reducible refine (label_value.calls ((rd_T51 l0 x10_1).f1) true _ A8.out).mono ?_
             rintro e w26 ⟨rfl, hb⟩
             refine ⟨_, rfl, ?_⟩
             have n0_ := Aside0.mk (blk_below (g := gb483) (o := .cells #[.string ((rd_T51 l0 x10_1).f0), .string ((rd_T51 l0 x10_1).f1)] 51 (0, 0)) (by (with_reducible repeat (first | refine blk_drewN ?_ _ | refine blk_drew ?_ | refine blk_alloc ?_ _)); exact BK483.out) hb)
             have n1_ := Aside0.mk (below_step (by repeat (first | (with_reducible first | exact HB.out | apply below_alloc | apply pw_below_drewN | apply below_drew1 | refine below_set ?_ GE483.out) | exact HB.out)) hb)
             clear BK483
             clear HB
             have BK483 := n0_
             have HB := n1_
             clear n0_ n1_
             (try clear hb)
             (try clear hb2)
             (try clear hk)
             (try clear hi)
             refine hK.out _ _ ⟨(blk_cell BK483.out 0).trans rfl, (blk_cell BK483.out 1).trans rfl, ((HB.out.cell (World.block_lt_of_cell? w _ hw486_0)).trans hw486_0), ((HB.out.cell (World.block_lt_of_cell? w _ hw486_1)).trans hw486_1)⟩ (fun hHeld => ?_)
             clear hK K
             refine norm_ (a' := ?_) ?_ ?_
             rotate_left
             ·show Act.put _ (some 22) _ = _
              simp only [Act.put, List.setIfInBounds_toArray, List.set_cons_zero, List.set_cons_succ, i64_w, i32_w]
              rfl
             refine pure_ (i := 8) (N := some 23) (v := ?_) (a' := ?_) (bl 9 16) rfl rfl (any_of HT_.out (by kernel_rfl)) (fun _ _ _ h => h) (Or.inl ⟨by rfl, ?_⟩) ?_ ?_
             rotate_left
             ·intro w'
              go_simp
              with_reducible rfl
             rotate_left
             ·simp only [Act.put, List.setIfInBounds_toArray, List.set_cons_zero, List.set_cons_succ, i64_w, i32_w]
              rfl
             refine pure_ (i := 9) (N := some 24) (v := ?_) (a' := ?_) (bl 10 15) rfl rfl (any_of HT_.out (by kernel_rfl)) (fun _ _ _ h => h) (Or.inl ⟨by rfl, ?_⟩) ?_ ?_
             rotate_left
             ·intro w'
              go_simp
              with_reducible rfl
             rotate_left
             ·simp only [Act.put, List.setIfInBounds_toArray, List.set_cons_zero, List.set_cons_succ, i64_w, i32_w]
              rfl
             refine pure_ (i := 10) (N := some 25) (v := ?_) (a' := ?_) (bl 11 14) rfl rfl (any_of HT_.out (by kernel_rfl)) (fun _ _ _ h => h) (Or.inl ⟨by rfl, ?_⟩) ?_ ?_
             rotate_left
             ·intro w'
              go_simp
              with_reducible rfl
             rotate_left
             ·simp only [Act.put, List.setIfInBounds_toArray, List.set_cons_zero, List.set_cons_succ, i64_w, i32_w]
              rfl
             refine pure_ (i := 11) (N := some 26) (v := ?_) (a' := ?_) (bl 12 13) rfl rfl (any_of HT_.out (by kernel_rfl)) (fun _ _ _ h => h) (Or.inl ⟨by rfl, ?_⟩) ?_ ?_
             rotate_left
             ·intro w'
              go_simp
              with_reducible rfl
             rotate_left
             ·simp only [Act.put, List.setIfInBounds_toArray, List.set_cons_zero, List.set_cons_succ, i64_w, i32_w]
              rfl
             refine pure_ (i := 12) (N := some 27) (v := ?_) (a' := ?_) (bl 13 12) rfl rfl (any_of HT_.out (by kernel_rfl)) (fun _ _ _ h => h) (Or.inl ⟨by rfl, ?_⟩) ?_ ?_
             rotate_left
             ·intro w'
              go_simp
              with_reducible rfl
             rotate_left
             ·simp only [Act.put, List.setIfInBounds_toArray, List.set_cons_zero, List.set_cons_succ, i64_w, i32_w]
              rfl
             refine pure_ (i := 13) (N := some 28) (v := ?_) (a' := ?_) (bl 14 11) rfl rfl (any_of HT_.out (by kernel_rfl)) (fun _ _ _ h => h) (Or.inl ⟨by rfl, ?_⟩) ?_ ?_
             rotate_left
             ·intro w'
              go_simp
              with_reducible rfl
             rotate_left
             ·simp only [Act.put, List.setIfInBounds_toArray, List.set_cons_zero, List.set_cons_succ, i64_w, i32_w]
              rfl
             refine pure_ (i := 14) (N := some 29) (v := ?_) (a' := ?_) (bl 15 10) rfl rfl (any_of HT_.out (by kernel_rfl)) (fun _ _ _ h => h) (Or.inl ⟨by rfl, ?_⟩) ?_ ?_
             rotate_left
             ·intro w'
              go_simp
              with_reducible rfl
             rotate_left
             ·simp only [Act.put, List.setIfInBounds_toArray, List.set_cons_zero, List.set_cons_succ, i64_w, i32_w]
              rfl
             refine pure_ (i := 15) (N := some 30) (v := ?_) (a' := ?_) (bl 16 9) rfl rfl (any_of HT_.out (by kernel_rfl)) (fun _ _ _ h => h) (Or.inl ⟨by rfl, ?_⟩) ?_ ?_
             rotate_left
             ·intro w'
              go_simp
              with_reducible rfl
             rotate_left
             ·simp only [Act.put, List.setIfInBounds_toArray, List.set_cons_zero, List.set_cons_succ, i64_w, i32_w]
              rfl
             refine pure_ (i := 16) (N := some 31) (v := ?_) (a' := ?_) (bl 17 8) rfl rfl (any_of HT_.out (by kernel_rfl)) (fun _ _ _ h => h) (Or.inl ⟨by rfl, ?_⟩) ?_ ?_
             rotate_left
             ·intro w'
              go_simp
              with_reducible rfl
             rotate_left
             ·simp only [Act.put, List.setIfInBounds_toArray, List.set_cons_zero, List.set_cons_succ, i64_w, i32_w]
              rfl
             refine pure_ (i := 17) (N := some 32) (v := ?_) (a' := ?_) (bl 18 7) rfl rfl (any_of HT_.out (by kernel_rfl)) (fun _ _ _ h => h) (Or.inl ⟨by rfl, ?_⟩) ?_ ?_
             rotate_left
             ·intro w'
              go_simp
              with_reducible rfl
             rotate_left
             ·simp only [Act.put, List.setIfInBounds_toArray, List.set_cons_zero, List.set_cons_succ, i64_w, i32_w]
              rfl
             refine pure_ (i := 18) (N := some 33) (v := ?_) (a' := ?_) (bl 19 6) rfl rfl (any_of HT_.out (by kernel_rfl)) (fun _ _ _ h => h) (Or.inl ⟨by rfl, ?_⟩) ?_ ?_
             rotate_left
             ·intro w'
              go_simp
              with_reducible rfl
             rotate_left
             ·simp only [Act.put, List.setIfInBounds_toArray, List.set_cons_zero, List.set_cons_succ, i64_w, i32_w]
              rfl
             refine pure_ (i := 20) (N := some 35) (v := ?_) (a' := ?_) #[true, true, true, true, true, true, true, true, true, true, true, true, true, true, true, true, true, true, true, false, true, false, false, false, false] rfl rfl (any_of HT_.out (by kernel_rfl)) (fun _ _ _ h => h) (Or.inl ⟨by rfl, ?_⟩) ?_ ?_
             rotate_left
             ·intro w'
              go_simp
              with_reducible rfl
             rotate_left
             ·simp only [Act.put, List.setIfInBounds_toArray, List.set_cons_zero, List.set_cons_succ, i64_w, i32_w]
              rfl
             refine take_ (i := 19) (N := some 34) (v := ?_) (a' := ?_) (bl 21 4) rfl rfl (take_ofW HT_.out HW_.out (by kernel_rfl)) (fun _ _ _ h => h) (Or.inl ⟨by rfl, ?_⟩) hHeld ?_ ?_
             rotate_left
             ·rintro w' ⟨s0, s1, s2, s3⟩
              go_simp
              with_reducible rfl
             rotate_left
             ·simp only [Act.put, List.setIfInBounds_toArray, List.set_cons_zero, List.set_cons_succ, i64_w, i32_w]
              rfl
             refine take_ (i := 21) (N := some 36) (v := ?_) (a' := ?_) (bl 22 3) rfl rfl (take_ofW HT_.out HW_.out (by kernel_rfl)) (fun _ _ _ h => h) (Or.inl ⟨by rfl, ?_⟩) hHeld ?_ ?_
             rotate_left
             ·rintro w' ⟨s0, s1, s2, s3⟩
              go_simp
              with_reducible rfl
             rotate_left
             ·simp only [Act.put, List.setIfInBounds_toArray, List.set_cons_zero, List.set_cons_succ, i64_w, i32_w]
              rfl
             refine pure_ (i := 22) (N := some 37) (v := ?_) (a' := ?_) (bl 23 2) rfl rfl (any_of HT_.out (by kernel_rfl)) (fun _ _ _ h => h) (Or.inl ⟨by rfl, ?_⟩) ?_ ?_
             rotate_left
             ·intro w'
              go_simp
              with_reducible rfl
             rotate_left
             ·simp only [Act.put, List.setIfInBounds_toArray, List.set_cons_zero, List.set_cons_succ, i64_w, i32_w]
              rfl
             refine pure_ (i := 23) (N := some 38) (v := ?_) (a' := ?_) (bl 24 1) rfl rfl (any_of HT_.out (by kernel_rfl)) (fun _ _ _ h => h) (Or.inl ⟨by rfl, ?_⟩) ?_ ?_
             rotate_left
             ·intro w'
              go_simp
              with_reducible rfl
             rotate_left
             ·simp only [Act.put, List.setIfInBounds_toArray, List.set_cons_zero, List.set_cons_succ, i64_w, i32_w]
              rfl
             refine pure_ (i := 24) (N := some 39) (v := ?_) (a' := ?_) (bl 25 0) rfl rfl (any_of HT_.out (by kernel_rfl)) (fun _ _ _ h => h) (Or.inl ⟨by rfl, ?_⟩) ?_ ?_
             rotate_left
             ·intro w'
              go_simp
              with_reducible rfl
             rotate_left
             ·simp only [Act.put, List.setIfInBounds_toArray, List.set_cons_zero, List.set_cons_succ, i64_w, i32_w]
              rfl
             refine done_ (done_of HT_.out (by kernel_rfl)) ?_
             try go_wp2
             go_ret
             exact ⟨by first | rfl | (simp [errW_none, errW_some] <;> rfl) | (simp only [← hji11]; first | rfl | (simp [errW_none, errW_some] <;> rfl)) | (simp [*, errW_none, errW_some] <;> rfl), by repeat (first | (with_reducible first | exact HB.out | apply below_alloc | apply pw_below_drewN | apply below_drew1 | refine below_set ?_ GE483.out) | exact HB.out)⟩
           ·rw [if_neg c13] at H
            exact absurd H (by simp)
          ·rw [if_neg c12] at H
           exact absurd H (by simp)
         ·rw [if_neg c10] at H
          have c10b0 : decide (0 < x10_1) = false := decide_eq_false c10
          clear c10
          have H' := Aside0.mk H
          clear H
          have p482 : 0 ≤ (x10_1 : Int) := of_decide_eq_true (by first | (with_reducible assumption) | assumption)
          have q482 : x10_1 < (l0.length : Int) := of_decide_eq_true (by first | (with_reducible assumption) | assumption)
          obtain ⟨ad482, e482, hx482_0, hx482_1⟩ := at_T51 HR0.out x10_1 p482 q482
          cases e482
          replace hx482_0 := (HB.out.cell (World.block_lt_of_cell? w _ hx482_0)).trans hx482_0
          replace hx482_1 := (HB.out.cell (World.block_lt_of_cell? w _ hx482_1)).trans hx482_1
          replace p482 := eq_true p482
          replace q482 := eq_true q482
          try go_wp2_with (first | ((with_reducible refine gate_dst (N := 4) rfl ?_); refine box_event ?hg (N := 4) ?hd (cs := #[.string (⟨#[]⟩ : ByteArray), .string (⟨#[]⟩ : ByteArray)]) (t := 51) ?hr ?_; (case hd => rfl); (case hg => rfl); (case hr => first | (go_simp; done) | (go_simp; rfl)); intro gb483 hg w27 hbox hb; have n0_ := Aside0.mk (below_step (by repeat (first | (with_reducible first | exact HB.out | apply below_alloc | apply pw_below_drewN | apply below_drew1) | exact HB.out)) hb); have n1_ := Aside0.mk (hbox); have n2_ := Aside0.mk ((by rw [hg]; exact (below_size (by repeat (first | (with_reducible first | exact HB.out | apply below_alloc | apply pw_below_drewN | apply below_drew1) | exact HB.out))) : w.heap.size ≤ gb483)); have n3_ := Aside0.mk ((by rw [hg]; exact (below_size (by repeat (first | (with_reducible first | exact HB.out | apply below_alloc | apply pw_below_drewN | apply below_drew1) | exact HB.out))) : w.heap.size ≤ gb483)); clear HB; have HB := n0_; have BK483 := n1_; have GW483 := n2_; have GE483 := n3_; clear n0_ n1_ n2_ n3_; clear hb hbox hg; have hcz28_0 : w27.cell? ⟨gb483, 0, none⟩ = some (.string (⟨#[]⟩ : ByteArray)) := (blk_cell BK483.out 0).trans rfl; have hcz28_1 : w27.cell? ⟨gb483, 1, none⟩ = some (.string (⟨#[]⟩ : ByteArray)) := (blk_cell BK483.out 1).trans rfl; have hfz28_0 := blk_frozen BK483.out 0; have hfz28_1 := blk_frozen BK483.out 1))
          have n0_ : Aside0 (((w27.setCell ⟨gb483, 0, none⟩ (.string ((rd_T51 l0 x10_1).f0))).setCell ⟨gb483, 1, none⟩ (.string ((rd_T51 l0 x10_1).f1))).heap[gb483]? = some (.cells #[.string ((rd_T51 l0 x10_1).f0), .string ((rd_T51 l0 x10_1).f1)] 51 (0, 0))) := ⟨by (with_reducible repeat (first | refine blk_drewN ?_ _ | refine blk_drew ?_ | refine blk_alloc ?_ _)); refine blk_put (cs := #[.string ((rd_T51 l0 x10_1).f0), .string (⟨#[]⟩ : ByteArray)]) ?_ 1 _ rfl; (with_reducible repeat (first | refine blk_drewN ?_ _ | refine blk_drew ?_ | refine blk_alloc ?_ _)); refine blk_put (cs := #[.string (⟨#[]⟩ : ByteArray), .string (⟨#[]⟩ : ByteArray)]) ?_ 0 _ rfl; (with_reducible repeat (first | refine blk_drewN ?_ _ | refine blk_drew ?_ | refine blk_alloc ?_ _)); exact BK483.out⟩
          have n1_ : Aside0 (Below w.heap.size w ((w27.setCell ⟨gb483, 0, none⟩ (.string ((rd_T51 l0 x10_1).f0))).setCell ⟨gb483, 1, none⟩ (.string ((rd_T51 l0 x10_1).f1)))) := ⟨by repeat (first | (with_reducible first | exact HB.out | apply below_alloc | apply pw_below_drewN | apply below_drew1 | refine below_set ?_ GE483.out) | exact HB.out)⟩
          (try clear BK483)
          (try clear HB)
          generalize ((w27.setCell ⟨gb483, 0, none⟩ (.string ((rd_T51 l0 x10_1).f0))).setCell ⟨gb483, 1, none⟩ (.string ((rd_T51 l0 x10_1).f1))) = w29 at n0_ n1_ ⊢
          have BK483 := n0_
          have HB := n1_
          clear n0_ n1_
          have n0_ := Aside0.mk (blk_drew BK483.out)
          have n1_ := Aside0.mk (below_drew1 HB.out)
          clear BK483
          clear HB
          have BK483 := n0_
          have HB := n1_
          clear n0_ n1_
          refine start_ (n := 25) (S := fun w' => w'.cell? ⟨gb483, 0, none⟩ = some (.string ((rd_T51 l0 x10_1).f0)) ∧ w'.cell? ⟨gb483, 1, none⟩ = some (.string ((rd_T51 l0 x10_1).f1))) (ds := []) (bl 0 25) (by kernel_rfl) rfl rfl ⟨(blk_cell BK483.out 0).trans rfl, (blk_cell BK483.out 1).trans rfl⟩ (fun hHeld => ?_); refine with_tabW label_Valid.tab6 label_Valid.bits6 (fun HT_ HW_ => ?_)
          generalize w29.drew = w30 at BK483 HB hHeld ⊢
          refine pure_ (i := 0) (N := some 15) (v := ?_) (a' := ?_) (bl 1 24) rfl rfl (any_of HT_.out (by kernel_rfl)) (fun _ _ _ h => h) (Or.inl ⟨by rfl, ?_⟩) ?_ ?_
          rotate_left
          ·intro w'
           go_simp
           with_reducible rfl
          rotate_left
          ·simp only [Act.put, List.setIfInBounds_toArray, List.set_cons_zero, List.set_cons_succ, i64_w, i32_w]
           rfl
          refine take_ (i := 1) (N := some 16) (v := ?_) (a' := ?_) (bl 2 23) rfl rfl (take_ofW HT_.out HW_.out (by kernel_rfl)) (fun _ _ _ h => h) (Or.inl ⟨by rfl, ?_⟩) hHeld ?_ ?_
          rotate_left
          ·rintro w' ⟨s0, s1⟩
           go_simp
           with_reducible rfl
          rotate_left
          ·simp only [Act.put, List.setIfInBounds_toArray, List.set_cons_zero, List.set_cons_succ, i64_w, i32_w]
           rfl
          refine one_ (i := 2) (N := some 17) (bl 3 22) rfl rfl (one_of HT_.out (by kernel_rfl)) (by decide) (fun K hK => ?_)
          refine goes_ Tryd.func18 (by kernel_rfl) rfl #[.string ((rd_T51 l0 x10_1).f0)] (by rfl) rfl rfl (by (try simp only [List.map_toArray, List.map_cons, List.map_nil]); first | done | rfl | (simp only [List.length_drop, List.length_take]; rfl)) ?_
          with_reducible refine (label_Name.calls ((rd_T51 l0 x10_1).f0) true _ A6.out).mono ?_
          rintro e w31 ⟨rfl, hb⟩
          refine ⟨_, rfl, ?_⟩
          have n0_ := Aside0.mk (blk_below (g := gb483) (o := .cells #[.string ((rd_T51 l0 x10_1).f0), .string ((rd_T51 l0 x10_1).f1)] 51 (0, 0)) (by (with_reducible repeat (first | refine blk_drewN ?_ _ | refine blk_drew ?_ | refine blk_alloc ?_ _)); exact BK483.out) hb)
          have n1_ := Aside0.mk (below_step (by repeat (first | (with_reducible first | exact HB.out | apply below_alloc | apply pw_below_drewN | apply below_drew1 | refine below_set ?_ GE483.out) | exact HB.out)) hb)
          clear BK483
          clear HB
          have BK483 := n0_
          have HB := n1_
          clear n0_ n1_
          (try clear hb)
          (try clear hb2)
          (try clear hk)
          (try clear hi)
          refine hK.out _ _ ⟨(blk_cell BK483.out 0).trans rfl, (blk_cell BK483.out 1).trans rfl⟩ (fun hHeld => ?_)
          clear hK K
          refine norm_ (a' := ?_) ?_ ?_
          rotate_left
          ·show Act.put _ (some 17) _ = _
           simp only [Act.put, List.setIfInBounds_toArray, List.set_cons_zero, List.set_cons_succ, i64_w, i32_w]
           rfl
          refine pure_ (i := 3) (N := some 18) (v := ?_) (a' := ?_) (bl 4 21) rfl rfl (any_of HT_.out (by kernel_rfl)) (fun _ _ _ h => h) (Or.inl ⟨by rfl, ?_⟩) ?_ ?_
          rotate_left
          ·intro w'
           go_simp
           with_reducible rfl
          rotate_left
          ·simp only [Act.put, List.setIfInBounds_toArray, List.set_cons_zero, List.set_cons_succ, i64_w, i32_w]
           rfl
          refine pure_ (i := 4) (N := some 19) (v := ?_) (a' := ?_) (bl 5 20) rfl rfl (any_of HT_.out (by kernel_rfl)) (fun _ _ _ h => h) (Or.inl ⟨by rfl, ?_⟩) ?_ ?_
          rotate_left
          ·intro w'
           go_simp
           with_reducible rfl
          rotate_left
          ·simp only [Act.put, List.setIfInBounds_toArray, List.set_cons_zero, List.set_cons_succ, i64_w, i32_w]
           rfl
          refine pure_ (i := 5) (N := some 20) (v := ?_) (a' := ?_) (bl 6 19) rfl rfl (any_of HT_.out (by kernel_rfl)) (fun _ _ _ h => h) (Or.inl ⟨by rfl, ?_⟩) ?_ ?_
          rotate_left
          ·intro w'
           go_simp
           with_reducible rfl
          rotate_left
          ·simp only [Act.put, List.setIfInBounds_toArray, List.set_cons_zero, List.set_cons_succ, i64_w, i32_w]
           rfl
          refine take_ (i := 6) (N := some 21) (v := ?_) (a' := ?_) (bl 7 18) rfl rfl (take_ofW HT_.out HW_.out (by kernel_rfl)) (fun _ _ _ h => h) (Or.inl ⟨by rfl, ?_⟩) hHeld ?_ ?_
          rotate_left
          ·rintro w' ⟨s0, s1⟩
           go_simp
           with_reducible rfl
          rotate_left
          ·simp only [Act.put, List.setIfInBounds_toArray, List.set_cons_zero, List.set_cons_succ, i64_w, i32_w]
           rfl
          refine one_ (i := 7) (N := some 22) (bl 8 17) rfl rfl (one_of HT_.out (by kernel_rfl)) (by decide) (fun K hK => ?_)
          refine goes_ Tryd.func54 (by kernel_rfl) rfl #[.string ((rd_T51 l0 x10_1).f1)] (by rfl) rfl rfl (by (try simp only [List.map_toArray, List.map_cons, List.map_nil]); first | done | rfl | (simp only [List.length_drop, List.length_take]; rfl)) ?_
          with_reducible refine (label_value.calls ((rd_T51 l0 x10_1).f1) true _ A8.out).mono ?_
          rintro e w32 ⟨rfl, hb⟩
          refine ⟨_, rfl, ?_⟩
          have n0_ := Aside0.mk (blk_below (g := gb483) (o := .cells #[.string ((rd_T51 l0 x10_1).f0), .string ((rd_T51 l0 x10_1).f1)] 51 (0, 0)) (by (with_reducible repeat (first | refine blk_drewN ?_ _ | refine blk_drew ?_ | refine blk_alloc ?_ _)); exact BK483.out) hb)
          have n1_ := Aside0.mk (below_step (by repeat (first | (with_reducible first | exact HB.out | apply below_alloc | apply pw_below_drewN | apply below_drew1 | refine below_set ?_ GE483.out) | exact HB.out)) hb)
          clear BK483
          clear HB
          have BK483 := n0_
          have HB := n1_
          clear n0_ n1_
          (try clear hb)
          (try clear hb2)
          (try clear hk)
          (try clear hi)
          refine hK.out _ _ ⟨(blk_cell BK483.out 0).trans rfl, (blk_cell BK483.out 1).trans rfl⟩ (fun hHeld => ?_)
          clear hK K
          refine norm_ (a' := ?_) ?_ ?_
          rotate_left
          ·show Act.put _ (some 22) _ = _
           simp only [Act.put, List.setIfInBounds_toArray, List.set_cons_zero, List.set_cons_succ, i64_w, i32_w]
           rfl
          refine pure_ (i := 8) (N := some 23) (v := ?_) (a' := ?_) (bl 9 16) rfl rfl (any_of HT_.out (by kernel_rfl)) (fun _ _ _ h => h) (Or.inl ⟨by rfl, ?_⟩) ?_ ?_
          rotate_left
          ·intro w'
           go_simp
           with_reducible rfl
          rotate_left
          ·simp only [Act.put, List.setIfInBounds_toArray, List.set_cons_zero, List.set_cons_succ, i64_w, i32_w]
           rfl
          refine pure_ (i := 9) (N := some 24) (v := ?_) (a' := ?_) (bl 10 15) rfl rfl (any_of HT_.out (by kernel_rfl)) (fun _ _ _ h => h) (Or.inl ⟨by rfl, ?_⟩) ?_ ?_
          rotate_left
          ·intro w'
           go_simp
           with_reducible rfl
          rotate_left
          ·simp only [Act.put, List.setIfInBounds_toArray, List.set_cons_zero, List.set_cons_succ, i64_w, i32_w]
           rfl
          refine pure_ (i := 10) (N := some 25) (v := ?_) (a' := ?_) (bl 11 14) rfl rfl (any_of HT_.out (by kernel_rfl)) (fun _ _ _ h => h) (Or.inl ⟨by rfl, ?_⟩) ?_ ?_
          rotate_left
          ·intro w'
           go_simp
           with_reducible rfl
          rotate_left
          ·simp only [Act.put, List.setIfInBounds_toArray, List.set_cons_zero, List.set_cons_succ, i64_w, i32_w]
           rfl
          refine pure_ (i := 11) (N := some 26) (v := ?_) (a' := ?_) (bl 12 13) rfl rfl (any_of HT_.out (by kernel_rfl)) (fun _ _ _ h => h) (Or.inl ⟨by rfl, ?_⟩) ?_ ?_
          rotate_left
          ·intro w'
           go_simp
           with_reducible rfl
          rotate_left
          ·simp only [Act.put, List.setIfInBounds_toArray, List.set_cons_zero, List.set_cons_succ, i64_w, i32_w]
           rfl
          refine pure_ (i := 12) (N := some 27) (v := ?_) (a' := ?_) (bl 13 12) rfl rfl (any_of HT_.out (by kernel_rfl)) (fun _ _ _ h => h) (Or.inl ⟨by rfl, ?_⟩) ?_ ?_
          rotate_left
          ·intro w'
           go_simp
           with_reducible rfl
          rotate_left
          ·simp only [Act.put, List.setIfInBounds_toArray, List.set_cons_zero, List.set_cons_succ, i64_w, i32_w]
           rfl
          refine pure_ (i := 13) (N := some 28) (v := ?_) (a' := ?_) (bl 14 11) rfl rfl (any_of HT_.out (by kernel_rfl)) (fun _ _ _ h => h) (Or.inl ⟨by rfl, ?_⟩) ?_ ?_
          rotate_left
          ·intro w'
           go_simp
           with_reducible rfl
          rotate_left
          ·simp only [Act.put, List.setIfInBounds_toArray, List.set_cons_zero, List.set_cons_succ, i64_w, i32_w]
           rfl
          refine pure_ (i := 14) (N := some 29) (v := undef) (a' := ?_) (bl 15 10) rfl rfl (any_of HT_.out (by kernel_rfl)) (fun _ _ _ h => h) (Or.inr ⟨by rfl, rfl⟩) ?_ ?_
          rotate_left
          ·simp only [Act.put, List.setIfInBounds_toArray, List.set_cons_zero, List.set_cons_succ, i64_w, i32_w]
           rfl
          refine pure_ (i := 15) (N := some 30) (v := undef) (a' := ?_) (bl 16 9) rfl rfl (any_of HT_.out (by kernel_rfl)) (fun _ _ _ h => h) (Or.inr ⟨by rfl, rfl⟩) ?_ ?_
          rotate_left
          ·simp only [Act.put, List.setIfInBounds_toArray, List.set_cons_zero, List.set_cons_succ, i64_w, i32_w]
           rfl
          refine pure_ (i := 16) (N := some 31) (v := undef) (a' := ?_) (bl 17 8) rfl rfl (any_of HT_.out (by kernel_rfl)) (fun _ _ _ h => h) (Or.inr ⟨by rfl, rfl⟩) ?_ ?_
          rotate_left
          ·simp only [Act.put, List.setIfInBounds_toArray, List.set_cons_zero, List.set_cons_succ, i64_w, i32_w]
           rfl
          refine pure_ (i := 17) (N := some 32) (v := undef) (a' := ?_) (bl 18 7) rfl rfl (any_of HT_.out (by kernel_rfl)) (fun _ _ _ h => h) (Or.inr ⟨by rfl, rfl⟩) ?_ ?_
          rotate_left
          ·simp only [Act.put, List.setIfInBounds_toArray, List.set_cons_zero, List.set_cons_succ, i64_w, i32_w]
           rfl
          refine pure_ (i := 18) (N := some 33) (v := undef) (a' := ?_) (bl 19 6) rfl rfl (any_of HT_.out (by kernel_rfl)) (fun _ _ _ h => h) (Or.inr ⟨by rfl, rfl⟩) ?_ ?_
          rotate_left
          ·simp only [Act.put, List.setIfInBounds_toArray, List.set_cons_zero, List.set_cons_succ, i64_w, i32_w]
           rfl
          refine pure_ (i := 19) (N := some 34) (v := undef) (a' := ?_) (bl 20 5) rfl rfl (any_of HT_.out (by kernel_rfl)) (fun _ _ _ h => h) (Or.inr ⟨by rfl, rfl⟩) ?_ ?_
          rotate_left
          ·simp only [Act.put, List.setIfInBounds_toArray, List.set_cons_zero, List.set_cons_succ, i64_w, i32_w]
           rfl
          refine pure_ (i := 20) (N := some 35) (v := undef) (a' := ?_) (bl 21 4) rfl rfl (any_of HT_.out (by kernel_rfl)) (fun _ _ _ h => h) (Or.inr ⟨by rfl, rfl⟩) ?_ ?_
          rotate_left
          ·simp only [Act.put, List.setIfInBounds_toArray, List.set_cons_zero, List.set_cons_succ, i64_w, i32_w]
           rfl
          refine pure_ (i := 21) (N := some 36) (v := undef) (a' := ?_) (bl 22 3) rfl rfl (any_of HT_.out (by kernel_rfl)) (fun _ _ _ h => h) (Or.inr ⟨by rfl, rfl⟩) ?_ ?_
          rotate_left
          ·simp only [Act.put, List.setIfInBounds_toArray, List.set_cons_zero, List.set_cons_succ, i64_w, i32_w]
           rfl
          refine pure_ (i := 22) (N := some 37) (v := undef) (a' := ?_) (bl 23 2) rfl rfl (any_of HT_.out (by kernel_rfl)) (fun _ _ _ h => h) (Or.inr ⟨by rfl, rfl⟩) ?_ ?_
          rotate_left
          ·simp only [Act.put, List.setIfInBounds_toArray, List.set_cons_zero, List.set_cons_succ, i64_w, i32_w]
           rfl
          refine pure_ (i := 23) (N := some 38) (v := ?_) (a' := ?_) (bl 24 1) rfl rfl (any_of HT_.out (by kernel_rfl)) (fun _ _ _ h => h) (Or.inl ⟨by rfl, ?_⟩) ?_ ?_
          rotate_left
          ·intro w'
           go_simp
           with_reducible rfl
          rotate_left
          ·simp only [Act.put, List.setIfInBounds_toArray, List.set_cons_zero, List.set_cons_succ, i64_w, i32_w]
           rfl
          refine pure_ (i := 24) (N := some 39) (v := ?_) (a' := ?_) (bl 25 0) rfl rfl (any_of HT_.out (by kernel_rfl)) (fun _ _ _ h => h) (Or.inl ⟨by rfl, ?_⟩) ?_ ?_
          rotate_left
          ·intro w'
           go_simp
           with_reducible rfl
          rotate_left
          ·simp only [Act.put, List.setIfInBounds_toArray, List.set_cons_zero, List.set_cons_succ, i64_w, i32_w]
           rfl
          refine done_ (done_of HT_.out (by kernel_rfl)) ?_
          try go_wp2
          go_roundg k1
          case measure => have := HK1.out; omega
          case rel => exact ⟨(wrap64 (x10_1 + 1)), (by first | rfl | (simp; done) | (simp [*]; done) | (simp; rw [Bool.eq_iff_iff]; simp; done) | (rw [Bool.eq_iff_iff]; simp; done)), H', ⟨by have := HK1.out; omega⟩, ⟨by repeat (first | (with_reducible first | exact HB.out | apply below_alloc | apply pw_below_drewN | apply below_drew1 | refine below_set ?_ GE483.out) | exact HB.out)⟩⟩
        ·replace c9 := Bool.eq_false_iff.mpr c9
         subst c9
         have H1 : (some 42) = some r := by rw [if_neg (show ¬ (false = true) by decide)] at H; exact H
         clear H
         have H := H1
         clear H1
         obtain rfl := Option.some.inj H
         have p482 : 0 ≤ (x10_1 : Int) := of_decide_eq_true (by first | (with_reducible assumption) | assumption)
         have q482 : x10_1 < (l0.length : Int) := of_decide_eq_true (by first | (with_reducible assumption) | assumption)
         obtain ⟨ad482, e482, hx482_0, hx482_1⟩ := at_T51 HR0.out x10_1 p482 q482
         cases e482
         replace hx482_0 := (HB.out.cell (World.block_lt_of_cell? w _ hx482_0)).trans hx482_0
         replace hx482_1 := (HB.out.cell (World.block_lt_of_cell? w _ hx482_1)).trans hx482_1
         replace p482 := eq_true p482
         replace q482 := eq_true q482
         try go_wp2_with (first | ((with_reducible refine gate_dst (N := 4) rfl ?_); refine box_event ?hg (N := 4) ?hd (cs := #[.string (⟨#[]⟩ : ByteArray), .string (⟨#[]⟩ : ByteArray)]) (t := 51) ?hr ?_; (case hd => rfl); (case hg => rfl); (case hr => first | (go_simp; done) | (go_simp; rfl)); intro gb483 hg w33 hbox hb; have n0_ := Aside0.mk (below_step (by repeat (first | (with_reducible first | exact HB.out | apply below_alloc | apply pw_below_drewN | apply below_drew1) | exact HB.out)) hb); have n1_ := Aside0.mk (hbox); have n2_ := Aside0.mk ((by rw [hg]; exact (below_size (by repeat (first | (with_reducible first | exact HB.out | apply below_alloc | apply pw_below_drewN | apply below_drew1) | exact HB.out))) : w.heap.size ≤ gb483)); have n3_ := Aside0.mk ((by rw [hg]; exact (below_size (by repeat (first | (with_reducible first | exact HB.out | apply below_alloc | apply pw_below_drewN | apply below_drew1) | exact HB.out))) : w.heap.size ≤ gb483)); clear HB; have HB := n0_; have BK483 := n1_; have GW483 := n2_; have GE483 := n3_; clear n0_ n1_ n2_ n3_; clear hb hbox hg; have hcz34_0 : w33.cell? ⟨gb483, 0, none⟩ = some (.string (⟨#[]⟩ : ByteArray)) := (blk_cell BK483.out 0).trans rfl; have hcz34_1 : w33.cell? ⟨gb483, 1, none⟩ = some (.string (⟨#[]⟩ : ByteArray)) := (blk_cell BK483.out 1).trans rfl; have hfz34_0 := blk_frozen BK483.out 0; have hfz34_1 := blk_frozen BK483.out 1))
         have n0_ : Aside0 (((w33.setCell ⟨gb483, 0, none⟩ (.string ((rd_T51 l0 x10_1).f0))).setCell ⟨gb483, 1, none⟩ (.string ((rd_T51 l0 x10_1).f1))).heap[gb483]? = some (.cells #[.string ((rd_T51 l0 x10_1).f0), .string ((rd_T51 l0 x10_1).f1)] 51 (0, 0))) := ⟨by (with_reducible repeat (first | refine blk_drewN ?_ _ | refine blk_drew ?_ | refine blk_alloc ?_ _)); refine blk_put (cs := #[.string ((rd_T51 l0 x10_1).f0), .string (⟨#[]⟩ : ByteArray)]) ?_ 1 _ rfl; (with_reducible repeat (first | refine blk_drewN ?_ _ | refine blk_drew ?_ | refine blk_alloc ?_ _)); refine blk_put (cs := #[.string (⟨#[]⟩ : ByteArray), .string (⟨#[]⟩ : ByteArray)]) ?_ 0 _ rfl; (with_reducible repeat (first | refine blk_drewN ?_ _ | refine blk_drew ?_ | refine blk_alloc ?_ _)); exact BK483.out⟩
         have n1_ : Aside0 (Below w.heap.size w ((w33.setCell ⟨gb483, 0, none⟩ (.string ((rd_T51 l0 x10_1).f0))).setCell ⟨gb483, 1, none⟩ (.string ((rd_T51 l0 x10_1).f1)))) := ⟨by repeat (first | (with_reducible first | exact HB.out | apply below_alloc | apply pw_below_drewN | apply below_drew1 | refine below_set ?_ GE483.out) | exact HB.out)⟩
         (try clear BK483)
         (try clear HB)
         generalize ((w33.setCell ⟨gb483, 0, none⟩ (.string ((rd_T51 l0 x10_1).f0))).setCell ⟨gb483, 1, none⟩ (.string ((rd_T51 l0 x10_1).f1))) = w35 at n0_ n1_ ⊢
         have BK483 := n0_
         have HB := n1_
         clear n0_ n1_
         have n0_ := Aside0.mk (blk_drew BK483.out)
         have n1_ := Aside0.mk (below_drew1 HB.out)
         clear BK483
         clear HB
         have BK483 := n0_
         have HB := n1_
         clear n0_ n1_
         refine start_ (n := 25) (S := fun w' => w'.cell? ⟨gb483, 0, none⟩ = some (.string ((rd_T51 l0 x10_1).f0)) ∧ w'.cell? ⟨gb483, 1, none⟩ = some (.string ((rd_T51 l0 x10_1).f1))) (ds := []) (bl 0 25) (by kernel_rfl) rfl rfl ⟨(blk_cell BK483.out 0).trans rfl, (blk_cell BK483.out 1).trans rfl⟩ (fun hHeld => ?_); refine with_tabW label_Valid.tab6 label_Valid.bits6 (fun HT_ HW_ => ?_)
         generalize w35.drew = w36 at BK483 HB hHeld ⊢
         refine pure_ (i := 0) (N := some 15) (v := ?_) (a' := ?_) (bl 1 24) rfl rfl (any_of HT_.out (by kernel_rfl)) (fun _ _ _ h => h) (Or.inl ⟨by rfl, ?_⟩) ?_ ?_
         rotate_left
         ·intro w'
          go_simp
          with_reducible rfl
         rotate_left
         ·simp only [Act.put, List.setIfInBounds_toArray, List.set_cons_zero, List.set_cons_succ, i64_w, i32_w]
          rfl
         refine take_ (i := 1) (N := some 16) (v := ?_) (a' := ?_) (bl 2 23) rfl rfl (take_ofW HT_.out HW_.out (by kernel_rfl)) (fun _ _ _ h => h) (Or.inl ⟨by rfl, ?_⟩) hHeld ?_ ?_
         rotate_left
         ·rintro w' ⟨s0, s1⟩
          go_simp
          with_reducible rfl
         rotate_left
         ·simp only [Act.put, List.setIfInBounds_toArray, List.set_cons_zero, List.set_cons_succ, i64_w, i32_w]
          rfl
         refine one_ (i := 2) (N := some 17) (bl 3 22) rfl rfl (one_of HT_.out (by kernel_rfl)) (by decide) (fun K hK => ?_)
         refine goes_ Tryd.func18 (by kernel_rfl) rfl #[.string ((rd_T51 l0 x10_1).f0)] (by rfl) rfl rfl (by (try simp only [List.map_toArray, List.map_cons, List.map_nil]); first | done | rfl | (simp only [List.length_drop, List.length_take]; rfl)) ?_
         with_reducible refine (label_Name.calls ((rd_T51 l0 x10_1).f0) true _ A6.out).mono ?_
         rintro e w37 ⟨rfl, hb⟩
         refine ⟨_, rfl, ?_⟩
         have n0_ := Aside0.mk (blk_below (g := gb483) (o := .cells #[.string ((rd_T51 l0 x10_1).f0), .string ((rd_T51 l0 x10_1).f1)] 51 (0, 0)) (by (with_reducible repeat (first | refine blk_drewN ?_ _ | refine blk_drew ?_ | refine blk_alloc ?_ _)); exact BK483.out) hb)
         have n1_ := Aside0.mk (below_step (by repeat (first | (with_reducible first | exact HB.out | apply below_alloc | apply pw_below_drewN | apply below_drew1 | refine below_set ?_ GE483.out) | exact HB.out)) hb)
         clear BK483
         clear HB
         have BK483 := n0_
         have HB := n1_
         clear n0_ n1_
         (try clear hb)
         (try clear hb2)
         (try clear hk)
         (try clear hi)
         refine hK.out _ _ ⟨(blk_cell BK483.out 0).trans rfl, (blk_cell BK483.out 1).trans rfl⟩ (fun hHeld => ?_)
         clear hK K
         refine norm_ (a' := ?_) ?_ ?_
         rotate_left
         ·show Act.put _ (some 17) _ = _
          simp only [Act.put, List.setIfInBounds_toArray, List.set_cons_zero, List.set_cons_succ, i64_w, i32_w]
          rfl
         refine pure_ (i := 3) (N := some 18) (v := ?_) (a' := ?_) (bl 4 21) rfl rfl (any_of HT_.out (by kernel_rfl)) (fun _ _ _ h => h) (Or.inl ⟨by rfl, ?_⟩) ?_ ?_
         rotate_left
         ·intro w'
          go_simp
          with_reducible rfl
         rotate_left
         ·simp only [Act.put, List.setIfInBounds_toArray, List.set_cons_zero, List.set_cons_succ, i64_w, i32_w]
          rfl
         refine pure_ (i := 4) (N := some 19) (v := ?_) (a' := ?_) (bl 5 20) rfl rfl (any_of HT_.out (by kernel_rfl)) (fun _ _ _ h => h) (Or.inl ⟨by rfl, ?_⟩) ?_ ?_
         rotate_left
         ·intro w'
          go_simp
          with_reducible rfl
         rotate_left
         ·simp only [Act.put, List.setIfInBounds_toArray, List.set_cons_zero, List.set_cons_succ, i64_w, i32_w]
          rfl
         refine pure_ (i := 5) (N := some 20) (v := ?_) (a' := ?_) (bl 6 19) rfl rfl (any_of HT_.out (by kernel_rfl)) (fun _ _ _ h => h) (Or.inl ⟨by rfl, ?_⟩) ?_ ?_
         rotate_left
         ·intro w'
          go_simp
          with_reducible rfl
         rotate_left
         ·simp only [Act.put, List.setIfInBounds_toArray, List.set_cons_zero, List.set_cons_succ, i64_w, i32_w]
          rfl
         refine take_ (i := 6) (N := some 21) (v := ?_) (a' := ?_) (bl 7 18) rfl rfl (take_ofW HT_.out HW_.out (by kernel_rfl)) (fun _ _ _ h => h) (Or.inl ⟨by rfl, ?_⟩) hHeld ?_ ?_
         rotate_left
         ·rintro w' ⟨s0, s1⟩
          go_simp
          with_reducible rfl
         rotate_left
         ·simp only [Act.put, List.setIfInBounds_toArray, List.set_cons_zero, List.set_cons_succ, i64_w, i32_w]
          rfl
         refine one_ (i := 7) (N := some 22) (bl 8 17) rfl rfl (one_of HT_.out (by kernel_rfl)) (by decide) (fun K hK => ?_)
         refine goes_ Tryd.func54 (by kernel_rfl) rfl #[.string ((rd_T51 l0 x10_1).f1)] (by rfl) rfl rfl (by (try simp only [List.map_toArray, List.map_cons, List.map_nil]); first | done | rfl | (simp only [List.length_drop, List.length_take]; rfl)) ?_
         with_reducible refine (label_value.calls ((rd_T51 l0 x10_1).f1) false _ A8.out).mono ?_
         rintro e w38 ⟨rfl, hb⟩
         refine ⟨_, rfl, ?_⟩
         have n0_ := Aside0.mk (blk_below (g := gb483) (o := .cells #[.string ((rd_T51 l0 x10_1).f0), .string ((rd_T51 l0 x10_1).f1)] 51 (0, 0)) (by (with_reducible repeat (first | refine blk_drewN ?_ _ | refine blk_drew ?_ | refine blk_alloc ?_ _)); exact BK483.out) hb)
         have n1_ := Aside0.mk (below_step (by repeat (first | (with_reducible first | exact HB.out | apply below_alloc | apply pw_below_drewN | apply below_drew1 | refine below_set ?_ GE483.out) | exact HB.out)) hb)
         clear BK483
         clear HB
         have BK483 := n0_
         have HB := n1_
         clear n0_ n1_
         (try clear hb)
         (try clear hb2)
         (try clear hk)
         (try clear hi)
         refine hK.out _ _ ⟨(blk_cell BK483.out 0).trans rfl, (blk_cell BK483.out 1).trans rfl⟩ (fun hHeld => ?_)
         clear hK K
         refine norm_ (a' := ?_) ?_ ?_
         rotate_left
         ·show Act.put _ (some 22) _ = _
          simp only [Act.put, List.setIfInBounds_toArray, List.set_cons_zero, List.set_cons_succ, i64_w, i32_w]
          rfl
         refine pure_ (i := 8) (N := some 23) (v := ?_) (a' := ?_) (bl 9 16) rfl rfl (any_of HT_.out (by kernel_rfl)) (fun _ _ _ h => h) (Or.inl ⟨by rfl, ?_⟩) ?_ ?_
         rotate_left
         ·intro w'
          go_simp
          with_reducible rfl
         rotate_left
         ·simp only [Act.put, List.setIfInBounds_toArray, List.set_cons_zero, List.set_cons_succ, i64_w, i32_w]
          rfl
         refine pure_ (i := 9) (N := some 24) (v := ?_) (a' := ?_) (bl 10 15) rfl rfl (any_of HT_.out (by kernel_rfl)) (fun _ _ _ h => h) (Or.inl ⟨by rfl, ?_⟩) ?_ ?_
         rotate_left
         ·intro w'
          go_simp
          with_reducible rfl
         rotate_left
         ·simp only [Act.put, List.setIfInBounds_toArray, List.set_cons_zero, List.set_cons_succ, i64_w, i32_w]
          rfl
         refine pure_ (i := 10) (N := some 25) (v := ?_) (a' := ?_) (bl 11 14) rfl rfl (any_of HT_.out (by kernel_rfl)) (fun _ _ _ h => h) (Or.inl ⟨by rfl, ?_⟩) ?_ ?_
         rotate_left
         ·intro w'
          go_simp
          with_reducible rfl
         rotate_left
         ·simp only [Act.put, List.setIfInBounds_toArray, List.set_cons_zero, List.set_cons_succ, i64_w, i32_w]
          rfl
         refine pure_ (i := 11) (N := some 26) (v := undef) (a' := ?_) (bl 12 13) rfl rfl (any_of HT_.out (by kernel_rfl)) (fun _ _ _ h => h) (Or.inr ⟨by rfl, rfl⟩) ?_ ?_
         rotate_left
         ·simp only [Act.put, List.setIfInBounds_toArray, List.set_cons_zero, List.set_cons_succ, i64_w, i32_w]
          rfl
         refine pure_ (i := 12) (N := some 27) (v := undef) (a' := ?_) (bl 13 12) rfl rfl (any_of HT_.out (by kernel_rfl)) (fun _ _ _ h => h) (Or.inr ⟨by rfl, rfl⟩) ?_ ?_
         rotate_left
         ·simp only [Act.put, List.setIfInBounds_toArray, List.set_cons_zero, List.set_cons_succ, i64_w, i32_w]
          rfl
         refine pure_ (i := 13) (N := some 28) (v := undef) (a' := ?_) (bl 14 11) rfl rfl (any_of HT_.out (by kernel_rfl)) (fun _ _ _ h => h) (Or.inr ⟨by rfl, rfl⟩) ?_ ?_
         rotate_left
         ·simp only [Act.put, List.setIfInBounds_toArray, List.set_cons_zero, List.set_cons_succ, i64_w, i32_w]
          rfl
         refine pure_ (i := 14) (N := some 29) (v := undef) (a' := ?_) (bl 15 10) rfl rfl (any_of HT_.out (by kernel_rfl)) (fun _ _ _ h => h) (Or.inr ⟨by rfl, rfl⟩) ?_ ?_
         rotate_left
         ·simp only [Act.put, List.setIfInBounds_toArray, List.set_cons_zero, List.set_cons_succ, i64_w, i32_w]
          rfl
         refine pure_ (i := 15) (N := some 30) (v := undef) (a' := ?_) (bl 16 9) rfl rfl (any_of HT_.out (by kernel_rfl)) (fun _ _ _ h => h) (Or.inr ⟨by rfl, rfl⟩) ?_ ?_
         rotate_left
         ·simp only [Act.put, List.setIfInBounds_toArray, List.set_cons_zero, List.set_cons_succ, i64_w, i32_w]
          rfl
         refine pure_ (i := 16) (N := some 31) (v := undef) (a' := ?_) (bl 17 8) rfl rfl (any_of HT_.out (by kernel_rfl)) (fun _ _ _ h => h) (Or.inr ⟨by rfl, rfl⟩) ?_ ?_
         rotate_left
         ·simp only [Act.put, List.setIfInBounds_toArray, List.set_cons_zero, List.set_cons_succ, i64_w, i32_w]
          rfl
         refine pure_ (i := 17) (N := some 32) (v := undef) (a' := ?_) (bl 18 7) rfl rfl (any_of HT_.out (by kernel_rfl)) (fun _ _ _ h => h) (Or.inr ⟨by rfl, rfl⟩) ?_ ?_
         rotate_left
         ·simp only [Act.put, List.setIfInBounds_toArray, List.set_cons_zero, List.set_cons_succ, i64_w, i32_w]
          rfl
         refine pure_ (i := 18) (N := some 33) (v := undef) (a' := ?_) (bl 19 6) rfl rfl (any_of HT_.out (by kernel_rfl)) (fun _ _ _ h => h) (Or.inr ⟨by rfl, rfl⟩) ?_ ?_
         rotate_left
         ·simp only [Act.put, List.setIfInBounds_toArray, List.set_cons_zero, List.set_cons_succ, i64_w, i32_w]
          rfl
         refine pure_ (i := 19) (N := some 34) (v := undef) (a' := ?_) (bl 20 5) rfl rfl (any_of HT_.out (by kernel_rfl)) (fun _ _ _ h => h) (Or.inr ⟨by rfl, rfl⟩) ?_ ?_
         rotate_left
         ·simp only [Act.put, List.setIfInBounds_toArray, List.set_cons_zero, List.set_cons_succ, i64_w, i32_w]
          rfl
         refine pure_ (i := 20) (N := some 35) (v := undef) (a' := ?_) (bl 21 4) rfl rfl (any_of HT_.out (by kernel_rfl)) (fun _ _ _ h => h) (Or.inr ⟨by rfl, rfl⟩) ?_ ?_
         rotate_left
         ·simp only [Act.put, List.setIfInBounds_toArray, List.set_cons_zero, List.set_cons_succ, i64_w, i32_w]
          rfl
         refine pure_ (i := 21) (N := some 36) (v := undef) (a' := ?_) (bl 22 3) rfl rfl (any_of HT_.out (by kernel_rfl)) (fun _ _ _ h => h) (Or.inr ⟨by rfl, rfl⟩) ?_ ?_
         rotate_left
         ·simp only [Act.put, List.setIfInBounds_toArray, List.set_cons_zero, List.set_cons_succ, i64_w, i32_w]
          rfl
         refine pure_ (i := 22) (N := some 37) (v := undef) (a' := ?_) (bl 23 2) rfl rfl (any_of HT_.out (by kernel_rfl)) (fun _ _ _ h => h) (Or.inr ⟨by rfl, rfl⟩) ?_ ?_
         rotate_left
         ·simp only [Act.put, List.setIfInBounds_toArray, List.set_cons_zero, List.set_cons_succ, i64_w, i32_w]
          rfl
         refine pure_ (i := 23) (N := some 38) (v := undef) (a' := ?_) (bl 24 1) rfl rfl (any_of HT_.out (by kernel_rfl)) (fun _ _ _ h => h) (Or.inr ⟨by rfl, rfl⟩) ?_ ?_
         rotate_left
         ·simp only [Act.put, List.setIfInBounds_toArray, List.set_cons_zero, List.set_cons_succ, i64_w, i32_w]
          rfl
         refine pure_ (i := 24) (N := some 39) (v := ?_) (a' := ?_) (bl 25 0) rfl rfl (any_of HT_.out (by kernel_rfl)) (fun _ _ _ h => h) (Or.inl ⟨by rfl, ?_⟩) ?_ ?_
         rotate_left
         ·intro w'
          go_simp
          with_reducible rfl
         rotate_left
         ·simp only [Act.put, List.setIfInBounds_toArray, List.set_cons_zero, List.set_cons_succ, i64_w, i32_w]
          rfl
         refine done_ (done_of HT_.out (by kernel_rfl)) ?_
         try go_wp2
         go_ret
         exact ⟨by first | rfl | (simp [errW_none, errW_some] <;> rfl) | (simp [*, errW_none, errW_some] <;> rfl), by repeat (first | (with_reducible first | exact HB.out | apply below_alloc | apply pw_below_drewN | apply below_drew1 | refine below_set ?_ GE483.out) | exact HB.out)⟩
       ·replace c7 := Bool.eq_false_iff.mpr c7
        subst c7
        have H1 : (some 42) = some r := by rw [if_neg (show ¬ (false = true) by decide)] at H; exact H
        clear H
        have H := H1
        clear H1
        obtain rfl := Option.some.inj H
        have p482 : 0 ≤ (x10_1 : Int) := of_decide_eq_true (by first | (with_reducible assumption) | assumption)
        have q482 : x10_1 < (l0.length : Int) := of_decide_eq_true (by first | (with_reducible assumption) | assumption)
        obtain ⟨ad482, e482, hx482_0, hx482_1⟩ := at_T51 HR0.out x10_1 p482 q482
        cases e482
        replace hx482_0 := (HB.out.cell (World.block_lt_of_cell? w _ hx482_0)).trans hx482_0
        replace hx482_1 := (HB.out.cell (World.block_lt_of_cell? w _ hx482_1)).trans hx482_1
        replace p482 := eq_true p482
        replace q482 := eq_true q482
        try go_wp2_with (first | ((with_reducible refine gate_dst (N := 4) rfl ?_); refine box_event ?hg (N := 4) ?hd (cs := #[.string (⟨#[]⟩ : ByteArray), .string (⟨#[]⟩ : ByteArray)]) (t := 51) ?hr ?_; (case hd => rfl); (case hg => rfl); (case hr => first | (go_simp; done) | (go_simp; rfl)); intro gb483 hg w39 hbox hb; have n0_ := Aside0.mk (below_step (by repeat (first | (with_reducible first | exact HB.out | apply below_alloc | apply pw_below_drewN | apply below_drew1) | exact HB.out)) hb); have n1_ := Aside0.mk (hbox); have n2_ := Aside0.mk ((by rw [hg]; exact (below_size (by repeat (first | (with_reducible first | exact HB.out | apply below_alloc | apply pw_below_drewN | apply below_drew1) | exact HB.out))) : w.heap.size ≤ gb483)); have n3_ := Aside0.mk ((by rw [hg]; exact (below_size (by repeat (first | (with_reducible first | exact HB.out | apply below_alloc | apply pw_below_drewN | apply below_drew1) | exact HB.out))) : w.heap.size ≤ gb483)); clear HB; have HB := n0_; have BK483 := n1_; have GW483 := n2_; have GE483 := n3_; clear n0_ n1_ n2_ n3_; clear hb hbox hg; have hcz40_0 : w39.cell? ⟨gb483, 0, none⟩ = some (.string (⟨#[]⟩ : ByteArray)) := (blk_cell BK483.out 0).trans rfl; have hcz40_1 : w39.cell? ⟨gb483, 1, none⟩ = some (.string (⟨#[]⟩ : ByteArray)) := (blk_cell BK483.out 1).trans rfl; have hfz40_0 := blk_frozen BK483.out 0; have hfz40_1 := blk_frozen BK483.out 1))
        have n0_ : Aside0 (((w39.setCell ⟨gb483, 0, none⟩ (.string ((rd_T51 l0 x10_1).f0))).setCell ⟨gb483, 1, none⟩ (.string ((rd_T51 l0 x10_1).f1))).heap[gb483]? = some (.cells #[.string ((rd_T51 l0 x10_1).f0), .string ((rd_T51 l0 x10_1).f1)] 51 (0, 0))) := ⟨by (with_reducible repeat (first | refine blk_drewN ?_ _ | refine blk_drew ?_ | refine blk_alloc ?_ _)); refine blk_put (cs := #[.string ((rd_T51 l0 x10_1).f0), .string (⟨#[]⟩ : ByteArray)]) ?_ 1 _ rfl; (with_reducible repeat (first | refine blk_drewN ?_ _ | refine blk_drew ?_ | refine blk_alloc ?_ _)); refine blk_put (cs := #[.string (⟨#[]⟩ : ByteArray), .string (⟨#[]⟩ : ByteArray)]) ?_ 0 _ rfl; (with_reducible repeat (first | refine blk_drewN ?_ _ | refine blk_drew ?_ | refine blk_alloc ?_ _)); exact BK483.out⟩
        have n1_ : Aside0 (Below w.heap.size w ((w39.setCell ⟨gb483, 0, none⟩ (.string ((rd_T51 l0 x10_1).f0))).setCell ⟨gb483, 1, none⟩ (.string ((rd_T51 l0 x10_1).f1)))) := ⟨by repeat (first | (with_reducible first | exact HB.out | apply below_alloc | apply pw_below_drewN | apply below_drew1 | refine below_set ?_ GE483.out) | exact HB.out)⟩
        (try clear BK483)
        (try clear HB)
        generalize ((w39.setCell ⟨gb483, 0, none⟩ (.string ((rd_T51 l0 x10_1).f0))).setCell ⟨gb483, 1, none⟩ (.string ((rd_T51 l0 x10_1).f1))) = w41 at n0_ n1_ ⊢
        have BK483 := n0_
        have HB := n1_
        clear n0_ n1_
        have n0_ := Aside0.mk (blk_drew BK483.out)
        have n1_ := Aside0.mk (below_drew1 HB.out)
        clear BK483
        clear HB
        have BK483 := n0_
        have HB := n1_
        clear n0_ n1_
        refine start_ (n := 25) (S := fun w' => w'.cell? ⟨gb483, 0, none⟩ = some (.string ((rd_T51 l0 x10_1).f0)) ∧ w'.cell? ⟨gb483, 1, none⟩ = some (.string ((rd_T51 l0 x10_1).f1))) (ds := []) (bl 0 25) (by kernel_rfl) rfl rfl ⟨(blk_cell BK483.out 0).trans rfl, (blk_cell BK483.out 1).trans rfl⟩ (fun hHeld => ?_); refine with_tabW label_Valid.tab6 label_Valid.bits6 (fun HT_ HW_ => ?_)
        generalize w41.drew = w42 at BK483 HB hHeld ⊢
        refine pure_ (i := 0) (N := some 15) (v := ?_) (a' := ?_) (bl 1 24) rfl rfl (any_of HT_.out (by kernel_rfl)) (fun _ _ _ h => h) (Or.inl ⟨by rfl, ?_⟩) ?_ ?_
        rotate_left
        ·intro w'
         go_simp
         with_reducible rfl
        rotate_left
        ·simp only [Act.put, List.setIfInBounds_toArray, List.set_cons_zero, List.set_cons_succ, i64_w, i32_w]
         rfl
        refine take_ (i := 1) (N := some 16) (v := ?_) (a' := ?_) (bl 2 23) rfl rfl (take_ofW HT_.out HW_.out (by kernel_rfl)) (fun _ _ _ h => h) (Or.inl ⟨by rfl, ?_⟩) hHeld ?_ ?_
        rotate_left
        ·rintro w' ⟨s0, s1⟩
         go_simp
         with_reducible rfl
        rotate_left
        ·simp only [Act.put, List.setIfInBounds_toArray, List.set_cons_zero, List.set_cons_succ, i64_w, i32_w]
         rfl
        refine one_ (i := 2) (N := some 17) (bl 3 22) rfl rfl (one_of HT_.out (by kernel_rfl)) (by decide) (fun K hK => ?_)
        refine goes_ Tryd.func18 (by kernel_rfl) rfl #[.string ((rd_T51 l0 x10_1).f0)] (by rfl) rfl rfl (by (try simp only [List.map_toArray, List.map_cons, List.map_nil]); first | done | rfl | (simp only [List.length_drop, List.length_take]; rfl)) ?_
        with_reducible refine (label_Name.calls ((rd_T51 l0 x10_1).f0) false _ A6.out).mono ?_
        rintro e w43 ⟨rfl, hb⟩
        refine ⟨_, rfl, ?_⟩
        have n0_ := Aside0.mk (blk_below (g := gb483) (o := .cells #[.string ((rd_T51 l0 x10_1).f0), .string ((rd_T51 l0 x10_1).f1)] 51 (0, 0)) (by (with_reducible repeat (first | refine blk_drewN ?_ _ | refine blk_drew ?_ | refine blk_alloc ?_ _)); exact BK483.out) hb)
        have n1_ := Aside0.mk (below_step (by repeat (first | (with_reducible first | exact HB.out | apply below_alloc | apply pw_below_drewN | apply below_drew1 | refine below_set ?_ GE483.out) | exact HB.out)) hb)
        clear BK483
        clear HB
        have BK483 := n0_
        have HB := n1_
        clear n0_ n1_
        (try clear hb)
        (try clear hb2)
        (try clear hk)
        (try clear hi)
        refine hK.out _ _ ⟨(blk_cell BK483.out 0).trans rfl, (blk_cell BK483.out 1).trans rfl⟩ (fun hHeld => ?_)
        clear hK K
        refine norm_ (a' := ?_) ?_ ?_
        rotate_left
        ·show Act.put _ (some 17) _ = _
         simp only [Act.put, List.setIfInBounds_toArray, List.set_cons_zero, List.set_cons_succ, i64_w, i32_w]
         rfl
        refine pure_ (i := 3) (N := some 18) (v := ?_) (a' := ?_) (bl 4 21) rfl rfl (any_of HT_.out (by kernel_rfl)) (fun _ _ _ h => h) (Or.inl ⟨by rfl, ?_⟩) ?_ ?_
        rotate_left
        ·intro w'
         go_simp
         with_reducible rfl
        rotate_left
        ·simp only [Act.put, List.setIfInBounds_toArray, List.set_cons_zero, List.set_cons_succ, i64_w, i32_w]
         rfl
        refine pure_ (i := 4) (N := some 19) (v := ?_) (a' := ?_) (bl 5 20) rfl rfl (any_of HT_.out (by kernel_rfl)) (fun _ _ _ h => h) (Or.inl ⟨by rfl, ?_⟩) ?_ ?_
        rotate_left
        ·intro w'
         go_simp
         with_reducible rfl
        rotate_left
        ·simp only [Act.put, List.setIfInBounds_toArray, List.set_cons_zero, List.set_cons_succ, i64_w, i32_w]
         rfl
        refine pure_ (i := 5) (N := some 20) (v := undef) (a' := ?_) (bl 6 19) rfl rfl (any_of HT_.out (by kernel_rfl)) (fun _ _ _ h => h) (Or.inr ⟨by rfl, rfl⟩) ?_ ?_
        rotate_left
        ·simp only [Act.put, List.setIfInBounds_toArray, List.set_cons_zero, List.set_cons_succ, i64_w, i32_w]
         rfl
        refine pure_ (i := 6) (N := some 21) (v := undef) (a' := ?_) (bl 7 18) rfl rfl (any_of HT_.out (by kernel_rfl)) (fun _ _ _ h => h) (Or.inr ⟨by rfl, rfl⟩) ?_ ?_
        rotate_left
        ·simp only [Act.put, List.setIfInBounds_toArray, List.set_cons_zero, List.set_cons_succ, i64_w, i32_w]
         rfl
        refine pure_ (i := 7) (N := some 22) (v := undef) (a' := ?_) (bl 8 17) rfl rfl (any_of HT_.out (by kernel_rfl)) (fun _ _ _ h => h) (Or.inr ⟨by rfl, rfl⟩) ?_ ?_
        rotate_left
        ·simp only [Act.put, List.setIfInBounds_toArray, List.set_cons_zero, List.set_cons_succ, i64_w, i32_w]
         rfl
        refine pure_ (i := 8) (N := some 23) (v := undef) (a' := ?_) (bl 9 16) rfl rfl (any_of HT_.out (by kernel_rfl)) (fun _ _ _ h => h) (Or.inr ⟨by rfl, rfl⟩) ?_ ?_
        rotate_left
        ·simp only [Act.put, List.setIfInBounds_toArray, List.set_cons_zero, List.set_cons_succ, i64_w, i32_w]
         rfl
        refine pure_ (i := 9) (N := some 24) (v := ?_) (a' := ?_) (bl 10 15) rfl rfl (any_of HT_.out (by kernel_rfl)) (fun _ _ _ h => h) (Or.inl ⟨by rfl, ?_⟩) ?_ ?_
        rotate_left
        ·intro w'
         go_simp
         with_reducible rfl
        rotate_left
        ·simp only [Act.put, List.setIfInBounds_toArray, List.set_cons_zero, List.set_cons_succ, i64_w, i32_w]
         rfl
        refine pure_ (i := 10) (N := some 25) (v := ?_) (a' := ?_) (bl 11 14) rfl rfl (any_of HT_.out (by kernel_rfl)) (fun _ _ _ h => h) (Or.inl ⟨by rfl, ?_⟩) ?_ ?_
        rotate_left
        ·intro w'
         go_simp
         with_reducible rfl
        rotate_left
        ·simp only [Act.put, List.setIfInBounds_toArray, List.set_cons_zero, List.set_cons_succ, i64_w, i32_w]
         rfl
        refine pure_ (i := 11) (N := some 26) (v := undef) (a' := ?_) (bl 12 13) rfl rfl (any_of HT_.out (by kernel_rfl)) (fun _ _ _ h => h) (Or.inr ⟨by rfl, rfl⟩) ?_ ?_
        rotate_left
        ·simp only [Act.put, List.setIfInBounds_toArray, List.set_cons_zero, List.set_cons_succ, i64_w, i32_w]
         rfl
        refine pure_ (i := 12) (N := some 27) (v := undef) (a' := ?_) (bl 13 12) rfl rfl (any_of HT_.out (by kernel_rfl)) (fun _ _ _ h => h) (Or.inr ⟨by rfl, rfl⟩) ?_ ?_
        rotate_left
        ·simp only [Act.put, List.setIfInBounds_toArray, List.set_cons_zero, List.set_cons_succ, i64_w, i32_w]
         rfl
        refine pure_ (i := 13) (N := some 28) (v := undef) (a' := ?_) (bl 14 11) rfl rfl (any_of HT_.out (by kernel_rfl)) (fun _ _ _ h => h) (Or.inr ⟨by rfl, rfl⟩) ?_ ?_
        rotate_left
        ·simp only [Act.put, List.setIfInBounds_toArray, List.set_cons_zero, List.set_cons_succ, i64_w, i32_w]
         rfl
        refine pure_ (i := 14) (N := some 29) (v := undef) (a' := ?_) (bl 15 10) rfl rfl (any_of HT_.out (by kernel_rfl)) (fun _ _ _ h => h) (Or.inr ⟨by rfl, rfl⟩) ?_ ?_
        rotate_left
        ·simp only [Act.put, List.setIfInBounds_toArray, List.set_cons_zero, List.set_cons_succ, i64_w, i32_w]
         rfl
        refine pure_ (i := 15) (N := some 30) (v := undef) (a' := ?_) (bl 16 9) rfl rfl (any_of HT_.out (by kernel_rfl)) (fun _ _ _ h => h) (Or.inr ⟨by rfl, rfl⟩) ?_ ?_
        rotate_left
        ·simp only [Act.put, List.setIfInBounds_toArray, List.set_cons_zero, List.set_cons_succ, i64_w, i32_w]
         rfl
        refine pure_ (i := 16) (N := some 31) (v := undef) (a' := ?_) (bl 17 8) rfl rfl (any_of HT_.out (by kernel_rfl)) (fun _ _ _ h => h) (Or.inr ⟨by rfl, rfl⟩) ?_ ?_
        rotate_left
        ·simp only [Act.put, List.setIfInBounds_toArray, List.set_cons_zero, List.set_cons_succ, i64_w, i32_w]
         rfl
        refine pure_ (i := 17) (N := some 32) (v := undef) (a' := ?_) (bl 18 7) rfl rfl (any_of HT_.out (by kernel_rfl)) (fun _ _ _ h => h) (Or.inr ⟨by rfl, rfl⟩) ?_ ?_
        rotate_left
        ·simp only [Act.put, List.setIfInBounds_toArray, List.set_cons_zero, List.set_cons_succ, i64_w, i32_w]
         rfl
        refine pure_ (i := 18) (N := some 33) (v := undef) (a' := ?_) (bl 19 6) rfl rfl (any_of HT_.out (by kernel_rfl)) (fun _ _ _ h => h) (Or.inr ⟨by rfl, rfl⟩) ?_ ?_
        rotate_left
        ·simp only [Act.put, List.setIfInBounds_toArray, List.set_cons_zero, List.set_cons_succ, i64_w, i32_w]
         rfl
        refine pure_ (i := 19) (N := some 34) (v := undef) (a' := ?_) (bl 20 5) rfl rfl (any_of HT_.out (by kernel_rfl)) (fun _ _ _ h => h) (Or.inr ⟨by rfl, rfl⟩) ?_ ?_
        rotate_left
        ·simp only [Act.put, List.setIfInBounds_toArray, List.set_cons_zero, List.set_cons_succ, i64_w, i32_w]
         rfl
        refine pure_ (i := 20) (N := some 35) (v := undef) (a' := ?_) (bl 21 4) rfl rfl (any_of HT_.out (by kernel_rfl)) (fun _ _ _ h => h) (Or.inr ⟨by rfl, rfl⟩) ?_ ?_
        rotate_left
        ·simp only [Act.put, List.setIfInBounds_toArray, List.set_cons_zero, List.set_cons_succ, i64_w, i32_w]
         rfl
        refine pure_ (i := 21) (N := some 36) (v := undef) (a' := ?_) (bl 22 3) rfl rfl (any_of HT_.out (by kernel_rfl)) (fun _ _ _ h => h) (Or.inr ⟨by rfl, rfl⟩) ?_ ?_
        rotate_left
        ·simp only [Act.put, List.setIfInBounds_toArray, List.set_cons_zero, List.set_cons_succ, i64_w, i32_w]
         rfl
        refine pure_ (i := 22) (N := some 37) (v := undef) (a' := ?_) (bl 23 2) rfl rfl (any_of HT_.out (by kernel_rfl)) (fun _ _ _ h => h) (Or.inr ⟨by rfl, rfl⟩) ?_ ?_
        rotate_left
        ·simp only [Act.put, List.setIfInBounds_toArray, List.set_cons_zero, List.set_cons_succ, i64_w, i32_w]
         rfl
        refine pure_ (i := 23) (N := some 38) (v := undef) (a' := ?_) (bl 24 1) rfl rfl (any_of HT_.out (by kernel_rfl)) (fun _ _ _ h => h) (Or.inr ⟨by rfl, rfl⟩) ?_ ?_
        rotate_left
        ·simp only [Act.put, List.setIfInBounds_toArray, List.set_cons_zero, List.set_cons_succ, i64_w, i32_w]
         rfl
        refine pure_ (i := 24) (N := some 39) (v := ?_) (a' := ?_) (bl 25 0) rfl rfl (any_of HT_.out (by kernel_rfl)) (fun _ _ _ h => h) (Or.inl ⟨by rfl, ?_⟩) ?_ ?_
        rotate_left
        ·intro w'
         go_simp
         with_reducible rfl
        rotate_left
        ·simp only [Act.put, List.setIfInBounds_toArray, List.set_cons_zero, List.set_cons_succ, i64_w, i32_w]
         rfl
        refine done_ (done_of HT_.out (by kernel_rfl)) ?_
        try go_wp2
        go_ret
        exact ⟨by first | rfl | (simp [errW_none, errW_some] <;> rfl) | (simp [*, errW_none, errW_some] <;> rfl), by repeat (first | (with_reducible first | exact HB.out | apply below_alloc | apply pw_below_drewN | apply below_drew1 | refine below_set ?_ GE483.out) | exact HB.out)⟩
      ·rw [if_neg c5] at H
       exact absurd H (by simp)
     ·rw [if_neg c4] at H
      exact absurd H (by simp)
    ·rw [if_neg c3] at H
     have c3b0 : decide (x10_1 < (l0.length : Int)) = false := decide_eq_false c3
     clear c3
     obtain rfl := Option.some.inj H
     go_wp2
     go_ret
     exact ⟨by first | rfl | (simp [errW_none, errW_some] <;> rfl) | (simp [*, errW_none, errW_some] <;> rfl), by repeat (first | (with_reducible first | exact HB.out | apply below_alloc | apply pw_below_drewN | apply below_drew1) | exact HB.out)⟩
end Go.Proofs.YteaiobgnhlpblaaDoor.Q
namespace Go.Proofs.YteaiobgnhlpblaaDoor.Q
open Go.RowKit Go.WideMaps Go.Maps Go.Proofs.YteaiobgnhlpblaaDoorW.PrintWords Go.Proofs.YteaiobgnhlpblaaDoorW.PrintLast
set_option linter.unusedVariables false
set_option linter.unusedSimpArgs false
def keyN (l : List S51) (j : Nat) : ByteArray := (rd_T51 l (j : Int)).f0
def lastN (l : List S51) (x : ByteArray) : Nat → Option Nat
  | 0 => none
  | i + 1 => if keyN l i = x then some i else lastN l x i
def putN (l : List S51) : Nat → DataW Unit
  | 0 => .map []
  | i + 1 => (putN l i).put (.string (keyN l i).data.toList) (.lit (.int .i64 (i : Int)))
theorem putN_map (l : List S51) : ∀ i, IsMap (putN l i)
  | 0 => isMap_empty
  | i + 1 => (putN_map l i).put _ _
theorem lastN_lt (l : List S51) (x : ByteArray) : ∀ i j, lastN l x i = some j → j < i ∧ keyN l j = x
  | 0, j, h => by simp [lastN] at h
  | i + 1, j, h => by
    unfold lastN at h
    split at h
    · rename_i hk
      obtain rfl := Option.some.inj h
      exact ⟨by omega, hk⟩
    · have := lastN_lt l x i j h
      exact ⟨by omega, this.2⟩
theorem putN_has (l : List S51) (x : ByteArray) : ∀ i, Maps.has (putN l i) (.string x.data.toList) = (lastN l x i).isSome
  | 0 => rfl
  | i + 1 => by
    unfold lastN
    by_cases hk : keyN l i = x
    · rw [if_pos hk]
      subst hk
      exact has_put_same (putN_map l i) (by trivial) _
    · rw [if_neg hk, ← putN_has l x i]
      exact has_put_other (fun e => hk (ba_ext (by injection e with e; exact e.symm))) _
theorem putN_at (l : List S51) (x : ByteArray) (z : DataW Unit) : ∀ i j, lastN l x i = some j → (putN l i).atKey (.string x.data.toList) z = .lit (.int .i64 (j : Int))
  | 0, j, h => by simp [lastN] at h
  | i + 1, j, h => by
    unfold lastN at h
    by_cases hk : keyN l i = x
    · rw [if_pos hk] at h
      obtain rfl := Option.some.inj h
      subst hk
      exact atKey_put_same (putN_map l i) (by trivial) _ z
    · rw [if_neg hk] at h
      rw [← putN_at l x z i j h]
      exact atKey_put_other (fun e => hk (ba_ext (by injection e with e; exact e.symm))) _ z
theorem putN_none (l : List S51) (x : ByteArray) (z : DataW Unit) (i : Nat) (h : lastN l x i = none) : (putN l i).atKey (.string x.data.toList) z = z :=
  atKey_of_not_has (by rw [putN_has, h]; rfl) z
theorem lookup_known {P : Program} (w : World) {ops : Array Oper} {rest : List Oper} {o : Oper} {a : Act} {Q : Exit → Act → World → Prop}
    (hg : o.guard = none) (m x : Operand) (t : TypeId) (hop : o.op = Op.lookup t m x true)
    (k e : TypeId) (q : IntKind) (K : Keyed P k) (ht : P.underlying t = some (.map k e)) (he : P.underlying e = some (.int q)) (hz : (zeroValue e).run P w = .ok (.int q 0) w) (b n : Nat) (D : DataW Unit)
    (hm : a.eval m = .map (some b)) (hown : w.ownsMap P k (plainElem P e) b n D) (key : Value) (kl : Lit) (hx : a.eval x = key) (hkey : keyOf P k key = some kl)
    (c : Int) (B : Bool) (hc : D.atKey kl (.lit (.int q 0)) = .lit (.int q c)) (hB : Maps.has D kl = B)
    (hK : wpList P ops Q rest (a.put o.dst (.tuple #[.int q c, .bool B])) w) :
    wpList P ops Q (o :: rest) a w := by
  refine wpList_lookup_own_ok_int w hg m x t hop k e q K ht he hz b n D hm hown key kl hx hkey (fun c' hc' _ => ?_)
  rw [hc] at hc'
  injection hc' with h1
  injection h1 with _ h2
  subst h2
  rw [hB]
  exact hK
def holdB (l : List S51) (t : S45) : Bool :=
  match lastN l t.f0 l.length with
  | some j => if t.f1 = 0 then memB t.f2 (rd_T51 l (j : Int)).f1 else if t.f1 = 1 then !memB t.f2 (rd_T51 l (j : Int)).f1 else if t.f1 = 2 then true else false
  | none => if t.f1 = 0 then false else if t.f1 = 1 then true else if t.f1 = 2 then false else true
def label_Match.f (k : Nat) (l0 : List S45) (l1 : List S51) : Option (Bool × Int) :=
  if (decide (l0.length ≤ 8) && l0.all propB) = true then ((label_Valid.f k l1).bind fun e => if e = 0 then some (l0.all (holdB l1), 0) else some (false, e)) else some (false, 43)
theorem label_Match.mono : ∀ a0 a1 k, LeO (label_Match.f k a0 a1) (label_Match.f (k + 1) a0 a1) := by
  intro a0 a1 k
  unfold label_Match.f
  refine LeO.ite (LeO.bind (label_Valid.mono _ _) (fun _ => LeO.refl _)) (LeO.refl _)
theorem nameB_size {s : ByteArray} (h : nameB s = true) : s.size ≤ 32 := by
  unfold nameB at h
  simp only [Bool.and_eq_true, decide_eq_true_eq] at h
  exact h.1.1.1.2
theorem valid_keys (l : List S51) (h16 : l.length ≤ 16) : ∀ (k i : Nat), label_Valid.l0 k l l (l.length : Int) (i : Int) = some 0 → ∀ j : Nat, i ≤ j → j < l.length → nameB (keyN l j) = true
  | 0, i, h => by simp [label_Valid.l0] at h
  | k + 1, i, h => by
    intro j hj hjl
    have hnx : label_Valid.l0 k l l (l.length : Int) (wrap64 ((i : Int) + 1)) = some 0 → i ≠ j → nameB (keyN l j) = true := fun hx hne => by
      rw [w64 i (by omega)] at hx
      exact valid_keys l h16 k (i + 1) hx j (by omega) hjl
    simp only [label_Valid.l0] at h
    rw [if_pos (by omega), if_pos (by omega), if_pos (by omega)] at h
    obtain ⟨a, ha, h⟩ := Option.bind_eq_some_iff.mp h
    by_cases hA : a = true
    rotate_left
    · rw [if_neg hA] at h; cases h
    rw [if_pos hA] at h
    obtain ⟨b, hb, h⟩ := Option.bind_eq_some_iff.mp h
    by_cases hB : b = true
    rotate_left
    · rw [if_neg hB] at h; cases h
    rw [if_pos hB] at h
    by_cases hij : i = j
    · subst hij
      have : nameB (keyN l i) = a := Option.some.inj ha
      rw [this, hA]
    · by_cases hgt : (i : Int) > 0
      · rw [if_pos hgt] at h
        by_cases hp : 0 ≤ wrap64 ((i : Int) - 1)
        · rw [if_pos hp] at h
          by_cases hq : wrap64 ((i : Int) - 1) < (l.length : Int)
          · rw [if_pos hq] at h
            split at h
            · exact hnx h hij
            · cases h
          · rw [if_neg hq] at h; cases h
        · rw [if_neg hp] at h; cases h
      · rw [if_neg hgt] at h
        exact hnx h hij
theorem valid_key (l : List S51) (k : Nat) (h : label_Valid.f k l = some 0) (j : Nat) (hj : j < l.length) : (keyN l j).size ≤ 32 := by
  unfold label_Valid.f at h
  split at h
  · cases h
  · exact nameB_size (valid_keys l (by omega) k 0 h j (by omega) hj)
theorem prop_key {t : S45} (h : propB t = true) : t.f0.size ≤ 32 := by
  unfold propB properB at h
  rw [Bool.and_eq_true] at h
  exact nameB_size h.1
theorem prop_how {t : S45} (h : propB t = true) : t.f1 = 2 ∨ t.f1 = 3 ∨ ((t.f1 = 0 ∨ t.f1 = 1) ∧ t.f2.length ≤ 8) := by
  unfold propB properB at h
  rw [Bool.and_eq_true] at h
  have h2 := h.2
  split at h2
  · rename_i hc
    rcases hc with hc | hc
    · exact .inl hc
    · exact .inr (.inl hc)
  · split at h2
    · rename_i hc
      rw [Bool.and_eq_true, Bool.and_eq_true] at h2
      exact .inr (.inr ⟨hc, of_decide_eq_true h2.1.2⟩)
    · cases h2
theorem prop_at {l : List S45} (h : l.all propB = true) (i : Nat) (hi : i < l.length) : propB (rd_T45 l (i : Int)) = true := by
  have : rd_T45 l (i : Int) = l[i] := by simp [rd_T45, List.getD_eq_getElem?_getD, List.getElem?_eq_getElem hi]
  rw [this]
  exact List.all_eq_true.1 h _ (List.getElem_mem _)
theorem hold_true {l : List S45} {p : S45 → Bool} (h : ∀ j, j < l.length → p (rd_T45 l (j : Int)) = true) : l.all p = true := by
  rw [List.all_eq_true]
  intro x hx
  obtain ⟨j, hj, rfl⟩ := List.getElem_of_mem hx
  have := h j hj
  simpa [rd_T45, List.getD_eq_getElem?_getD, List.getElem?_eq_getElem hj] using this
theorem hold_false {l : List S45} {p : S45 → Bool} (j : Nat) (hj : j < l.length) (h : p (rd_T45 l (j : Int)) = false) : l.all p = false := by
  rw [List.all_eq_false]
  refine ⟨l[j], List.getElem_mem _, ?_⟩
  have : rd_T45 l (j : Int) = l[j] := by simp [rd_T45, List.getD_eq_getElem?_getD, List.getElem?_eq_getElem hj]
  rw [this] at h
  simp [h]
theorem wf_small (i : Nat) {n : Nat} (h : i < n) (hn : n ≤ 16) : (Lit.int .i64 (i : Int)).wf = true := by
  have : i < 16 := by omega
  have hh : ∀ j : Fin 16, (Lit.int .i64 ((j.1 : Nat) : Int)).wf = true := by decide
  exact hh ⟨i, this⟩
theorem grown_of_below {w w' : World} (h : Below w.heap.size w w') : w.grownBy w' none := ⟨h.os, h.tape, h.output, h.size, fun k hk _ => h.block k hk⟩
theorem lawM : Keyed Tryd.prog 9 := string_keyed Tryd.underlying9
theorem zeroM (w : World) : (zeroValue 3).run Tryd.prog w = .ok (.int .i64 0) w := by kernel_rfl
theorem keyM {s : ByteArray} (h : s.size ≤ 32) : keyOf Tryd.prog 9 (.string s) = some (.string s.data.toList) := keyOf_string_mk Tryd.underlying9 (by unfold maxLen; omega)
set_option maxHeartbeats 8000000 in
set_option maxRecDepth 100000 in
theorem label_Match.calls (k : Nat) (A0 : Option Addr) (c0 : Nat) (l0 : List S45) (A1 : Option Addr) (c1 : Nat) (l1 : List S51) (r1 : Bool) (r2 : Int) (w : World)
    (hr0 : Kd.C k45 w A0 l0.length l0) (hc0 : l0.length ≤ c0) (hr1 : Kd.C k51 w A1 l1.length l1) (hc1 : l1.length ≤ c1) (h : label_Match.f k l0 l1 = some (r1, r2)) :
    Calls Tryd.prog 37 #[.slice A0 l0.length c0, .slice A1 l1.length c1] w fun e w' => e = .returned (.tuple #[.bool r1, .int .i64 r2]) ∧ Below w.heap.size w w' := by
  have HR0 := Aside0.mk hr0
  have HC0 := Aside0.mk hc0
  have HR1 := Aside0.mk hr1
  have HC1 := Aside0.mk hc1
  clear hr0 hc0 hr1 hc1
  have hu45 := Tryd.underlying45
  have hu51 := Tryd.underlying51
  have hmm := @run_makeMap Tryd.prog
  unfold label_Match.f at h
  cases hall : (decide (l0.length ≤ 8) && l0.all propB) with
  | false =>
    have HALL := Lib.hid hall
    rw [hall, if_neg (by decide)] at h
    simp only [Option.some.injEq, Prod.mk.injEq] at h
    obtain ⟨rfl, rfl⟩ := h
    clear hall
    go_enter Tryd.func37, Tryd.ntmps37
    go_wp2_with (go_at_call 45; refine (label_all.calls A0 c0 l0 _ _ HR0.out HC0.out rfl).mono ?_; rintro e w1 ⟨rfl, hb1⟩; rw [HALL.out])
    go_ret2
    exact ⟨rfl, hb1⟩
  | true =>
    have HALL := Lib.hid hall
    rw [hall, if_pos rfl] at h
    obtain ⟨e0, hv, h⟩ := Option.bind_eq_some_iff.mp h
    have HV := Lib.hid hv
    have HP := Lib.hid (show l0.all propB = true by rw [Bool.and_eq_true] at hall; exact hall.2)
    have h8l : l0.length ≤ 8 := by rw [Bool.and_eq_true] at hall; exact of_decide_eq_true hall.1
    clear hall
    by_cases he : e0 = 0
    rotate_left
    · rw [if_neg he] at h
      simp only [Option.some.injEq, Prod.mk.injEq] at h
      obtain ⟨rfl, rfl⟩ := h
      have hne : (e0 != 0) = true := bne_iff_ne.mpr he
      clear hv he
      go_enter Tryd.func37, Tryd.ntmps37
      go_wp2_with (first | (go_at_call 45; refine (label_all.calls A0 c0 l0 _ _ HR0.out HC0.out rfl).mono ?_; rintro e w1 ⟨rfl, hb1⟩; rw [HALL.out]) | (go_at_call 35; refine (label_Valid.calls k A1 c1 l1 e0 _ (Kd.C_below HR1.out hb1) HC1.out HV.out).mono ?_; rintro e w2 ⟨rfl, hb2⟩; have hb3 := below_step hb1 hb2; clear hb2))
      go_ret2
      exact ⟨rfl, hb3⟩
    subst he
    rw [if_pos rfl] at h
    simp only [Option.some.injEq, Prod.mk.injEq] at h
    obtain ⟨hr, rfl⟩ := h
    have HRR := Lib.hid hr
    have HKEY := Lib.hid (valid_key l1 k hv)
    clear hv hr
    have h16 : l1.length ≤ 16 := by
      have := HV.out
      unfold label_Valid.f at this
      split at this
      · cases this
      · omega
    go_enter Tryd.func37, Tryd.ntmps37
    go_wp2_with (first | (go_at_call 45; refine (label_all.calls A0 c0 l0 _ _ HR0.out HC0.out rfl).mono ?_; rintro e w1 ⟨rfl, hb1⟩; rw [HALL.out]) | (go_at_call 35; refine (label_Valid.calls k A1 c1 l1 0 _ (Kd.C_below HR1.out hb1) HC1.out HV.out).mono ?_; rintro e w2 ⟨rfl, hb2⟩; have HB2 := Aside0.mk (below_step hb1 hb2); clear hb2 hb1))
    obtain ⟨gm, hgm⟩ : ∃ gm, gm = w2.heap.size := ⟨_, rfl⟩
    have HGM := Lib.hid hgm
    have HGW : w.heap.size ≤ gm := by rw [hgm]; exact HB2.out.size
    have HOWN0 := Aside0.mk (World.ownsMap_made w2 Tryd.prog 9 (plainElem (H := Unit) Tryd.prog 3))
    have HB3 := Aside0.mk (HB2.out.alloc HB2.out.size (.map #[] 0))
    rw [← hgm] at HOWN0
    rw [← hgm]
    clear hgm
    go_loopg [8, 9, 27] l1.length (fun g v8 v9 v27 wr => ∃ i : Nat, v27 = .int .i64 i ∧ i ≤ l1.length ∧ l1.length ≤ i + g ∧ Aside0 (wr.ownsMap Tryd.prog 9 (plainElem (H := Unit) Tryd.prog 3) gm i (putN l1 i)) ∧ Aside0 (Below w.heap.size w wr))
    case atStart => exact ⟨0, rfl, by omega, by omega, HOWN0, HB3⟩
    case round =>
      clear HOWN0 HB3
      obtain ⟨i, rfl, hin, hig, hown, hbw⟩ := hrel
      by_cases hlt : i < l1.length
      · cases gk with
        | zero => omega
        | succ g =>
          obtain ⟨ad, eA, hx0, hx1⟩ := at_T51 HR1.out (i : Int) (by omega) (by omega)
          cases eA
          rw [Int.toNat_natCast] at hx0 hx1
          replace hx0 := (hbw.out.cell (World.block_lt_of_cell? w _ hx0)).trans hx0
          replace hx1 := (hbw.out.cell (World.block_lt_of_cell? w _ hx1)).trans hx1
          have hkey := Lib.hid (keyM (HKEY.out i hlt))
          unfold keyN at hkey
          go_wp2_with (first
            | (at_mapUpdate; refine wpList_mapUpdate_own _ rfl _ _ _ 64 rfl 9 3 lawM Tryd.underlying64 _ gm i _ rfl (hown.out.alloc _) (by unfold maxLen; omega) _ _ _ rfl rfl hkey.out _ [] (plainElem_int Tryd.underlying3 (wf_small _ hlt h16)) ?_; intro w5 hown1 hgrow1; have HO1 := Aside0.mk hown1; have HB1 := Aside0.mk ((hbw.out.alloc hbw.out.size _).grown hgrow1 (hbw.out.alloc hbw.out.size _).size (fun j hj => by cases hj; exact HGW)); clear hown1 hgrow1))
          go_roundg g
          case measure => omega
          case rel => exact ⟨i + 1, by go_num, by omega, by omega, HO1, HB1⟩
      · obtain rfl : i = l1.length := by omega
        go_wp2
        go_loopg [11, 12, 13, 14, 15, 39] l0.length (fun g v11 v12 v13 v14 v15 v39 ws => ∃ j : Nat, v39 = .int .i64 j ∧ j ≤ l0.length ∧ l0.length ≤ j + g ∧ Aside0 (∀ y, y < j → holdB l1 (rd_T45 l0 (y : Int)) = true) ∧ Aside0 (ws.ownsMap Tryd.prog 9 (plainElem (H := Unit) Tryd.prog 3) gm l1.length (putN l1 l1.length)) ∧ Aside0 (Below w.heap.size w ws))
        case atStart => exact ⟨0, rfl, by omega, by omega, ⟨fun y hy => by omega⟩, hown, hbw⟩
        case round =>
          clear hown hbw
          obtain ⟨j, rfl, hjn, hjg, hhold, hown, hbw⟩ := hrel
          by_cases hlt2 : j < l0.length
          · cases gk with
            | zero => omega
            | succ g =>
              obtain ⟨ad, A2, c2, eA, hx0, hx1, hx2, hl2, hi2⟩ := at_T45 HR0.out (j : Int) (by omega) (by omega)
              cases eA
              rw [Int.toNat_natCast] at hx0 hx1 hx2
              replace hx0 := (hbw.out.cell (World.block_lt_of_cell? w _ hx0)).trans hx0
              replace hx1 := (hbw.out.cell (World.block_lt_of_cell? w _ hx1)).trans hx1
              replace hx2 := (hbw.out.cell (World.block_lt_of_cell? w _ hx2)).trans hx2
              have hp := prop_at HP.out j hlt2
              have hon : holdB l1 (rd_T45 l0 (j : Int)) = true → ∀ y, y < j + 1 → holdB l1 (rd_T45 l0 (y : Int)) = true := fun h1 y hy => by
                rcases Nat.lt_or_ge y j with h | h
                · exact hhold.out y h
                · have e : y = j := by omega
                  rw [e]; exact h1
              have HON := Lib.hid hon
              have HOFF := Lib.hid (fun h1 => HRR.out.symm.trans (hold_false (p := holdB l1) j hlt2 h1))
              clear hon hhold
              have HPP := Lib.hid hp
              have hkey := Lib.hid (keyM (prop_key hp))
              have HR2 := Aside0.mk hi2
              have HC2 := Aside0.mk hl2
              clear hi2 hl2 hp
              generalize rd_T45 l0 (j : Int) = t at *
              cases hat : lastN l1 t.f0 l1.length with
              | some jj =>
                have HAT := Lib.hid (putN_at l1 t.f0 (.lit (.int .i64 0)) l1.length jj hat)
                have HHAS := Lib.hid (show Maps.has (putN l1 l1.length) (.string t.f0.data.toList) = true by rw [putN_has, hat]; rfl)
                have hjj := (lastN_lt l1 t.f0 _ _ hat).1
                obtain ⟨ad1, eA1, hy0, hy1⟩ := at_T51 HR1.out (jj : Int) (by omega) (by omega)
                cases eA1
                rw [Int.toNat_natCast] at hy0 hy1
                have HY1 := Lib.hid hy1
                clear hy0 hy1
                have HBW1 := Aside0.mk (hbw.out.alloc hbw.out.size (.cells #[.string t.f0, .int .i64 t.f1, .slice A2 t.f2.length c2] 45))
                rcases prop_how HPP.out with hh | hh | ⟨hh | hh, H8⟩
                · rw [hh] at hx1 HBW1
                  have hy3 := (HBW1.out.cell (World.block_lt_of_cell? w _ HY1.out)).trans HY1.out
                  have HH := Lib.hid (show holdB l1 t = true by unfold holdB; rw [hat]; simp only [hh]; rfl)
                  clear hh hat
                  go_wp2_with (first | (at_lookup; refine lookup_known _ rfl _ _ 64 rfl 9 3 .i64 lawM Tryd.underlying64 Tryd.underlying3 (zeroM _) gm l1.length _ rfl (hown.out.alloc _) _ _ rfl hkey.out (jj : Int) true HAT.out HHAS.out ?_))
                  go_roundg g
                  case measure => omega
                  case rel => exact ⟨j + 1, by go_num, by omega, by omega, ⟨HON.out HH.out⟩, ⟨hown.out.alloc _⟩, HBW1⟩
                · rw [hh] at hx1 HBW1
                  have hy3 := (HBW1.out.cell (World.block_lt_of_cell? w _ HY1.out)).trans HY1.out
                  have HH := Lib.hid (show holdB l1 t = false by unfold holdB; rw [hat]; simp only [hh]; rfl)
                  clear hh hat
                  go_wp2_with (first | (at_lookup; refine lookup_known _ rfl _ _ 64 rfl 9 3 .i64 lawM Tryd.underlying64 Tryd.underlying3 (zeroM _) gm l1.length _ rfl (hown.out.alloc _) _ _ rfl hkey.out (jj : Int) true HAT.out HHAS.out ?_))
                  go_ret2
                  exact ⟨by rw [HOFF.out HH.out]; rfl, HBW1.out⟩
                · rw [hh] at hx1 HBW1
                  have hy3 := (HBW1.out.cell (World.block_lt_of_cell? w _ HY1.out)).trans HY1.out
                  cases hm : memB t.f2 (rd_T51 l1 (jj : Int)).f1 with
                  | true =>
                    have HM := Lib.hid hm
                    have HH := Lib.hid (show holdB l1 t = true by unfold holdB; rw [hat]; simp only [hh, hm]; rfl)
                    clear hm hh hat
                    go_wp2_with (first | (at_lookup; refine lookup_known _ rfl _ _ 64 rfl 9 3 .i64 lawM Tryd.underlying64 Tryd.underlying3 (zeroM _) gm l1.length _ rfl (hown.out.alloc _) _ _ rfl hkey.out (jj : Int) true HAT.out HHAS.out ?_) | (go_at_call 55; refine (contains_at t.f2 t.f2.length (Nat.le_refl _) H8 A2 c2 HC2.out (rd_T51 l1 (jj : Int)).f1 w _ HR2.out HBW1.out).mono ?_; rintro e w4 ⟨rfl, hb4⟩; rw [List.take_length, HM.out]; have hbw5 := Aside0.mk (below_step HBW1.out hb4); have hown5 := Aside0.mk (World.ownsMap.kept (hown.out.alloc _) (grown_of_below hb4) (by simp)); clear hb4))
                    go_roundg g
                    case measure => omega
                    case rel => exact ⟨j + 1, by go_num, by omega, by omega, ⟨HON.out HH.out⟩, hown5, hbw5⟩
                  | false =>
                    have HM := Lib.hid hm
                    have HH := Lib.hid (show holdB l1 t = false by unfold holdB; rw [hat]; simp only [hh, hm]; rfl)
                    clear hm hh hat
                    go_wp2_with (first | (at_lookup; refine lookup_known _ rfl _ _ 64 rfl 9 3 .i64 lawM Tryd.underlying64 Tryd.underlying3 (zeroM _) gm l1.length _ rfl (hown.out.alloc _) _ _ rfl hkey.out (jj : Int) true HAT.out HHAS.out ?_) | (go_at_call 55; refine (contains_at t.f2 t.f2.length (Nat.le_refl _) H8 A2 c2 HC2.out (rd_T51 l1 (jj : Int)).f1 w _ HR2.out HBW1.out).mono ?_; rintro e w4 ⟨rfl, hb4⟩; rw [List.take_length, HM.out]; have hbw5 := Aside0.mk (below_step HBW1.out hb4); have hown5 := Aside0.mk (World.ownsMap.kept (hown.out.alloc _) (grown_of_below hb4) (by simp)); clear hb4))
                    go_ret2
                    exact ⟨by rw [HOFF.out HH.out]; rfl, hbw5.out⟩
                · rw [hh] at hx1 HBW1
                  have hy3 := (HBW1.out.cell (World.block_lt_of_cell? w _ HY1.out)).trans HY1.out
                  cases hm : memB t.f2 (rd_T51 l1 (jj : Int)).f1 with
                  | true =>
                    have HM := Lib.hid hm
                    have HH := Lib.hid (show holdB l1 t = false by unfold holdB; rw [hat]; simp only [hh, hm]; rfl)
                    clear hm hh hat
                    go_wp2_with (first | (at_lookup; refine lookup_known _ rfl _ _ 64 rfl 9 3 .i64 lawM Tryd.underlying64 Tryd.underlying3 (zeroM _) gm l1.length _ rfl (hown.out.alloc _) _ _ rfl hkey.out (jj : Int) true HAT.out HHAS.out ?_) | (go_at_call 55; refine (contains_at t.f2 t.f2.length (Nat.le_refl _) H8 A2 c2 HC2.out (rd_T51 l1 (jj : Int)).f1 w _ HR2.out HBW1.out).mono ?_; rintro e w4 ⟨rfl, hb4⟩; rw [List.take_length, HM.out]; have hbw5 := Aside0.mk (below_step HBW1.out hb4); have hown5 := Aside0.mk (World.ownsMap.kept (hown.out.alloc _) (grown_of_below hb4) (by simp)); clear hb4))
                    go_ret2
                    exact ⟨by rw [HOFF.out HH.out]; rfl, hbw5.out⟩
                  | false =>
                    have HM := Lib.hid hm
                    have HH := Lib.hid (show holdB l1 t = true by unfold holdB; rw [hat]; simp only [hh, hm]; rfl)
                    clear hm hh hat
                    go_wp2_with (first | (at_lookup; refine lookup_known _ rfl _ _ 64 rfl 9 3 .i64 lawM Tryd.underlying64 Tryd.underlying3 (zeroM _) gm l1.length _ rfl (hown.out.alloc _) _ _ rfl hkey.out (jj : Int) true HAT.out HHAS.out ?_) | (go_at_call 55; refine (contains_at t.f2 t.f2.length (Nat.le_refl _) H8 A2 c2 HC2.out (rd_T51 l1 (jj : Int)).f1 w _ HR2.out HBW1.out).mono ?_; rintro e w4 ⟨rfl, hb4⟩; rw [List.take_length, HM.out]; have hbw5 := Aside0.mk (below_step HBW1.out hb4); have hown5 := Aside0.mk (World.ownsMap.kept (hown.out.alloc _) (grown_of_below hb4) (by simp)); clear hb4))
                    go_roundg g
                    case measure => omega
                    case rel => exact ⟨j + 1, by go_num, by omega, by omega, ⟨HON.out HH.out⟩, hown5, hbw5⟩
              | none =>
                have HAT := Lib.hid (putN_none l1 t.f0 (.lit (.int .i64 0)) l1.length hat)
                have HHAS := Lib.hid (show Maps.has (putN l1 l1.length) (.string t.f0.data.toList) = false by rw [putN_has, hat]; rfl)
                have HBW1 := Aside0.mk (hbw.out.alloc hbw.out.size (.cells #[.string t.f0, .int .i64 t.f1, .slice A2 t.f2.length c2] 45))
                rcases prop_how HPP.out with hh | hh | ⟨hh | hh, H8⟩
                · rw [hh] at hx1 HBW1
                  have HH := Lib.hid (show holdB l1 t = false by unfold holdB; rw [hat]; simp only [hh]; rfl)
                  clear hh hat
                  go_wp2_with (first | (at_lookup; refine lookup_known _ rfl _ _ 64 rfl 9 3 .i64 lawM Tryd.underlying64 Tryd.underlying3 (zeroM _) gm l1.length _ rfl (hown.out.alloc _) _ _ rfl hkey.out 0 false HAT.out HHAS.out ?_))
                  go_ret2
                  exact ⟨by rw [HOFF.out HH.out]; rfl, HBW1.out⟩
                · rw [hh] at hx1 HBW1
                  have HH := Lib.hid (show holdB l1 t = true by unfold holdB; rw [hat]; simp only [hh]; rfl)
                  clear hh hat
                  go_wp2_with (first | (at_lookup; refine lookup_known _ rfl _ _ 64 rfl 9 3 .i64 lawM Tryd.underlying64 Tryd.underlying3 (zeroM _) gm l1.length _ rfl (hown.out.alloc _) _ _ rfl hkey.out 0 false HAT.out HHAS.out ?_))
                  go_roundg g
                  case measure => omega
                  case rel => exact ⟨j + 1, by go_num, by omega, by omega, ⟨HON.out HH.out⟩, ⟨hown.out.alloc _⟩, HBW1⟩
                · rw [hh] at hx1 HBW1
                  have HH := Lib.hid (show holdB l1 t = false by unfold holdB; rw [hat]; simp only [hh]; rfl)
                  clear hh hat
                  go_wp2_with (first | (at_lookup; refine lookup_known _ rfl _ _ 64 rfl 9 3 .i64 lawM Tryd.underlying64 Tryd.underlying3 (zeroM _) gm l1.length _ rfl (hown.out.alloc _) _ _ rfl hkey.out 0 false HAT.out HHAS.out ?_))
                  go_ret2
                  exact ⟨by rw [HOFF.out HH.out]; rfl, HBW1.out⟩
                · rw [hh] at hx1 HBW1
                  have HH := Lib.hid (show holdB l1 t = true by unfold holdB; rw [hat]; simp only [hh]; rfl)
                  clear hh hat
                  go_wp2_with (first | (at_lookup; refine lookup_known _ rfl _ _ 64 rfl 9 3 .i64 lawM Tryd.underlying64 Tryd.underlying3 (zeroM _) gm l1.length _ rfl (hown.out.alloc _) _ _ rfl hkey.out 0 false HAT.out HHAS.out ?_))
                  go_roundg g
                  case measure => omega
                  case rel => exact ⟨j + 1, by go_num, by omega, by omega, ⟨HON.out HH.out⟩, ⟨hown.out.alloc _⟩, HBW1⟩
          · obtain rfl : j = l0.length := by omega
            have HF := Lib.hid (HRR.out.symm.trans (hold_true hhold.out))
            clear hhold
            go_wp2
            go_ret2
            exact ⟨by rw [HF.out]; rfl, hbw.out⟩
end Go.Proofs.YteaiobgnhlpblaaDoor.Q
namespace Go.Proofs.YteaiobgnhlpblaaDoor.Q
open Go.RowKit Go.Proofs.YteaiobgnhlpblaaDoorW.PrintWords Go.Proofs.YteaiobgnhlpblaaDoorW.PrintLast Go.Proofs.YteaiobgnhlpblaaDoor.Pl
set_option linter.unusedVariables false
set_option linter.unusedSimpArgs false
def valN (l : List S51) (j : Nat) : ByteArray := (rd_T51 l (j : Int)).f1
def vlB (l : List S51) (i : Nat) : Bool := decide (valN l i = ByteArray.empty) || nameB (valN l i)
def ordB (l : List S51) (i : Nat) : Bool := decide (i = 0) || Op.bytesLess (keyN l (i - 1)).toList (keyN l i).toList
def vstep (l : List S51) (i : Nat) : Bool := nameB (keyN l i) && (vlB l i && ordB l i)
def vR (l : List S51) : Int := if l.length ≤ 16 ∧ (List.range' 0 l.length).all (vstep l) = true then 0 else 42
theorem value_some (a : ByteArray) : label_value.f a = some (decide (a = ByteArray.empty) || nameB a) := by
  unfold label_value.f
  by_cases h : a = ByteArray.empty
  · subst h; rw [if_pos (by rw [ByteArray.toList_eq]; rfl)]; rfl
  · rw [if_neg (fun e => h (ba_ext (by rw [ByteArray.toList_eq] at e; rw [e]; rfl))), decide_eq_false h]; rfl
theorem tail_ev (l : List S51) (i : Nat) (hi : i < l.length) (h16 : l.length ≤ 16) (g : Nat → Int → Option Int) (r : Int) (hg : Ev (fun k => g k ((i + 1 : Nat) : Int)) r) :
    Ev (fun k => if (i : Int) > 0 then (if 0 ≤ (wrap64 ((i : Int) - 1)) then (if (wrap64 ((i : Int) - 1)) < (l.length : Int) then (if ((Op.bytesLess (((rd_T51 l (wrap64 ((i : Int) - 1))).f0).toList) (((rd_T51 l (i : Int)).f0).toList)) = true) then (g k (wrap64 ((i : Int) + 1))) else (some 42)) else (none)) else (none)) else (g k (wrap64 ((i : Int) + 1)))) (if ordB l i = true then r else 42) := by
  rw [w64 i (by omega)]
  by_cases h0 : i = 0
  · have : ordB l i = true := by unfold ordB; rw [decide_eq_true h0]; rfl
    rw [if_pos this]
    exact Ev.congr (fun k => if_neg (by omega)) hg
  · have e : wrap64 ((i : Int) - 1) = ((i - 1 : Nat) : Int) := by unfold wrap64; omega
    rw [e]
    cases hb : Op.bytesLess (keyN l (i - 1)).toList (keyN l i).toList with
    | true =>
      have : ordB l i = true := by unfold ordB; rw [hb]; simp
      rw [if_pos this]
      exact Ev.congr (fun k => (if_pos (by omega)).trans ((if_pos (by omega)).trans ((if_pos (by omega)).trans (if_pos hb)))) hg
    | false =>
      have : ordB l i = false := by unfold ordB; rw [hb, decide_eq_false h0]; rfl
      rw [if_neg (by rw [this]; decide)]
      exact Ev.congr (fun k => (if_pos (by omega)).trans ((if_pos (by omega)).trans ((if_pos (by omega)).trans (if_neg (by unfold keyN at hb; rw [hb]; decide))))) (Ev.now _)
theorem vstep_if (l : List S51) (i d : Nat) : (if (List.range' i (d + 1)).all (vstep l) = true then (0 : Int) else 42) = if nameB (keyN l i) = true then (if vlB l i = true then (if ordB l i = true then (if (List.range' (i + 1) d).all (vstep l) = true then 0 else 42) else 42) else 42) else 42 := by
  rw [List.range'_succ, List.all_cons]
  generalize (List.range' (i + 1) d).all (vstep l) = R
  unfold vstep
  cases nameB (keyN l i) <;> cases vlB l i <;> cases ordB l i <;> cases R <;> rfl
theorem lv_loop (l : List S51) (h16 : l.length ≤ 16) (d : Nat) : ∀ i : Nat, i + d = l.length → Ev (fun k => label_Valid.l0 k l l (l.length : Int) (i : Int)) (if (List.range' i d).all (vstep l) = true then 0 else 42) := by
  induction d with
  | zero =>
    intro i hi
    exact Ev.step (f := fun _ => some 0) (fun k => by simp only [label_Valid.l0]; rw [if_neg (by omega)]) (Ev.now _)
  | succ d ih =>
    intro i hi
    have ht := tail_ev l i (by omega) h16 (fun k x => label_Valid.l0 k l l (l.length : Int) x) _ (ih (i + 1) (by omega))
    rw [vstep_if]
    cases hn : nameB (keyN l i) with
    | false =>
      exact Ev.step (f := fun _ => some 42) (fun k => by simp only [label_Valid.l0]; rw [if_pos (by omega), if_pos (by omega), if_pos (by omega), show label_Name.f (rd_T51 l (i : Int)).f0 = some false from congrArg some hn, Option.bind_some, if_neg (by decide)]) (Ev.now _)
    | true =>
      rw [if_pos rfl]
      have hvs : label_value.f (rd_T51 l (i : Int)).f1 = some (vlB l i) := value_some _
      cases hv : vlB l i with
      | false =>
        rw [hv] at hvs
        exact Ev.step (f := fun _ => some 42) (fun k => by simp only [label_Valid.l0]; rw [if_pos (by omega), if_pos (by omega), if_pos (by omega), show label_Name.f (rd_T51 l (i : Int)).f0 = some true from congrArg some hn, Option.bind_some, if_pos rfl, hvs, Option.bind_some, if_neg (by decide)]) (Ev.now _)
      | true =>
        rw [hv] at hvs
        rw [if_pos rfl]
        refine Ev.step (fun k => ?_) ht
        simp only [label_Valid.l0]
        rw [if_pos (by omega), if_pos (by omega), if_pos (by omega), show label_Name.f (rd_T51 l (i : Int)).f0 = some true from congrArg some hn, Option.bind_some, if_pos rfl, hvs, Option.bind_some, if_pos rfl]
theorem valid_ev (l : List S51) : Ev (fun k => label_Valid.f k l) (vR l) := by
  unfold vR
  by_cases h : l.length ≤ 16
  · have := lv_loop l h l.length 0 (by omega)
    have e : (if l.length ≤ 16 ∧ (List.range' 0 l.length).all (vstep l) = true then (0 : Int) else 42) = if (List.range' 0 l.length).all (vstep l) = true then 0 else 42 := by simp only [h, true_and]
    rw [e]
    exact Ev.congr (fun k => by unfold label_Valid.f; rw [if_neg (by omega)]; rfl) this
  · rw [if_neg (fun x => h x.1)]
    exact Ev.congr (fun k => by unfold label_Valid.f; rw [if_pos (by omega)]) (Ev.now _)
theorem vR_step {l : List S51} (h : vR l = 0) : l.length ≤ 16 ∧ ∀ i, i < l.length → vstep l i = true := by
  unfold vR at h
  split at h
  · rename_i hc
    exact ⟨hc.1, fun i hi => List.all_eq_true.1 hc.2 i (by simp; omega)⟩
  · cases h
theorem keys_rise {l : List S51} (h : vR l = 0) (a : Nat) : ∀ d : Nat, a + d + 1 < l.length → Op.bytesLess (keyN l a).toList (keyN l (a + d + 1)).toList = true
  | 0, hd => by
    have := (vR_step h).2 (a + 1) hd
    unfold vstep ordB at this
    simp only [Bool.and_eq_true, Bool.or_eq_true, decide_eq_true_eq] at this
    rcases this.2.2 with h | h
    · omega
    · exact h
  | d + 1, hd => by
    have := (vR_step h).2 (a + d + 1 + 1) hd
    unfold vstep ordB at this
    simp only [Bool.and_eq_true, Bool.or_eq_true, decide_eq_true_eq] at this
    rcases this.2.2 with h' | h'
    · omega
    · exact less_trans _ _ _ (keys_rise h a d (by omega)) h'
theorem keys_apart {l : List S51} (h : vR l = 0) (a b : Nat) (hab : a < b) (hb : b < l.length) : keyN l a ≠ keyN l b := fun e => by
  obtain ⟨d, rfl⟩ : ∃ d, b = a + d + 1 := ⟨b - a - 1, by omega⟩
  have := keys_rise h a d hb
  rw [e, less_irrefl] at this
  cases this
end Go.Proofs.YteaiobgnhlpblaaDoor.Q
namespace Go.Proofs.YteaiobgnhlpblaaDoor.Q
open Go.RowKit Go.Proofs.YteaiobgnhlpblaaDoorW.PrintWords Go.Proofs.YteaiobgnhlpblaaDoorW.PrintLast Go.Proofs.YteaiobgnhlpblaaDoor.Pl
set_option linter.unusedVariables false
set_option linter.unusedSimpArgs false
theorem lastN_none (l : List S51) (x : ByteArray) : ∀ n, (∀ a, a < n → keyN l a ≠ x) → lastN l x n = none
  | 0, _ => rfl
  | n + 1, h => by
    unfold lastN
    rw [if_neg (h n (by omega))]
    exact lastN_none l x n (fun a ha => h a (by omega))
theorem lastN_some (l : List S51) (x : ByteArray) (i : Nat) (hk : keyN l i = x) : ∀ n, i < n → (∀ b, i < b → b < n → keyN l b ≠ x) → lastN l x n = some i
  | 0, h, _ => by omega
  | n + 1, h, hb => by
    unfold lastN
    by_cases hi : i = n
    · subst hi; rw [if_pos hk]
    · rw [if_neg (hb n (by omega) (by omega))]
      exact lastN_some l x i hk n (by omega) (fun b h1 h2 => hb b h1 (by omega))
theorem prop_f2 {t : S45} (h : propB t = true) : t.f2.length ≤ 8 := by
  rcases prop_how h with hh | hh | ⟨_, hh⟩
  · unfold propB properB at h
    rw [Bool.and_eq_true, if_pos (.inl hh), decide_eq_true_iff] at h
    omega
  · unfold propB properB at h
    rw [Bool.and_eq_true, if_pos (.inr hh), decide_eq_true_iff] at h
    omega
  · exact hh
def mR (ts : List S45) (l : List S51) : Bool × Int := if allB ts = true then (if vR l = 0 then (ts.all (holdB l), 0) else (false, vR l)) else (false, 43)
theorem match_ev (ts : List S45) (l : List S51) : Ev (fun k => label_Match.f k ts l) (mR ts l) := by
  unfold mR
  by_cases h : allB ts = true
  · rw [if_pos h]
    refine Ev.congr (f := fun k => (label_Valid.f k l).bind fun e => if e = 0 then some (ts.all (holdB l), 0) else some (false, e)) (fun k => by unfold label_Match.f; exact if_pos h) (Ev.bind (valid_ev l) ?_)
    by_cases h2 : vR l = 0
    · rw [if_pos h2, if_pos h2]; exact Ev.now _
    · rw [if_neg h2, if_neg h2]; exact Ev.now _
  · rw [if_neg h]
    exact Ev.congr (fun k => by unfold label_Match.f; exact if_neg h) (Ev.now _)
end Go.Proofs.YteaiobgnhlpblaaDoor.Q
