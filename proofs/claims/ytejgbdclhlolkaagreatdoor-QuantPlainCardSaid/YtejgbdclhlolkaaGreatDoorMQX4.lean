/- What the statement QuantPlainCardSaid rests on, part 4 of 5: walks and plain laws; what of the printer's words it leans on. -/
import Derived.Test.YtejgbdclhlolkaaGreatDoorProg
import Derived.Test.YtejgbdclhlolkaaGreatDoorMQX3
import Derived.Shelf.SlGeneric
import Derived.Shelf.SlSortCmp.WholeK
import Derived.Ground.SlsfProg
import Derived.Ground.NamesProg
import Derived.Maps.RangeWalk
import Derived.Maps.OwnSet
import Derived.Shelf.SlSortCmp.NoneTotal
namespace Go.Proofs.YtejgbdclhlolkaaGreatDoor.Q
open Go.RowKit Go.Proofs.YtejgbdclhlolkaaGreatDoorW.PrintWords Go.Proofs.YtejgbdclhlolkaaGreatDoorW.PrintLast Go.Proofs.YtejgbdclhlolkaaGreatDoorW.PrintMore
attribute [local go_sem] binOp_leq_ binOp_gtr_ binOp_geq_ max2_int min2_int max_two min_two max_three min_three max_four min_four   -- for this text's walks alone
set_option linter.unusedVariables false
set_option linter.unusedSimpArgs false
def quant_Valid.l0 : Nat → List (S57) → List (S57) → Int → Int → Option (Int)
 | 0, _, _, _, _ => none
 | k + 1, x0, x8, x9, x10 => if x10 < x9 then (if 0 ≤ x10 then (if x10 < (x8.length : Int) then ((quant_resource.f k ((rd_T57 x8 x10).f0)).bind fun t455 => (if t455 = true then (if ((rd_T57 x8 x10).f1) < 0 then (some 31) else (if x10 > 0 then (if 0 ≤ (wrap64 (x10 - 1)) then (if (wrap64 (x10 - 1)) < (x0.length : Int) then (if ((Op.bytesLess (((rd_T57 x0 (wrap64 (x10 - 1))).f0).toList) (((rd_T57 x8 x10).f0).toList)) = true) then (quant_Valid.l0 k x0 x8 x9 (wrap64 (x10 + 1))) else (some 31)) else (none)) else (none)) else (quant_Valid.l0 k x0 x8 x9 (wrap64 (x10 + 1))))) else (some 31))) else (none)) else (none)) else (some 0)
def quant_Valid.f (k : Nat) (l0 : List (S57)) : Option (Int) := if (l0.length : Int) > 16 then (some 23) else (quant_Valid.l0 k l0 l0 (l0.length : Int) 0)
theorem quant_Valid.mono_l : ∀ k, (∀ y0 y1 y2 y3, LeO (quant_Valid.l0 k y0 y1 y2 y3) (quant_Valid.l0 (k + 1) y0 y1 y2 y3))
 | 0 => fun _ _ _ _ r h => by simp [quant_Valid.l0] at h
 | k + 1 => by
  have ih0 := quant_Valid.mono_l k
  ·intro y0 y1 y2 y3
   unfold quant_Valid.l0
   repeat' first
   | (with_reducible exact ih0 _ _ _ _)
   | (with_reducible exact quant_resource.mono _ _)
   | (with_reducible exact LeO.refl _)
   | (with_reducible exact LeO.none _)
   | (with_reducible refine LeO.ite ?_ ?_)
   | (with_reducible refine LeO.bind ?_ (fun _ => ?_))
   | exact ih0 _ _ _ _
   | exact quant_resource.mono _ _
   | exact LeO.none _
   | refine LeO.ite ?_ ?_
   | refine LeO.bind ?_ (fun _ => ?_)
theorem quant_Valid.mono : ∀ a0 k, LeO (quant_Valid.f k a0) (quant_Valid.f (k + 1) a0) := by
 intro a0 k
 have ih0 := quant_Valid.mono_l k
 unfold quant_Valid.f
 repeat' first
   | (with_reducible exact ih0 _ _ _ _)
   | (with_reducible exact quant_resource.mono _ _)
   | (with_reducible exact LeO.refl _)
   | (with_reducible exact LeO.none _)
   | (with_reducible refine LeO.ite ?_ ?_)
   | (with_reducible refine LeO.bind ?_ (fun _ => ?_))
   | exact ih0 _ _ _ _
   | exact quant_resource.mono _ _
   | exact LeO.none _
   | refine LeO.ite ?_ ?_
   | refine LeO.bind ?_ (fun _ => ?_)
def quant_Valid.T6 : Bool × List (List Nat × List Nat) := (true, [([], []), ([0], [0]), ([1], [1]), ([2], [2]), ([3, 2], [3]), ([4], [4]), ([5, 4], [4, 5]), ([6, 4], [4, 6]), ([4, 7], [4, 7]), ([8, 4], [8]), ([9], [9]), ([10, 9], [9, 10]), ([11, 9, 9], [9, 11]), ([12], [12]), ([13, 12], [12, 13]), ([12], [12]), ([12], [12]), ([16, 12], [12, 16]), ([15, 17, 12], [12, 15, 17]), ([18, 12], [12, 18]), ([19, 12], [12, 19]), ([14, 20, 12], [12, 14, 20]), ([12, 21, 9], [9, 12, 21]), ([9, 22], [9, 22])])
def quant_Valid.B6 : List Nat := [0, 1, 3, 7, 15, 31, 63, 127, 255, 511, 1023, 2047, 4095, 8191, 16383, 8191, 8191, 73727, 237567, 499711, 1023999, 2097151, 4194303, 8388607]
theorem quant_Valid.tab6 : rtab .any (opsOf Tryz.f40 6) = quant_Valid.T6 := by kernel_rfl
theorem quant_Valid.bits6 : waitsOk quant_Valid.T6.2 quant_Valid.B6 = true := by kernel_rfl
set_option maxHeartbeats 8000000 in
set_option maxRecDepth 100000 in
theorem quant_Valid.calls (k : Nat) (A0 : Option Addr) (c0 : Nat) (l0 : List (S57)) (r : Int) (w : World) (hr0 : Kd.C k57 w A0 l0.length l0) (hc0 : l0.length ≤ c0) (h : quant_Valid.f k l0 = some r) (hG : Glob w) :
  Calls Tryz.prog 40 #[.slice A0 l0.length c0] w fun e w' => e = .returned (.int .i64 r) ∧ Below w.heap.size w w' := by
 have hu57 := Tryz.underlying57
 have HR0 := Aside0.mk hr0
 have HC0 := Aside0.mk hc0
 clear hr0 hc0
 have HB := Aside0.mk (Below.refl w.heap.size w)
 have H : (if (l0.length : Int) > 16 then (some 23) else (quant_Valid.l0 k l0 l0 (l0.length : Int) 0)) = some r := h
 clear h
 by_cases c2 : (l0.length : Int) > 16
 ·rw [if_pos c2] at H
  have c2b0 : decide (16 < (l0.length : Int)) = true := decide_eq_true c2
  have c2b1 : decide (16 < l0.length) = true := decide_eq_true (by omega)
  clear c2
  obtain rfl := Option.some.inj H
  go_enter Tryz.func40, Tryz.ntmps40
  go_wp2
  go_ret
  exact ⟨by first | rfl | (simp [errW_none, errW_some] <;> rfl) | (simp [*, errW_none, errW_some] <;> rfl), by repeat (first | (with_reducible first | exact HB.out | apply below_alloc | apply pw_below_drewN | apply below_drew1) | exact HB.out)⟩
 ·rw [if_neg c2] at H
  have c2b0 : decide (16 < (l0.length : Int)) = false := decide_eq_false c2
  have c2b1 : decide (16 < l0.length) = false := decide_eq_false (by omega)
  clear c2
  have H' := Aside0.mk H
  clear H
  go_enter Tryz.func40, Tryz.ntmps40
  go_wp2
  go_loopg [10] k (fun kq v10 w' => ∃ (x10_1 : Int), v10 = .int .i64 x10_1 ∧ Aside0 (quant_Valid.l0 kq l0 l0 (l0.length : Int) x10_1 = some r) ∧ Aside0 (kq ≤ k) ∧ Aside0 (Below w.heap.size w w'))
  case atStart => exact ⟨(0), (by first | rfl | (simp; done) | (simp [*]; done) | (simp; rw [Bool.eq_iff_iff]; simp; done) | (rw [Bool.eq_iff_iff]; simp; done)), H', ⟨Nat.le_refl _⟩, ⟨by repeat (first | (with_reducible first | exact HB.out | apply below_alloc | apply pw_below_drewN | apply below_drew1) | exact HB.out)⟩⟩
  case round =>
   clear H'
   try clear c2
   try clear c2b0
   try clear c2b1
   try clear p2
   obtain ⟨x10_1, rfl, HA, HK1, HB⟩ := hrel
   cases gk with
   | zero => exact absurd HA.out (by simp [quant_Valid.l0])
   | succ k1 =>
    have H := HA.out
    clear HA
    simp only [quant_Valid.l0] at H
    by_cases c3 : x10_1 < (l0.length : Int)
    ·rw [if_pos c3] at H
     have c3b0 : decide (x10_1 < (l0.length : Int)) = true := decide_eq_true c3
     clear c3
     by_cases c4 : 0 ≤ x10_1
     ·rw [if_pos c4] at H
      have c4b0 : decide (0 ≤ x10_1) = true := decide_eq_true c4
      clear c4
      by_cases c5 : x10_1 < (l0.length : Int)
      ·rw [if_pos c5] at H
       have c5b0 : decide (x10_1 < (l0.length : Int)) = true := decide_eq_true c5
       clear c5
       replace H := Option.bind_eq_some_iff.mp H
       obtain ⟨t455, A60, H⟩ := H
       replace H : (if t455 = true then (if ((rd_T57 l0 x10_1).f1) < 0 then (some 31) else (if x10_1 > 0 then (if 0 ≤ (wrap64 (x10_1 - 1)) then (if (wrap64 (x10_1 - 1)) < (l0.length : Int) then (if ((Op.bytesLess (((rd_T57 l0 (wrap64 (x10_1 - 1))).f0).toList) (((rd_T57 l0 x10_1).f0).toList)) = true) then (quant_Valid.l0 k1 l0 l0 (l0.length : Int) (wrap64 (x10_1 + 1))) else (some 31)) else (none)) else (none)) else (quant_Valid.l0 k1 l0 l0 (l0.length : Int) (wrap64 (x10_1 + 1))))) else (some 31)) = some r := H
       have A6 := Aside0.mk A60
       clear A60
       by_cases c7 : t455 = true
       ·subst c7
        have H1 : (if ((rd_T57 l0 x10_1).f1) < 0 then (some 31) else (if x10_1 > 0 then (if 0 ≤ (wrap64 (x10_1 - 1)) then (if (wrap64 (x10_1 - 1)) < (l0.length : Int) then (if ((Op.bytesLess (((rd_T57 l0 (wrap64 (x10_1 - 1))).f0).toList) (((rd_T57 l0 x10_1).f0).toList)) = true) then (quant_Valid.l0 k1 l0 l0 (l0.length : Int) (wrap64 (x10_1 + 1))) else (some 31)) else (none)) else (none)) else (quant_Valid.l0 k1 l0 l0 (l0.length : Int) (wrap64 (x10_1 + 1))))) = some r := by rw [if_pos rfl] at H; exact H
        clear H
        have H := H1
        clear H1
        by_cases c8 : ((rd_T57 l0 x10_1).f1) < 0
        ·rw [if_pos c8] at H
         have c8b0 : decide (((rd_T57 l0 x10_1).f1) < 0) = true := decide_eq_true c8
         clear c8
         obtain rfl := Option.some.inj H
         have p453 : 0 ≤ (x10_1 : Int) := of_decide_eq_true (by first | (with_reducible assumption) | assumption)
         have q453 : x10_1 < (l0.length : Int) := of_decide_eq_true (by first | (with_reducible assumption) | assumption)
         obtain ⟨ad453, e453, hx453_0, hx453_1⟩ := at_T57 HR0.out x10_1 p453 q453
         cases e453
         replace hx453_0 := (HB.out.cell (World.block_lt_of_cell? w _ hx453_0)).trans hx453_0
         replace hx453_1 := (HB.out.cell (World.block_lt_of_cell? w _ hx453_1)).trans hx453_1
         replace p453 := eq_true p453
         replace q453 := eq_true q453
         try go_wp2_with (first | ((with_reducible refine gate_dst (N := 4) rfl ?_); refine box_event ?hg (N := 4) ?hd (cs := #[.string (⟨#[]⟩ : ByteArray), .int .i64 0]) (t := 57) ?hr ?_; (case hd => rfl); (case hg => rfl); (case hr => first | (go_simp; done) | (go_simp; rfl)); intro gb454 hg w9 hbox hb; have n0_ := Aside0.mk (below_step (by repeat (first | (with_reducible first | exact HB.out | apply below_alloc | apply pw_below_drewN | apply below_drew1) | exact HB.out)) hb); have n1_ := Aside0.mk (hbox); have n2_ := Aside0.mk ((by rw [hg]; exact (below_size (by repeat (first | (with_reducible first | exact HB.out | apply below_alloc | apply pw_below_drewN | apply below_drew1) | exact HB.out))) : w.heap.size ≤ gb454)); have n3_ := Aside0.mk ((by rw [hg]; exact (below_size (by repeat (first | (with_reducible first | exact HB.out | apply below_alloc | apply pw_below_drewN | apply below_drew1) | exact HB.out))) : w.heap.size ≤ gb454)); clear HB; have HB := n0_; have BK454 := n1_; have GW454 := n2_; have GE454 := n3_; clear n0_ n1_ n2_ n3_; clear hb hbox hg; have hcz10_0 : w9.cell? ⟨gb454, 0, none⟩ = some (.string (⟨#[]⟩ : ByteArray)) := (blk_cell BK454.out 0).trans rfl; have hcz10_1 : w9.cell? ⟨gb454, 1, none⟩ = some (.int .i64 0) := (blk_cell BK454.out 1).trans rfl; have hfz10_0 := blk_frozen BK454.out 0; have hfz10_1 := blk_frozen BK454.out 1))
         have n0_ : Aside0 (((w9.setCell ⟨gb454, 0, none⟩ (.string ((rd_T57 l0 x10_1).f0))).setCell ⟨gb454, 1, none⟩ (.int .i64 ((rd_T57 l0 x10_1).f1))).heap[gb454]? = some (.cells #[.string ((rd_T57 l0 x10_1).f0), .int .i64 ((rd_T57 l0 x10_1).f1)] 57 (0, 0))) := ⟨by (with_reducible repeat (first | refine blk_drewN ?_ _ | refine blk_drew ?_ | refine blk_alloc ?_ _)); refine blk_put (cs := #[.string ((rd_T57 l0 x10_1).f0), .int .i64 0]) ?_ 1 _ rfl; (with_reducible repeat (first | refine blk_drewN ?_ _ | refine blk_drew ?_ | refine blk_alloc ?_ _)); refine blk_put (cs := #[.string (⟨#[]⟩ : ByteArray), .int .i64 0]) ?_ 0 _ rfl; (with_reducible repeat (first | refine blk_drewN ?_ _ | refine blk_drew ?_ | refine blk_alloc ?_ _)); exact BK454.out⟩
         have n1_ : Aside0 (Below w.heap.size w ((w9.setCell ⟨gb454, 0, none⟩ (.string ((rd_T57 l0 x10_1).f0))).setCell ⟨gb454, 1, none⟩ (.int .i64 ((rd_T57 l0 x10_1).f1)))) := ⟨by repeat (first | (with_reducible first | exact HB.out | apply below_alloc | apply pw_below_drewN | apply below_drew1 | refine below_set ?_ GE454.out) | exact HB.out)⟩
         (try clear BK454)
         (try clear HB)
         generalize ((w9.setCell ⟨gb454, 0, none⟩ (.string ((rd_T57 l0 x10_1).f0))).setCell ⟨gb454, 1, none⟩ (.int .i64 ((rd_T57 l0 x10_1).f1))) = w11 at n0_ n1_ ⊢
         have BK454 := n0_
         have HB := n1_
         clear n0_ n1_
         have n0_ := Aside0.mk (blk_drew BK454.out)
         have n1_ := Aside0.mk (below_drew1 HB.out)
         clear BK454
         clear HB
         have BK454 := n0_
         have HB := n1_
         clear n0_ n1_
         refine start_ (n := 24) (S := fun w' => w'.cell? ⟨gb454, 0, none⟩ = some (.string ((rd_T57 l0 x10_1).f0)) ∧ w'.cell? ⟨gb454, 1, none⟩ = some (.int .i64 ((rd_T57 l0 x10_1).f1))) (ds := []) (bl 0 24) (by kernel_rfl) rfl rfl ⟨(blk_cell BK454.out 0).trans rfl, (blk_cell BK454.out 1).trans rfl⟩ (fun hHeld => ?_); refine with_tabW quant_Valid.tab6 quant_Valid.bits6 (fun HT_ HW_ => ?_)
         generalize w11.drew = w12 at BK454 HB hHeld ⊢
         refine pure_ (i := 0) (N := some 15) (v := ?_) (a' := ?_) (bl 1 23) rfl rfl (any_of HT_.out (by kernel_rfl)) (fun _ _ _ h => h) (Or.inl ⟨by rfl, ?_⟩) ?_ ?_
         rotate_left
         ·intro w'
          go_simp
          with_reducible rfl
         rotate_left
         ·simp only [Act.put, List.setIfInBounds_toArray, List.set_cons_zero, List.set_cons_succ, i64_w, i32_w]
          rfl
         refine take_ (i := 1) (N := some 16) (v := ?_) (a' := ?_) (bl 2 22) rfl rfl (take_ofW HT_.out HW_.out (by kernel_rfl)) (fun _ _ _ h => h) (Or.inl ⟨by rfl, ?_⟩) hHeld ?_ ?_
         rotate_left
         ·rintro w' ⟨s0, s1⟩
          go_simp
          with_reducible rfl
         rotate_left
         ·simp only [Act.put, List.setIfInBounds_toArray, List.set_cons_zero, List.set_cons_succ, i64_w, i32_w]
          rfl
         refine one_ (i := 2) (N := some 17) (bl 3 21) rfl rfl (one_of HT_.out (by kernel_rfl)) (by decide) (fun K hK => ?_)
         refine goes_ Tryz.func71 (by kernel_rfl) rfl #[.string ((rd_T57 l0 x10_1).f0)] (by rfl) rfl rfl (by (try simp only [List.map_toArray, List.map_cons, List.map_nil]); first | done | rfl | (simp only [List.length_drop, List.length_take]; rfl)) ?_
         with_reducible refine (quant_resource.calls k1 ((rd_T57 l0 x10_1).f0) true _ A6.out (Glob.below hG (by repeat (first | (with_reducible first | exact HB.out | apply below_alloc | apply pw_below_drewN | apply below_drew1) | exact HB.out)))).mono ?_
         rintro e w13 ⟨rfl, hb⟩
         refine ⟨_, rfl, ?_⟩
         have n0_ := Aside0.mk (blk_below (g := gb454) (o := .cells #[.string ((rd_T57 l0 x10_1).f0), .int .i64 ((rd_T57 l0 x10_1).f1)] 57 (0, 0)) (by (with_reducible repeat (first | refine blk_drewN ?_ _ | refine blk_drew ?_ | refine blk_alloc ?_ _)); exact BK454.out) hb)
         have n1_ := Aside0.mk (below_step (by repeat (first | (with_reducible first | exact HB.out | apply below_alloc | apply pw_below_drewN | apply below_drew1 | refine below_set ?_ GE454.out) | exact HB.out)) hb)
         clear BK454
         clear HB
         have BK454 := n0_
         have HB := n1_
         clear n0_ n1_
         (try clear hb)
         (try clear hb2)
         (try clear hk)
         (try clear hi)
         refine hK.out _ _ ⟨(blk_cell BK454.out 0).trans rfl, (blk_cell BK454.out 1).trans rfl⟩ (fun hHeld => ?_)
         clear hK K
         refine norm_ (a' := ?_) ?_ ?_
         rotate_left
         ·show Act.put _ (some 17) _ = _
          simp only [Act.put, List.setIfInBounds_toArray, List.set_cons_zero, List.set_cons_succ, i64_w, i32_w]
          rfl
         refine pure_ (i := 3) (N := some 18) (v := ?_) (a' := ?_) (bl 4 20) rfl rfl (any_of HT_.out (by kernel_rfl)) (fun _ _ _ h => h) (Or.inl ⟨by rfl, ?_⟩) ?_ ?_
         rotate_left
         ·intro w'
          go_simp
          with_reducible rfl
         rotate_left
         ·simp only [Act.put, List.setIfInBounds_toArray, List.set_cons_zero, List.set_cons_succ, i64_w, i32_w]
          rfl
         refine pure_ (i := 4) (N := some 19) (v := ?_) (a' := ?_) (bl 5 19) rfl rfl (any_of HT_.out (by kernel_rfl)) (fun _ _ _ h => h) (Or.inl ⟨by rfl, ?_⟩) ?_ ?_
         rotate_left
         ·intro w'
          go_simp
          with_reducible rfl
         rotate_left
         ·simp only [Act.put, List.setIfInBounds_toArray, List.set_cons_zero, List.set_cons_succ, i64_w, i32_w]
          rfl
         refine pure_ (i := 5) (N := some 20) (v := ?_) (a' := ?_) (bl 6 18) rfl rfl (any_of HT_.out (by kernel_rfl)) (fun _ _ _ h => h) (Or.inl ⟨by rfl, ?_⟩) ?_ ?_
         rotate_left
         ·intro w'
          go_simp
          with_reducible rfl
         rotate_left
         ·simp only [Act.put, List.setIfInBounds_toArray, List.set_cons_zero, List.set_cons_succ, i64_w, i32_w]
          rfl
         refine take_ (i := 6) (N := some 21) (v := ?_) (a' := ?_) (bl 7 17) rfl rfl (take_ofW HT_.out HW_.out (by kernel_rfl)) (fun _ _ _ h => h) (Or.inl ⟨by rfl, ?_⟩) hHeld ?_ ?_
         rotate_left
         ·rintro w' ⟨s0, s1⟩
          go_simp
          with_reducible rfl
         rotate_left
         ·simp only [Act.put, List.setIfInBounds_toArray, List.set_cons_zero, List.set_cons_succ, i64_w, i32_w]
          rfl
         refine pure_ (i := 7) (N := some 22) (v := ?_) (a' := ?_) (bl 8 16) rfl rfl (any_of HT_.out (by kernel_rfl)) (fun _ _ _ h => h) (Or.inl ⟨by rfl, ?_⟩) ?_ ?_
         rotate_left
         ·intro w'
          go_simp
          with_reducible rfl
         rotate_left
         ·simp only [Act.put, List.setIfInBounds_toArray, List.set_cons_zero, List.set_cons_succ, i64_w, i32_w]
          rfl
         refine pure_ (i := 8) (N := some 23) (v := ?_) (a' := ?_) (bl 9 15) rfl rfl (any_of HT_.out (by kernel_rfl)) (fun _ _ _ h => h) (Or.inl ⟨by rfl, ?_⟩) ?_ ?_
         rotate_left
         ·intro w'
          go_simp
          with_reducible rfl
         rotate_left
         ·simp only [Act.put, List.setIfInBounds_toArray, List.set_cons_zero, List.set_cons_succ, i64_w, i32_w]
          rfl
         refine pure_ (i := 9) (N := some 24) (v := ?_) (a' := ?_) (bl 10 14) rfl rfl (any_of HT_.out (by kernel_rfl)) (fun _ _ _ h => h) (Or.inl ⟨by rfl, ?_⟩) ?_ ?_
         rotate_left
         ·intro w'
          go_simp
          with_reducible rfl
         rotate_left
         ·simp only [Act.put, List.setIfInBounds_toArray, List.set_cons_zero, List.set_cons_succ, i64_w, i32_w]
          rfl
         refine pure_ (i := 10) (N := some 25) (v := undef) (a' := ?_) (bl 11 13) rfl rfl (any_of HT_.out (by kernel_rfl)) (fun _ _ _ h => h) (Or.inr ⟨by rfl, rfl⟩) ?_ ?_
         rotate_left
         ·simp only [Act.put, List.setIfInBounds_toArray, List.set_cons_zero, List.set_cons_succ, i64_w, i32_w]
          rfl
         refine pure_ (i := 11) (N := some 26) (v := undef) (a' := ?_) (bl 12 12) rfl rfl (any_of HT_.out (by kernel_rfl)) (fun _ _ _ h => h) (Or.inr ⟨by rfl, rfl⟩) ?_ ?_
         rotate_left
         ·simp only [Act.put, List.setIfInBounds_toArray, List.set_cons_zero, List.set_cons_succ, i64_w, i32_w]
          rfl
         refine pure_ (i := 12) (N := some 27) (v := undef) (a' := ?_) (bl 13 11) rfl rfl (any_of HT_.out (by kernel_rfl)) (fun _ _ _ h => h) (Or.inr ⟨by rfl, rfl⟩) ?_ ?_
         rotate_left
         ·simp only [Act.put, List.setIfInBounds_toArray, List.set_cons_zero, List.set_cons_succ, i64_w, i32_w]
          rfl
         refine pure_ (i := 13) (N := some 28) (v := undef) (a' := ?_) (bl 14 10) rfl rfl (any_of HT_.out (by kernel_rfl)) (fun _ _ _ h => h) (Or.inr ⟨by rfl, rfl⟩) ?_ ?_
         rotate_left
         ·simp only [Act.put, List.setIfInBounds_toArray, List.set_cons_zero, List.set_cons_succ, i64_w, i32_w]
          rfl
         refine pure_ (i := 14) (N := some 29) (v := undef) (a' := ?_) (bl 15 9) rfl rfl (any_of HT_.out (by kernel_rfl)) (fun _ _ _ h => h) (Or.inr ⟨by rfl, rfl⟩) ?_ ?_
         rotate_left
         ·simp only [Act.put, List.setIfInBounds_toArray, List.set_cons_zero, List.set_cons_succ, i64_w, i32_w]
          rfl
         refine pure_ (i := 15) (N := some 30) (v := undef) (a' := ?_) (bl 16 8) rfl rfl (any_of HT_.out (by kernel_rfl)) (fun _ _ _ h => h) (Or.inr ⟨by rfl, rfl⟩) ?_ ?_
         rotate_left
         ·simp only [Act.put, List.setIfInBounds_toArray, List.set_cons_zero, List.set_cons_succ, i64_w, i32_w]
          rfl
         refine pure_ (i := 16) (N := some 31) (v := undef) (a' := ?_) (bl 17 7) rfl rfl (any_of HT_.out (by kernel_rfl)) (fun _ _ _ h => h) (Or.inr ⟨by rfl, rfl⟩) ?_ ?_
         rotate_left
         ·simp only [Act.put, List.setIfInBounds_toArray, List.set_cons_zero, List.set_cons_succ, i64_w, i32_w]
          rfl
         refine pure_ (i := 17) (N := some 32) (v := undef) (a' := ?_) (bl 18 6) rfl rfl (any_of HT_.out (by kernel_rfl)) (fun _ _ _ h => h) (Or.inr ⟨by rfl, rfl⟩) ?_ ?_
         rotate_left
         ·simp only [Act.put, List.setIfInBounds_toArray, List.set_cons_zero, List.set_cons_succ, i64_w, i32_w]
          rfl
         refine pure_ (i := 18) (N := some 33) (v := undef) (a' := ?_) (bl 19 5) rfl rfl (any_of HT_.out (by kernel_rfl)) (fun _ _ _ h => h) (Or.inr ⟨by rfl, rfl⟩) ?_ ?_
         rotate_left
         ·simp only [Act.put, List.setIfInBounds_toArray, List.set_cons_zero, List.set_cons_succ, i64_w, i32_w]
          rfl
         refine pure_ (i := 19) (N := some 34) (v := undef) (a' := ?_) (bl 20 4) rfl rfl (any_of HT_.out (by kernel_rfl)) (fun _ _ _ h => h) (Or.inr ⟨by rfl, rfl⟩) ?_ ?_
         rotate_left
         ·simp only [Act.put, List.setIfInBounds_toArray, List.set_cons_zero, List.set_cons_succ, i64_w, i32_w]
          rfl
         refine pure_ (i := 20) (N := some 35) (v := undef) (a' := ?_) (bl 21 3) rfl rfl (any_of HT_.out (by kernel_rfl)) (fun _ _ _ h => h) (Or.inr ⟨by rfl, rfl⟩) ?_ ?_
         rotate_left
         ·simp only [Act.put, List.setIfInBounds_toArray, List.set_cons_zero, List.set_cons_succ, i64_w, i32_w]
          rfl
         refine pure_ (i := 21) (N := some 36) (v := undef) (a' := ?_) (bl 22 2) rfl rfl (any_of HT_.out (by kernel_rfl)) (fun _ _ _ h => h) (Or.inr ⟨by rfl, rfl⟩) ?_ ?_
         rotate_left
         ·simp only [Act.put, List.setIfInBounds_toArray, List.set_cons_zero, List.set_cons_succ, i64_w, i32_w]
          rfl
         refine pure_ (i := 22) (N := some 37) (v := undef) (a' := ?_) (bl 23 1) rfl rfl (any_of HT_.out (by kernel_rfl)) (fun _ _ _ h => h) (Or.inr ⟨by rfl, rfl⟩) ?_ ?_
         rotate_left
         ·simp only [Act.put, List.setIfInBounds_toArray, List.set_cons_zero, List.set_cons_succ, i64_w, i32_w]
          rfl
         refine pure_ (i := 23) (N := some 38) (v := ?_) (a' := ?_) (bl 24 0) rfl rfl (any_of HT_.out (by kernel_rfl)) (fun _ _ _ h => h) (Or.inl ⟨by rfl, ?_⟩) ?_ ?_
         rotate_left
         ·intro w'
          go_simp
          with_reducible rfl
         rotate_left
         ·simp only [Act.put, List.setIfInBounds_toArray, List.set_cons_zero, List.set_cons_succ, i64_w, i32_w]
          rfl
         refine done_ (done_of HT_.out (by kernel_rfl)) ?_
         try go_wp2
         go_ret
         exact ⟨by first | rfl | (simp [errW_none, errW_some] <;> rfl) | (simp [*, errW_none, errW_some] <;> rfl), by repeat (first | (with_reducible first | exact HB.out | apply below_alloc | apply pw_below_drewN | apply below_drew1 | refine below_set ?_ GE454.out) | exact HB.out)⟩
        ·rw [if_neg c8] at H
         have c8b0 : decide (((rd_T57 l0 x10_1).f1) < 0) = false := decide_eq_false c8
         clear c8
         by_cases c14 : x10_1 > 0
         ·rw [if_pos c14] at H
          have c14b0 : decide (0 < x10_1) = true := decide_eq_true c14
          clear c14
          obtain ⟨ji15, hji15⟩ : ∃ j_ : Int, (wrap64 (x10_1 - 1)) = j_ := ⟨_, rfl⟩
          replace H : (if 0 ≤ (ji15) then (if (ji15) < (l0.length : Int) then (if ((Op.bytesLess (((rd_T57 l0 (ji15)).f0).toList) (((rd_T57 l0 x10_1).f0).toList)) = true) then (quant_Valid.l0 k1 l0 l0 (l0.length : Int) (wrap64 (x10_1 + 1))) else (some 31)) else (none)) else (none)) = some r := by first | (rw [hji15] at H; exact H) | (simp only [hji15] at H ⊢; exact H)
          (try rw [hji15] at A6)
          have hji15w : (IntKind.i64.wrap (x10_1 - 1)) = ji15 := (i64_w _).trans hji15
          by_cases c16 : 0 ≤ (ji15)
          ·rw [if_pos c16] at H
           have c16b0 : decide (0 ≤ (ji15)) = true := decide_eq_true c16
           clear c16
           by_cases c17 : (ji15) < (l0.length : Int)
           ·rw [if_pos c17] at H
            have c17b0 : decide ((ji15) < (l0.length : Int)) = true := decide_eq_true c17
            clear c17
            by_cases c18 : ((Op.bytesLess (((rd_T57 l0 (ji15)).f0).toList) (((rd_T57 l0 x10_1).f0).toList)) = true)
            ·rw [if_pos c18] at H
             have c18b0 : (Op.bytesLess (((rd_T57 l0 (ji15)).f0).toList) (((rd_T57 l0 x10_1).f0).toList)) = true := c18
             clear c18
             have H' := Aside0.mk H
             clear H
             have p453 : 0 ≤ (x10_1 : Int) := of_decide_eq_true (by first | (with_reducible assumption) | assumption)
             have q453 : x10_1 < (l0.length : Int) := of_decide_eq_true (by first | (with_reducible assumption) | assumption)
             obtain ⟨ad453, e453, hx453_0, hx453_1⟩ := at_T57 HR0.out x10_1 p453 q453
             cases e453
             replace hx453_0 := (HB.out.cell (World.block_lt_of_cell? w _ hx453_0)).trans hx453_0
             replace hx453_1 := (HB.out.cell (World.block_lt_of_cell? w _ hx453_1)).trans hx453_1
             replace p453 := eq_true p453
             replace q453 := eq_true q453
             try go_wp2_with (first | ((with_reducible refine gate_dst (N := 4) rfl ?_); refine box_event ?hg (N := 4) ?hd (cs := #[.string (⟨#[]⟩ : ByteArray), .int .i64 0]) (t := 57) ?hr ?_; (case hd => rfl); (case hg => rfl); (case hr => first | (go_simp; done) | (go_simp; rfl)); intro gb454 hg w19 hbox hb; have n0_ := Aside0.mk (below_step (by repeat (first | (with_reducible first | exact HB.out | apply below_alloc | apply pw_below_drewN | apply below_drew1) | exact HB.out)) hb); have n1_ := Aside0.mk (hbox); have n2_ := Aside0.mk ((by rw [hg]; exact (below_size (by repeat (first | (with_reducible first | exact HB.out | apply below_alloc | apply pw_below_drewN | apply below_drew1) | exact HB.out))) : w.heap.size ≤ gb454)); have n3_ := Aside0.mk ((by rw [hg]; exact (below_size (by repeat (first | (with_reducible first | exact HB.out | apply below_alloc | apply pw_below_drewN | apply below_drew1) | exact HB.out))) : w.heap.size ≤ gb454)); clear HB; have HB := n0_; have BK454 := n1_; have GW454 := n2_; have GE454 := n3_; clear n0_ n1_ n2_ n3_; clear hb hbox hg; have hcz20_0 : w19.cell? ⟨gb454, 0, none⟩ = some (.string (⟨#[]⟩ : ByteArray)) := (blk_cell BK454.out 0).trans rfl; have hcz20_1 : w19.cell? ⟨gb454, 1, none⟩ = some (.int .i64 0) := (blk_cell BK454.out 1).trans rfl; have hfz20_0 := blk_frozen BK454.out 0; have hfz20_1 := blk_frozen BK454.out 1))
             have n0_ : Aside0 (((w19.setCell ⟨gb454, 0, none⟩ (.string ((rd_T57 l0 x10_1).f0))).setCell ⟨gb454, 1, none⟩ (.int .i64 ((rd_T57 l0 x10_1).f1))).heap[gb454]? = some (.cells #[.string ((rd_T57 l0 x10_1).f0), .int .i64 ((rd_T57 l0 x10_1).f1)] 57 (0, 0))) := ⟨by (with_reducible repeat (first | refine blk_drewN ?_ _ | refine blk_drew ?_ | refine blk_alloc ?_ _)); refine blk_put (cs := #[.string ((rd_T57 l0 x10_1).f0), .int .i64 0]) ?_ 1 _ rfl; (with_reducible repeat (first | refine blk_drewN ?_ _ | refine blk_drew ?_ | refine blk_alloc ?_ _)); refine blk_put (cs := #[.string (⟨#[]⟩ : ByteArray), .int .i64 0]) ?_ 0 _ rfl; (with_reducible repeat (first | refine blk_drewN ?_ _ | refine blk_drew ?_ | refine blk_alloc ?_ _)); exact BK454.out⟩
             have n1_ : Aside0 (Below w.heap.size w ((w19.setCell ⟨gb454, 0, none⟩ (.string ((rd_T57 l0 x10_1).f0))).setCell ⟨gb454, 1, none⟩ (.int .i64 ((rd_T57 l0 x10_1).f1)))) := ⟨by repeat (first | (with_reducible first | exact HB.out | apply below_alloc | apply pw_below_drewN | apply below_drew1 | refine below_set ?_ GE454.out) | exact HB.out)⟩
             (try clear BK454)
             (try clear HB)
             generalize ((w19.setCell ⟨gb454, 0, none⟩ (.string ((rd_T57 l0 x10_1).f0))).setCell ⟨gb454, 1, none⟩ (.int .i64 ((rd_T57 l0 x10_1).f1))) = w21 at n0_ n1_ ⊢
             have BK454 := n0_
             have HB := n1_
             clear n0_ n1_
             have n0_ := Aside0.mk (blk_drew BK454.out)
             have n1_ := Aside0.mk (below_drew1 HB.out)
             clear BK454
             clear HB
             have BK454 := n0_
             have HB := n1_
             clear n0_ n1_
             have p456 : 0 ≤ ((ji15) : Int) := of_decide_eq_true (by first | (with_reducible assumption) | assumption)
             have q456 : (ji15) < (l0.length : Int) := of_decide_eq_true (by first | (with_reducible assumption) | assumption)
             obtain ⟨ad456, e456, hx456_0, hx456_1⟩ := at_T57 HR0.out (ji15) p456 q456
             have hw456_1 := hx456_1
             have hw456_0 := hx456_0
             obtain rfl : ad453 = ad456 := (by injection e456)
             replace hx456_0 := (HB.out.cell (World.block_lt_of_cell? w _ hx456_0)).trans hx456_0
             replace hx456_1 := (HB.out.cell (World.block_lt_of_cell? w _ hx456_1)).trans hx456_1
             replace p456 := eq_true p456
             replace q456 := eq_true q456
             refine start_ (n := 24) (S := fun w' => w'.cell? ⟨gb454, 0, none⟩ = some (.string ((rd_T57 l0 x10_1).f0)) ∧ w'.cell? ⟨gb454, 1, none⟩ = some (.int .i64 ((rd_T57 l0 x10_1).f1)) ∧ w'.cell? (ad453.add (((ji15)).toNat * 2)) = some (.string ((rd_T57 l0 (ji15)).f0)) ∧ w'.cell? ⟨(ad453.add (((ji15)).toNat * 2)).block, (ad453.add (((ji15)).toNat * 2)).off + 1, none⟩ = some (.int .i64 ((rd_T57 l0 (ji15)).f1))) (ds := []) (bl 0 24) (by kernel_rfl) rfl rfl ⟨(blk_cell BK454.out 0).trans rfl, (blk_cell BK454.out 1).trans rfl, ((HB.out.cell (World.block_lt_of_cell? w _ hw456_0)).trans hw456_0), ((HB.out.cell (World.block_lt_of_cell? w _ hw456_1)).trans hw456_1)⟩ (fun hHeld => ?_); refine with_tabW quant_Valid.tab6 quant_Valid.bits6 (fun HT_ HW_ => ?_)
             generalize w21.drew = w22 at BK454 HB hx456_0 hx456_1 hHeld ⊢
             refine pure_ (i := 0) (N := some 15) (v := ?_) (a' := ?_) (bl 1 23) rfl rfl (any_of HT_.out (by kernel_rfl)) (fun _ _ _ h => h) (Or.inl ⟨by rfl, ?_⟩) ?_ ?_
             rotate_left
             ·intro w'
              go_simp
              with_reducible rfl
             rotate_left
             ·simp only [Act.put, List.setIfInBounds_toArray, List.set_cons_zero, List.set_cons_succ, i64_w, i32_w]
              rfl
             refine take_ (i := 1) (N := some 16) (v := ?_) (a' := ?_) (bl 2 22) rfl rfl (take_ofW HT_.out HW_.out (by kernel_rfl)) (fun _ _ _ h => h) (Or.inl ⟨by rfl, ?_⟩) hHeld ?_ ?_
             rotate_left
             ·rintro w' ⟨s0, s1, s2, s3⟩
              go_simp
              with_reducible rfl
             rotate_left
             ·simp only [Act.put, List.setIfInBounds_toArray, List.set_cons_zero, List.set_cons_succ, i64_w, i32_w]
              rfl
             refine one_ (i := 2) (N := some 17) (bl 3 21) rfl rfl (one_of HT_.out (by kernel_rfl)) (by decide) (fun K hK => ?_)
             refine goes_ Tryz.func71 (by kernel_rfl) rfl #[.string ((rd_T57 l0 x10_1).f0)] (by rfl) rfl rfl (by (try simp only [List.map_toArray, List.map_cons, List.map_nil]); first | done | rfl | (simp only [List.length_drop, List.length_take]; rfl)) ?_
             with_reducible refine (quant_resource.calls k1 ((rd_T57 l0 x10_1).f0) true _ A6.out (Glob.below hG (by repeat (first | (with_reducible first | exact HB.out | apply below_alloc | apply pw_below_drewN | apply below_drew1) | exact HB.out)))).mono ?_
             rintro e w23 ⟨rfl, hb⟩
             refine ⟨_, rfl, ?_⟩
             have n0_ := Aside0.mk (blk_below (g := gb454) (o := .cells #[.string ((rd_T57 l0 x10_1).f0), .int .i64 ((rd_T57 l0 x10_1).f1)] 57 (0, 0)) (by (with_reducible repeat (first | refine blk_drewN ?_ _ | refine blk_drew ?_ | refine blk_alloc ?_ _)); exact BK454.out) hb)
             have n1_ := Aside0.mk (below_step (by repeat (first | (with_reducible first | exact HB.out | apply below_alloc | apply pw_below_drewN | apply below_drew1 | refine below_set ?_ GE454.out) | exact HB.out)) hb)
             clear BK454
             clear HB
             have BK454 := n0_
             have HB := n1_
             clear n0_ n1_
             (try clear hb)
             (try clear hb2)
             (try clear hk)
             (try clear hi)
             refine hK.out _ _ ⟨(blk_cell BK454.out 0).trans rfl, (blk_cell BK454.out 1).trans rfl, ((HB.out.cell (World.block_lt_of_cell? w _ hw456_0)).trans hw456_0), ((HB.out.cell (World.block_lt_of_cell? w _ hw456_1)).trans hw456_1)⟩ (fun hHeld => ?_)
             clear hK K
             refine norm_ (a' := ?_) ?_ ?_
             rotate_left
             ·show Act.put _ (some 17) _ = _
              simp only [Act.put, List.setIfInBounds_toArray, List.set_cons_zero, List.set_cons_succ, i64_w, i32_w]
              rfl
             refine pure_ (i := 3) (N := some 18) (v := ?_) (a' := ?_) (bl 4 20) rfl rfl (any_of HT_.out (by kernel_rfl)) (fun _ _ _ h => h) (Or.inl ⟨by rfl, ?_⟩) ?_ ?_
             rotate_left
             ·intro w'
              go_simp
              with_reducible rfl
             rotate_left
             ·simp only [Act.put, List.setIfInBounds_toArray, List.set_cons_zero, List.set_cons_succ, i64_w, i32_w]
              rfl
             refine pure_ (i := 4) (N := some 19) (v := ?_) (a' := ?_) (bl 5 19) rfl rfl (any_of HT_.out (by kernel_rfl)) (fun _ _ _ h => h) (Or.inl ⟨by rfl, ?_⟩) ?_ ?_
             rotate_left
             ·intro w'
              go_simp
              with_reducible rfl
             rotate_left
             ·simp only [Act.put, List.setIfInBounds_toArray, List.set_cons_zero, List.set_cons_succ, i64_w, i32_w]
              rfl
             refine pure_ (i := 5) (N := some 20) (v := ?_) (a' := ?_) (bl 6 18) rfl rfl (any_of HT_.out (by kernel_rfl)) (fun _ _ _ h => h) (Or.inl ⟨by rfl, ?_⟩) ?_ ?_
             rotate_left
             ·intro w'
              go_simp
              with_reducible rfl
             rotate_left
             ·simp only [Act.put, List.setIfInBounds_toArray, List.set_cons_zero, List.set_cons_succ, i64_w, i32_w]
              rfl
             refine take_ (i := 6) (N := some 21) (v := ?_) (a' := ?_) (bl 7 17) rfl rfl (take_ofW HT_.out HW_.out (by kernel_rfl)) (fun _ _ _ h => h) (Or.inl ⟨by rfl, ?_⟩) hHeld ?_ ?_
             rotate_left
             ·rintro w' ⟨s0, s1, s2, s3⟩
              go_simp
              with_reducible rfl
             rotate_left
             ·simp only [Act.put, List.setIfInBounds_toArray, List.set_cons_zero, List.set_cons_succ, i64_w, i32_w]
              rfl
             refine pure_ (i := 7) (N := some 22) (v := ?_) (a' := ?_) (bl 8 16) rfl rfl (any_of HT_.out (by kernel_rfl)) (fun _ _ _ h => h) (Or.inl ⟨by rfl, ?_⟩) ?_ ?_
             rotate_left
             ·intro w'
              go_simp
              with_reducible rfl
             rotate_left
             ·simp only [Act.put, List.setIfInBounds_toArray, List.set_cons_zero, List.set_cons_succ, i64_w, i32_w]
              rfl
             refine pure_ (i := 8) (N := some 23) (v := ?_) (a' := ?_) (bl 9 15) rfl rfl (any_of HT_.out (by kernel_rfl)) (fun _ _ _ h => h) (Or.inl ⟨by rfl, ?_⟩) ?_ ?_
             rotate_left
             ·intro w'
              go_simp
              with_reducible rfl
             rotate_left
             ·simp only [Act.put, List.setIfInBounds_toArray, List.set_cons_zero, List.set_cons_succ, i64_w, i32_w]
              rfl
             refine pure_ (i := 9) (N := some 24) (v := ?_) (a' := ?_) (bl 10 14) rfl rfl (any_of HT_.out (by kernel_rfl)) (fun _ _ _ h => h) (Or.inl ⟨by rfl, ?_⟩) ?_ ?_
             rotate_left
             ·intro w'
              go_simp
              with_reducible rfl
             rotate_left
             ·simp only [Act.put, List.setIfInBounds_toArray, List.set_cons_zero, List.set_cons_succ, i64_w, i32_w]
              rfl
             refine pure_ (i := 10) (N := some 25) (v := ?_) (a' := ?_) (bl 11 13) rfl rfl (any_of HT_.out (by kernel_rfl)) (fun _ _ _ h => h) (Or.inl ⟨by rfl, ?_⟩) ?_ ?_
             rotate_left
             ·intro w'
              go_simp
              with_reducible rfl
             rotate_left
             ·simp only [Act.put, List.setIfInBounds_toArray, List.set_cons_zero, List.set_cons_succ, i64_w, i32_w]
              rfl
             refine pure_ (i := 11) (N := some 26) (v := ?_) (a' := ?_) (bl 12 12) rfl rfl (any_of HT_.out (by kernel_rfl)) (fun _ _ _ h => h) (Or.inl ⟨by rfl, ?_⟩) ?_ ?_
             rotate_left
             ·intro w'
              go_simp
              with_reducible rfl
             rotate_left
             ·simp only [Act.put, List.setIfInBounds_toArray, List.set_cons_zero, List.set_cons_succ, i64_w, i32_w]
              rfl
             refine pure_ (i := 12) (N := some 27) (v := ?_) (a' := ?_) (bl 13 11) rfl rfl (any_of HT_.out (by kernel_rfl)) (fun _ _ _ h => h) (Or.inl ⟨by rfl, ?_⟩) ?_ ?_
             rotate_left
             ·intro w'
              go_simp
              with_reducible rfl
             rotate_left
             ·simp only [Act.put, List.setIfInBounds_toArray, List.set_cons_zero, List.set_cons_succ, i64_w, i32_w]
              rfl
             refine pure_ (i := 13) (N := some 28) (v := ?_) (a' := ?_) (bl 14 10) rfl rfl (any_of HT_.out (by kernel_rfl)) (fun _ _ _ h => h) (Or.inl ⟨by rfl, ?_⟩) ?_ ?_
             rotate_left
             ·intro w'
              go_simp
              with_reducible rfl
             rotate_left
             ·simp only [Act.put, List.setIfInBounds_toArray, List.set_cons_zero, List.set_cons_succ, i64_w, i32_w]
              rfl
             refine pure_ (i := 15) (N := some 30) (v := ?_) (a' := ?_) #[true, true, true, true, true, true, true, true, true, true, true, true, true, true, false, true, false, false, false, false, false, false, false, false] rfl rfl (any_of HT_.out (by kernel_rfl)) (fun _ _ _ h => h) (Or.inl ⟨by rfl, ?_⟩) ?_ ?_
             rotate_left
             ·intro w'
              go_simp
              with_reducible rfl
             rotate_left
             ·simp only [Act.put, List.setIfInBounds_toArray, List.set_cons_zero, List.set_cons_succ, i64_w, i32_w]
              rfl
             refine pure_ (i := 16) (N := some 31) (v := ?_) (a' := ?_) #[true, true, true, true, true, true, true, true, true, true, true, true, true, true, false, true, true, false, false, false, false, false, false, false] rfl rfl (any_of HT_.out (by kernel_rfl)) (fun _ _ _ h => h) (Or.inl ⟨by rfl, ?_⟩) ?_ ?_
             rotate_left
             ·intro w'
              go_simp
              with_reducible rfl
             rotate_left
             ·simp only [Act.put, List.setIfInBounds_toArray, List.set_cons_zero, List.set_cons_succ, i64_w, i32_w]
              rfl
             refine pure_ (i := 17) (N := some 32) (v := ?_) (a' := ?_) #[true, true, true, true, true, true, true, true, true, true, true, true, true, true, false, true, true, true, false, false, false, false, false, false] rfl rfl (any_of HT_.out (by kernel_rfl)) (fun _ _ _ h => h) (Or.inl ⟨by rfl, ?_⟩) ?_ ?_
             rotate_left
             ·intro w'
              go_simp
              with_reducible rfl
             rotate_left
             ·simp only [Act.put, List.setIfInBounds_toArray, List.set_cons_zero, List.set_cons_succ, i64_w, i32_w]
              rfl
             refine pure_ (i := 18) (N := some 33) (v := ?_) (a' := ?_) #[true, true, true, true, true, true, true, true, true, true, true, true, true, true, false, true, true, true, true, false, false, false, false, false] rfl rfl (any_of HT_.out (by kernel_rfl)) (fun _ _ _ h => h) (Or.inl ⟨by rfl, ?_⟩) ?_ ?_
             rotate_left
             ·intro w'
              go_simp
              with_reducible rfl
             rotate_left
             ·simp only [Act.put, List.setIfInBounds_toArray, List.set_cons_zero, List.set_cons_succ, i64_w, i32_w]
              rfl
             refine pure_ (i := 19) (N := some 34) (v := ?_) (a' := ?_) #[true, true, true, true, true, true, true, true, true, true, true, true, true, true, false, true, true, true, true, true, false, false, false, false] rfl rfl (any_of HT_.out (by kernel_rfl)) (fun _ _ _ h => h) (Or.inl ⟨by rfl, ?_⟩) ?_ ?_
             rotate_left
             ·intro w'
              go_simp
              with_reducible rfl
             rotate_left
             ·simp only [Act.put, List.setIfInBounds_toArray, List.set_cons_zero, List.set_cons_succ, i64_w, i32_w]
              rfl
             refine take_ (i := 14) (N := some 29) (v := ?_) (a' := ?_) (bl 20 4) rfl rfl (take_ofW HT_.out HW_.out (by kernel_rfl)) (fun _ _ _ h => h) (Or.inl ⟨by rfl, ?_⟩) hHeld ?_ ?_
             rotate_left
             ·rintro w' ⟨s0, s1, s2, s3⟩
              go_simp
              with_reducible rfl
             rotate_left
             ·simp only [Act.put, List.setIfInBounds_toArray, List.set_cons_zero, List.set_cons_succ, i64_w, i32_w]
              rfl
             refine take_ (i := 20) (N := some 35) (v := ?_) (a' := ?_) (bl 21 3) rfl rfl (take_ofW HT_.out HW_.out (by kernel_rfl)) (fun _ _ _ h => h) (Or.inl ⟨by rfl, ?_⟩) hHeld ?_ ?_
             rotate_left
             ·rintro w' ⟨s0, s1, s2, s3⟩
              go_simp
              with_reducible rfl
             rotate_left
             ·simp only [Act.put, List.setIfInBounds_toArray, List.set_cons_zero, List.set_cons_succ, i64_w, i32_w]
              rfl
             refine pure_ (i := 21) (N := some 36) (v := ?_) (a' := ?_) (bl 22 2) rfl rfl (any_of HT_.out (by kernel_rfl)) (fun _ _ _ h => h) (Or.inl ⟨by rfl, ?_⟩) ?_ ?_
             rotate_left
             ·intro w'
              go_simp
              with_reducible rfl
             rotate_left
             ·simp only [Act.put, List.setIfInBounds_toArray, List.set_cons_zero, List.set_cons_succ, i64_w, i32_w]
              rfl
             refine pure_ (i := 22) (N := some 37) (v := ?_) (a' := ?_) (bl 23 1) rfl rfl (any_of HT_.out (by kernel_rfl)) (fun _ _ _ h => h) (Or.inl ⟨by rfl, ?_⟩) ?_ ?_
             rotate_left
             ·intro w'
              go_simp
              with_reducible rfl
             rotate_left
             ·simp only [Act.put, List.setIfInBounds_toArray, List.set_cons_zero, List.set_cons_succ, i64_w, i32_w]
              rfl
             refine pure_ (i := 23) (N := some 38) (v := ?_) (a' := ?_) (bl 24 0) rfl rfl (any_of HT_.out (by kernel_rfl)) (fun _ _ _ h => h) (Or.inl ⟨by rfl, ?_⟩) ?_ ?_
             rotate_left
             ·intro w'
              go_simp
              with_reducible rfl
             rotate_left
             ·simp only [Act.put, List.setIfInBounds_toArray, List.set_cons_zero, List.set_cons_succ, i64_w, i32_w]
              rfl
             refine done_ (done_of HT_.out (by kernel_rfl)) ?_
             try go_wp2
             go_roundg k1
             case measure => have := HK1.out; omega
             case rel => exact ⟨(wrap64 (x10_1 + 1)), (by first | rfl | (simp; done) | (simp [*]; done) | (simp; rw [Bool.eq_iff_iff]; simp; done) | (rw [Bool.eq_iff_iff]; simp; done)), H', ⟨by have := HK1.out; omega⟩, ⟨by repeat (first | (with_reducible first | exact HB.out | apply below_alloc | apply pw_below_drewN | apply below_drew1 | refine below_set ?_ GE454.out) | exact HB.out)⟩⟩
            ·rw [if_neg c18] at H
             have c18b0 : (Op.bytesLess (((rd_T57 l0 (ji15)).f0).toList) (((rd_T57 l0 x10_1).f0).toList)) = false := by simpa using c18
             clear c18
             obtain rfl := Option.some.inj H
             have p453 : 0 ≤ (x10_1 : Int) := of_decide_eq_true (by first | (with_reducible assumption) | assumption)
             have q453 : x10_1 < (l0.length : Int) := of_decide_eq_true (by first | (with_reducible assumption) | assumption)
             obtain ⟨ad453, e453, hx453_0, hx453_1⟩ := at_T57 HR0.out x10_1 p453 q453
             cases e453
             replace hx453_0 := (HB.out.cell (World.block_lt_of_cell? w _ hx453_0)).trans hx453_0
             replace hx453_1 := (HB.out.cell (World.block_lt_of_cell? w _ hx453_1)).trans hx453_1
             replace p453 := eq_true p453
             replace q453 := eq_true q453
             try go_wp2_with (first | ((with_reducible refine gate_dst (N := 4) rfl ?_); refine box_event ?hg (N := 4) ?hd (cs := #[.string (⟨#[]⟩ : ByteArray), .int .i64 0]) (t := 57) ?hr ?_; (case hd => rfl); (case hg => rfl); (case hr => first | (go_simp; done) | (go_simp; rfl)); intro gb454 hg w24 hbox hb; have n0_ := Aside0.mk (below_step (by repeat (first | (with_reducible first | exact HB.out | apply below_alloc | apply pw_below_drewN | apply below_drew1) | exact HB.out)) hb); have n1_ := Aside0.mk (hbox); have n2_ := Aside0.mk ((by rw [hg]; exact (below_size (by repeat (first | (with_reducible first | exact HB.out | apply below_alloc | apply pw_below_drewN | apply below_drew1) | exact HB.out))) : w.heap.size ≤ gb454)); have n3_ := Aside0.mk ((by rw [hg]; exact (below_size (by repeat (first | (with_reducible first | exact HB.out | apply below_alloc | apply pw_below_drewN | apply below_drew1) | exact HB.out))) : w.heap.size ≤ gb454)); clear HB; have HB := n0_; have BK454 := n1_; have GW454 := n2_; have GE454 := n3_; clear n0_ n1_ n2_ n3_; clear hb hbox hg; have hcz25_0 : w24.cell? ⟨gb454, 0, none⟩ = some (.string (⟨#[]⟩ : ByteArray)) := (blk_cell BK454.out 0).trans rfl; have hcz25_1 : w24.cell? ⟨gb454, 1, none⟩ = some (.int .i64 0) := (blk_cell BK454.out 1).trans rfl; have hfz25_0 := blk_frozen BK454.out 0; have hfz25_1 := blk_frozen BK454.out 1))
             have n0_ : Aside0 (((w24.setCell ⟨gb454, 0, none⟩ (.string ((rd_T57 l0 x10_1).f0))).setCell ⟨gb454, 1, none⟩ (.int .i64 ((rd_T57 l0 x10_1).f1))).heap[gb454]? = some (.cells #[.string ((rd_T57 l0 x10_1).f0), .int .i64 ((rd_T57 l0 x10_1).f1)] 57 (0, 0))) := ⟨by (with_reducible repeat (first | refine blk_drewN ?_ _ | refine blk_drew ?_ | refine blk_alloc ?_ _)); refine blk_put (cs := #[.string ((rd_T57 l0 x10_1).f0), .int .i64 0]) ?_ 1 _ rfl; (with_reducible repeat (first | refine blk_drewN ?_ _ | refine blk_drew ?_ | refine blk_alloc ?_ _)); refine blk_put (cs := #[.string (⟨#[]⟩ : ByteArray), .int .i64 0]) ?_ 0 _ rfl; (with_reducible repeat (first | refine blk_drewN ?_ _ | refine blk_drew ?_ | refine blk_alloc ?_ _)); exact BK454.out⟩
             have n1_ : Aside0 (Below w.heap.size w ((w24.setCell ⟨gb454, 0, none⟩ (.string ((rd_T57 l0 x10_1).f0))).setCell ⟨gb454, 1, none⟩ (.int .i64 ((rd_T57 l0 x10_1).f1)))) := ⟨by repeat (first | (with_reducible first | exact HB.out | apply below_alloc | apply pw_below_drewN | apply below_drew1 | refine below_set ?_ GE454.out) | exact HB.out)⟩
             (try clear BK454)
             (try clear HB)
             generalize ((w24.setCell ⟨gb454, 0, none⟩ (.string ((rd_T57 l0 x10_1).f0))).setCell ⟨gb454, 1, none⟩ (.int .i64 ((rd_T57 l0 x10_1).f1))) = w26 at n0_ n1_ ⊢
             have BK454 := n0_
             have HB := n1_
             clear n0_ n1_
             have n0_ := Aside0.mk (blk_drew BK454.out)
             have n1_ := Aside0.mk (below_drew1 HB.out)
             clear BK454
             clear HB
             have BK454 := n0_
             have HB := n1_
             clear n0_ n1_
             have p456 : 0 ≤ ((ji15) : Int) := of_decide_eq_true (by first | (with_reducible assumption) | assumption)
             have q456 : (ji15) < (l0.length : Int) := of_decide_eq_true (by first | (with_reducible assumption) | assumption)
             obtain ⟨ad456, e456, hx456_0, hx456_1⟩ := at_T57 HR0.out (ji15) p456 q456
             have hw456_1 := hx456_1
             have hw456_0 := hx456_0
             obtain rfl : ad453 = ad456 := (by injection e456)
             replace hx456_0 := (HB.out.cell (World.block_lt_of_cell? w _ hx456_0)).trans hx456_0
             replace hx456_1 := (HB.out.cell (World.block_lt_of_cell? w _ hx456_1)).trans hx456_1
             replace p456 := eq_true p456
             replace q456 := eq_true q456
             refine start_ (n := 24) (S := fun w' => w'.cell? ⟨gb454, 0, none⟩ = some (.string ((rd_T57 l0 x10_1).f0)) ∧ w'.cell? ⟨gb454, 1, none⟩ = some (.int .i64 ((rd_T57 l0 x10_1).f1)) ∧ w'.cell? (ad453.add (((ji15)).toNat * 2)) = some (.string ((rd_T57 l0 (ji15)).f0)) ∧ w'.cell? ⟨(ad453.add (((ji15)).toNat * 2)).block, (ad453.add (((ji15)).toNat * 2)).off + 1, none⟩ = some (.int .i64 ((rd_T57 l0 (ji15)).f1))) (ds := []) (bl 0 24) (by kernel_rfl) rfl rfl ⟨(blk_cell BK454.out 0).trans rfl, (blk_cell BK454.out 1).trans rfl, ((HB.out.cell (World.block_lt_of_cell? w _ hw456_0)).trans hw456_0), ((HB.out.cell (World.block_lt_of_cell? w _ hw456_1)).trans hw456_1)⟩ (fun hHeld => ?_); refine with_tabW quant_Valid.tab6 quant_Valid.bits6 (fun HT_ HW_ => ?_)
             generalize w26.drew = w27 at BK454 HB hx456_0 hx456_1 hHeld ⊢
             refine pure_ (i := 0) (N := some 15) (v := ?_) (a' := ?_) (bl 1 23) rfl rfl (any_of HT_.out (by kernel_rfl)) (fun _ _ _ h => h) (Or.inl ⟨by rfl, ?_⟩) ?_ ?_
             rotate_left
             ·intro w'
              go_simp
              with_reducible rfl
             rotate_left
             ·simp only [Act.put, List.setIfInBounds_toArray, List.set_cons_zero, List.set_cons_succ, i64_w, i32_w]
              rfl
             refine take_ (i := 1) (N := some 16) (v := ?_) (a' := ?_) (bl 2 22) rfl rfl (take_ofW HT_.out HW_.out (by kernel_rfl)) (fun _ _ _ h => h) (Or.inl ⟨by rfl, ?_⟩) hHeld ?_ ?_
             rotate_left
             ·rintro w' ⟨s0, s1, s2, s3⟩
              go_simp
              with_reducible rfl
             rotate_left
             ·simp only [Act.put, List.setIfInBounds_toArray, List.set_cons_zero, List.set_cons_succ, i64_w, i32_w]
              rfl
             refine one_ (i := 2) (N := some 17) (bl 3 21) rfl rfl (one_of HT_.out (by kernel_rfl)) (by decide) (fun K hK => ?_)
             refine goes_ Tryz.func71 (by kernel_rfl) rfl #[.string ((rd_T57 l0 x10_1).f0)] (by rfl) rfl rfl (by (try simp only [List.map_toArray, List.map_cons, List.map_nil]); first | done | rfl | (simp only [List.length_drop, List.length_take]; rfl)) ?_
             with_reducible refine (quant_resource.calls k1 ((rd_T57 l0 x10_1).f0) true _ A6.out (Glob.below hG (by repeat (first | (with_reducible first | exact HB.out | apply below_alloc | apply pw_below_drewN | apply below_drew1) | exact HB.out)))).mono ?_
             rintro e w28 ⟨rfl, hb⟩
             refine ⟨_, rfl, ?_⟩
             have n0_ := Aside0.mk (blk_below (g := gb454) (o := .cells #[.string ((rd_T57 l0 x10_1).f0), .int .i64 ((rd_T57 l0 x10_1).f1)] 57 (0, 0)) (by (with_reducible repeat (first | refine blk_drewN ?_ _ | refine blk_drew ?_ | refine blk_alloc ?_ _)); exact BK454.out) hb)
             have n1_ := Aside0.mk (below_step (by repeat (first | (with_reducible first | exact HB.out | apply below_alloc | apply pw_below_drewN | apply below_drew1 | refine below_set ?_ GE454.out) | exact HB.out)) hb)
             clear BK454
             clear HB
             have BK454 := n0_
             have HB := n1_
             clear n0_ n1_
             (try clear hb)
             (try clear hb2)
             (try clear hk)
             (try clear hi)
             refine hK.out _ _ ⟨(blk_cell BK454.out 0).trans rfl, (blk_cell BK454.out 1).trans rfl, ((HB.out.cell (World.block_lt_of_cell? w _ hw456_0)).trans hw456_0), ((HB.out.cell (World.block_lt_of_cell? w _ hw456_1)).trans hw456_1)⟩ (fun hHeld => ?_)
             clear hK K
             refine norm_ (a' := ?_) ?_ ?_
             rotate_left
             ·show Act.put _ (some 17) _ = _
              simp only [Act.put, List.setIfInBounds_toArray, List.set_cons_zero, List.set_cons_succ, i64_w, i32_w]
              rfl
             refine pure_ (i := 3) (N := some 18) (v := ?_) (a' := ?_) (bl 4 20) rfl rfl (any_of HT_.out (by kernel_rfl)) (fun _ _ _ h => h) (Or.inl ⟨by rfl, ?_⟩) ?_ ?_
             rotate_left
             ·intro w'
              go_simp
              with_reducible rfl
             rotate_left
             ·simp only [Act.put, List.setIfInBounds_toArray, List.set_cons_zero, List.set_cons_succ, i64_w, i32_w]
              rfl
             refine pure_ (i := 4) (N := some 19) (v := ?_) (a' := ?_) (bl 5 19) rfl rfl (any_of HT_.out (by kernel_rfl)) (fun _ _ _ h => h) (Or.inl ⟨by rfl, ?_⟩) ?_ ?_
             rotate_left
             ·intro w'
              go_simp
              with_reducible rfl
             rotate_left
             ·simp only [Act.put, List.setIfInBounds_toArray, List.set_cons_zero, List.set_cons_succ, i64_w, i32_w]
              rfl
             refine pure_ (i := 5) (N := some 20) (v := ?_) (a' := ?_) (bl 6 18) rfl rfl (any_of HT_.out (by kernel_rfl)) (fun _ _ _ h => h) (Or.inl ⟨by rfl, ?_⟩) ?_ ?_
             rotate_left
             ·intro w'
              go_simp
              with_reducible rfl
             rotate_left
             ·simp only [Act.put, List.setIfInBounds_toArray, List.set_cons_zero, List.set_cons_succ, i64_w, i32_w]
              rfl
             refine take_ (i := 6) (N := some 21) (v := ?_) (a' := ?_) (bl 7 17) rfl rfl (take_ofW HT_.out HW_.out (by kernel_rfl)) (fun _ _ _ h => h) (Or.inl ⟨by rfl, ?_⟩) hHeld ?_ ?_
             rotate_left
             ·rintro w' ⟨s0, s1, s2, s3⟩
              go_simp
              with_reducible rfl
             rotate_left
             ·simp only [Act.put, List.setIfInBounds_toArray, List.set_cons_zero, List.set_cons_succ, i64_w, i32_w]
              rfl
             refine pure_ (i := 7) (N := some 22) (v := ?_) (a' := ?_) (bl 8 16) rfl rfl (any_of HT_.out (by kernel_rfl)) (fun _ _ _ h => h) (Or.inl ⟨by rfl, ?_⟩) ?_ ?_
             rotate_left
             ·intro w'
              go_simp
              with_reducible rfl
             rotate_left
             ·simp only [Act.put, List.setIfInBounds_toArray, List.set_cons_zero, List.set_cons_succ, i64_w, i32_w]
              rfl
             refine pure_ (i := 8) (N := some 23) (v := ?_) (a' := ?_) (bl 9 15) rfl rfl (any_of HT_.out (by kernel_rfl)) (fun _ _ _ h => h) (Or.inl ⟨by rfl, ?_⟩) ?_ ?_
             rotate_left
             ·intro w'
              go_simp
              with_reducible rfl
             rotate_left
             ·simp only [Act.put, List.setIfInBounds_toArray, List.set_cons_zero, List.set_cons_succ, i64_w, i32_w]
              rfl
             refine pure_ (i := 9) (N := some 24) (v := ?_) (a' := ?_) (bl 10 14) rfl rfl (any_of HT_.out (by kernel_rfl)) (fun _ _ _ h => h) (Or.inl ⟨by rfl, ?_⟩) ?_ ?_
             rotate_left
             ·intro w'
              go_simp
              with_reducible rfl
             rotate_left
             ·simp only [Act.put, List.setIfInBounds_toArray, List.set_cons_zero, List.set_cons_succ, i64_w, i32_w]
              rfl
             refine pure_ (i := 10) (N := some 25) (v := ?_) (a' := ?_) (bl 11 13) rfl rfl (any_of HT_.out (by kernel_rfl)) (fun _ _ _ h => h) (Or.inl ⟨by rfl, ?_⟩) ?_ ?_
             rotate_left
             ·intro w'
              go_simp
              with_reducible rfl
             rotate_left
             ·simp only [Act.put, List.setIfInBounds_toArray, List.set_cons_zero, List.set_cons_succ, i64_w, i32_w]
              rfl
             refine pure_ (i := 11) (N := some 26) (v := ?_) (a' := ?_) (bl 12 12) rfl rfl (any_of HT_.out (by kernel_rfl)) (fun _ _ _ h => h) (Or.inl ⟨by rfl, ?_⟩) ?_ ?_
             rotate_left
             ·intro w'
              go_simp
              with_reducible rfl
             rotate_left
             ·simp only [Act.put, List.setIfInBounds_toArray, List.set_cons_zero, List.set_cons_succ, i64_w, i32_w]
              rfl
             refine pure_ (i := 12) (N := some 27) (v := ?_) (a' := ?_) (bl 13 11) rfl rfl (any_of HT_.out (by kernel_rfl)) (fun _ _ _ h => h) (Or.inl ⟨by rfl, ?_⟩) ?_ ?_
             rotate_left
             ·intro w'
              go_simp
              with_reducible rfl
             rotate_left
             ·simp only [Act.put, List.setIfInBounds_toArray, List.set_cons_zero, List.set_cons_succ, i64_w, i32_w]
              rfl
             refine pure_ (i := 13) (N := some 28) (v := ?_) (a' := ?_) (bl 14 10) rfl rfl (any_of HT_.out (by kernel_rfl)) (fun _ _ _ h => h) (Or.inl ⟨by rfl, ?_⟩) ?_ ?_
             rotate_left
             ·intro w'
              go_simp
              with_reducible rfl
             rotate_left
             ·simp only [Act.put, List.setIfInBounds_toArray, List.set_cons_zero, List.set_cons_succ, i64_w, i32_w]
              rfl
             refine pure_ (i := 15) (N := some 30) (v := ?_) (a' := ?_) #[true, true, true, true, true, true, true, true, true, true, true, true, true, true, false, true, false, false, false, false, false, false, false, false] rfl rfl (any_of HT_.out (by kernel_rfl)) (fun _ _ _ h => h) (Or.inl ⟨by rfl, ?_⟩) ?_ ?_
             rotate_left
             ·intro w'
              go_simp
              with_reducible rfl
             rotate_left
             ·simp only [Act.put, List.setIfInBounds_toArray, List.set_cons_zero, List.set_cons_succ, i64_w, i32_w]
              rfl
             refine pure_ (i := 16) (N := some 31) (v := ?_) (a' := ?_) #[true, true, true, true, true, true, true, true, true, true, true, true, true, true, false, true, true, false, false, false, false, false, false, false] rfl rfl (any_of HT_.out (by kernel_rfl)) (fun _ _ _ h => h) (Or.inl ⟨by rfl, ?_⟩) ?_ ?_
             rotate_left
             ·intro w'
              go_simp
              with_reducible rfl
             rotate_left
             ·simp only [Act.put, List.setIfInBounds_toArray, List.set_cons_zero, List.set_cons_succ, i64_w, i32_w]
              rfl
             refine pure_ (i := 17) (N := some 32) (v := ?_) (a' := ?_) #[true, true, true, true, true, true, true, true, true, true, true, true, true, true, false, true, true, true, false, false, false, false, false, false] rfl rfl (any_of HT_.out (by kernel_rfl)) (fun _ _ _ h => h) (Or.inl ⟨by rfl, ?_⟩) ?_ ?_
             rotate_left
             ·intro w'
              go_simp
              with_reducible rfl
             rotate_left
             ·simp only [Act.put, List.setIfInBounds_toArray, List.set_cons_zero, List.set_cons_succ, i64_w, i32_w]
              rfl
             refine pure_ (i := 18) (N := some 33) (v := ?_) (a' := ?_) #[true, true, true, true, true, true, true, true, true, true, true, true, true, true, false, true, true, true, true, false, false, false, false, false] rfl rfl (any_of HT_.out (by kernel_rfl)) (fun _ _ _ h => h) (Or.inl ⟨by rfl, ?_⟩) ?_ ?_
             rotate_left
             ·intro w'
              go_simp
              with_reducible rfl
             rotate_left
             ·simp only [Act.put, List.setIfInBounds_toArray, List.set_cons_zero, List.set_cons_succ, i64_w, i32_w]
              rfl
             refine pure_ (i := 19) (N := some 34) (v := ?_) (a' := ?_) #[true, true, true, true, true, true, true, true, true, true, true, true, true, true, false, true, true, true, true, true, false, false, false, false] rfl rfl (any_of HT_.out (by kernel_rfl)) (fun _ _ _ h => h) (Or.inl ⟨by rfl, ?_⟩) ?_ ?_
             rotate_left
             ·intro w'
              go_simp
              with_reducible rfl
             rotate_left
             ·simp only [Act.put, List.setIfInBounds_toArray, List.set_cons_zero, List.set_cons_succ, i64_w, i32_w]
              rfl
             refine take_ (i := 14) (N := some 29) (v := ?_) (a' := ?_) (bl 20 4) rfl rfl (take_ofW HT_.out HW_.out (by kernel_rfl)) (fun _ _ _ h => h) (Or.inl ⟨by rfl, ?_⟩) hHeld ?_ ?_
             rotate_left
             ·rintro w' ⟨s0, s1, s2, s3⟩
              go_simp
              with_reducible rfl
             rotate_left
             ·simp only [Act.put, List.setIfInBounds_toArray, List.set_cons_zero, List.set_cons_succ, i64_w, i32_w]
              rfl
             refine take_ (i := 20) (N := some 35) (v := ?_) (a' := ?_) (bl 21 3) rfl rfl (take_ofW HT_.out HW_.out (by kernel_rfl)) (fun _ _ _ h => h) (Or.inl ⟨by rfl, ?_⟩) hHeld ?_ ?_
             rotate_left
             ·rintro w' ⟨s0, s1, s2, s3⟩
              go_simp
              with_reducible rfl
             rotate_left
             ·simp only [Act.put, List.setIfInBounds_toArray, List.set_cons_zero, List.set_cons_succ, i64_w, i32_w]
              rfl
             refine pure_ (i := 21) (N := some 36) (v := ?_) (a' := ?_) (bl 22 2) rfl rfl (any_of HT_.out (by kernel_rfl)) (fun _ _ _ h => h) (Or.inl ⟨by rfl, ?_⟩) ?_ ?_
             rotate_left
             ·intro w'
              go_simp
              with_reducible rfl
             rotate_left
             ·simp only [Act.put, List.setIfInBounds_toArray, List.set_cons_zero, List.set_cons_succ, i64_w, i32_w]
              rfl
             refine pure_ (i := 22) (N := some 37) (v := ?_) (a' := ?_) (bl 23 1) rfl rfl (any_of HT_.out (by kernel_rfl)) (fun _ _ _ h => h) (Or.inl ⟨by rfl, ?_⟩) ?_ ?_
             rotate_left
             ·intro w'
              go_simp
              with_reducible rfl
             rotate_left
             ·simp only [Act.put, List.setIfInBounds_toArray, List.set_cons_zero, List.set_cons_succ, i64_w, i32_w]
              rfl
             refine pure_ (i := 23) (N := some 38) (v := ?_) (a' := ?_) (bl 24 0) rfl rfl (any_of HT_.out (by kernel_rfl)) (fun _ _ _ h => h) (Or.inl ⟨by rfl, ?_⟩) ?_ ?_
             rotate_left
             ·intro w'
              go_simp
              with_reducible rfl
             rotate_left
             ·simp only [Act.put, List.setIfInBounds_toArray, List.set_cons_zero, List.set_cons_succ, i64_w, i32_w]
              rfl
             refine done_ (done_of HT_.out (by kernel_rfl)) ?_
             try go_wp2
             go_ret
             exact ⟨by first | rfl | (simp [errW_none, errW_some] <;> rfl) | (simp only [← hji15]; first | rfl | (simp [errW_none, errW_some] <;> rfl)) | (simp [*, errW_none, errW_some] <;> rfl), by repeat (first | (with_reducible first | exact HB.out | apply below_alloc | apply pw_below_drewN | apply below_drew1 | refine below_set ?_ GE454.out) | exact HB.out)⟩
           ·rw [if_neg c17] at H
            exact absurd H (by simp)
          ·rw [if_neg c16] at H
           exact absurd H (by simp)
         ·rw [if_neg c14] at H
          have c14b0 : decide (0 < x10_1) = false := decide_eq_false c14
          clear c14
          have H' := Aside0.mk H
          clear H
          have p453 : 0 ≤ (x10_1 : Int) := of_decide_eq_true (by first | (with_reducible assumption) | assumption)
          have q453 : x10_1 < (l0.length : Int) := of_decide_eq_true (by first | (with_reducible assumption) | assumption)
          obtain ⟨ad453, e453, hx453_0, hx453_1⟩ := at_T57 HR0.out x10_1 p453 q453
          cases e453
          replace hx453_0 := (HB.out.cell (World.block_lt_of_cell? w _ hx453_0)).trans hx453_0
          replace hx453_1 := (HB.out.cell (World.block_lt_of_cell? w _ hx453_1)).trans hx453_1
          replace p453 := eq_true p453
          replace q453 := eq_true q453
          try go_wp2_with (first | ((with_reducible refine gate_dst (N := 4) rfl ?_); refine box_event ?hg (N := 4) ?hd (cs := #[.string (⟨#[]⟩ : ByteArray), .int .i64 0]) (t := 57) ?hr ?_; (case hd => rfl); (case hg => rfl); (case hr => first | (go_simp; done) | (go_simp; rfl)); intro gb454 hg w29 hbox hb; have n0_ := Aside0.mk (below_step (by repeat (first | (with_reducible first | exact HB.out | apply below_alloc | apply pw_below_drewN | apply below_drew1) | exact HB.out)) hb); have n1_ := Aside0.mk (hbox); have n2_ := Aside0.mk ((by rw [hg]; exact (below_size (by repeat (first | (with_reducible first | exact HB.out | apply below_alloc | apply pw_below_drewN | apply below_drew1) | exact HB.out))) : w.heap.size ≤ gb454)); have n3_ := Aside0.mk ((by rw [hg]; exact (below_size (by repeat (first | (with_reducible first | exact HB.out | apply below_alloc | apply pw_below_drewN | apply below_drew1) | exact HB.out))) : w.heap.size ≤ gb454)); clear HB; have HB := n0_; have BK454 := n1_; have GW454 := n2_; have GE454 := n3_; clear n0_ n1_ n2_ n3_; clear hb hbox hg; have hcz30_0 : w29.cell? ⟨gb454, 0, none⟩ = some (.string (⟨#[]⟩ : ByteArray)) := (blk_cell BK454.out 0).trans rfl; have hcz30_1 : w29.cell? ⟨gb454, 1, none⟩ = some (.int .i64 0) := (blk_cell BK454.out 1).trans rfl; have hfz30_0 := blk_frozen BK454.out 0; have hfz30_1 := blk_frozen BK454.out 1))
          have n0_ : Aside0 (((w29.setCell ⟨gb454, 0, none⟩ (.string ((rd_T57 l0 x10_1).f0))).setCell ⟨gb454, 1, none⟩ (.int .i64 ((rd_T57 l0 x10_1).f1))).heap[gb454]? = some (.cells #[.string ((rd_T57 l0 x10_1).f0), .int .i64 ((rd_T57 l0 x10_1).f1)] 57 (0, 0))) := ⟨by (with_reducible repeat (first | refine blk_drewN ?_ _ | refine blk_drew ?_ | refine blk_alloc ?_ _)); refine blk_put (cs := #[.string ((rd_T57 l0 x10_1).f0), .int .i64 0]) ?_ 1 _ rfl; (with_reducible repeat (first | refine blk_drewN ?_ _ | refine blk_drew ?_ | refine blk_alloc ?_ _)); refine blk_put (cs := #[.string (⟨#[]⟩ : ByteArray), .int .i64 0]) ?_ 0 _ rfl; (with_reducible repeat (first | refine blk_drewN ?_ _ | refine blk_drew ?_ | refine blk_alloc ?_ _)); exact BK454.out⟩
          have n1_ : Aside0 (Below w.heap.size w ((w29.setCell ⟨gb454, 0, none⟩ (.string ((rd_T57 l0 x10_1).f0))).setCell ⟨gb454, 1, none⟩ (.int .i64 ((rd_T57 l0 x10_1).f1)))) := ⟨by repeat (first | (with_reducible first | exact HB.out | apply below_alloc | apply pw_below_drewN | apply below_drew1 | refine below_set ?_ GE454.out) | exact HB.out)⟩
          (try clear BK454)
          (try clear HB)
          generalize ((w29.setCell ⟨gb454, 0, none⟩ (.string ((rd_T57 l0 x10_1).f0))).setCell ⟨gb454, 1, none⟩ (.int .i64 ((rd_T57 l0 x10_1).f1))) = w31 at n0_ n1_ ⊢
          have BK454 := n0_
          have HB := n1_
          clear n0_ n1_
          have n0_ := Aside0.mk (blk_drew BK454.out)
          have n1_ := Aside0.mk (below_drew1 HB.out)
          clear BK454
          clear HB
          have BK454 := n0_
          have HB := n1_
          clear n0_ n1_
          refine start_ (n := 24) (S := fun w' => w'.cell? ⟨gb454, 0, none⟩ = some (.string ((rd_T57 l0 x10_1).f0)) ∧ w'.cell? ⟨gb454, 1, none⟩ = some (.int .i64 ((rd_T57 l0 x10_1).f1))) (ds := []) (bl 0 24) (by kernel_rfl) rfl rfl ⟨(blk_cell BK454.out 0).trans rfl, (blk_cell BK454.out 1).trans rfl⟩ (fun hHeld => ?_); refine with_tabW quant_Valid.tab6 quant_Valid.bits6 (fun HT_ HW_ => ?_)
          generalize w31.drew = w32 at BK454 HB hHeld ⊢
          refine pure_ (i := 0) (N := some 15) (v := ?_) (a' := ?_) (bl 1 23) rfl rfl (any_of HT_.out (by kernel_rfl)) (fun _ _ _ h => h) (Or.inl ⟨by rfl, ?_⟩) ?_ ?_
          rotate_left
          ·intro w'
           go_simp
           with_reducible rfl
          rotate_left
          ·simp only [Act.put, List.setIfInBounds_toArray, List.set_cons_zero, List.set_cons_succ, i64_w, i32_w]
           rfl
          refine take_ (i := 1) (N := some 16) (v := ?_) (a' := ?_) (bl 2 22) rfl rfl (take_ofW HT_.out HW_.out (by kernel_rfl)) (fun _ _ _ h => h) (Or.inl ⟨by rfl, ?_⟩) hHeld ?_ ?_
          rotate_left
          ·rintro w' ⟨s0, s1⟩
           go_simp
           with_reducible rfl
          rotate_left
          ·simp only [Act.put, List.setIfInBounds_toArray, List.set_cons_zero, List.set_cons_succ, i64_w, i32_w]
           rfl
          refine one_ (i := 2) (N := some 17) (bl 3 21) rfl rfl (one_of HT_.out (by kernel_rfl)) (by decide) (fun K hK => ?_)
          refine goes_ Tryz.func71 (by kernel_rfl) rfl #[.string ((rd_T57 l0 x10_1).f0)] (by rfl) rfl rfl (by (try simp only [List.map_toArray, List.map_cons, List.map_nil]); first | done | rfl | (simp only [List.length_drop, List.length_take]; rfl)) ?_
          with_reducible refine (quant_resource.calls k1 ((rd_T57 l0 x10_1).f0) true _ A6.out (Glob.below hG (by repeat (first | (with_reducible first | exact HB.out | apply below_alloc | apply pw_below_drewN | apply below_drew1) | exact HB.out)))).mono ?_
          rintro e w33 ⟨rfl, hb⟩
          refine ⟨_, rfl, ?_⟩
          have n0_ := Aside0.mk (blk_below (g := gb454) (o := .cells #[.string ((rd_T57 l0 x10_1).f0), .int .i64 ((rd_T57 l0 x10_1).f1)] 57 (0, 0)) (by (with_reducible repeat (first | refine blk_drewN ?_ _ | refine blk_drew ?_ | refine blk_alloc ?_ _)); exact BK454.out) hb)
          have n1_ := Aside0.mk (below_step (by repeat (first | (with_reducible first | exact HB.out | apply below_alloc | apply pw_below_drewN | apply below_drew1 | refine below_set ?_ GE454.out) | exact HB.out)) hb)
          clear BK454
          clear HB
          have BK454 := n0_
          have HB := n1_
          clear n0_ n1_
          (try clear hb)
          (try clear hb2)
          (try clear hk)
          (try clear hi)
          refine hK.out _ _ ⟨(blk_cell BK454.out 0).trans rfl, (blk_cell BK454.out 1).trans rfl⟩ (fun hHeld => ?_)
          clear hK K
          refine norm_ (a' := ?_) ?_ ?_
          rotate_left
          ·show Act.put _ (some 17) _ = _
           simp only [Act.put, List.setIfInBounds_toArray, List.set_cons_zero, List.set_cons_succ, i64_w, i32_w]
           rfl
          refine pure_ (i := 3) (N := some 18) (v := ?_) (a' := ?_) (bl 4 20) rfl rfl (any_of HT_.out (by kernel_rfl)) (fun _ _ _ h => h) (Or.inl ⟨by rfl, ?_⟩) ?_ ?_
          rotate_left
          ·intro w'
           go_simp
           with_reducible rfl
          rotate_left
          ·simp only [Act.put, List.setIfInBounds_toArray, List.set_cons_zero, List.set_cons_succ, i64_w, i32_w]
           rfl
          refine pure_ (i := 4) (N := some 19) (v := ?_) (a' := ?_) (bl 5 19) rfl rfl (any_of HT_.out (by kernel_rfl)) (fun _ _ _ h => h) (Or.inl ⟨by rfl, ?_⟩) ?_ ?_
          rotate_left
          ·intro w'
           go_simp
           with_reducible rfl
          rotate_left
          ·simp only [Act.put, List.setIfInBounds_toArray, List.set_cons_zero, List.set_cons_succ, i64_w, i32_w]
           rfl
          refine pure_ (i := 5) (N := some 20) (v := ?_) (a' := ?_) (bl 6 18) rfl rfl (any_of HT_.out (by kernel_rfl)) (fun _ _ _ h => h) (Or.inl ⟨by rfl, ?_⟩) ?_ ?_
          rotate_left
          ·intro w'
           go_simp
           with_reducible rfl
          rotate_left
          ·simp only [Act.put, List.setIfInBounds_toArray, List.set_cons_zero, List.set_cons_succ, i64_w, i32_w]
           rfl
          refine take_ (i := 6) (N := some 21) (v := ?_) (a' := ?_) (bl 7 17) rfl rfl (take_ofW HT_.out HW_.out (by kernel_rfl)) (fun _ _ _ h => h) (Or.inl ⟨by rfl, ?_⟩) hHeld ?_ ?_
          rotate_left
          ·rintro w' ⟨s0, s1⟩
           go_simp
           with_reducible rfl
          rotate_left
          ·simp only [Act.put, List.setIfInBounds_toArray, List.set_cons_zero, List.set_cons_succ, i64_w, i32_w]
           rfl
          refine pure_ (i := 7) (N := some 22) (v := ?_) (a' := ?_) (bl 8 16) rfl rfl (any_of HT_.out (by kernel_rfl)) (fun _ _ _ h => h) (Or.inl ⟨by rfl, ?_⟩) ?_ ?_
          rotate_left
          ·intro w'
           go_simp
           with_reducible rfl
          rotate_left
          ·simp only [Act.put, List.setIfInBounds_toArray, List.set_cons_zero, List.set_cons_succ, i64_w, i32_w]
           rfl
          refine pure_ (i := 8) (N := some 23) (v := ?_) (a' := ?_) (bl 9 15) rfl rfl (any_of HT_.out (by kernel_rfl)) (fun _ _ _ h => h) (Or.inl ⟨by rfl, ?_⟩) ?_ ?_
          rotate_left
          ·intro w'
           go_simp
           with_reducible rfl
          rotate_left
          ·simp only [Act.put, List.setIfInBounds_toArray, List.set_cons_zero, List.set_cons_succ, i64_w, i32_w]
           rfl
          refine pure_ (i := 9) (N := some 24) (v := ?_) (a' := ?_) (bl 10 14) rfl rfl (any_of HT_.out (by kernel_rfl)) (fun _ _ _ h => h) (Or.inl ⟨by rfl, ?_⟩) ?_ ?_
          rotate_left
          ·intro w'
           go_simp
           with_reducible rfl
          rotate_left
          ·simp only [Act.put, List.setIfInBounds_toArray, List.set_cons_zero, List.set_cons_succ, i64_w, i32_w]
           rfl
          refine pure_ (i := 10) (N := some 25) (v := ?_) (a' := ?_) (bl 11 13) rfl rfl (any_of HT_.out (by kernel_rfl)) (fun _ _ _ h => h) (Or.inl ⟨by rfl, ?_⟩) ?_ ?_
          rotate_left
          ·intro w'
           go_simp
           with_reducible rfl
          rotate_left
          ·simp only [Act.put, List.setIfInBounds_toArray, List.set_cons_zero, List.set_cons_succ, i64_w, i32_w]
           rfl
          refine pure_ (i := 11) (N := some 26) (v := ?_) (a' := ?_) (bl 12 12) rfl rfl (any_of HT_.out (by kernel_rfl)) (fun _ _ _ h => h) (Or.inl ⟨by rfl, ?_⟩) ?_ ?_
          rotate_left
          ·intro w'
           go_simp
           with_reducible rfl
          rotate_left
          ·simp only [Act.put, List.setIfInBounds_toArray, List.set_cons_zero, List.set_cons_succ, i64_w, i32_w]
           rfl
          refine pure_ (i := 12) (N := some 27) (v := ?_) (a' := ?_) (bl 13 11) rfl rfl (any_of HT_.out (by kernel_rfl)) (fun _ _ _ h => h) (Or.inl ⟨by rfl, ?_⟩) ?_ ?_
          rotate_left
          ·intro w'
           go_simp
           with_reducible rfl
          rotate_left
          ·simp only [Act.put, List.setIfInBounds_toArray, List.set_cons_zero, List.set_cons_succ, i64_w, i32_w]
           rfl
          refine pure_ (i := 13) (N := some 28) (v := undef) (a' := ?_) (bl 14 10) rfl rfl (any_of HT_.out (by kernel_rfl)) (fun _ _ _ h => h) (Or.inr ⟨by rfl, rfl⟩) ?_ ?_
          rotate_left
          ·simp only [Act.put, List.setIfInBounds_toArray, List.set_cons_zero, List.set_cons_succ, i64_w, i32_w]
           rfl
          refine pure_ (i := 14) (N := some 29) (v := undef) (a' := ?_) (bl 15 9) rfl rfl (any_of HT_.out (by kernel_rfl)) (fun _ _ _ h => h) (Or.inr ⟨by rfl, rfl⟩) ?_ ?_
          rotate_left
          ·simp only [Act.put, List.setIfInBounds_toArray, List.set_cons_zero, List.set_cons_succ, i64_w, i32_w]
           rfl
          refine pure_ (i := 15) (N := some 30) (v := undef) (a' := ?_) (bl 16 8) rfl rfl (any_of HT_.out (by kernel_rfl)) (fun _ _ _ h => h) (Or.inr ⟨by rfl, rfl⟩) ?_ ?_
          rotate_left
          ·simp only [Act.put, List.setIfInBounds_toArray, List.set_cons_zero, List.set_cons_succ, i64_w, i32_w]
           rfl
          refine pure_ (i := 16) (N := some 31) (v := undef) (a' := ?_) (bl 17 7) rfl rfl (any_of HT_.out (by kernel_rfl)) (fun _ _ _ h => h) (Or.inr ⟨by rfl, rfl⟩) ?_ ?_
          rotate_left
          ·simp only [Act.put, List.setIfInBounds_toArray, List.set_cons_zero, List.set_cons_succ, i64_w, i32_w]
           rfl
          refine pure_ (i := 17) (N := some 32) (v := undef) (a' := ?_) (bl 18 6) rfl rfl (any_of HT_.out (by kernel_rfl)) (fun _ _ _ h => h) (Or.inr ⟨by rfl, rfl⟩) ?_ ?_
          rotate_left
          ·simp only [Act.put, List.setIfInBounds_toArray, List.set_cons_zero, List.set_cons_succ, i64_w, i32_w]
           rfl
          refine pure_ (i := 18) (N := some 33) (v := undef) (a' := ?_) (bl 19 5) rfl rfl (any_of HT_.out (by kernel_rfl)) (fun _ _ _ h => h) (Or.inr ⟨by rfl, rfl⟩) ?_ ?_
          rotate_left
          ·simp only [Act.put, List.setIfInBounds_toArray, List.set_cons_zero, List.set_cons_succ, i64_w, i32_w]
           rfl
          refine pure_ (i := 19) (N := some 34) (v := undef) (a' := ?_) (bl 20 4) rfl rfl (any_of HT_.out (by kernel_rfl)) (fun _ _ _ h => h) (Or.inr ⟨by rfl, rfl⟩) ?_ ?_
          rotate_left
          ·simp only [Act.put, List.setIfInBounds_toArray, List.set_cons_zero, List.set_cons_succ, i64_w, i32_w]
           rfl
          refine pure_ (i := 20) (N := some 35) (v := undef) (a' := ?_) (bl 21 3) rfl rfl (any_of HT_.out (by kernel_rfl)) (fun _ _ _ h => h) (Or.inr ⟨by rfl, rfl⟩) ?_ ?_
          rotate_left
          ·simp only [Act.put, List.setIfInBounds_toArray, List.set_cons_zero, List.set_cons_succ, i64_w, i32_w]
           rfl
          refine pure_ (i := 21) (N := some 36) (v := undef) (a' := ?_) (bl 22 2) rfl rfl (any_of HT_.out (by kernel_rfl)) (fun _ _ _ h => h) (Or.inr ⟨by rfl, rfl⟩) ?_ ?_
          rotate_left
          ·simp only [Act.put, List.setIfInBounds_toArray, List.set_cons_zero, List.set_cons_succ, i64_w, i32_w]
           rfl
          refine pure_ (i := 22) (N := some 37) (v := ?_) (a' := ?_) (bl 23 1) rfl rfl (any_of HT_.out (by kernel_rfl)) (fun _ _ _ h => h) (Or.inl ⟨by rfl, ?_⟩) ?_ ?_
          rotate_left
          ·intro w'
           go_simp
           with_reducible rfl
          rotate_left
          ·simp only [Act.put, List.setIfInBounds_toArray, List.set_cons_zero, List.set_cons_succ, i64_w, i32_w]
           rfl
          refine pure_ (i := 23) (N := some 38) (v := ?_) (a' := ?_) (bl 24 0) rfl rfl (any_of HT_.out (by kernel_rfl)) (fun _ _ _ h => h) (Or.inl ⟨by rfl, ?_⟩) ?_ ?_
          rotate_left
          ·intro w'
           go_simp
           with_reducible rfl
          rotate_left
          ·simp only [Act.put, List.setIfInBounds_toArray, List.set_cons_zero, List.set_cons_succ, i64_w, i32_w]
           rfl
          refine done_ (done_of HT_.out (by kernel_rfl)) ?_
          try go_wp2
          go_roundg k1
          case measure => have := HK1.out; omega
          case rel => exact ⟨(wrap64 (x10_1 + 1)), (by first | rfl | (simp; done) | (simp [*]; done) | (simp; rw [Bool.eq_iff_iff]; simp; done) | (rw [Bool.eq_iff_iff]; simp; done)), H', ⟨by have := HK1.out; omega⟩, ⟨by repeat (first | (with_reducible first | exact HB.out | apply below_alloc | apply pw_below_drewN | apply below_drew1 | refine below_set ?_ GE454.out) | exact HB.out)⟩⟩
       ·replace c7 := Bool.eq_false_iff.mpr c7
        subst c7
        have H1 : (some 31) = some r := by rw [if_neg (show ¬ (false = true) by decide)] at H; exact H
        clear H
        have H := H1
        clear H1
        obtain rfl := Option.some.inj H
        have p453 : 0 ≤ (x10_1 : Int) := of_decide_eq_true (by first | (with_reducible assumption) | assumption)
        have q453 : x10_1 < (l0.length : Int) := of_decide_eq_true (by first | (with_reducible assumption) | assumption)
        obtain ⟨ad453, e453, hx453_0, hx453_1⟩ := at_T57 HR0.out x10_1 p453 q453
        cases e453
        replace hx453_0 := (HB.out.cell (World.block_lt_of_cell? w _ hx453_0)).trans hx453_0
        replace hx453_1 := (HB.out.cell (World.block_lt_of_cell? w _ hx453_1)).trans hx453_1
        replace p453 := eq_true p453
        replace q453 := eq_true q453
        try go_wp2_with (first | ((with_reducible refine gate_dst (N := 4) rfl ?_); refine box_event ?hg (N := 4) ?hd (cs := #[.string (⟨#[]⟩ : ByteArray), .int .i64 0]) (t := 57) ?hr ?_; (case hd => rfl); (case hg => rfl); (case hr => first | (go_simp; done) | (go_simp; rfl)); intro gb454 hg w34 hbox hb; have n0_ := Aside0.mk (below_step (by repeat (first | (with_reducible first | exact HB.out | apply below_alloc | apply pw_below_drewN | apply below_drew1) | exact HB.out)) hb); have n1_ := Aside0.mk (hbox); have n2_ := Aside0.mk ((by rw [hg]; exact (below_size (by repeat (first | (with_reducible first | exact HB.out | apply below_alloc | apply pw_below_drewN | apply below_drew1) | exact HB.out))) : w.heap.size ≤ gb454)); have n3_ := Aside0.mk ((by rw [hg]; exact (below_size (by repeat (first | (with_reducible first | exact HB.out | apply below_alloc | apply pw_below_drewN | apply below_drew1) | exact HB.out))) : w.heap.size ≤ gb454)); clear HB; have HB := n0_; have BK454 := n1_; have GW454 := n2_; have GE454 := n3_; clear n0_ n1_ n2_ n3_; clear hb hbox hg; have hcz35_0 : w34.cell? ⟨gb454, 0, none⟩ = some (.string (⟨#[]⟩ : ByteArray)) := (blk_cell BK454.out 0).trans rfl; have hcz35_1 : w34.cell? ⟨gb454, 1, none⟩ = some (.int .i64 0) := (blk_cell BK454.out 1).trans rfl; have hfz35_0 := blk_frozen BK454.out 0; have hfz35_1 := blk_frozen BK454.out 1))
        have n0_ : Aside0 (((w34.setCell ⟨gb454, 0, none⟩ (.string ((rd_T57 l0 x10_1).f0))).setCell ⟨gb454, 1, none⟩ (.int .i64 ((rd_T57 l0 x10_1).f1))).heap[gb454]? = some (.cells #[.string ((rd_T57 l0 x10_1).f0), .int .i64 ((rd_T57 l0 x10_1).f1)] 57 (0, 0))) := ⟨by (with_reducible repeat (first | refine blk_drewN ?_ _ | refine blk_drew ?_ | refine blk_alloc ?_ _)); refine blk_put (cs := #[.string ((rd_T57 l0 x10_1).f0), .int .i64 0]) ?_ 1 _ rfl; (with_reducible repeat (first | refine blk_drewN ?_ _ | refine blk_drew ?_ | refine blk_alloc ?_ _)); refine blk_put (cs := #[.string (⟨#[]⟩ : ByteArray), .int .i64 0]) ?_ 0 _ rfl; (with_reducible repeat (first | refine blk_drewN ?_ _ | refine blk_drew ?_ | refine blk_alloc ?_ _)); exact BK454.out⟩
        have n1_ : Aside0 (Below w.heap.size w ((w34.setCell ⟨gb454, 0, none⟩ (.string ((rd_T57 l0 x10_1).f0))).setCell ⟨gb454, 1, none⟩ (.int .i64 ((rd_T57 l0 x10_1).f1)))) := ⟨by repeat (first | (with_reducible first | exact HB.out | apply below_alloc | apply pw_below_drewN | apply below_drew1 | refine below_set ?_ GE454.out) | exact HB.out)⟩
        (try clear BK454)
        (try clear HB)
        generalize ((w34.setCell ⟨gb454, 0, none⟩ (.string ((rd_T57 l0 x10_1).f0))).setCell ⟨gb454, 1, none⟩ (.int .i64 ((rd_T57 l0 x10_1).f1))) = w36 at n0_ n1_ ⊢
        have BK454 := n0_
        have HB := n1_
        clear n0_ n1_
        have n0_ := Aside0.mk (blk_drew BK454.out)
        have n1_ := Aside0.mk (below_drew1 HB.out)
        clear BK454
        clear HB
        have BK454 := n0_
        have HB := n1_
        clear n0_ n1_
        refine start_ (n := 24) (S := fun w' => w'.cell? ⟨gb454, 0, none⟩ = some (.string ((rd_T57 l0 x10_1).f0)) ∧ w'.cell? ⟨gb454, 1, none⟩ = some (.int .i64 ((rd_T57 l0 x10_1).f1))) (ds := []) (bl 0 24) (by kernel_rfl) rfl rfl ⟨(blk_cell BK454.out 0).trans rfl, (blk_cell BK454.out 1).trans rfl⟩ (fun hHeld => ?_); refine with_tabW quant_Valid.tab6 quant_Valid.bits6 (fun HT_ HW_ => ?_)
        generalize w36.drew = w37 at BK454 HB hHeld ⊢
        refine pure_ (i := 0) (N := some 15) (v := ?_) (a' := ?_) (bl 1 23) rfl rfl (any_of HT_.out (by kernel_rfl)) (fun _ _ _ h => h) (Or.inl ⟨by rfl, ?_⟩) ?_ ?_
        rotate_left
        ·intro w'
         go_simp
         with_reducible rfl
        rotate_left
        ·simp only [Act.put, List.setIfInBounds_toArray, List.set_cons_zero, List.set_cons_succ, i64_w, i32_w]
         rfl
        refine take_ (i := 1) (N := some 16) (v := ?_) (a' := ?_) (bl 2 22) rfl rfl (take_ofW HT_.out HW_.out (by kernel_rfl)) (fun _ _ _ h => h) (Or.inl ⟨by rfl, ?_⟩) hHeld ?_ ?_
        rotate_left
        ·rintro w' ⟨s0, s1⟩
         go_simp
         with_reducible rfl
        rotate_left
        ·simp only [Act.put, List.setIfInBounds_toArray, List.set_cons_zero, List.set_cons_succ, i64_w, i32_w]
         rfl
        refine one_ (i := 2) (N := some 17) (bl 3 21) rfl rfl (one_of HT_.out (by kernel_rfl)) (by decide) (fun K hK => ?_)
        refine goes_ Tryz.func71 (by kernel_rfl) rfl #[.string ((rd_T57 l0 x10_1).f0)] (by rfl) rfl rfl (by (try simp only [List.map_toArray, List.map_cons, List.map_nil]); first | done | rfl | (simp only [List.length_drop, List.length_take]; rfl)) ?_
        with_reducible refine (quant_resource.calls k1 ((rd_T57 l0 x10_1).f0) false _ A6.out (Glob.below hG (by repeat (first | (with_reducible first | exact HB.out | apply below_alloc | apply pw_below_drewN | apply below_drew1) | exact HB.out)))).mono ?_
        rintro e w38 ⟨rfl, hb⟩
        refine ⟨_, rfl, ?_⟩
        have n0_ := Aside0.mk (blk_below (g := gb454) (o := .cells #[.string ((rd_T57 l0 x10_1).f0), .int .i64 ((rd_T57 l0 x10_1).f1)] 57 (0, 0)) (by (with_reducible repeat (first | refine blk_drewN ?_ _ | refine blk_drew ?_ | refine blk_alloc ?_ _)); exact BK454.out) hb)
        have n1_ := Aside0.mk (below_step (by repeat (first | (with_reducible first | exact HB.out | apply below_alloc | apply pw_below_drewN | apply below_drew1 | refine below_set ?_ GE454.out) | exact HB.out)) hb)
        clear BK454
        clear HB
        have BK454 := n0_
        have HB := n1_
        clear n0_ n1_
        (try clear hb)
        (try clear hb2)
        (try clear hk)
        (try clear hi)
        refine hK.out _ _ ⟨(blk_cell BK454.out 0).trans rfl, (blk_cell BK454.out 1).trans rfl⟩ (fun hHeld => ?_)
        clear hK K
        refine norm_ (a' := ?_) ?_ ?_
        rotate_left
        ·show Act.put _ (some 17) _ = _
         simp only [Act.put, List.setIfInBounds_toArray, List.set_cons_zero, List.set_cons_succ, i64_w, i32_w]
         rfl
        refine pure_ (i := 3) (N := some 18) (v := ?_) (a' := ?_) (bl 4 20) rfl rfl (any_of HT_.out (by kernel_rfl)) (fun _ _ _ h => h) (Or.inl ⟨by rfl, ?_⟩) ?_ ?_
        rotate_left
        ·intro w'
         go_simp
         with_reducible rfl
        rotate_left
        ·simp only [Act.put, List.setIfInBounds_toArray, List.set_cons_zero, List.set_cons_succ, i64_w, i32_w]
         rfl
        refine pure_ (i := 4) (N := some 19) (v := ?_) (a' := ?_) (bl 5 19) rfl rfl (any_of HT_.out (by kernel_rfl)) (fun _ _ _ h => h) (Or.inl ⟨by rfl, ?_⟩) ?_ ?_
        rotate_left
        ·intro w'
         go_simp
         with_reducible rfl
        rotate_left
        ·simp only [Act.put, List.setIfInBounds_toArray, List.set_cons_zero, List.set_cons_succ, i64_w, i32_w]
         rfl
        refine pure_ (i := 5) (N := some 20) (v := undef) (a' := ?_) (bl 6 18) rfl rfl (any_of HT_.out (by kernel_rfl)) (fun _ _ _ h => h) (Or.inr ⟨by rfl, rfl⟩) ?_ ?_
        rotate_left
        ·simp only [Act.put, List.setIfInBounds_toArray, List.set_cons_zero, List.set_cons_succ, i64_w, i32_w]
         rfl
        refine pure_ (i := 6) (N := some 21) (v := undef) (a' := ?_) (bl 7 17) rfl rfl (any_of HT_.out (by kernel_rfl)) (fun _ _ _ h => h) (Or.inr ⟨by rfl, rfl⟩) ?_ ?_
        rotate_left
        ·simp only [Act.put, List.setIfInBounds_toArray, List.set_cons_zero, List.set_cons_succ, i64_w, i32_w]
         rfl
        refine pure_ (i := 7) (N := some 22) (v := undef) (a' := ?_) (bl 8 16) rfl rfl (any_of HT_.out (by kernel_rfl)) (fun _ _ _ h => h) (Or.inr ⟨by rfl, rfl⟩) ?_ ?_
        rotate_left
        ·simp only [Act.put, List.setIfInBounds_toArray, List.set_cons_zero, List.set_cons_succ, i64_w, i32_w]
         rfl
        refine pure_ (i := 8) (N := some 23) (v := ?_) (a' := ?_) (bl 9 15) rfl rfl (any_of HT_.out (by kernel_rfl)) (fun _ _ _ h => h) (Or.inl ⟨by rfl, ?_⟩) ?_ ?_
        rotate_left
        ·intro w'
         go_simp
         with_reducible rfl
        rotate_left
        ·simp only [Act.put, List.setIfInBounds_toArray, List.set_cons_zero, List.set_cons_succ, i64_w, i32_w]
         rfl
        refine pure_ (i := 9) (N := some 24) (v := ?_) (a' := ?_) (bl 10 14) rfl rfl (any_of HT_.out (by kernel_rfl)) (fun _ _ _ h => h) (Or.inl ⟨by rfl, ?_⟩) ?_ ?_
        rotate_left
        ·intro w'
         go_simp
         with_reducible rfl
        rotate_left
        ·simp only [Act.put, List.setIfInBounds_toArray, List.set_cons_zero, List.set_cons_succ, i64_w, i32_w]
         rfl
        refine pure_ (i := 10) (N := some 25) (v := undef) (a' := ?_) (bl 11 13) rfl rfl (any_of HT_.out (by kernel_rfl)) (fun _ _ _ h => h) (Or.inr ⟨by rfl, rfl⟩) ?_ ?_
        rotate_left
        ·simp only [Act.put, List.setIfInBounds_toArray, List.set_cons_zero, List.set_cons_succ, i64_w, i32_w]
         rfl
        refine pure_ (i := 11) (N := some 26) (v := undef) (a' := ?_) (bl 12 12) rfl rfl (any_of HT_.out (by kernel_rfl)) (fun _ _ _ h => h) (Or.inr ⟨by rfl, rfl⟩) ?_ ?_
        rotate_left
        ·simp only [Act.put, List.setIfInBounds_toArray, List.set_cons_zero, List.set_cons_succ, i64_w, i32_w]
         rfl
        refine pure_ (i := 12) (N := some 27) (v := undef) (a' := ?_) (bl 13 11) rfl rfl (any_of HT_.out (by kernel_rfl)) (fun _ _ _ h => h) (Or.inr ⟨by rfl, rfl⟩) ?_ ?_
        rotate_left
        ·simp only [Act.put, List.setIfInBounds_toArray, List.set_cons_zero, List.set_cons_succ, i64_w, i32_w]
         rfl
        refine pure_ (i := 13) (N := some 28) (v := undef) (a' := ?_) (bl 14 10) rfl rfl (any_of HT_.out (by kernel_rfl)) (fun _ _ _ h => h) (Or.inr ⟨by rfl, rfl⟩) ?_ ?_
        rotate_left
        ·simp only [Act.put, List.setIfInBounds_toArray, List.set_cons_zero, List.set_cons_succ, i64_w, i32_w]
         rfl
        refine pure_ (i := 14) (N := some 29) (v := undef) (a' := ?_) (bl 15 9) rfl rfl (any_of HT_.out (by kernel_rfl)) (fun _ _ _ h => h) (Or.inr ⟨by rfl, rfl⟩) ?_ ?_
        rotate_left
        ·simp only [Act.put, List.setIfInBounds_toArray, List.set_cons_zero, List.set_cons_succ, i64_w, i32_w]
         rfl
        refine pure_ (i := 15) (N := some 30) (v := undef) (a' := ?_) (bl 16 8) rfl rfl (any_of HT_.out (by kernel_rfl)) (fun _ _ _ h => h) (Or.inr ⟨by rfl, rfl⟩) ?_ ?_
        rotate_left
        ·simp only [Act.put, List.setIfInBounds_toArray, List.set_cons_zero, List.set_cons_succ, i64_w, i32_w]
         rfl
        refine pure_ (i := 16) (N := some 31) (v := undef) (a' := ?_) (bl 17 7) rfl rfl (any_of HT_.out (by kernel_rfl)) (fun _ _ _ h => h) (Or.inr ⟨by rfl, rfl⟩) ?_ ?_
        rotate_left
        ·simp only [Act.put, List.setIfInBounds_toArray, List.set_cons_zero, List.set_cons_succ, i64_w, i32_w]
         rfl
        refine pure_ (i := 17) (N := some 32) (v := undef) (a' := ?_) (bl 18 6) rfl rfl (any_of HT_.out (by kernel_rfl)) (fun _ _ _ h => h) (Or.inr ⟨by rfl, rfl⟩) ?_ ?_
        rotate_left
        ·simp only [Act.put, List.setIfInBounds_toArray, List.set_cons_zero, List.set_cons_succ, i64_w, i32_w]
         rfl
        refine pure_ (i := 18) (N := some 33) (v := undef) (a' := ?_) (bl 19 5) rfl rfl (any_of HT_.out (by kernel_rfl)) (fun _ _ _ h => h) (Or.inr ⟨by rfl, rfl⟩) ?_ ?_
        rotate_left
        ·simp only [Act.put, List.setIfInBounds_toArray, List.set_cons_zero, List.set_cons_succ, i64_w, i32_w]
         rfl
        refine pure_ (i := 19) (N := some 34) (v := undef) (a' := ?_) (bl 20 4) rfl rfl (any_of HT_.out (by kernel_rfl)) (fun _ _ _ h => h) (Or.inr ⟨by rfl, rfl⟩) ?_ ?_
        rotate_left
        ·simp only [Act.put, List.setIfInBounds_toArray, List.set_cons_zero, List.set_cons_succ, i64_w, i32_w]
         rfl
        refine pure_ (i := 20) (N := some 35) (v := undef) (a' := ?_) (bl 21 3) rfl rfl (any_of HT_.out (by kernel_rfl)) (fun _ _ _ h => h) (Or.inr ⟨by rfl, rfl⟩) ?_ ?_
        rotate_left
        ·simp only [Act.put, List.setIfInBounds_toArray, List.set_cons_zero, List.set_cons_succ, i64_w, i32_w]
         rfl
        refine pure_ (i := 21) (N := some 36) (v := undef) (a' := ?_) (bl 22 2) rfl rfl (any_of HT_.out (by kernel_rfl)) (fun _ _ _ h => h) (Or.inr ⟨by rfl, rfl⟩) ?_ ?_
        rotate_left
        ·simp only [Act.put, List.setIfInBounds_toArray, List.set_cons_zero, List.set_cons_succ, i64_w, i32_w]
         rfl
        refine pure_ (i := 22) (N := some 37) (v := undef) (a' := ?_) (bl 23 1) rfl rfl (any_of HT_.out (by kernel_rfl)) (fun _ _ _ h => h) (Or.inr ⟨by rfl, rfl⟩) ?_ ?_
        rotate_left
        ·simp only [Act.put, List.setIfInBounds_toArray, List.set_cons_zero, List.set_cons_succ, i64_w, i32_w]
         rfl
        refine pure_ (i := 23) (N := some 38) (v := ?_) (a' := ?_) (bl 24 0) rfl rfl (any_of HT_.out (by kernel_rfl)) (fun _ _ _ h => h) (Or.inl ⟨by rfl, ?_⟩) ?_ ?_
        rotate_left
        ·intro w'
         go_simp
         with_reducible rfl
        rotate_left
        ·simp only [Act.put, List.setIfInBounds_toArray, List.set_cons_zero, List.set_cons_succ, i64_w, i32_w]
         rfl
        refine done_ (done_of HT_.out (by kernel_rfl)) ?_
        try go_wp2
        go_ret
        exact ⟨by first | rfl | (simp [errW_none, errW_some] <;> rfl) | (simp [*, errW_none, errW_some] <;> rfl), by repeat (first | (with_reducible first | exact HB.out | apply below_alloc | apply pw_below_drewN | apply below_drew1 | refine below_set ?_ GE454.out) | exact HB.out)⟩
      ·rw [if_neg c5] at H
       exact absurd H (by simp)
     ·rw [if_neg c4] at H
      exact absurd H (by simp)
    ·rw [if_neg c3] at H
     have c3b0 : decide (x10_1 < (l0.length : Int)) = false := decide_eq_false c3
     clear c3
     obtain rfl := Option.some.inj H
     go_wp2
     go_ret
     exact ⟨by first | rfl | (simp [errW_none, errW_some] <;> rfl) | (simp [*, errW_none, errW_some] <;> rfl), by repeat (first | (with_reducible first | exact HB.out | apply below_alloc | apply pw_below_drewN | apply below_drew1) | exact HB.out)⟩
end Go.Proofs.YtejgbdclhlolkaaGreatDoor.Q
namespace Go.Proofs.YtejgbdclhlolkaaGreatDoor.Q
open Go.RowKit Go.Proofs.YtejgbdclhlolkaaGreatDoorW.PrintWords Go.Proofs.YtejgbdclhlolkaaGreatDoorW.PrintLast Go.Proofs.YtejgbdclhlolkaaGreatDoorW.PrintMore
attribute [local go_sem] max2_int min2_int max_two min_two max_three min_three max_four min_four   -- for this text's walks alone
set_option linter.unusedVariables false
set_option linter.unusedSimpArgs false
def quant_valid.f (k : Nat) (l0 : List (S57)) (l1 : List (S57)) : Option (Bool) := (quant_Valid.f k l0).bind fun t546 => (if t546 = 0 then ((quant_Valid.f k l1).bind fun t547 => (some (t547 == 0))) else (some false))
theorem quant_valid.mono : ∀ a0 a1 k, LeO (quant_valid.f k a0 a1) (quant_valid.f (k + 1) a0 a1) := by
  intro a0 a1 k
  unfold quant_valid.f
  repeat' first
      | (with_reducible exact quant_Valid.mono _ _)
      | (with_reducible exact LeO.refl _)
      | (with_reducible exact LeO.none _)
      | (with_reducible refine LeO.ite ?_ ?_)
      | (with_reducible refine LeO.bind ?_ (fun _ => ?_))
      | exact quant_Valid.mono _ _
      | exact LeO.none _
      | refine LeO.ite ?_ ?_
      | refine LeO.bind ?_ (fun _ => ?_)
set_option maxHeartbeats 8000000 in
set_option maxRecDepth 100000 in
theorem quant_valid.calls (k : Nat) (A0 : Option Addr) (c0 : Nat) (l0 : List (S57)) (A1 : Option Addr) (c1 : Nat) (l1 : List (S57)) (r : Bool) (w : World) (hr0 : Kd.C k57 w A0 l0.length l0) (hc0 : l0.length ≤ c0) (hr1 : Kd.C k57 w A1 l1.length l1) (hc1 : l1.length ≤ c1) (h : quant_valid.f k l0 l1 = some r) (hG : Glob w) :
    Calls Tryz.prog 73 #[.slice A0 l0.length c0, .slice A1 l1.length c1] w fun e w' => e = .returned (.bool r) ∧ Below w.heap.size w w' := by
  have HR0 := Aside0.mk hr0
  have HC0 := Aside0.mk hc0
  clear hr0 hc0
  have HR1 := Aside0.mk hr1
  have HC1 := Aside0.mk hc1
  clear hr1 hc1
  have HB := Aside0.mk (Below.refl w.heap.size w)
  have H : ((quant_Valid.f k l0).bind fun t546 => (if t546 = 0 then ((quant_Valid.f k l1).bind fun t547 => (some (t547 == 0))) else (some false))) = some r := h
  clear h
  replace H := Option.bind_eq_some_iff.mp H
  obtain ⟨t546, A30, H⟩ := H
  replace H : (if t546 = 0 then ((quant_Valid.f k l1).bind fun t547 => (some (t547 == 0))) else (some false)) = some r := H
  have A3 := Aside0.mk A30
  clear A30
  by_cases c4 : t546 = 0
  · rw [if_pos c4] at H
    have c4b0 : (t546 == 0) = true := beq_iff_eq.mpr c4
    have c4b1 : (t546 != 0) = false := bne_eq_false_iff_eq.mpr c4
    clear c4
    replace H := Option.bind_eq_some_iff.mp H
    obtain ⟨t547, A50, H⟩ := H
    replace H : (some (t547 == 0)) = some r := H
    have A5 := Aside0.mk A50
    clear A50
    obtain rfl := Option.some.inj H
    go_enter Tryz.func73, Tryz.ntmps73
    go_wp2_with (first | ((with_reducible refine gate_callee (f := 40) rfl ?_); refine goesL_ (some 6) rfl rfl Tryz.func40 (by kernel_rfl) rfl #[.slice A0 l0.length c0] rfl (by (try simp only [List.map_toArray, List.map_cons, List.map_nil]); first | done | rfl | (simp only [List.length_drop, List.length_take]; rfl)) ?_; (with_reducible refine (quant_Valid.calls k _ _ l0 t546 _ ?side1 ?side2 A3.out (Glob.below hG (by repeat (first | (with_reducible first | exact HB.out | apply below_alloc | apply pw_below_drewN | apply below_drew1) | exact HB.out)))).mono ?_); (case side1 => repeat (first | exact HR0.out | (with_reducible refine Kd.C_alloc ?_ _) | (with_reducible refine Kd.C_drewN ?_ _) | (with_reducible refine Kd.C_drew ?_))); (case side2 => exact HC0.out); rintro e w6 ⟨rfl, hb⟩; refine ⟨_, rfl, ?_⟩; have n0_ := Aside0.mk (below_step (by repeat (first | (with_reducible first | exact HB.out | apply below_alloc | apply pw_below_drewN | apply below_drew1) | exact HB.out)) hb); clear HB; have HB := n0_; clear n0_; (try clear hb); (try clear hb2); (try clear hk); (try clear hi)) | (go_at_call 40; (with_reducible refine (quant_Valid.calls k _ _ l1 t547 _ ?side1 ?side2 A5.out (Glob.below hG (by repeat (first | (with_reducible first | exact HB.out | apply below_alloc | apply pw_below_drewN | apply below_drew1) | exact HB.out)))).mono ?_); (case side1 => repeat (first | exact (Kd.C_below HR1.out HB.out) | (with_reducible refine Kd.C_alloc ?_ _) | (with_reducible refine Kd.C_drewN ?_ _) | (with_reducible refine Kd.C_drew ?_))); (case side2 => exact HC1.out); rintro e w7 ⟨rfl, hb⟩; have n0_ := Aside0.mk (below_step (by repeat (first | (with_reducible first | exact HB.out | apply below_alloc | apply pw_below_drewN | apply below_drew1) | exact HB.out)) hb); clear HB; have HB := n0_; clear n0_; (try clear hb); (try clear hb2); (try clear hk); (try clear hi)))
    go_ret
    exact ⟨by first | rfl | (simp [errW_none, errW_some] <;> rfl) | (simp [*, errW_none, errW_some] <;> rfl), by repeat (first | (with_reducible first | exact HB.out | apply below_alloc | apply pw_below_drewN | apply below_drew1) | exact HB.out)⟩
  · rw [if_neg c4] at H
    have c4b0 : (t546 == 0) = false := beq_eq_false_iff_ne.mpr c4
    have c4b1 : (t546 != 0) = true := bne_iff_ne.mpr c4
    obtain rfl := Option.some.inj H
    go_enter Tryz.func73, Tryz.ntmps73
    go_wp2_with (first | ((with_reducible refine gate_callee (f := 40) rfl ?_); refine goesL_ (some 6) rfl rfl Tryz.func40 (by kernel_rfl) rfl #[.slice A0 l0.length c0] rfl (by (try simp only [List.map_toArray, List.map_cons, List.map_nil]); first | done | rfl | (simp only [List.length_drop, List.length_take]; rfl)) ?_; (with_reducible refine (quant_Valid.calls k _ _ l0 t546 _ ?side1 ?side2 A3.out (Glob.below hG (by repeat (first | (with_reducible first | exact HB.out | apply below_alloc | apply pw_below_drewN | apply below_drew1) | exact HB.out)))).mono ?_); (case side1 => repeat (first | exact HR0.out | (with_reducible refine Kd.C_alloc ?_ _) | (with_reducible refine Kd.C_drewN ?_ _) | (with_reducible refine Kd.C_drew ?_))); (case side2 => exact HC0.out); rintro e w8 ⟨rfl, hb⟩; refine ⟨_, rfl, ?_⟩; have n0_ := Aside0.mk (below_step (by repeat (first | (with_reducible first | exact HB.out | apply below_alloc | apply pw_below_drewN | apply below_drew1) | exact HB.out)) hb); clear HB; have HB := n0_; clear n0_; (try clear hb); (try clear hb2); (try clear hk); (try clear hi)))
    go_ret
    exact ⟨by first | rfl | (simp [errW_none, errW_some] <;> rfl) | (simp [*, errW_none, errW_some] <;> rfl), by repeat (first | (with_reducible first | exact HB.out | apply below_alloc | apply pw_below_drewN | apply below_drew1) | exact HB.out)⟩
end Go.Proofs.YtejgbdclhlolkaaGreatDoor.Q
namespace Go.Proofs.YtejgbdclhlolkaaGreatDoor.Q
open Go.RowKit Go.Proofs.YtejgbdclhlolkaaGreatDoorW.PrintWords Go.Proofs.YtejgbdclhlolkaaGreatDoorW.PrintLast Go.Proofs.YtejgbdclhlolkaaGreatDoorW.PrintMore
attribute [local go_sem] max2_int min2_int max_two min_two max_three min_three max_four min_four   -- for this text's walks alone
set_option linter.unusedVariables false
set_option linter.unusedSimpArgs false
def quant_Add.j0 : Nat → Int → Int → Bool → Option (Int × Int)
  | 0, _, _, _ => none
  | k + 1, x0, x1, x11 => if x11 = true then (some (0, 1)) else (if x0 > (wrap64 (9223372036854775807 - x1)) then (some (0, 7)) else (some (wrap64 (x0 + x1), 0)))
def quant_Add.f (k : Nat) (a0 : Int) (a1 : Int) : Option (Int × Int) := if a0 < 0 then (quant_Add.j0 k a0 a1 true) else (quant_Add.j0 k a0 a1 (decide (a1 < 0)))
theorem quant_Add.mono_l : ∀ k, (∀ y0 y1 y2, LeO (quant_Add.j0 k y0 y1 y2) (quant_Add.j0 (k + 1) y0 y1 y2))
  | 0 => fun _ _ _ r h => by simp [quant_Add.j0] at h
  | k + 1 => by
    have ih0 := quant_Add.mono_l k
    · intro y0 y1 y2
      unfold quant_Add.j0
      repeat' first
      | (with_reducible exact ih0 _ _ _)
      | (with_reducible exact LeO.refl _)
      | (with_reducible exact LeO.none _)
      | (with_reducible refine LeO.ite ?_ ?_)
      | (with_reducible refine LeO.bind ?_ (fun _ => ?_))
      | exact ih0 _ _ _
      | exact LeO.none _
      | refine LeO.ite ?_ ?_
      | refine LeO.bind ?_ (fun _ => ?_)
theorem quant_Add.mono : ∀ a0 a1 k, LeO (quant_Add.f k a0 a1) (quant_Add.f (k + 1) a0 a1) := by
  intro a0 a1 k
  have ih0 := quant_Add.mono_l k
  unfold quant_Add.f
  repeat' first
      | (with_reducible exact ih0 _ _ _)
      | (with_reducible exact LeO.refl _)
      | (with_reducible exact LeO.none _)
      | (with_reducible refine LeO.ite ?_ ?_)
      | (with_reducible refine LeO.bind ?_ (fun _ => ?_))
      | exact ih0 _ _ _
      | exact LeO.none _
      | refine LeO.ite ?_ ?_
      | refine LeO.bind ?_ (fun _ => ?_)
set_option maxHeartbeats 8000000 in
set_option maxRecDepth 100000 in
theorem quant_Add.calls (k : Nat) (a0 : Int) (a1 : Int) (r1 : Int) (r2 : Int) (w : World) (h : quant_Add.f k a0 a1 = some (r1, r2)) :
    Calls Tryz.prog 26 #[.int .i64 a0, .int .i64 a1] w fun e w' => e = .returned (.tuple #[.int .i64 r1, .int .i64 r2]) ∧ Drawn0 w w' := by
  have H : (if a0 < 0 then (quant_Add.j0 k a0 a1 true) else (quant_Add.j0 k a0 a1 (decide (a1 < 0)))) = some (r1, r2) := h
  clear h
  have HC3 := Aside0.mk H
  clear H
  go_enter Tryz.func26, Tryz.ntmps26
  go_upto_region 1 with (fail)
  go_cut [11] (fun v11 wc => ∃ (kq : Nat) (x11_2 : Bool), v11 = .bool x11_2 ∧ Aside0 (quant_Add.j0 kq a0 a1 x11_2 = some (r1, r2)) ∧ Aside0 (kq ≤ k) ∧ Drawn0 w wc)
  case first =>
    have H := HC3.out
    clear HC3
    by_cases c4 : a0 < 0
    · rw [if_pos c4] at H
      have c4b0 : decide (a0 < 0) = true := decide_eq_true c4
      clear c4
      (first | rw [c4b0] | (simp only [i64_w, i32_w]; rw [c4b0]) | skip)
      have H' := Aside0.mk H
      clear H
      go_wp2
      go_meet
      case rel => exact ⟨_, (true), (by first | rfl | (simp; done) | (simp [*]; done) | (simp; rw [Bool.eq_iff_iff]; simp; done) | (rw [Bool.eq_iff_iff]; simp; done)), H', ⟨by first | omega | exact Nat.le_refl _⟩, by repeat (first | exact Drawn0.refl _ | apply Drawn0.step)⟩
    · rw [if_neg c4] at H
      have c4b0 : decide (a0 < 0) = false := decide_eq_false c4
      clear c4
      (first | rw [c4b0] | (simp only [i64_w, i32_w]; rw [c4b0]) | skip)
      have H' := Aside0.mk H
      clear H
      go_wp2
      go_meet
      case rel => exact ⟨_, (decide (a1 < 0)), (by first | rfl | (simp; done) | (simp [*]; done) | (simp; rw [Bool.eq_iff_iff]; simp; done) | (rw [Bool.eq_iff_iff]; simp; done)), H', ⟨by first | omega | exact Nat.le_refl _⟩, by repeat (first | exact Drawn0.refl _ | apply Drawn0.step)⟩
  case rest =>
    clear HC3
    try clear c2
    try clear p2
    try clear c4
    try clear c4b0
    obtain ⟨kq, x11_2, rfl, HA, HJ2, ⟨mc2, rfl⟩⟩ := hcut
    cases kq with
    | zero => exact absurd HA.out (by simp [quant_Add.j0])
    | succ kj2 =>
      have H := HA.out
      clear HA
      simp only [quant_Add.j0] at H
      by_cases c5 : x11_2 = true
      · subst c5
        have H1 : (some (0, 1)) = some (r1, r2) := by rw [if_pos rfl] at H; exact H
        clear H
        have H := H1
        clear H1
        simp only [Option.some.injEq, Prod.mk.injEq] at H
        obtain ⟨rfl, rfl⟩ := H
        go_wp2
        go_ret2
        exact ⟨by first | rfl | (simp; done) | (simp [*]; done), by repeat (first | exact Drawn0.refl _ | apply Drawn0.step)⟩
      · replace c5 := Bool.eq_false_iff.mpr c5
        subst c5
        have H1 : (if a0 > (wrap64 (9223372036854775807 - a1)) then (some (0, 7)) else (some (wrap64 (a0 + a1), 0))) = some (r1, r2) := by rw [if_neg (show ¬ (false = true) by decide)] at H; exact H
        clear H
        have H := H1
        clear H1
        by_cases c6 : a0 > (wrap64 (9223372036854775807 - a1))
        · rw [if_pos c6] at H
          have c6b0 : decide ((wrap64 (9223372036854775807 - a1)) < a0) = true := decide_eq_true c6
          clear c6
          simp only [Option.some.injEq, Prod.mk.injEq] at H
          obtain ⟨rfl, rfl⟩ := H
          go_wp2
          go_ret2
          exact ⟨by first | rfl | (simp; done) | (simp [*]; done), by repeat (first | exact Drawn0.refl _ | apply Drawn0.step)⟩
        · rw [if_neg c6] at H
          have c6b0 : decide ((wrap64 (9223372036854775807 - a1)) < a0) = false := decide_eq_false c6
          clear c6
          simp only [Option.some.injEq, Prod.mk.injEq] at H
          obtain ⟨rfl, rfl⟩ := H
          go_wp2
          go_ret2
          exact ⟨by first | rfl | (simp; done) | (simp [*]; done), by repeat (first | exact Drawn0.refl _ | apply Drawn0.step)⟩
end Go.Proofs.YtejgbdclhlolkaaGreatDoor.Q
namespace Go.Proofs
open Go.Shelf
def Tryz.sortAm_ren : Go.Shelf.Ren := ⟨fun | 6 => 95 | 15 => 119 | 14 => 118 | 28 => 145 | 29 => 91 | 20 => 137 | 21 => 138 | 22 => 139 | 23 => 140 | 24 => 141 | 25 => 142 | 26 => 143 | 27 => 144 | 46 => 155 | 47 => 156 | 48 => 157 | 49 => 158 | 50 => 159 | 57 => 162 | n => n, fun | 22 => 46 | 24 => 57 | 25 => 116 | 3 => 3 | 39 => 35 | 0 => 0 | 53 => 34 | 55 => 36 | 4 => 4 | 46 => 148 | 45 => 147 | 50 => 152 | 5 => 5 | 9 => 9 | 66 => 164 | 70 => 168 | 76 => 175 | 77 => 176 | n => n, fun | n => n⟩
theorem Tryz.sortAm : Go.Proofs.SlLaysF0.n6 Tryz.prog Tryz.sortAm_ren := {
  mixed := by kernel_rfl
  f6 := ⟨Tryz.f95.name, by decide, Tryz.func95.trans (congrArg some (by kernel_rfl))⟩
  f14 := ⟨Tryz.f118.name, by decide, Tryz.func118.trans (congrArg some (by kernel_rfl))⟩
  f15 := Tryz.func119.trans (congrArg some (by kernel_rfl))
  f20 := ⟨Tryz.f137.name, by decide, Tryz.func137.trans (congrArg some (by kernel_rfl))⟩
  f21 := ⟨Tryz.f138.name, by decide, Tryz.func138.trans (congrArg some (by kernel_rfl))⟩
  f22 := ⟨Tryz.f139.name, by decide, Tryz.func139.trans (congrArg some (by kernel_rfl))⟩
  f23 := ⟨Tryz.f140.name, by decide, Tryz.func140.trans (congrArg some (by kernel_rfl))⟩
  f24 := ⟨Tryz.f141.name, by decide, Tryz.func141.trans (congrArg some (by kernel_rfl))⟩
  f25 := ⟨Tryz.f142.name, by decide, Tryz.func142.trans (congrArg some (by kernel_rfl))⟩
  f26 := ⟨Tryz.f143.name, by decide, Tryz.func143.trans (congrArg some (by kernel_rfl))⟩
  f27 := ⟨Tryz.f144.name, by decide, Tryz.func144.trans (congrArg some (by kernel_rfl))⟩
  f28 := Tryz.func145.trans (congrArg some (by kernel_rfl))
  f29 := Tryz.func91.trans (congrArg some (by kernel_rfl))
  f46 := ⟨Tryz.f155.name, by decide, Tryz.func155.trans (congrArg some (by kernel_rfl))⟩
  f47 := Tryz.func156.trans (congrArg some (by kernel_rfl))
  f48 := Tryz.func157.trans (congrArg some (by kernel_rfl))
  f49 := ⟨Tryz.f158.name, by decide, Tryz.func158.trans (congrArg some (by kernel_rfl))⟩
  f50 := ⟨Tryz.f159.name, by decide, Tryz.func159.trans (congrArg some (by kernel_rfl))⟩
  f57 := ⟨Tryz.f162.name, by decide, Tryz.func162.trans (congrArg some (by kernel_rfl))⟩
  t0 := Tryz.underlying0
  a0 := Tryz.isAgg0
  z0 := Tryz.sizeOf0
  v0 := Tryz.zeroValue0
  t3 := Tryz.underlying3
  a3 := Tryz.isAgg3
  z3 := Tryz.sizeOf3
  v3 := Tryz.zeroValue3
  t4 := Tryz.underlying4
  a4 := Tryz.isAgg4
  z4 := Tryz.sizeOf4
  v4 := Tryz.zeroValue4
  t5 := Tryz.underlying5
  a5 := Tryz.isAgg5
  z5 := Tryz.sizeOf5
  v5 := Tryz.zeroValue5
  t9 := Tryz.underlying9
  a9 := Tryz.isAgg9
  z9 := Tryz.sizeOf9
  v9 := Tryz.zeroValue9
  t22 := Tryz.underlying46
  a22 := Tryz.isAgg46
  z22 := Tryz.sizeOf46
  v22 := Tryz.zeroValue46
  t25 := Tryz.underlying116
  a25 := Tryz.isAgg116
  z25 := Tryz.sizeOf116
  v25 := Tryz.zeroValue116
  t39 := Tryz.underlying35
  a39 := Tryz.isAgg35
  z39 := Tryz.sizeOf35
  v39 := Tryz.zeroValue35
  t45 := Tryz.underlying147
  a45 := Tryz.isAgg147
  z45 := Tryz.sizeOf147
  v45 := Tryz.zeroValue147
  t46 := Tryz.underlying148
  a46 := Tryz.isAgg148
  z46 := Tryz.sizeOf148
  v46 := Tryz.zeroValue148
  t50 := Tryz.underlying152
  a50 := Tryz.isAgg152
  z50 := Tryz.sizeOf152
  v50 := Tryz.zeroValue152
  t53 := Tryz.underlying34
  a53 := Tryz.isAgg34
  z53 := Tryz.sizeOf34
  v53 := Tryz.zeroValue34
  t55 := Tryz.underlying36
  a55 := Tryz.isAgg36
  z55 := Tryz.sizeOf36
  v55 := Tryz.zeroValue36
  t66 := Tryz.underlying164
  a66 := Tryz.isAgg164
  z66 := Tryz.sizeOf164
  v66 := Tryz.zeroValue164
  t70 := Tryz.underlying168
  a70 := Tryz.isAgg168
  z70 := Tryz.sizeOf168
  v70 := Tryz.zeroValue168
  t76 := Tryz.underlying175
  a76 := Tryz.isAgg175
  z76 := Tryz.sizeOf175
  v76 := Tryz.zeroValue175
  t77 := Tryz.underlying176
  a77 := Tryz.isAgg176
  z77 := Tryz.sizeOf176
  v77 := Tryz.zeroValue176 }
end Go.Proofs
namespace Go.Proofs.YtejgbdclhlolkaaGreatDoor.Q
open Go.RowKit Go.Lib Go.Sort Go.Shelf Go.Proofs.YtejgbdclhlolkaaGreatDoorW.PrintWords Go.Proofs.YtejgbdclhlolkaaGreatDoorW.PrintLast
set_option linter.unusedVariables false
set_option linter.unusedSimpArgs false
theorem cmp_less : ∀ a b : List UInt8, decide (Lib.compareBytes a b < 0) = Op.bytesLess a b
  | [], [] => rfl
  | [], _ :: _ => rfl
  | _ :: _, [] => rfl
  | a :: x, b :: y => by
    simp only [Lib.compareBytes, Op.bytesLess]
    by_cases h1 : a < b
    · simp [h1]
    · by_cases h2 : b < a
      · have : (a == b) = false := beq_eq_false_iff_ne.2 (fun e => by subst e; exact h1 h2)
        simp [h1, h2, this]
      · have e : a = b := UInt8.le_antisymm (UInt8.not_lt.1 h2) (UInt8.not_lt.1 h1)
        subst e
        simp [h1, cmp_less x y]
instance : Inhabited S57 := ⟨z57⟩
def encAm (x : S57) : List Value := [.string x.f0, .int .i64 x.f1]
def cmpAm (x y : S57) : Int := Lib.compareBytes x.f0.data.toList y.f0.data.toList
theorem ltAm (x y : S57) : ltOf cmpAm x y = Op.bytesLess x.f0.data.toList y.f0.data.toList := by
  unfold ltOf cmpAm
  exact cmp_less _ _
theorem swoAm : SWO (ltOf cmpAm) where
  irrefl x := by rw [ltAm]; exact less_irrefl _
  trans x y z h1 h2 := by rw [ltAm] at *; exact less_trans _ _ _ h1 h2
  ntrans x y z h1 h2 := by
    rw [ltAm] at *
    cases h3 : Op.bytesLess x.f0.data.toList z.f0.data.toList with
    | false => rfl
    | true =>
      exfalso
      have t := less_total y.f0.data.toList x.f0.data.toList
      rw [h1, Bool.not_false, Bool.or_eq_true] at t
      rcases t with t | t
      · rw [less_trans _ _ _ t h3] at h2; cases h2
      · rw [beq_iff_eq] at t
        rw [t, h3] at h2; cases h2
set_option maxHeartbeats 2000000 in
set_option maxRecDepth 100000 in
theorem listed1_calls (x y : S57) (W : World) : Calls Tryz.prog 96 #[.agg #[.string x.f0, .int .i64 x.f1], .agg #[.string y.f0, .int .i64 y.f1]] W fun e w' => e = .returned (.int .i64 (cmpAm x y)) ∧ ∃ q os', w' = grow (W.drewN q) os' := by
  have hu57 := Tryz.underlying57
  have hcon := fun W' => Tryz.strings_Compare x.f0 y.f0 W'
  change ∀ W', Calls Tryz.prog 97 _ _ (fun e w' => e = .returned (.int .i64 (cmpAm x y)) ∧ w' = W') at hcon
  generalize cmpAm x y = r at hcon ⊢
  go_enter Tryz.func96, Tryz.ntmps96
  go_wp2_with (go_at_call 97; refine (hcon _).mono ?_; rintro e w' ⟨rfl, rfl⟩)
  go_ret
  exact ⟨rfl, 0, _, by rw [alloc_eq_grow, alloc_eq_grow, grow_grow]; rfl⟩
theorem cmpLaysAm (blk off size : Nat) (w : World) : CmpLays Tryz.prog 96 #[] encAm 2 cmpAm blk off size w :=
  fun _ _ _ _ x y => listed1_calls x y _
theorem sort_calls (blk off cap : Nat) (d : Array S57) (w : World) (hH : HoldsK encAm 2 w blk off d) (hblk : blk < w.heap.size) (hsz : d.size < 4611686018427387904) :
    Calls Tryz.prog 95 #[.slice (some ⟨blk, off, none⟩) d.size cap, .func (.func 96) #[] #[]] w fun e w' => e = .returned (.tuple #[]) ∧ ∃ d' n os, PermIn 0 d.size d d' ∧ SortedIn (ltOf cmpAm) 0 d.size d' ∧ w' = sortWorldK encAm 2 w blk off n d' os := by
  have eg : ∀ args w, (callFunc 96 args).run Tryz.prog w = .ok (.enter 96 args) w := enters_of Tryz.func96 (by kernel_rfl) rfl
  exact AnyQ.slices_SortFunc Tryz.sortAm 2 Tryz.isAgg57 Tryz.sizeOf57 encAm (fun _ => rfl) (fun x v hv => by simp [encAm] at hv; rcases hv with rfl | rfl <;> rfl) cmpAm swoAm 96 #[] blk off cap d w eg (cmpLaysAm blk off d.size w) hH hblk hsz
end Go.Proofs.YtejgbdclhlolkaaGreatDoor.Q
namespace Go.Proofs.YtejgbdclhlolkaaGreatDoor.Q
open Go.RowKit Go.Lib Go.Sort Go.Shelf Go.WideMaps Go.Maps Go.Proofs.YtejgbdclhlolkaaGreatDoorW.PrintWords Go.Proofs.YtejgbdclhlolkaaGreatDoorW.PrintLast
set_option linter.unusedVariables false
set_option linter.unusedSimpArgs false
def keyL (x : S57) : Lit := .string x.f0.data.toList
structure Gathered (xs : List S57) (D : DataW Unit) (left : Lit → Bool) : Prop where
  apart : (xs.map keyL).Nodup
  here : ∀ x ∈ xs, left (keyL x) = false ∧ Maps.has D (keyL x) = true ∧ ∀ z, D.atKey (keyL x) z = .lit (.int .i64 x.f1)
  all : ∀ s : List UInt8, Maps.has D (.string s) = true → left (.string s) = false → Lit.string s ∈ xs.map keyL
theorem gathered_start (D : DataW Unit) : Gathered [] D (Maps.has D) := ⟨by simp, by simp, fun s h1 h2 => by rw [h1] at h2; cases h2⟩
theorem gathered_step {xs : List S57} {D : DataW Unit} {left : Lit → Bool} (h : Gathered xs D left) (x : S57) (hl : left (keyL x) = true) (hat : ∀ z, D.atKey (keyL x) z = .lit (.int .i64 x.f1)) :
    Gathered (xs ++ [x]) D (fun z => left z && !z.sameKey (keyL x)) := by
  have hnot : keyL x ∉ xs.map keyL := fun hm => by
    obtain ⟨y, hy, e⟩ := List.mem_map.1 hm
    have := (h.here y hy).1
    rw [e, hl] at this
    cases this
  have hself : (keyL x).sameKey (keyL x) = true := WideAt.sameKey_self (by trivial)
  refine ⟨?_, ?_, ?_⟩
  · rw [List.map_append, List.nodup_append]
    refine ⟨h.apart, by simp, fun a ha b hb => ?_⟩
    simp at hb
    subst hb
    exact fun e => hnot (e ▸ ha)
  · intro y hy
    rcases List.mem_append.1 hy with hy | hy
    · obtain ⟨h1, h2⟩ := h.here y hy
      exact ⟨by simp [h1], h2⟩
    · obtain rfl : y = x := by simpa using hy
      refine ⟨by simp [hself], Maps.has_true_of_atKey hat, hat⟩
  · intro s h1 h2
    rw [List.map_append, List.mem_append]
    by_cases e : Lit.string s = keyL x
    · exact .inr (by simp [e])
    · left
      refine h.all s h1 ?_
      rw [sameKey_ne e] at h2
      simpa using h2
theorem flat_get {xs : List S57} {t : Nat} (ht : t < xs.length * 2) : (flatK encAm 2 xs.toArray).toList[t]? = (encAm (xs.getD (t / 2) z57))[t % 2]? := by
  have hj : t / 2 < xs.length := by omega
  have h1 : (flatK encAm 2 xs.toArray).toList[t]? = some ((encAm (xs.toArray[t / 2]!))[t % 2]!) := by
    rw [Array.getElem?_toList]
    simp [flatK, ht]
  have h2 : xs.toArray[t / 2]! = xs.getD (t / 2) z57 := by
    simp [List.getD_eq_getElem?_getD, hj]
  rw [h1, h2]
  have h3 : t % 2 = 0 ∨ t % 2 = 1 := by omega
  rcases h3 with h3 | h3 <;> rw [h3] <;> rfl
theorem flat_len (xs : List S57) : (flatK encAm 2 xs.toArray).toList.length = xs.length * 2 := by simp
theorem inner57 {w : World} {base : Nat} {ok : Nat → Prop} {xs : List S57} {inner : List Value} (h : Reps (k57.M w base ok) 2 xs inner) : inner = (flatK encAm 2 xs.toArray).toList := by
  apply List.ext_getElem?
  intro t
  by_cases ht : t < xs.length * 2
  · have hj : t / 2 < xs.length := by omega
    have hk := k57_openM (h.2 (t / 2) _ (List.getElem?_eq_getElem hj))
    have h1 : inner[t]? = ((inner.drop (t / 2 * 2)).take 2)[t % 2]? := by
      rw [List.getElem?_take_of_lt (by omega), List.getElem?_drop]
      congr 1
      omega
    rw [h1, hk, flat_get ht]
    simp [encAm, List.getD_eq_getElem?_getD, hj]
  · rw [List.getElem?_eq_none (by rw [h.1]; omega), List.getElem?_eq_none (by rw [flat_len]; omega)]
theorem reps57 (w : World) (base : Nat) (ok : Nat → Prop) (xs : List S57) : Reps (k57.M w base ok) 2 xs (flatK encAm 2 xs.toArray).toList := by
  refine ⟨flat_len xs, fun j p hj => ?_⟩
  obtain ⟨hl, rfl⟩ := List.getElem?_eq_some_iff.1 hj
  have e : (((flatK encAm 2 xs.toArray).toList.drop (j * 2)).take 2) = encAm xs[j] := by
    apply List.ext_getElem?
    intro t
    by_cases ht : t < 2
    · rw [List.getElem?_take_of_lt ht, List.getElem?_drop, flat_get (by omega)]
      have h1 : (j * 2 + t) / 2 = j := by omega
      have h2 : (j * 2 + t) % 2 = t := by omega
      rw [h1, h2]
      simp [List.getD_eq_getElem?_getD, hl]
    · rw [List.getElem?_take_eq_none (by omega), List.getElem?_eq_none (by simp [encAm]; omega)]
  rw [e]
  exact k57_mkM w base ok _
theorem holds57 {w : World} {g : Nat} {cur : Array Value} {e : TypeId} {xs : List S57} (hb : w.heap[g]? = some (.cells cur e (0, 0))) (ht : cur.toList.take (xs.length * 2) = (flatK encAm 2 xs.toArray).toList) : HoldsK encAm 2 w g 0 xs.toArray := by
  unfold HoldsK
  intro j hj
  have hj' : j < xs.length * 2 := by simpa using hj
  refine ⟨?_, by simp [World.frozen?, hb]⟩
  have h1 : (cur.toList.take (xs.length * 2))[j]? = (flatK encAm 2 xs.toArray).toList[j]? := by rw [ht]
  rw [List.getElem?_take_of_lt hj'] at h1
  simp only [World.cell?, hb, Nat.zero_add]
  simp only [Option.isSome_none, Bool.false_eq_true, if_false]
  rw [← Array.getElem?_toList, h1, Array.getElem?_toList, Array.getElem?_eq_getElem hj, getElem!_pos _ j hj]
  rfl
theorem heap57 {w : World} {g n : Nat} {os : Array Obj} {cur : Array Value} {e : TypeId} {fr : Nat × Nat} (d : Array S57) (hb : w.heap[g]? = some (.cells cur e fr)) :
    (sortWorldK encAm 2 w g 0 n d os).heap[g]? = some (.cells (putCells id 0 (flatK encAm 2 d) cur) e fr) := by
  have hg : g < w.heap.size := (Array.getElem?_eq_some_iff.1 hb).1
  unfold sortWorldK putRowK
  rw [heap_grow_old _ _ (by simpa using hg)]
  simp [putRow, mapBlock, Sort.ahead, Array.getElem?_modify, hb, onCells]
theorem grown57 {w : World} {g n : Nat} {os : Array Obj} (d : Array S57) : w.grownBy (sortWorldK encAm 2 w g 0 n d os) (some g) := by
  unfold sortWorldK putRowK
  refine ⟨rfl, rfl, rfl, by simp, fun k hk hne => ?_⟩
  rw [heap_grow_old _ _ (by simpa using hk)]
  have : g ≠ k := fun e => hne (by rw [e])
  simp [putRow, mapBlock, Sort.ahead, Array.getElem?_modify, this]
theorem take57 (cur : Array Value) (ts : List S57) (h : ts.length * 2 ≤ cur.size) : (putCells id 0 (flatK encAm 2 ts.toArray) cur).toList.take (ts.length * 2) = (flatK encAm 2 ts.toArray).toList := by
  apply List.ext_getElem?
  intro j
  by_cases hj : j < ts.length * 2
  · rw [List.getElem?_take_of_lt hj, Array.getElem?_toList, Array.getElem?_toList]
    simp [putCells, hj, show j < cur.size by omega]
  · rw [List.getElem?_take_eq_none (by omega), List.getElem?_eq_none (by rw [flat_len]; omega)]
def Rises (L : List S57) : Prop := L.Pairwise fun x y => Op.bytesLess x.f0.data.toList y.f0.data.toList = true
structure Tells (D : DataW Unit) (L : List S57) : Prop where
  tidy : Tidy D
  rises : Rises L
  size : Maps.size D = L.length
  here : ∀ x ∈ L, ∀ z, D.atKey (keyL x) z = .lit (.int .i64 x.f1)
  all : ∀ s : List UInt8, Maps.has D (.string s) = true → Lit.string s ∈ L.map keyL
theorem Rises.names {L : List S57} (h : Rises L) : (L.map keyL).Nodup := by
  refine List.Pairwise.map _ (fun x y hxy e => ?_) h
  unfold keyL at e
  injection e with e
  rw [e, less_irrefl] at hxy
  cases hxy
theorem nodup_of_map {α β : Type} (f : α → β) : ∀ {l : List α}, (l.map f).Nodup → l.Nodup
  | [], _ => List.nodup_nil
  | x :: l, h => by
    rw [List.map_cons, List.nodup_cons] at h
    exact List.nodup_cons.2 ⟨fun hm => h.1 (List.mem_map.2 ⟨x, hm, rfl⟩), nodup_of_map f h.2⟩
theorem ba_ext {a b : ByteArray} (h : a.data.toList = b.data.toList) : a = b := by
  obtain ⟨⟨x⟩⟩ := a
  obtain ⟨⟨y⟩⟩ := b
  simp only at h
  rw [h]
theorem map_inj {α β : Type} {f : α → β} {x y : α} : ∀ {l : List α}, (l.map f).Nodup → x ∈ l → y ∈ l → f x = f y → x = y
  | [], _, hx, _, _ => by simp at hx
  | a :: l, h, hx, hy, e => by
    rw [List.map_cons, List.nodup_cons] at h
    rcases List.mem_cons.1 hx with h1 | h1
    · rcases List.mem_cons.1 hy with h2 | h2
      · rw [h1, h2]
      · exact absurd (List.mem_map.2 ⟨y, h2, by rw [← h1]; exact e.symm⟩) h.1
    · rcases List.mem_cons.1 hy with h2 | h2
      · exact absurd (List.mem_map.2 ⟨x, h1, by rw [← h2]; exact e⟩) h.1
      · exact map_inj h.2 h1 h2 e
theorem s57_ext {x y : S57} (h0 : keyL x = keyL y) (h1 : x.f1 = y.f1) : x = y := by
  unfold keyL at h0
  injection h0 with h0
  cases x; cases y
  simp only at h0 h1
  subst h1
  congr 1
  exact ba_ext h0
theorem same_value {D : DataW Unit} {x y : S57} (hx : ∀ z, D.atKey (keyL x) z = .lit (.int .i64 x.f1)) (hy : ∀ z, D.atKey (keyL y) z = .lit (.int .i64 y.f1)) (e : keyL x = keyL y) : x = y := by
  refine s57_ext e ?_
  have h1 := hx (.map [])
  have h2 := hy (.map [])
  rw [← e, h1] at h2
  injection h2 with h2
  injection h2 with _ h2
theorem gathered_perm {xs L : List S57} {D : DataW Unit} {left : Lit → Bool} (h : Gathered xs D left) (hT : Tells D L) (hl : ∀ kl, left kl = false) : xs.Perm L := by
  refine (List.perm_ext_iff_of_nodup (nodup_of_map keyL h.apart) (nodup_of_map keyL hT.rises.names)).2 (fun x => ⟨fun hx => ?_, fun hx => ?_⟩)
  · obtain ⟨_, h2, h3⟩ := h.here x hx
    obtain ⟨y, hy, e⟩ := List.mem_map.1 (hT.all _ h2)
    rw [same_value h3 (hT.here y hy) e.symm]
    exact hy
  · have h2 := Maps.has_true_of_atKey (hT.here x hx)
    obtain ⟨y, hy, e⟩ := List.mem_map.1 (h.all _ h2 (hl _))
    rw [same_value (hT.here x hx) (h.here y hy).2.2 e.symm]
    exact hy
theorem sorted_is {xs L : List S57} {d' : Array S57} (hp : PermIn 0 xs.toArray.size xs.toArray d') (hs : SortedIn (ltOf cmpAm) 0 xs.toArray.size d') (hL : xs.Perm L) (hr : Rises L) : d'.toList = L := by
  have hsz : d'.size = xs.length := by have := hp.1; simpa using this
  have h1 : d'.toList.Perm xs := by
    have := hp.2.2
    have e1 : d'.extract 0 xs.toArray.size = d' := by
      have : xs.toArray.size = d'.size := by simp [hsz]
      rw [this]
      exact Array.extract_size
    have e2 : xs.toArray.extract 0 xs.toArray.size = xs.toArray := Array.extract_size
    rw [e1, e2] at this
    simpa using this
  refine List.Perm.eq_of_pairwise (le := fun a b => Op.bytesLess b.f0.data.toList a.f0.data.toList = false) ?_ ?_ ?_ (h1.trans hL)
  · intro a b ha hb h3 h4
    have hab : a.f0.data.toList = b.f0.data.toList := by
      have t := less_total a.f0.data.toList b.f0.data.toList
      rw [h3, h4] at t
      simpa using t
    have ha' : a ∈ L := (h1.trans hL).mem_iff.1 ha
    by_cases e : a = b
    · exact e
    · exfalso
      have hk : keyL a = keyL b := by unfold keyL; rw [hab]
      have hn := hr.names
      exact e (map_inj hn ha' hb hk)
  · rw [List.pairwise_iff_getElem]
    intro i j hi hj hij
    have := hs i j (Nat.zero_le _) hij (by simpa [hsz] using hj)
    rw [ltAm] at this
    simpa [getElem!_pos, show i < d'.size by simpa using hi, show j < d'.size by simpa using hj] using this
  · refine hr.imp ?_
    intro a b hab
    cases h3 : Op.bytesLess b.f0.data.toList a.f0.data.toList with
    | false => rfl
    | true => exact absurd ((less_trans _ _ _ hab h3).symm.trans (less_irrefl _)) (by decide)
theorem sort_row {w : World} {base : Nat} {ok : Nat → Prop} {v : Value} {xs L : List S57} (HR : Kd.R k57 57 w base ok v xs) (hp : xs.Perm L) (hr : Rises L) (hl : L.length ≤ 16) :
    Calls Tryz.prog 95 #[v, .func (.func 96) #[] #[]] w fun e w' => e = .returned (.tuple #[]) ∧ Kd.R k57 57 w' base ok v L ∧ w.grownBy w' v.ownBlock := by
  obtain ⟨h0, inner, ho, hi⟩ := HR
  have hlen := hp.length_eq
  rcases ho.2 with ⟨rfl, hn⟩ | ⟨g, cap, cur, rfl, hg, hb, h1, h2, h3, h4⟩
  · obtain rfl := List.eq_nil_of_length_eq_zero hn
    obtain rfl : L = [] := List.eq_nil_of_length_eq_zero (by simpa using hlen.symm)
    refine Calls.mono (AnyF.slices_SortFunc_none Tryz.sortAm none 0 (.func (.func 96) #[] #[]) w) ?_
    rintro e w' ⟨rfl, rfl⟩
    exact ⟨rfl, Kd.R_nil _ _ _ _ _, ⟨rfl, rfl, rfl, Nat.le_refl _, fun _ _ _ => rfl⟩⟩
  · have hin := inner57 hi
    have hH := holds57 hb (h4.trans hin)
    have hlt : g < w.heap.size := (Array.getElem?_eq_some_iff.1 hb).1
    have hc := sort_calls g 0 cap xs.toArray w hH hlt (by simp; omega)
    simp only [List.size_toArray] at hc
    refine hc.mono ?_
    rintro e w' ⟨rfl, d', n, os, hP, hS, rfl⟩
    have hd := sorted_is (by simpa using hP) (by simpa using hS) hp hr
    have hsz : d'.size = L.length := by rw [← hd]; simp
    have hda : d' = L.toArray := by rw [← hd]
    refine ⟨rfl, ⟨h0, (flatK encAm 2 L.toArray).toList, ⟨flat_len L, .inr ⟨g, cap, _, by rw [hlen], hg, heap57 d' hb, by omega, h2, by simp [putCells, h3], ?_⟩⟩, reps57 _ _ _ L⟩, grown57 d'⟩
    rw [hda]
    exact take57 cur L (by rw [h3]; show L.length * 2 ≤ cap * 2; omega)
theorem law9 : Keyed Tryz.prog 9 := string_keyed Tryz.underlying9
theorem inv9 (key : Value) (kl : Lit) (h : keyOf Tryz.prog 9 key = some kl) : ∃ x, key = Value.string x := by
  cases key <;> simp [keyOf, Tryz.underlying9, mapKey] at h
  exact ⟨_, rfl⟩
theorem inv2 (v : Value) (y : DataW Unit × List MemPlace) (h : plainElem (H := Unit) Tryz.prog 2 v = some y) : ∃ c, v = Value.int .i64 c := by
  obtain ⟨c, rfl, _⟩ := plainElem_int_inv Tryz.underlying2 h
  exact ⟨c, rfl⟩
theorem key9 {x : ByteArray} {kl : Lit} (h : keyOf Tryz.prog 9 (.string x) = some kl) : kl = .string x.data.toList := by
  simp [keyOf, Tryz.underlying9, mapKey] at h
  exact h.2.symm
theorem elem2 {c : Int} {y : DataW Unit × List MemPlace} (h : plainElem (H := Unit) Tryz.prog 2 (.int .i64 c) = some y) : y.1 = .lit (.int .i64 c) := by
  obtain ⟨c', e, rfl, _⟩ := plainElem_int_inv Tryz.underlying2 h
  cases e
  rfl
def quant_listed.f (L : List S57) : List S57 × Int := if L.length > 16 then ([], 23) else (L, 0)
set_option maxHeartbeats 4000000 in
set_option maxRecDepth 100000 in
theorem quant_listed.calls (b n : Nat) (D : DataW Unit) (L : List S57) (r1 : List S57) (r2 : Int) (w : World) (hown : w.ownsMap Tryz.prog 9 (plainElem (H := Unit) Tryz.prog 2) b n D) (hT : Tells D L) (h : quant_listed.f L = (r1, r2)) :
    Calls Tryz.prog 74 #[.map (some b)] w fun e w' => ∃ v0_ : Value, e = .returned (.tuple #[v0_, .int .i64 r2]) ∧ Kd.R k57 57 w' w.heap.size (fun _ => True) v0_ r1 ∧ Below w.heap.size w w' := by
  have hu57 := Tryz.underlying57
  have HT := Lib.hid hT
  have HOWN := Aside0.mk hown
  have hsize := hT.size
  unfold quant_listed.f at h
  by_cases h16 : L.length > 16
  · rw [if_pos h16] at h
    obtain ⟨rfl, rfl⟩ := Prod.mk.inj h
    clear hT hown h
    have hlt : decide ((Maps.size D : Int) > 16) = true := by rw [hsize]; simp; omega
    have HLT := Lib.hid hlt
    clear hlt
    go_enter Tryz.func74, Tryz.ntmps74
    go_wp2_with (first | (at_len; refine wpList_len_own _ rfl _ 98 rfl 9 2 Tryz.underlying98 _ b n D rfl HOWN.out ?_))
    go_ret2
    exact ⟨_, rfl, Kd.R_nil _ _ _ _ _, Below.refl _ _⟩
  · rw [if_neg h16] at h
    obtain ⟨rfl, rfl⟩ := Prod.mk.inj h
    have hb := hown.lt
    have hgt : ¬ ((Maps.size D : Int) > 16) := by rw [hsize]; omega
    clear hT hown h
    go_enter Tryz.func74, Tryz.ntmps74
    go_wp2_with (first
      | (at_len; refine wpList_len_own _ rfl _ 98 rfl 9 2 Tryz.underlying98 _ b n D rfl HOWN.out ?_)
      | (at_range; refine wpList_range_own _ rfl _ 98 rfl 9 2 law9 Tryz.underlying98 _ b n D rfl HOWN.out ?_; intro w0 hrg0 hg0 hs0)
      | go_in)
    have hbl0 : Below w.heap.size w w0 := ⟨hg0.os, hg0.tape, hg0.output, hg0.size, fun k hk => hg0.block k hk (by simp)⟩
    have HB0 := Aside0.mk hbl0
    clear hg0 hbl0
    have hsD : Maps.size D ≤ 16 := by omega
    go_loopg [4, 5, 6] (Maps.size D) (fun g v4 v5 v6 wr => ∃ (left : Lit → Bool) (cnt : Nat) (xs : List S57), Aside0 (wr.ranges Tryz.prog 9 (plainElem (H := Unit) Tryz.prog 2) b w.heap.size n D left cnt) ∧ cnt ≤ g ∧ xs.length + cnt ≤ Maps.size D ∧ Aside0 (Gathered xs D left) ∧ Aside0 (Kd.R k57 57 wr w.heap.size (fun k => k ≠ w.heap.size ∧ k ≠ b) v4 xs) ∧ Aside0 (Below w.heap.size w wr))
    case atStart => exact ⟨_, _, [], ⟨hrg0⟩, by omega, by simp, ⟨gathered_start D⟩, ⟨Kd.R_nil _ _ _ _ _⟩, HB0⟩
    case round =>
      clear HB0 hrg0 hs0
      obtain ⟨left, cnt, xs, HRG, hcg, hxc, HGA, HR, HB⟩ := hrel
      go_wp2_with (first
        | (at_next; refine wpList_next_ranges _ rfl _ rfl 9 law9 (plainElem (H := Unit) Tryz.prog 2) Value.string (Value.int .i64) inv9 inv2 b w.heap.size n D left cnt rfl HRG.out ?_ ?_)
        | go_in)
      · intro hc0 hl0
        have hperm := gathered_perm HGA.out HT.out hl0
        have hLs : L.length ≤ 16 := by omega
        have HSORT := Lib.hid (sort_row HR.out hperm HT.out.rises hLs)
        go_wp2_with (go_at_call 95; refine HSORT.out.mono ?_; rintro e w4 ⟨rfl, ho4, hg4⟩; have HO4 := Aside0.mk ho4; have HG4 := Aside0.mk hg4; clear ho4 hg4)
        go_ret2
        exact ⟨_, rfl, Kd.R_mono HO4.out (fun _ _ => trivial), HB.out.grown HG4.out HB.out.size (fun j hj => own_base HR.out.2.choose_spec.1 j hj)⟩
      · intro x c kl yd yp w1 cnt1 hkey hlk hv hat hrg1 hlt hg1 hs1 hen
        obtain rfl := key9 hkey
        rw [show yd = _ from elem2 hv] at hat
        have HGA1 := Lib.hid (gathered_step HGA.out ⟨x, c⟩ hlk hat)
        have hbr := HRG.out.ne
        have HR1 := Aside0.mk (Kd.R_grown HR.out hg1 (fun k hk e => hk.1 (by injection e)))
        have HB1 := Aside0.mk (HB.out.grown hg1 HB.out.size (fun j hj => by cases hj; exact Nat.le_refl _))
        have HRG1 := Aside0.mk hrg1
        have hszb := HRG.out.lt
        have hbs := HB.out.size
        have HS1 := Lib.hid hs1
        obtain ⟨g, rfl⟩ : ∃ g, gk = g + 1 := ⟨gk - 1, by omega⟩
        clear hkey hlk hv hat hrg1 hg1 hs1
        go_wp2_with (first
          | ((with_reducible refine gate_builtin (b := .append) (xs := #[.tmp 17, .tmp 21]) rfl ?_); at_builtin; refine Kd.R_append k57 (w0 := w) w.heap.size rfl (.tmp 17) (.tmp 21) 46 57 (.agg #[(.string ⟨#[]⟩), (.int .i64 0)]) 24 rfl Tryz.underlying46 info57 rfl (by decide) (by omega) u4 xs ⟨x, c⟩ [.string x, .int .i64 c] (fun k => k ≠ w.heap.size ∧ k ≠ b) (fun _ => False) rfl rfl ?aP (fun _ hk => hk.elim) ?aF ?aO ?aB ?aS ?aL ?_; (case aP => exact k57_mkM _ _ _ ⟨x, c⟩); (case aB => exact HB1.out); (case aF => exact (fun k hk => by have := HS1.out; constructor <;> omega)); (case aO => exact HR1.out); (case aS => exact HB1.out.size); (case aL => omega);
                intro v2 w2 ho hb2 hg2 hat2; have HO2 := Aside0.mk ho; have HB2 := Aside0.mk hb2; clear ho hb2)
          | go_in)
        have HRG2 := Aside0.mk (HRG1.out.kept hg2 (fun e => (HR1.out.1 b e.symm).2 rfl) (fun e => (HR1.out.1 _ e.symm).1 rfl))
        go_roundg g
        case measure => omega
        case rel => exact ⟨_, cnt1, xs ++ [⟨x, c⟩], HRG2, by omega, by simp; omega, ⟨HGA1.out⟩, HO2, HB2⟩
end Go.Proofs.YtejgbdclhlolkaaGreatDoor.Q
namespace Go.Proofs.YtejgbdclhlolkaaGreatDoor.Q
open Go.RowKit Go.Lib Go.WideMaps Go.Maps Go.Proofs.YtejgbdclhlolkaaGreatDoorW.PrintWords Go.Proofs.YtejgbdclhlolkaaGreatDoorW.PrintLast
set_option linter.unusedVariables false
set_option linter.unusedSimpArgs false
def nless (x y : ByteArray) : Bool := Op.bytesLess x.data.toList y.data.toList
theorem nless_irrefl (x : ByteArray) : nless x x = false := less_irrefl _
theorem nless_trans {x y z : ByteArray} (h : nless x y = true) (k : nless y z = true) : nless x z = true := less_trans _ _ _ h k
theorem nless_total {x y : ByteArray} (h : nless y x = false) (hne : x ≠ y) : nless x y = true := by
  unfold nless at *
  have t := less_total x.data.toList y.data.toList
  rw [h, Bool.not_false, Bool.or_eq_true] at t
  rcases t with t | t
  · exact t
  · exact absurd (ba_ext (by simpa using t)) hne
def valOf : List S57 → ByteArray → Int
  | [], _ => 0
  | a :: l, x => if a.f0 = x then a.f1 else valOf l x
def insS : List S57 → ByteArray → Int → List S57
  | [], x, v => [⟨x, v⟩]
  | a :: l, x, v => if a.f0 = x then ⟨x, v⟩ :: l else if nless x a.f0 = true then ⟨x, v⟩ :: a :: l else a :: insS l x v
theorem rises_cons {a : S57} {l : List S57} : Rises (a :: l) ↔ (∀ y ∈ l, nless a.f0 y.f0 = true) ∧ Rises l := List.pairwise_cons
theorem mem_ins {x : ByteArray} {v : Int} {y : S57} : ∀ {L : List S57}, Rises L → (y ∈ insS L x v ↔ y = ⟨x, v⟩ ∨ (y ∈ L ∧ y.f0 ≠ x))
  | [], _ => by simp [insS]
  | a :: l, h => by
    obtain ⟨h1, h2⟩ := rises_cons.1 h
    unfold insS
    by_cases e : a.f0 = x
    · rw [if_pos e]
      subst e
      simp only [List.mem_cons]
      constructor
      · rintro (h3 | h3)
        · exact .inl h3
        · exact .inr ⟨.inr h3, fun e => by have := h1 y h3; rw [e, nless_irrefl] at this; cases this⟩
      · rintro (h3 | ⟨h3 | h3, h4⟩)
        · exact .inl h3
        · rw [h3] at h4; exact absurd rfl h4
        · exact .inr h3
    · rw [if_neg e]
      by_cases hl : nless x a.f0 = true
      · rw [if_pos hl]
        simp only [List.mem_cons]
        constructor
        · rintro (h3 | h3 | h3)
          · exact .inl h3
          · exact .inr ⟨.inl h3, fun e' => e (by rw [← h3]; exact e')⟩
          · exact .inr ⟨.inr h3, fun e' => by have := nless_trans hl (h1 y h3); rw [e', nless_irrefl] at this; cases this⟩
        · rintro (h3 | ⟨h3 | h3, h4⟩)
          · exact .inl h3
          · exact .inr (.inl h3)
          · exact .inr (.inr h3)
      · rw [if_neg hl]
        simp only [List.mem_cons, mem_ins (x := x) (v := v) (y := y) h2]
        constructor
        · rintro (h3 | h3 | ⟨h3, h4⟩)
          · exact .inr ⟨.inl h3, fun e' => e (by rw [← h3]; exact e')⟩
          · exact .inl h3
          · exact .inr ⟨.inr h3, h4⟩
        · rintro (h3 | ⟨h3 | h3, h4⟩)
          · exact .inr (.inl h3)
          · exact .inl h3
          · exact .inr (.inr ⟨h3, h4⟩)
theorem rises_ins {x : ByteArray} {v : Int} : ∀ {L : List S57}, Rises L → Rises (insS L x v)
  | [], _ => by simp [insS, Rises]
  | a :: l, h => by
    obtain ⟨h1, h2⟩ := rises_cons.1 h
    unfold insS
    by_cases e : a.f0 = x
    · rw [if_pos e]
      exact rises_cons.2 ⟨fun y hy => by show nless x y.f0 = true; rw [← e]; exact h1 y hy, h2⟩
    · rw [if_neg e]
      by_cases hl : nless x a.f0 = true
      · rw [if_pos hl]
        refine rises_cons.2 ⟨fun y hy => ?_, h⟩
        rcases List.mem_cons.1 hy with h3 | h3
        · rw [h3]; exact hl
        · exact nless_trans hl (h1 y h3)
      · rw [if_neg hl]
        refine rises_cons.2 ⟨fun y hy => ?_, rises_ins h2⟩
        rcases (mem_ins h2).1 hy with h3 | ⟨h3, _⟩
        · rw [h3]
          exact nless_total (by simpa using hl) e
        · exact h1 y h3
def named (L : List S57) (x : ByteArray) : Bool := L.any fun y => decide (y.f0 = x)
theorem length_ins {x : ByteArray} {v : Int} : ∀ {L : List S57}, Rises L → (insS L x v).length = if named L x = true then L.length else L.length + 1
  | [], _ => by simp [insS, named]
  | a :: l, h => by
    obtain ⟨h1, h2⟩ := rises_cons.1 h
    unfold insS
    by_cases e : a.f0 = x
    · rw [if_pos e, if_pos (by simp [named, e])]
      simp
    · rw [if_neg e]
      by_cases hl : nless x a.f0 = true
      · rw [if_pos hl, if_neg]
        · simp
        · simp only [named, List.any_eq_true, List.mem_cons, decide_eq_true_eq]
          rintro ⟨y, h3 | h3, h4⟩
          · rw [h3] at h4; exact e h4
          · have := nless_trans hl (h1 y h3); rw [h4, nless_irrefl] at this; cases this
      · rw [if_neg hl, List.length_cons, length_ins h2]
        have hn : named (a :: l) x = named l x := by simp [named, e]
        rw [hn]
        split <;> simp
theorem val_mem {y : S57} : ∀ {L : List S57}, Rises L → y ∈ L → valOf L y.f0 = y.f1
  | [], _, hy => by simp at hy
  | a :: l, h, hy => by
    obtain ⟨h1, h2⟩ := rises_cons.1 h
    unfold valOf
    rcases List.mem_cons.1 hy with h3 | h3
    · rw [h3, if_pos rfl]
    · rw [if_neg (fun e => by have := h1 y h3; rw [e, nless_irrefl] at this; cases this), val_mem h2 h3]
theorem val_none {x : ByteArray} : ∀ {L : List S57}, (∀ y ∈ L, y.f0 ≠ x) → valOf L x = 0
  | [], _ => rfl
  | a :: l, h => by
    unfold valOf
    rw [if_neg (h a (by simp)), val_none (fun y hy => h y (by simp [hy]))]
theorem keyL_inj {y : S57} {s : ByteArray} (h : keyL y = .string s.data.toList) : y.f0 = s := by
  unfold keyL at h
  injection h with h
  exact ba_ext h
theorem tells_nil : Tells (.map []) [] := ⟨tidy_empty, List.Pairwise.nil, rfl, by simp, fun s h => by simp [Maps.has] at h⟩
theorem Tells.named {D : DataW Unit} {L : List S57} (h : Tells D L) (x : ByteArray) : Maps.has D (.string x.data.toList) = named L x := by
  cases hn : Q.named L x with
  | true =>
    simp only [Q.named, List.any_eq_true, decide_eq_true_eq] at hn
    obtain ⟨y, hy, rfl⟩ := hn
    exact Maps.has_true_of_atKey (h.here y hy)
  | false =>
    cases hh : Maps.has D (.string x.data.toList) with
    | false => rfl
    | true =>
      obtain ⟨y, hy, e⟩ := List.mem_map.1 (h.all _ hh)
      have := keyL_inj e
      simp only [Q.named, List.any_eq_false, decide_eq_true_eq] at hn
      exact absurd this (hn y hy)
theorem Tells.at {D : DataW Unit} {L : List S57} (h : Tells D L) (x : ByteArray) : D.atKey (.string x.data.toList) (.lit (.int .i64 0)) = .lit (.int .i64 (valOf L x)) := by
  cases hn : Q.named L x with
  | true =>
    simp only [Q.named, List.any_eq_true, decide_eq_true_eq] at hn
    obtain ⟨y, hy, rfl⟩ := hn
    rw [val_mem h.rises hy]
    exact h.here y hy _
  | false =>
    have h1 := h.named x
    rw [hn] at h1
    rw [atKey_of_not_has h1, val_none]
    intro y hy e
    simp only [Q.named, List.any_eq_false, decide_eq_true_eq] at hn
    exact hn y hy e
theorem Tells.put {D : DataW Unit} {L : List S57} (h : Tells D L) (x : ByteArray) (v : Int) : Tells (D.put (.string x.data.toList) (.lit (.int .i64 v))) (insS L x v) := by
  refine ⟨h.tidy.put (by trivial) _, rises_ins h.rises, ?_, fun y hy z => ?_, fun s hs => ?_⟩
  · rw [size_put h.tidy, h.named x, length_ins h.rises, h.size]
  · rcases (mem_ins h.rises).1 hy with rfl | ⟨h1, h2⟩
    · exact atKey_put_same h.tidy.isMap (by trivial) _ z
    · rw [atKey_put_other (fun e => h2 (keyL_inj e))]
      exact h.here y h1 z
  · by_cases e : (Lit.string s) = .string x.data.toList
    · rw [e]
      exact List.mem_map.2 ⟨⟨x, v⟩, (mem_ins h.rises).2 (.inl rfl), rfl⟩
    · rw [has_put_other e] at hs
      obtain ⟨y, hy, he⟩ := List.mem_map.1 (h.all s hs)
      refine List.mem_map.2 ⟨y, (mem_ins h.rises).2 (.inr ⟨hy, fun e' => e ?_⟩), he⟩
      rw [← he]
      unfold keyL
      rw [e']
def addP (a v : Int) : Int × Int := if a < 0 ∨ v < 0 then (0, 1) else if a > wrap64 (9223372036854775807 - v) then (0, 7) else (wrap64 (a + v), 0)
theorem add_is (a v : Int) : quant_Add.f 1 a v = some (addP a v) := by
  unfold quant_Add.f addP quant_Add.j0
  by_cases h1 : a < 0
  · simp [h1]
  · by_cases h2 : v < 0
    · simp [h1, h2]
    · simp only [h1, h2, if_false, decide_false, Bool.false_eq_true, or_self]
      split <;> rfl
def sumGo : List S57 → List S57 → Except Int (List S57)
  | L, [] => .ok L
  | L, a :: r => if (addP (valOf L a.f0) a.f1).2 = 0 then sumGo (insS L a.f0 (addP (valOf L a.f0) a.f1).1) r else .error (addP (valOf L a.f0) a.f1).2
def quant_summed.f (ls : List (List S57)) : List S57 × Int :=
  match sumGo [] ls.flatten with
  | .error e => ([], e)
  | .ok L => quant_listed.f L
theorem zero2 (w : World) : (zeroValue 2).run Tryz.prog w = .ok (.int .i64 0) w := by kernel_rfl
theorem key48 {s : ByteArray} (h : s.size ≤ 48) : keyOf Tryz.prog 9 (.string s) = some (.string s.data.toList) := keyOf_string_mk Tryz.underlying9 (by unfold maxLen; omega)
theorem lookup2 (w : World) {ops : Array Oper} {rest : List Oper} {o : Oper} {a : Act} {Q : Exit → Act → World → Prop}
    (hg : o.guard = none) (m x : Operand) (hop : o.op = Op.lookup 98 m x false) (b n : Nat) (D : DataW Unit) (L : List S57) (hT : Tells D L)
    (hm : a.eval m = .map (some b)) (hown : w.ownsMap Tryz.prog 9 (plainElem (H := Unit) Tryz.prog 2) b n D) (s : ByteArray) (hs : s.size ≤ 48) (hx : a.eval x = .string s)
    (hK : wpList Tryz.prog ops Q rest (a.put o.dst (.int .i64 (valOf L s))) w) :
    wpList Tryz.prog ops Q (o :: rest) a w := by
  refine wpList_lookup_own_int w hg m x 98 hop 9 2 .i64 law9 Tryz.underlying98 Tryz.underlying2 (zero2 _) b n D hm hown _ _ hx (key48 hs) (fun c hc _ => ?_)
  rw [hT.at] at hc
  injection hc with h1
  injection h1 with _ h2
  subst h2
  exact hK
theorem own_drewN {w : World} {b n : Nat} {D : DataW Unit} (h : w.ownsMap Tryz.prog 9 (plainElem (H := Unit) Tryz.prog 2) b n D) (k : Nat) : (w.drewN k).ownsMap Tryz.prog 9 (plainElem (H := Unit) Tryz.prog 2) b n D := h
theorem ok_wf {a v s : Int} (h : addP a v = (s, 0)) : (Lit.int .i64 s).wf = true := by
  unfold addP at h
  split at h
  · cases h
  · split at h
    · cases h
    · obtain ⟨rfl, _⟩ := Prod.mk.inj h
      exact RowKit.wrap64_wf _
theorem flat_rest (ls : List (List S57)) (i : Nat) (h : i < ls.length) : (ls.drop i).flatten = rd_L3 ls (i : Int) ++ (ls.drop (i + 1)).flatten := by
  rw [List.drop_eq_getElem_cons h, List.flatten_cons]
  simp [rd_L3, List.getD_eq_getElem?_getD, h]
theorem item_rest (l : List S57) (j : Nat) (h : j < l.length) : l.drop j = rd_T57 l (j : Int) :: l.drop (j + 1) := by
  rw [List.drop_eq_getElem_cons h]
  simp [rd_T57, List.getD_eq_getElem?_getD, h]
set_option maxHeartbeats 8000000 in
set_option maxRecDepth 100000 in
theorem quant_summed.calls (A0 : Option Addr) (c0 : Nat) (ls : List (List S57)) (r1 : List S57) (r2 : Int) (w : World) (hr0 : Kd.C (Kd.slice 57 k57) w A0 ls.length ls) (hc0 : ls.length ≤ c0)
    (h48 : ∀ l ∈ ls, ∀ x ∈ l, x.f0.size ≤ 48) (hlen : ls.flatten.length ≤ 9223372036854775807) (h : quant_summed.f ls = (r1, r2)) :
    Calls Tryz.prog 72 #[.slice A0 ls.length c0] w fun e w' => ∃ v0_ : Value, e = .returned (.tuple #[v0_, .int .i64 r2]) ∧ Kd.R k57 57 w' w.heap.size (fun _ => True) v0_ r1 ∧ Below w.heap.size w w' := by
  have hu57 := Tryz.underlying57
  have hmm := @run_makeMap Tryz.prog
  have HR0 := Aside0.mk hr0
  have HC0 := Aside0.mk hc0
  have hll := hr0.2.1
  have HF := Lib.hid h
  have H48 := Lib.hid h48
  clear hr0 hc0 h h48
  obtain ⟨gm, hgm⟩ : ∃ gm, gm = w.heap.size := ⟨_, rfl⟩
  have HGM := Lib.hid hgm
  have HOWN0 := Aside0.mk (World.ownsMap_made w Tryz.prog 9 (plainElem (H := Unit) Tryz.prog 2))
  have HB0 := Aside0.mk ((Below.refl w.heap.size w).alloc (Nat.le_refl _) (.map #[] 0))
  go_enter Tryz.func72, Tryz.ntmps72
  go_wp2
  rw [← hgm] at HOWN0
  rw [← hgm]
  clear hgm
  go_loopg [6, 8, 9, 10, 14] ls.length (fun g v6 v8 v9 v10 v14 wr => ∃ (i n : Nat) (D : DataW Unit) (L : List S57), v14 = .int .i64 i ∧ i ≤ ls.length ∧ ls.length ≤ i + g ∧ n + (ls.drop i).flatten.length ≤ 9223372036854775807 ∧ Aside0 (wr.ownsMap Tryz.prog 9 (plainElem (H := Unit) Tryz.prog 2) gm n D) ∧ Aside0 (Tells D L) ∧ Aside0 (sumGo [] ls.flatten = sumGo L (ls.drop i).flatten) ∧ Aside0 (Below w.heap.size w wr))
  case atStart => exact ⟨0, 0, _, [], rfl, by omega, by omega, by simpa using hlen, HOWN0, ⟨tells_nil⟩, ⟨rfl⟩, HB0⟩
  case round =>
    clear HOWN0 HB0 hlen
    obtain ⟨i, n, D, L, rfl, hin, hig, hnt, hown, hT, hgo, hbw⟩ := hrel
    have HOWN := hown
    have HT := hT
    by_cases hlt : i < ls.length
    · cases gk with
      | zero => omega
      | succ g =>
        obtain ⟨ad, A1, c1, eA, hx0, hl1, hi1⟩ := at_L3 HR0.out (i : Int) (by omega) (by omega)
        cases eA
        rw [Int.toNat_natCast] at hx0
        replace hx0 := (hbw.out.cell (World.block_lt_of_cell? w _ hx0)).trans hx0
        have hfl := flat_rest ls i hlt
        rw [hfl, List.length_append] at hnt
        have HGO := Lib.hid (show sumGo [] ls.flatten = sumGo L (rd_L3 ls (i : Int) ++ (ls.drop (i + 1)).flatten) by rw [← hfl]; exact hgo.out)
        have H48i : Hid (∀ x ∈ rd_L3 ls (i : Int), x.f0.size ≤ 48) := Lib.hid (H48.out _ (by simp [rd_L3, List.getD_eq_getElem?_getD, hlt]))
        have HR1 := Aside0.mk hi1
        have HC1 := Aside0.mk hl1
        have hli := hi1.2.1
        clear hfl hgo hi1 hl1
        generalize rd_L3 ls (i : Int) = l at *
        obtain ⟨R, hR⟩ : ∃ R, R = (ls.drop (i + 1)).flatten := ⟨_, rfl⟩
        rw [← hR] at hnt HGO
        have HRR := Lib.hid hR
        clear hR hT hown
        rename Aside0 (Below w.heap.size w wr) => HBW
        go_wp2
        go_loopg [8, 9, 10, 20] l.length (fun g2 v8 v9 v10 v20 wq => ∃ (j m : Nat) (E : DataW Unit) (M : List S57), v20 = .int .i64 j ∧ j ≤ l.length ∧ l.length ≤ j + g2 ∧ m + (l.length - j + R.length) ≤ 9223372036854775807 ∧ Aside0 (wq.ownsMap Tryz.prog 9 (plainElem (H := Unit) Tryz.prog 2) gm m E) ∧ Aside0 (Tells E M) ∧ Aside0 (sumGo [] ls.flatten = sumGo M (l.drop j ++ R)) ∧ Aside0 (Below w.heap.size w wq))
        case atStart => exact ⟨0, n, D, L, rfl, by omega, by omega, by omega, HOWN, HT, ⟨HGO.out⟩, HBW⟩
        case round =>
          clear HOWN HT HGO
          obtain ⟨j, m, E, M, rfl, hjn, hjg, hmt, HOWN, HT, HGO, HBQ⟩ := hrel
          by_cases hjl : j < l.length
          · cases gk with
            | zero => omega
            | succ g2 =>
              obtain ⟨ad2, eA2, hy0, hy1⟩ := at_T57 HR1.out (j : Int) (by omega) (by omega)
              cases eA2
              rw [Int.toNat_natCast] at hy0 hy1
              replace hy0 := (HBQ.out.cell (World.block_lt_of_cell? w _ hy0)).trans hy0
              replace hy1 := (HBQ.out.cell (World.block_lt_of_cell? w _ hy1)).trans hy1
              have h48x := H48i.out (rd_T57 l (j : Int)) (by rw [rd_T57, Int.toNat_natCast, List.getD_eq_getElem?_getD, List.getElem?_eq_getElem hjl]; exact List.getElem_mem hjl)
              have HGO2 := Lib.hid (show sumGo [] ls.flatten = sumGo M (rd_T57 l (j : Int) :: (l.drop (j + 1) ++ R)) by rw [← List.cons_append, ← item_rest l j hjl]; exact HGO.out)
              clear HGO
              have hxe : (⟨(rd_T57 l (j : Int)).f0, (rd_T57 l (j : Int)).f1⟩ : S57) = rd_T57 l (j : Int) := rfl
              rw [← hxe] at HGO2
              generalize (rd_T57 l (j : Int)).f0 = xs at *
              generalize (rd_T57 l (j : Int)).f1 = xv at *
              clear hxe
              have HOWN2 := Aside0.mk (HOWN.out.alloc (.cells #[.string xs, .int .i64 xv] 57))
              have HBQ2 := Aside0.mk (HBQ.out.alloc HBQ.out.size (.cells #[.string xs, .int .i64 xv] 57))
              obtain ⟨s, er, hse⟩ : ∃ s er, addP (valOf M xs) xv = (s, er) := ⟨_, _, rfl⟩
              have HADD := Lib.hid (show quant_Add.f 1 (valOf M xs) xv = some (s, er) by rw [add_is, hse])
              have HSE := Lib.hid hse
              clear hse
              by_cases her : er = 0
              · subst her
                have HGO3 := Lib.hid (show sumGo [] ls.flatten = sumGo (insS M xs s) (l.drop (j + 1) ++ R) by rw [HGO2.out, sumGo]; simp only [HSE.out, if_true])
                have HT3 := Aside0.mk (HT.out.put xs s)
                clear HGO2
                go_wp2_with (first
                  | (at_lookup; refine lookup2 _ rfl _ _ rfl gm m E M HT.out rfl HOWN2.out xs h48x rfl ?_)
                  | (go_at_call 26; refine (quant_Add.calls 1 (valOf M xs) xv s 0 _ HADD.out).mono ?_; rintro e w4 ⟨rfl, ⟨nd, rfl⟩⟩; have HOWN4 := Aside0.mk (own_drewN HOWN2.out nd))
                  | (at_mapUpdate; refine wpList_mapUpdate_own _ rfl _ _ _ 98 rfl 9 2 law9 Tryz.underlying98 _ gm m E rfl HOWN4.out (by unfold maxLen; omega) _ _ _ rfl rfl (key48 h48x) _ [] (plainElem_int Tryz.underlying2 (ok_wf HSE.out)) ?_; intro w5 hown5 hgrow5)
                  | go_in)
                have HB5 := Aside0.mk ((pw_below_drewN HBQ2.out nd).grown hgrow5 HBQ2.out.size (fun k hk => by cases hk; rw [HGM.out]; exact Nat.le_refl _))
                have HOWN5 := Aside0.mk hown5
                clear hown5 hgrow5
                go_roundg g2
                case measure => omega
                case rel => exact ⟨j + 1, m + 1, _, _, by go_num, by omega, by omega, by omega, HOWN5, HT3, ⟨HGO3.out⟩, HB5⟩
              · have HRES := Lib.hid (show ([], er) = (r1, r2) by
                  have h1 := HF.out
                  unfold quant_summed.f at h1
                  rw [HGO2.out, sumGo] at h1
                  simp only [HSE.out, if_neg her] at h1
                  exact h1)
                have hrr := HRES.out
                obtain ⟨e1, e2⟩ := Prod.mk.inj hrr
                have HR1E := Lib.hid e1
                have HR2E := Lib.hid e2
                clear hrr e1 e2 HGO2
                have hne : (er != 0) = true := bne_iff_ne.2 her
                go_wp2_with (first
                  | (at_lookup; refine lookup2 _ rfl _ _ rfl gm m E M HT.out rfl HOWN2.out xs h48x rfl ?_)
                  | (go_at_call 26; refine (quant_Add.calls 1 (valOf M xs) xv s er _ HADD.out).mono ?_; rintro e w4 ⟨rfl, ⟨nd, rfl⟩⟩)
                  | go_in)
                go_ret2
                refine ⟨.slice none 0 0, ?_, by rw [← HR1E.out]; exact Kd.R_nil _ _ _ _ _, pw_below_drewN HBQ2.out nd⟩
                rw [← HR2E.out]
                rfl
          · obtain rfl : j = l.length := by omega
            have HGO2 := Lib.hid (show sumGo [] ls.flatten = sumGo M (ls.drop (i + 1)).flatten by rw [HGO.out, List.drop_length, List.nil_append, HRR.out])
            clear HGO
            go_wp2
            go_roundg g
            case measure => omega
            case rel => exact ⟨i + 1, m, E, M, by go_num, by omega, by omega, by rw [← HRR.out]; omega, HOWN, HT, ⟨HGO2.out⟩, HBQ⟩
    · obtain rfl : i = ls.length := by omega
      have hgo2 := hgo.out
      rw [List.drop_length, List.flatten_nil, sumGo] at hgo2
      have HQ := Lib.hid (show quant_listed.f L = (r1, r2) by have := HF.out; unfold quant_summed.f at this; rw [hgo2] at this; exact this)
      clear hgo2 hgo
      go_wp2_with (go_at_call 74; refine (quant_listed.calls gm n D L r1 r2 _ hown.out hT.out HQ.out).mono ?_; rintro e w4 ⟨v4, rfl, ho4, hb4⟩; have HO4 := Aside0.mk (Kd.R_lower ho4 hbw.out.size); have HB4 := Aside0.mk (below_step hbw.out hb4); clear ho4 hb4)
      go_ret2
      exact ⟨_, rfl, HO4.out, HB4.out⟩
end Go.Proofs.YtejgbdclhlolkaaGreatDoor.Q
namespace Go.Proofs.YtejgbdclhlolkaaGreatDoor.Q
open Go.RowKit Go.Lib Go.Proofs.YtejgbdclhlolkaaGreatDoorW.PrintWords Go.Proofs.YtejgbdclhlolkaaGreatDoorW.PrintLast
set_option linter.unusedVariables false
set_option linter.unusedSimpArgs false
def sumOK (ls : List (List S57)) : Bool := (ls.all fun l => l.all fun x => decide (x.f0.size ≤ 48)) && decide (ls.flatten.length ≤ 9223372036854775807)
theorem sumOK_names {ls : List (List S57)} (h : sumOK ls = true) : ∀ l ∈ ls, ∀ x ∈ l, x.f0.size ≤ 48 := by
  unfold sumOK at h
  simp only [Bool.and_eq_true, List.all_eq_true, decide_eq_true_eq] at h
  exact h.1
theorem sumOK_len {ls : List (List S57)} (h : sumOK ls = true) : ls.flatten.length ≤ 9223372036854775807 := by
  unfold sumOK at h
  simp only [Bool.and_eq_true, decide_eq_true_eq] at h
  exact h.2
theorem rows2_C {w : World} {A0 A1 : Option Addr} {c0 c1 : Nat} {l0 l1 : List S57} (h0 : Kd.C k57 w A0 l0.length l0) (hc0 : l0.length ≤ c0) (h1 : Kd.C k57 w A1 l1.length l1) (hc1 : l1.length ≤ c1) (e : TypeId) :
    Kd.C (Kd.slice 57 k57) (w.alloc (.cells #[.slice A0 l0.length c0, .slice A1 l1.length c1] e)) (some ⟨w.heap.size, 0, none⟩) [l0, l1].length [l0, l1] := by
  have hb : Below w.heap.size w (w.alloc (.cells #[.slice A0 l0.length c0, .slice A1 l1.length c1] e)) := (Below.refl _ _).alloc (Nat.le_refl _) _
  refine ⟨rfl, by simp, fun _ => ⟨_, rfl, fun j p hj => ?_⟩⟩
  match j, hj with
  | 0, hj =>
    obtain rfl := Option.some.inj hj
    refine ⟨[.slice A0 l0.length c0], rfl, ⟨A0, c0, rfl, hc0, Kd.C_below h0 hb⟩, fun i u hi => ?_⟩
    match i, hi with
    | 0, hi => obtain rfl := Option.some.inj hi; exact (World.cell?_alloc_new _ _ _ _).trans rfl
  | 1, hj =>
    obtain rfl := Option.some.inj hj
    refine ⟨[.slice A1 l1.length c1], rfl, ⟨A1, c1, rfl, hc1, Kd.C_below h1 hb⟩, fun i u hi => ?_⟩
    match i, hi with
    | 0, hi => obtain rfl := Option.some.inj hi; exact (World.cell?_alloc_new _ _ _ _).trans rfl
def quant_Plus.f (k : Nat) (l0 l1 : List S57) : Option (List S57 × Int) :=
  (quant_valid.f k l0 l1).bind fun t => if t = true then (if sumOK [l0, l1] = true then some (quant_summed.f [l0, l1]) else none) else some ([], 31)
theorem quant_Plus.mono : ∀ a0 a1 k, LeO (quant_Plus.f k a0 a1) (quant_Plus.f (k + 1) a0 a1) := by
  intro a0 a1 k
  unfold quant_Plus.f
  exact LeO.bind (quant_valid.mono _ _ _) (fun _ => LeO.refl _)
set_option maxHeartbeats 4000000 in
set_option maxRecDepth 100000 in
theorem quant_Plus.calls (k : Nat) (A0 : Option Addr) (c0 : Nat) (l0 : List S57) (A1 : Option Addr) (c1 : Nat) (l1 : List S57) (r1 : List S57) (r2 : Int) (w : World) (hr0 : Kd.C k57 w A0 l0.length l0) (hc0 : l0.length ≤ c0) (hr1 : Kd.C k57 w A1 l1.length l1) (hc1 : l1.length ≤ c1) (h : quant_Plus.f k l0 l1 = some (r1, r2)) (hG : Glob w) :
    Calls Tryz.prog 41 #[.slice A0 l0.length c0, .slice A1 l1.length c1] w fun e w' => ∃ v0_ : Value, e = .returned (.tuple #[v0_, .int .i64 r2]) ∧ Kd.R k57 57 w' w.heap.size (fun _ => True) v0_ r1 ∧ Below w.heap.size w w' := by
  unfold quant_Plus.f at h
  obtain ⟨t, ht, h2⟩ := Option.bind_eq_some_iff.mp h
  clear h
  rename _ => h
  have HV := Lib.hid (quant_valid.calls k A0 c0 l0 A1 c1 l1 t w hr0 hc0 hr1 hc1 ht hG)
  have HR0 := Aside0.mk hr0
  have HR1 := Aside0.mk hr1
  have HC0 := Aside0.mk hc0
  have HC1 := Aside0.mk hc1
  have hl0 := hr0.2.1
  have hl1 := hr1.2.1
  clear hr0 hr1 hc0 hc1 ht
  cases t with
  | false =>
    rw [if_neg Bool.false_ne_true] at h
    have h1 := Option.some.inj h
    obtain ⟨rfl, rfl⟩ := Prod.mk.inj h1
    clear h h1
    go_enter Tryz.func41, Tryz.ntmps41
    go_wp2_with (go_at_call 73; refine HV.out.mono ?_; rintro e w1 ⟨rfl, hb⟩; have HB := Aside0.mk hb; clear hb)
    go_ret2
    exact ⟨_, rfl, Kd.R_nil _ _ _ _ _, HB.out⟩
  | true =>
    rw [if_pos rfl] at h
    cases hok : sumOK [l0, l1] with
    | false => rw [hok, if_neg Bool.false_ne_true] at h; cases h
    | true =>
      rw [hok, if_pos rfl] at h
      have HS := Lib.hid (Option.some.inj h)
      have HOK := Lib.hid hok
      clear h hok
      go_enter Tryz.func41, Tryz.ntmps41
      go_wp2_with (first
        | (go_at_call 73; refine HV.out.mono ?_; rintro e w1 ⟨rfl, hb⟩; have HB := Aside0.mk hb; have HQ0 := Aside0.mk (Kd.C_below HR0.out hb); have HQ1 := Aside0.mk (Kd.C_below HR1.out hb); clear hb)
        | (go_at_call 72; go_loud (refine (quant_summed.calls (some ⟨w1.heap.size, 0, none⟩) 2 [l0, l1] r1 r2 _ (rows2_C HQ0.out HC0.out HQ1.out HC1.out _) (Nat.le_refl 2) (sumOK_names HOK.out) (sumOK_len HOK.out) HS.out).mono ?_); rintro e w2 ⟨v2, rfl, ho, hb2⟩; have HO := Aside0.mk (Kd.R_lower ho (HB.out.alloc HB.out.size _).size); have HB2 := Aside0.mk (below_step (HB.out.alloc HB.out.size _) hb2); clear ho hb2))
      go_ret2
      exact ⟨_, rfl, HO.out, HB2.out⟩
def normGo (k : Nat) : List S57 → Option Bool
  | [] => some true
  | a :: r => (quant_resource.f k a.f0).bind fun t => if t = true then (if a.f1 < 0 then some false else normGo k r) else some false
theorem normGo_mono (k : Nat) : ∀ l, LeO (normGo k l) (normGo (k + 1) l)
  | [] => LeO.refl _
  | a :: r => by
    unfold normGo
    exact LeO.bind (quant_resource.mono _ _) (fun _ => LeO.ite (LeO.ite (LeO.refl _) (normGo_mono k r)) (LeO.refl _))
def quant_Normal.f (k : Nat) (l0 : List S57) : Option (List S57 × Int) :=
  (normGo k l0).bind fun t => if t = true then (if sumOK [l0] = true then some (quant_summed.f [l0]) else none) else some ([], 31)
theorem quant_Normal.mono : ∀ a0 k, LeO (quant_Normal.f k a0) (quant_Normal.f (k + 1) a0) := by
  intro a0 k
  unfold quant_Normal.f
  exact LeO.bind (normGo_mono _ _) (fun _ => LeO.refl _)
end Go.Proofs.YtejgbdclhlolkaaGreatDoor.Q
namespace Go.Proofs.YtejgbdclhlolkaaGreatDoor.Q
open Go.RowKit Go.Proofs.YtejgbdclhlolkaaGreatDoorW.PrintWords Go.Proofs.YtejgbdclhlolkaaGreatDoorW.PrintLast Go.Proofs.YtejgbdclhlolkaaGreatDoorW.PrintMore
attribute [local go_sem] max2_int min2_int max_two min_two max_three min_three max_four min_four   -- for this text's walks alone
set_option linter.unusedVariables false
set_option linter.unusedSimpArgs false
attribute [local go_sem high] eqA57
def bursarlaw03_known.f (k : Nat)  : Option (Bool) := (quant_Parse.f k (⟨#[49, 46, 53, 75, 105]⟩ : ByteArray)).bind fun bt101 => ((quant_Parse.f k (⟨#[48, 46, 48, 48, 48, 49]⟩ : ByteArray)).bind fun bt103 => ((quant_Parse.f k (⟨#[49, 75]⟩ : ByteArray)).bind fun bt105 => ((quant_Plus.f k (([(⟨(⟨#[99, 112, 117]⟩ : ByteArray), 1⟩ : S57), (⟨(⟨#[109, 101, 109, 111, 114, 121]⟩ : ByteArray), 2⟩ : S57)] : List (S57))) (([(⟨(⟨#[109, 101, 109, 111, 114, 121]⟩ : ByteArray), 3⟩ : S57)] : List (S57)))).bind fun bt113 => (if bt101.1 = 1536000 then (if bt101.2 = 0 then (if bt103.1 = 1 then (if bt103.2 = 0 then (if bt105.2 = 30 then (if bt113.2 = 0 then (if (bt113.1.length : Int) = 2 then (if 1 < (bt113.1.length : Int) then (if ((((rd_T57 bt113.1 1).f0).toList) == ([109, 101, 109, 111, 114, 121] : List UInt8) && (((rd_T57 bt113.1 1).f1) == 5)) = true then ((quant_Print.f k 1024000).bind fun t118 => (if t118.toList = ([49, 75, 105] : List UInt8) then ((quant_Print.f k 500).bind fun t119 => (some (t119.toList == ([53, 48, 48, 109] : List UInt8)))) else (some false))) else (some false)) else (none)) else (some false)) else (some false)) else (some false)) else (some false)) else (some false)) else (some false)) else (some false)))))
theorem bursarlaw03_known.mono : ∀ k, LeO (bursarlaw03_known.f k ) (bursarlaw03_known.f (k + 1) ) := by
 intro  k
 unfold bursarlaw03_known.f
 repeat' first
   | (with_reducible exact quant_Parse.mono _ _)
   | (with_reducible exact quant_Plus.mono _ _ _)
   | (with_reducible exact quant_Print.mono _ _)
   | (with_reducible exact LeO.refl _)
   | (with_reducible exact LeO.none _)
   | (with_reducible refine LeO.ite ?_ ?_)
   | (with_reducible refine LeO.bind ?_ (fun _ => ?_))
   | exact quant_Parse.mono _ _
   | exact quant_Plus.mono _ _ _
   | exact quant_Print.mono _ _
   | exact LeO.none _
   | refine LeO.ite ?_ ?_
   | refine LeO.bind ?_ (fun _ => ?_)
set_option maxHeartbeats 8000000 in
set_option maxRecDepth 100000 in
theorem bursarlaw03_known.calls (k : Nat)  (r : Bool) (w : World) (h : bursarlaw03_known.f k  = some r) (hG : Glob w) :
  Calls Tryz.prog 16 #[] w fun e w' => e = .returned (.bool r) ∧ Below w.heap.size w w' := by
 have hu57 := Tryz.underlying57
 have HB := Aside0.mk (Below.refl w.heap.size w)
 have H : ((quant_Parse.f k (⟨#[49, 46, 53, 75, 105]⟩ : ByteArray)).bind fun bt101 => ((quant_Parse.f k (⟨#[48, 46, 48, 48, 48, 49]⟩ : ByteArray)).bind fun bt103 => ((quant_Parse.f k (⟨#[49, 75]⟩ : ByteArray)).bind fun bt105 => ((quant_Plus.f k (([(⟨(⟨#[99, 112, 117]⟩ : ByteArray), 1⟩ : S57), (⟨(⟨#[109, 101, 109, 111, 114, 121]⟩ : ByteArray), 2⟩ : S57)] : List (S57))) (([(⟨(⟨#[109, 101, 109, 111, 114, 121]⟩ : ByteArray), 3⟩ : S57)] : List (S57)))).bind fun bt113 => (if bt101.1 = 1536000 then (if bt101.2 = 0 then (if bt103.1 = 1 then (if bt103.2 = 0 then (if bt105.2 = 30 then (if bt113.2 = 0 then (if (bt113.1.length : Int) = 2 then (if 1 < (bt113.1.length : Int) then (if ((((rd_T57 bt113.1 1).f0).toList) == ([109, 101, 109, 111, 114, 121] : List UInt8) && (((rd_T57 bt113.1 1).f1) == 5)) = true then ((quant_Print.f k 1024000).bind fun t118 => (if t118.toList = ([49, 75, 105] : List UInt8) then ((quant_Print.f k 500).bind fun t119 => (some (t119.toList == ([53, 48, 48, 109] : List UInt8)))) else (some false))) else (some false)) else (none)) else (some false)) else (some false)) else (some false)) else (some false)) else (some false)) else (some false)) else (some false)))))) = some r := h
 clear h
 replace H := Option.bind_eq_some_iff.mp H
 obtain ⟨⟨t101, t102⟩, A10, H⟩ := H
 replace H : ((quant_Parse.f k (⟨#[48, 46, 48, 48, 48, 49]⟩ : ByteArray)).bind fun bt103 => ((quant_Parse.f k (⟨#[49, 75]⟩ : ByteArray)).bind fun bt105 => ((quant_Plus.f k (([(⟨(⟨#[99, 112, 117]⟩ : ByteArray), 1⟩ : S57), (⟨(⟨#[109, 101, 109, 111, 114, 121]⟩ : ByteArray), 2⟩ : S57)] : List (S57))) (([(⟨(⟨#[109, 101, 109, 111, 114, 121]⟩ : ByteArray), 3⟩ : S57)] : List (S57)))).bind fun bt113 => (if t101 = 1536000 then (if t102 = 0 then (if bt103.1 = 1 then (if bt103.2 = 0 then (if bt105.2 = 30 then (if bt113.2 = 0 then (if (bt113.1.length : Int) = 2 then (if 1 < (bt113.1.length : Int) then (if ((((rd_T57 bt113.1 1).f0).toList) == ([109, 101, 109, 111, 114, 121] : List UInt8) && (((rd_T57 bt113.1 1).f1) == 5)) = true then ((quant_Print.f k 1024000).bind fun t118 => (if t118.toList = ([49, 75, 105] : List UInt8) then ((quant_Print.f k 500).bind fun t119 => (some (t119.toList == ([53, 48, 48, 109] : List UInt8)))) else (some false))) else (some false)) else (none)) else (some false)) else (some false)) else (some false)) else (some false)) else (some false)) else (some false)) else (some false))))) = some r := H
 have A1 := Aside0.mk A10
 clear A10
 replace H := Option.bind_eq_some_iff.mp H
 obtain ⟨⟨t103, t104⟩, A20, H⟩ := H
 replace H : ((quant_Parse.f k (⟨#[49, 75]⟩ : ByteArray)).bind fun bt105 => ((quant_Plus.f k (([(⟨(⟨#[99, 112, 117]⟩ : ByteArray), 1⟩ : S57), (⟨(⟨#[109, 101, 109, 111, 114, 121]⟩ : ByteArray), 2⟩ : S57)] : List (S57))) (([(⟨(⟨#[109, 101, 109, 111, 114, 121]⟩ : ByteArray), 3⟩ : S57)] : List (S57)))).bind fun bt113 => (if t101 = 1536000 then (if t102 = 0 then (if t103 = 1 then (if t104 = 0 then (if bt105.2 = 30 then (if bt113.2 = 0 then (if (bt113.1.length : Int) = 2 then (if 1 < (bt113.1.length : Int) then (if ((((rd_T57 bt113.1 1).f0).toList) == ([109, 101, 109, 111, 114, 121] : List UInt8) && (((rd_T57 bt113.1 1).f1) == 5)) = true then ((quant_Print.f k 1024000).bind fun t118 => (if t118.toList = ([49, 75, 105] : List UInt8) then ((quant_Print.f k 500).bind fun t119 => (some (t119.toList == ([53, 48, 48, 109] : List UInt8)))) else (some false))) else (some false)) else (none)) else (some false)) else (some false)) else (some false)) else (some false)) else (some false)) else (some false)) else (some false)))) = some r := H
 have A2 := Aside0.mk A20
 clear A20
 replace H := Option.bind_eq_some_iff.mp H
 obtain ⟨⟨t105, t106⟩, A30, H⟩ := H
 replace H : ((quant_Plus.f k (([(⟨(⟨#[99, 112, 117]⟩ : ByteArray), 1⟩ : S57), (⟨(⟨#[109, 101, 109, 111, 114, 121]⟩ : ByteArray), 2⟩ : S57)] : List (S57))) (([(⟨(⟨#[109, 101, 109, 111, 114, 121]⟩ : ByteArray), 3⟩ : S57)] : List (S57)))).bind fun bt113 => (if t101 = 1536000 then (if t102 = 0 then (if t103 = 1 then (if t104 = 0 then (if t106 = 30 then (if bt113.2 = 0 then (if (bt113.1.length : Int) = 2 then (if 1 < (bt113.1.length : Int) then (if ((((rd_T57 bt113.1 1).f0).toList) == ([109, 101, 109, 111, 114, 121] : List UInt8) && (((rd_T57 bt113.1 1).f1) == 5)) = true then ((quant_Print.f k 1024000).bind fun t118 => (if t118.toList = ([49, 75, 105] : List UInt8) then ((quant_Print.f k 500).bind fun t119 => (some (t119.toList == ([53, 48, 48, 109] : List UInt8)))) else (some false))) else (some false)) else (none)) else (some false)) else (some false)) else (some false)) else (some false)) else (some false)) else (some false)) else (some false))) = some r := H
 have A3 := Aside0.mk A30
 clear A30
 obtain ⟨y107, hy107⟩ : ∃ y_ : List (S57), y_ = (([(⟨(⟨#[99, 112, 117]⟩ : ByteArray), 1⟩ : S57), (⟨(⟨#[109, 101, 109, 111, 114, 121]⟩ : ByteArray), 2⟩ : S57)] : List (S57))) := ⟨_, rfl⟩
 replace H : ((quant_Plus.f k y107 (([(⟨(⟨#[109, 101, 109, 111, 114, 121]⟩ : ByteArray), 3⟩ : S57)] : List (S57)))).bind fun bt113 => (if t101 = 1536000 then (if t102 = 0 then (if t103 = 1 then (if t104 = 0 then (if t106 = 30 then (if bt113.2 = 0 then (if (bt113.1.length : Int) = 2 then (if 1 < (bt113.1.length : Int) then (if ((((rd_T57 bt113.1 1).f0).toList) == ([109, 101, 109, 111, 114, 121] : List UInt8) && (((rd_T57 bt113.1 1).f1) == 5)) = true then ((quant_Print.f k 1024000).bind fun t118 => (if t118.toList = ([49, 75, 105] : List UInt8) then ((quant_Print.f k 500).bind fun t119 => (some (t119.toList == ([53, 48, 48, 109] : List UInt8)))) else (some false))) else (some false)) else (none)) else (some false)) else (some false)) else (some false)) else (some false)) else (some false)) else (some false)) else (some false))) = some r := by first | (rw [hy107]; with_reducible exact H) | (have H2_ := (Option.bind_some _ _).symm.trans H; rw [hy107]; with_reducible exact H2_) | (have H2_ := (Option.bind_some _ _).symm.trans H; with_reducible exact H2_) | with_reducible exact H | (rw [hy107]; exact H) | exact H
 have Ny107 := Aside0.mk hy107
 clear hy107
 obtain ⟨y110, hy110⟩ : ∃ y_ : List (S57), y_ = (([(⟨(⟨#[109, 101, 109, 111, 114, 121]⟩ : ByteArray), 3⟩ : S57)] : List (S57))) := ⟨_, rfl⟩
 replace H : ((quant_Plus.f k y107 y110).bind fun bt113 => (if t101 = 1536000 then (if t102 = 0 then (if t103 = 1 then (if t104 = 0 then (if t106 = 30 then (if bt113.2 = 0 then (if (bt113.1.length : Int) = 2 then (if 1 < (bt113.1.length : Int) then (if ((((rd_T57 bt113.1 1).f0).toList) == ([109, 101, 109, 111, 114, 121] : List UInt8) && (((rd_T57 bt113.1 1).f1) == 5)) = true then ((quant_Print.f k 1024000).bind fun t118 => (if t118.toList = ([49, 75, 105] : List UInt8) then ((quant_Print.f k 500).bind fun t119 => (some (t119.toList == ([53, 48, 48, 109] : List UInt8)))) else (some false))) else (some false)) else (none)) else (some false)) else (some false)) else (some false)) else (some false)) else (some false)) else (some false)) else (some false))) = some r := by first | (rw [hy110]; with_reducible exact H) | (have H2_ := (Option.bind_some _ _).symm.trans H; rw [hy110]; with_reducible exact H2_) | (have H2_ := (Option.bind_some _ _).symm.trans H; with_reducible exact H2_) | with_reducible exact H | (rw [hy110]; exact H) | exact H
 have Ny110 := Aside0.mk hy110
 clear hy110
 replace H := Option.bind_eq_some_iff.mp H
 obtain ⟨⟨t113, t114⟩, A40, H⟩ := H
 replace H : (if t101 = 1536000 then (if t102 = 0 then (if t103 = 1 then (if t104 = 0 then (if t106 = 30 then (if t114 = 0 then (if (t113.length : Int) = 2 then (if 1 < (t113.length : Int) then (if ((((rd_T57 t113 1).f0).toList) == ([109, 101, 109, 111, 114, 121] : List UInt8) && (((rd_T57 t113 1).f1) == 5)) = true then ((quant_Print.f k 1024000).bind fun t118 => (if t118.toList = ([49, 75, 105] : List UInt8) then ((quant_Print.f k 500).bind fun t119 => (some (t119.toList == ([53, 48, 48, 109] : List UInt8)))) else (some false))) else (some false)) else (none)) else (some false)) else (some false)) else (some false)) else (some false)) else (some false)) else (some false)) else (some false)) = some r := H
 have A4 := Aside0.mk A40
 clear A40
 by_cases c5 : t101 = 1536000
 ·rw [if_pos c5] at H
  have c5b0 : (t101 == 1536000) = true := beq_iff_eq.mpr c5
  have c5b1 : (t101 != 1536000) = false := bne_eq_false_iff_eq.mpr c5
  clear c5
  by_cases c6 : t102 = 0
  ·rw [if_pos c6] at H
   have c6b0 : (t102 == 0) = true := beq_iff_eq.mpr c6
   have c6b1 : (t102 != 0) = false := bne_eq_false_iff_eq.mpr c6
   clear c6
   by_cases c7 : t103 = 1
   ·rw [if_pos c7] at H
    have c7b0 : (t103 == 1) = true := beq_iff_eq.mpr c7
    have c7b1 : (t103 != 1) = false := bne_eq_false_iff_eq.mpr c7
    clear c7
    by_cases c8 : t104 = 0
    ·rw [if_pos c8] at H
     have c8b0 : (t104 == 0) = true := beq_iff_eq.mpr c8
     have c8b1 : (t104 != 0) = false := bne_eq_false_iff_eq.mpr c8
     clear c8
     by_cases c9 : t106 = 30
     ·rw [if_pos c9] at H
      have c9b0 : (t106 == 30) = true := beq_iff_eq.mpr c9
      have c9b1 : (t106 != 30) = false := bne_eq_false_iff_eq.mpr c9
      clear c9
      by_cases c10 : t114 = 0
      ·rw [if_pos c10] at H
       have c10b0 : (t114 == 0) = true := beq_iff_eq.mpr c10
       have c10b1 : (t114 != 0) = false := bne_eq_false_iff_eq.mpr c10
       clear c10
       by_cases c11 : (t113.length : Int) = 2
       ·rw [if_pos c11] at H
        have c11b0 : ((t113.length : Int) == 2) = true := beq_iff_eq.mpr c11
        have c11b1 : ((t113.length : Int) != 2) = false := bne_eq_false_iff_eq.mpr c11
        clear c11
        by_cases c12 : 1 < (t113.length : Int)
        ·rw [if_pos c12] at H
         have c12b0 : decide (1 < (t113.length : Int)) = true := decide_eq_true c12
         have c12b1 : decide (1 < t113.length) = true := decide_eq_true (by omega)
         clear c12
         by_cases c13 : ((((rd_T57 t113 1).f0).toList) == ([109, 101, 109, 111, 114, 121] : List UInt8) && (((rd_T57 t113 1).f1) == 5)) = true
         ·rw [if_pos c13] at H
          have c13b0 : ((((rd_T57 t113 1).f0).toList) == ([109, 101, 109, 111, 114, 121] : List UInt8) && (((rd_T57 t113 1).f1) == 5)) = true := c13
          (try (have c13b1 : decide ((((rd_T57 t113 1).f0).toList) = ([109, 101, 109, 111, 114, 121] : List UInt8) && (((rd_T57 t113 1).f1) == 5)) = true := by simpa using c13))
          (try (have c13b2 : ((((rd_T57 t113 1).f0).toList) == ([109, 101, 109, 111, 114, 121] : List UInt8) && (((rd_T57 t113 1).f1) == 5)) = true := by simpa using c13))
          clear c13
          replace H := Option.bind_eq_some_iff.mp H
          obtain ⟨t118, A140, H⟩ := H
          replace H : (if t118.toList = ([49, 75, 105] : List UInt8) then ((quant_Print.f k 500).bind fun t119 => (some (t119.toList == ([53, 48, 48, 109] : List UInt8)))) else (some false)) = some r := H
          have A14 := Aside0.mk A140
          clear A140
          by_cases c15 : t118.toList = ([49, 75, 105] : List UInt8)
          ·rw [if_pos c15] at H
           have c15b0 : (t118.toList == ([49, 75, 105] : List UInt8)) = true := beq_iff_eq.mpr c15
           have c15b1 : (t118.toList != ([49, 75, 105] : List UInt8)) = false := bne_eq_false_iff_eq.mpr c15
           clear c15
           replace H := Option.bind_eq_some_iff.mp H
           obtain ⟨t119, A160, H⟩ := H
           replace H : (some (t119.toList == ([53, 48, 48, 109] : List UInt8))) = some r := H
           have A16 := Aside0.mk A160
           clear A160
           obtain rfl := Option.some.inj H
           go_enter Tryz.func16, Tryz.ntmps16
           go_wp2_with (first | ((with_reducible refine gate_callee (f := 17) rfl ?_); refine goesL_ (some 10) rfl rfl Tryz.func17 (by kernel_rfl) rfl #[.string (⟨#[49, 46, 53, 75, 105]⟩ : ByteArray)] rfl (by (try simp only [List.map_toArray, List.map_cons, List.map_nil]); first | done | rfl | (simp only [List.length_drop, List.length_take]; rfl)) ?_; (with_reducible refine (quant_Parse.calls k (⟨#[49, 46, 53, 75, 105]⟩ : ByteArray) t101 t102 _ A1.out (Glob.below hG (by repeat (first | (with_reducible first | exact HB.out | apply below_alloc | apply pw_below_drewN | apply below_drew1) | exact HB.out)))).mono ?_); rintro e w17 ⟨rfl, hb⟩; refine ⟨_, rfl, ?_⟩; have n0_ := Aside0.mk (below_step (by repeat (first | (with_reducible first | exact HB.out | apply below_alloc | apply pw_below_drewN | apply below_drew1) | exact HB.out)) hb); clear HB; have HB := n0_; clear n0_; (try clear hb); (try clear hb2); (try clear hk); (try clear hi)) | ((with_reducible refine gate_callee (f := 17) rfl ?_); refine goesL_ (some 14) rfl rfl Tryz.func17 (by kernel_rfl) rfl #[.string (⟨#[48, 46, 48, 48, 48, 49]⟩ : ByteArray)] rfl (by (try simp only [List.map_toArray, List.map_cons, List.map_nil]); first | done | rfl | (simp only [List.length_drop, List.length_take]; rfl)) ?_; (with_reducible refine (quant_Parse.calls k (⟨#[48, 46, 48, 48, 48, 49]⟩ : ByteArray) t103 t104 _ A2.out (Glob.below hG (by repeat (first | (with_reducible first | exact HB.out | apply below_alloc | apply pw_below_drewN | apply below_drew1) | exact HB.out)))).mono ?_); rintro e w18 ⟨rfl, hb⟩; refine ⟨_, rfl, ?_⟩; have n0_ := Aside0.mk (below_step (by repeat (first | (with_reducible first | exact HB.out | apply below_alloc | apply pw_below_drewN | apply below_drew1) | exact HB.out)) hb); clear HB; have HB := n0_; clear n0_; (try clear hb); (try clear hb2); (try clear hk); (try clear hi)) | ((with_reducible refine gate_callee (f := 17) rfl ?_); refine goesL_ (some 18) rfl rfl Tryz.func17 (by kernel_rfl) rfl #[.string (⟨#[49, 75]⟩ : ByteArray)] rfl (by (try simp only [List.map_toArray, List.map_cons, List.map_nil]); first | done | rfl | (simp only [List.length_drop, List.length_take]; rfl)) ?_; (with_reducible refine (quant_Parse.calls k (⟨#[49, 75]⟩ : ByteArray) t105 t106 _ A3.out (Glob.below hG (by repeat (first | (with_reducible first | exact HB.out | apply below_alloc | apply pw_below_drewN | apply below_drew1) | exact HB.out)))).mono ?_); rintro e w19 ⟨rfl, hb⟩; refine ⟨_, rfl, ?_⟩; have n0_ := Aside0.mk (below_step (by repeat (first | (with_reducible first | exact HB.out | apply below_alloc | apply pw_below_drewN | apply below_drew1) | exact HB.out)) hb); clear HB; have HB := n0_; clear n0_; (try clear hb); (try clear hb2); (try clear hk); (try clear hi)) | ((with_reducible refine gate_dst (N := 24) rfl ?_); (try (refine gate_guard (by rfl) ?_; dsimp only)); refine Kd.R_lit k57 _ 57 ?hg (N := 24) ?hd (xs := ([(⟨(⟨#[99, 112, 117]⟩ : ByteArray), 1⟩ : S57), (⟨(⟨#[109, 101, 109, 111, 114, 121]⟩ : ByteArray), 2⟩ : S57)] : List (S57))) (inner := [.string (⟨#[99, 112, 117]⟩ : ByteArray), .int .i64 1, .string (⟨#[109, 101, 109, 111, 114, 121]⟩ : ByteArray), .int .i64 2]) (ok := fun _ => True) (okp := fun _ => True) ?hr ?hp (fun _ hk => hk) trivial (Below.refl _ _) (Nat.le_refl _) (by simp) ?_; (case hd => rfl); (case hg => rfl); (case hr => first | (go_simp; done) | (go_simp; rfl)); (case hp => exact (Reps.c2 (show Kd.M k57 _ _ _ (⟨(⟨#[99, 112, 117]⟩ : ByteArray), 1⟩ : S57) [.string (⟨#[99, 112, 117]⟩ : ByteArray), .int .i64 1] from (k57_mkM _ _ _ (⟨(⟨#[99, 112, 117]⟩ : ByteArray), 1⟩ : S57) )) (Reps.c2 (show Kd.M k57 _ _ _ (⟨(⟨#[109, 101, 109, 111, 114, 121]⟩ : ByteArray), 2⟩ : S57) [.string (⟨#[109, 101, 109, 111, 114, 121]⟩ : ByteArray), .int .i64 2] from (k57_mkM _ _ _ (⟨(⟨#[109, 101, 109, 111, 114, 121]⟩ : ByteArray), 2⟩ : S57) )) (Reps.none _ _)))); intro v108 w20 ho21 hb hg_ hnew_; clear hg_ hnew_; (first | rw [← Ny107.out] at ho21 | (simp only [Int.reduceToNat] at ho21; rw [← Ny107.out] at ho21)); have n0_ := Aside0.mk (Kd.R_lower ho21 (below_size (by repeat (first | (with_reducible first | exact HB.out | apply below_alloc | apply pw_below_drewN | apply below_drew1) | exact HB.out)))); have n1_ := Aside0.mk (below_step (by repeat (first | (with_reducible first | exact HB.out | apply below_alloc | apply pw_below_drewN | apply below_drew1) | exact HB.out)) hb); clear HB; have HO109 := n0_; have HB := n1_; clear n0_ n1_; clear hb ho21) | ((with_reducible refine gate_dst (N := 26) rfl ?_); (try (refine gate_guard (by rfl) ?_; dsimp only)); refine Kd.R_lit k57 _ 57 ?hg (N := 26) ?hd (xs := ([(⟨(⟨#[109, 101, 109, 111, 114, 121]⟩ : ByteArray), 3⟩ : S57)] : List (S57))) (inner := [.string (⟨#[109, 101, 109, 111, 114, 121]⟩ : ByteArray), .int .i64 3]) (ok := fun _ => True) (okp := fun _ => True) ?hr ?hp (fun _ hk => hk) trivial (Below.refl _ _) (Nat.le_refl _) (by simp) ?_; (case hd => rfl); (case hg => rfl); (case hr => first | (go_simp; done) | (go_simp; rfl)); (case hp => exact (Reps.c2 (show Kd.M k57 _ _ _ (⟨(⟨#[109, 101, 109, 111, 114, 121]⟩ : ByteArray), 3⟩ : S57) [.string (⟨#[109, 101, 109, 111, 114, 121]⟩ : ByteArray), .int .i64 3] from (k57_mkM _ _ _ (⟨(⟨#[109, 101, 109, 111, 114, 121]⟩ : ByteArray), 3⟩ : S57) )) (Reps.none _ _))); intro v111 w22 ho23 hb hg_ hnew_; clear hg_ hnew_; (first | rw [← Ny110.out] at ho23 | (simp only [Int.reduceToNat] at ho23; rw [← Ny110.out] at ho23)); have n0_ := Aside0.mk (Kd.R_elder' (by (with_reducible repeat (first | apply Kd.R_alloc | apply Kd.R_drewN | apply Kd.R_drew)); exact HO109.out) (Kd.R_base ho23) hb); have n1_ := Aside0.mk (Kd.R_lower (Kd.R_new' ho23 (Kd.R_lt (by (with_reducible repeat (first | apply Kd.R_alloc | apply Kd.R_drewN | apply Kd.R_drew)); exact HO109.out))) (below_size (by repeat (first | (with_reducible first | exact HB.out | apply below_alloc | apply pw_below_drewN | apply below_drew1) | exact HB.out)))); have n2_ := Aside0.mk (below_step (by repeat (first | (with_reducible first | exact HB.out | apply below_alloc | apply pw_below_drewN | apply below_drew1) | exact HB.out)) hb); clear HO109; clear HB; have HO109 := n0_; have HO112 := n1_; have HB := n2_; clear n0_ n1_ n2_; clear hb ho23; obtain ⟨Ao24, co24, eo24⟩ := Kd.R_slice HO109.out; subst eo24; obtain ⟨Ao25, co25, eo25⟩ := Kd.R_slice HO112.out; subst eo25) | ((with_reducible refine gate_callee (f := 41) rfl ?_); refine goesL_ (some 27) rfl rfl Tryz.func41 (by kernel_rfl) rfl #[.slice Ao24 y107.length co24, .slice Ao25 y110.length co25] rfl (by (try simp only [List.map_toArray, List.map_cons, List.map_nil]); first | done | rfl | (simp only [List.length_drop, List.length_take]; rfl)) ?_; (with_reducible refine (quant_Plus.calls k _ _ y107 _ _ y110 t113 t114 _ ?side1 ?side2 ?side3 ?side4 A4.out (Glob.below hG (by repeat (first | (with_reducible first | exact HB.out | apply below_alloc | apply pw_below_drewN | apply below_drew1) | exact HB.out)))).mono ?_); (case side1 => repeat (first | exact (Kd.R_reads' HO109.out).2.2 | (with_reducible refine Kd.C_alloc ?_ _) | (with_reducible refine Kd.C_drewN ?_ _) | (with_reducible refine Kd.C_drew ?_))); (case side2 => exact (Kd.R_reads' HO109.out).2.1); (case side3 => repeat (first | exact (Kd.R_reads' HO112.out).2.2 | (with_reducible refine Kd.C_alloc ?_ _) | (with_reducible refine Kd.C_drewN ?_ _) | (with_reducible refine Kd.C_drew ?_))); (case side4 => exact (Kd.R_reads' HO112.out).2.1); rintro e w26 ⟨v115, rfl, ho0, hb⟩; refine ⟨_, rfl, ?_⟩; have n0_ := Aside0.mk (Kd.R_elder' (by (with_reducible repeat (first | apply Kd.R_alloc | apply Kd.R_drewN | apply Kd.R_drew)); exact HO109.out) (Kd.R_base ho0) hb); have n1_ := Aside0.mk (Kd.R_elder' (by (with_reducible repeat (first | apply Kd.R_alloc | apply Kd.R_drewN | apply Kd.R_drew)); exact HO112.out) (Kd.R_base ho0) hb); have n2_ := Aside0.mk (Kd.R_lower (Kd.R_new' (Kd.R_new' ho0 (Kd.R_lt (by (with_reducible repeat (first | apply Kd.R_alloc | apply Kd.R_drewN | apply Kd.R_drew)); exact HO109.out))) (Kd.R_lt (by (with_reducible repeat (first | apply Kd.R_alloc | apply Kd.R_drewN | apply Kd.R_drew)); exact HO112.out))) (below_size (by repeat (first | (with_reducible first | exact HB.out | apply below_alloc | apply pw_below_drewN | apply below_drew1) | exact HB.out)))); have n3_ := Aside0.mk (below_step (by repeat (first | (with_reducible first | exact HB.out | apply below_alloc | apply pw_below_drewN | apply below_drew1) | exact HB.out)) hb); clear HO109; clear HO112; clear HB; have HO109 := n0_; have HO112 := n1_; have HO116 := n2_; have HB := n3_; clear n0_ n1_ n2_ n3_; (try clear hb); (try clear hb2); (try clear hk); (try clear hi); (try clear ho0); obtain ⟨Ao27, co27, eo27⟩ := Kd.R_slice HO116.out; subst eo27; have p117 : 0 ≤ (1 : Int) := (by omega); have q117 : 1 < (t113.length : Int) := of_decide_eq_true (by first | (with_reducible assumption) | assumption); obtain ⟨ad117, e117, hx117_0, hx117_1⟩ := at_T57 (Kd.R_reads' HO116.out).2.2 1 p117 q117; cases e117; (try simp only [show (1 : Int).toNat = 1 from rfl, Nat.reduceMul, Nat.reduceEqDiff, Go.Addr.add, ↓reduceIte] at hx117_0); (try simp only [show (1 : Int).toNat = 1 from rfl, Nat.reduceMul, Nat.reduceEqDiff, Go.Addr.add, ↓reduceIte] at hx117_1); have qi117 : (1 < t113.length) = True := eq_true (by omega); (try rw [show ((1 : Int)).toNat = 1 from rfl] at hx117_0); (try rw [show 1 * 2 = 2 from rfl] at hx117_0); (try rw [show ((1 : Int)).toNat = 1 from rfl] at hx117_1); (try rw [show 1 * 2 = 2 from rfl] at hx117_1); replace p117 := eq_true p117; replace q117 := eq_true q117) | (go_at_call 19; (with_reducible refine (quant_Print.calls k 1024000 t118 _ A14.out (Glob.below hG (by repeat (first | (with_reducible first | exact HB.out | apply below_alloc | apply pw_below_drewN | apply below_drew1) | exact HB.out)))).mono ?_); rintro e w28 ⟨rfl, hb⟩; have n0_ := Aside0.mk (Kd.R_below (by (with_reducible repeat (first | apply Kd.R_alloc | apply Kd.R_drewN | apply Kd.R_drew)); exact HO109.out) hb); have n1_ := Aside0.mk (Kd.R_below (by (with_reducible repeat (first | apply Kd.R_alloc | apply Kd.R_drewN | apply Kd.R_drew)); exact HO112.out) hb); have n2_ := Aside0.mk (Kd.R_below (by (with_reducible repeat (first | apply Kd.R_alloc | apply Kd.R_drewN | apply Kd.R_drew)); exact HO116.out) hb); have n3_ := Aside0.mk (below_step (by repeat (first | (with_reducible first | exact HB.out | apply below_alloc | apply pw_below_drewN | apply below_drew1) | exact HB.out)) hb); clear HO109; clear HO112; clear HO116; clear HB; have HO109 := n0_; have HO112 := n1_; have HO116 := n2_; have HB := n3_; clear n0_ n1_ n2_ n3_; (try clear hb); (try clear hb2); (try clear hk); (try clear hi)) | (go_at_call 19; (with_reducible refine (quant_Print.calls k 500 t119 _ A16.out (Glob.below hG (by repeat (first | (with_reducible first | exact HB.out | apply below_alloc | apply pw_below_drewN | apply below_drew1) | exact HB.out)))).mono ?_); rintro e w29 ⟨rfl, hb⟩; have n0_ := Aside0.mk (Kd.R_below (by (with_reducible repeat (first | apply Kd.R_alloc | apply Kd.R_drewN | apply Kd.R_drew)); exact HO109.out) hb); have n1_ := Aside0.mk (Kd.R_below (by (with_reducible repeat (first | apply Kd.R_alloc | apply Kd.R_drewN | apply Kd.R_drew)); exact HO112.out) hb); have n2_ := Aside0.mk (Kd.R_below (by (with_reducible repeat (first | apply Kd.R_alloc | apply Kd.R_drewN | apply Kd.R_drew)); exact HO116.out) hb); have n3_ := Aside0.mk (below_step (by repeat (first | (with_reducible first | exact HB.out | apply below_alloc | apply pw_below_drewN | apply below_drew1) | exact HB.out)) hb); clear HO109; clear HO112; clear HO116; clear HB; have HO109 := n0_; have HO112 := n1_; have HO116 := n2_; have HB := n3_; clear n0_ n1_ n2_ n3_; (try clear hb); (try clear hb2); (try clear hk); (try clear hi)))
           go_ret
           exact ⟨by first | rfl | (simp [errW_none, errW_some] <;> rfl) | (simp [*, errW_none, errW_some] <;> rfl), by repeat (first | (with_reducible first | exact HB.out | apply below_alloc | apply pw_below_drewN | apply below_drew1) | exact HB.out)⟩
          ·rw [if_neg c15] at H
           have c15b0 : (t118.toList == ([49, 75, 105] : List UInt8)) = false := beq_eq_false_iff_ne.mpr c15
           have c15b1 : (t118.toList != ([49, 75, 105] : List UInt8)) = true := bne_iff_ne.mpr c15
           obtain rfl := Option.some.inj H
           go_enter Tryz.func16, Tryz.ntmps16
           go_wp2_with (first | ((with_reducible refine gate_callee (f := 17) rfl ?_); refine goesL_ (some 10) rfl rfl Tryz.func17 (by kernel_rfl) rfl #[.string (⟨#[49, 46, 53, 75, 105]⟩ : ByteArray)] rfl (by (try simp only [List.map_toArray, List.map_cons, List.map_nil]); first | done | rfl | (simp only [List.length_drop, List.length_take]; rfl)) ?_; (with_reducible refine (quant_Parse.calls k (⟨#[49, 46, 53, 75, 105]⟩ : ByteArray) t101 t102 _ A1.out (Glob.below hG (by repeat (first | (with_reducible first | exact HB.out | apply below_alloc | apply pw_below_drewN | apply below_drew1) | exact HB.out)))).mono ?_); rintro e w30 ⟨rfl, hb⟩; refine ⟨_, rfl, ?_⟩; have n0_ := Aside0.mk (below_step (by repeat (first | (with_reducible first | exact HB.out | apply below_alloc | apply pw_below_drewN | apply below_drew1) | exact HB.out)) hb); clear HB; have HB := n0_; clear n0_; (try clear hb); (try clear hb2); (try clear hk); (try clear hi)) | ((with_reducible refine gate_callee (f := 17) rfl ?_); refine goesL_ (some 14) rfl rfl Tryz.func17 (by kernel_rfl) rfl #[.string (⟨#[48, 46, 48, 48, 48, 49]⟩ : ByteArray)] rfl (by (try simp only [List.map_toArray, List.map_cons, List.map_nil]); first | done | rfl | (simp only [List.length_drop, List.length_take]; rfl)) ?_; (with_reducible refine (quant_Parse.calls k (⟨#[48, 46, 48, 48, 48, 49]⟩ : ByteArray) t103 t104 _ A2.out (Glob.below hG (by repeat (first | (with_reducible first | exact HB.out | apply below_alloc | apply pw_below_drewN | apply below_drew1) | exact HB.out)))).mono ?_); rintro e w31 ⟨rfl, hb⟩; refine ⟨_, rfl, ?_⟩; have n0_ := Aside0.mk (below_step (by repeat (first | (with_reducible first | exact HB.out | apply below_alloc | apply pw_below_drewN | apply below_drew1) | exact HB.out)) hb); clear HB; have HB := n0_; clear n0_; (try clear hb); (try clear hb2); (try clear hk); (try clear hi)) | ((with_reducible refine gate_callee (f := 17) rfl ?_); refine goesL_ (some 18) rfl rfl Tryz.func17 (by kernel_rfl) rfl #[.string (⟨#[49, 75]⟩ : ByteArray)] rfl (by (try simp only [List.map_toArray, List.map_cons, List.map_nil]); first | done | rfl | (simp only [List.length_drop, List.length_take]; rfl)) ?_; (with_reducible refine (quant_Parse.calls k (⟨#[49, 75]⟩ : ByteArray) t105 t106 _ A3.out (Glob.below hG (by repeat (first | (with_reducible first | exact HB.out | apply below_alloc | apply pw_below_drewN | apply below_drew1) | exact HB.out)))).mono ?_); rintro e w32 ⟨rfl, hb⟩; refine ⟨_, rfl, ?_⟩; have n0_ := Aside0.mk (below_step (by repeat (first | (with_reducible first | exact HB.out | apply below_alloc | apply pw_below_drewN | apply below_drew1) | exact HB.out)) hb); clear HB; have HB := n0_; clear n0_; (try clear hb); (try clear hb2); (try clear hk); (try clear hi)) | ((with_reducible refine gate_dst (N := 24) rfl ?_); (try (refine gate_guard (by rfl) ?_; dsimp only)); refine Kd.R_lit k57 _ 57 ?hg (N := 24) ?hd (xs := ([(⟨(⟨#[99, 112, 117]⟩ : ByteArray), 1⟩ : S57), (⟨(⟨#[109, 101, 109, 111, 114, 121]⟩ : ByteArray), 2⟩ : S57)] : List (S57))) (inner := [.string (⟨#[99, 112, 117]⟩ : ByteArray), .int .i64 1, .string (⟨#[109, 101, 109, 111, 114, 121]⟩ : ByteArray), .int .i64 2]) (ok := fun _ => True) (okp := fun _ => True) ?hr ?hp (fun _ hk => hk) trivial (Below.refl _ _) (Nat.le_refl _) (by simp) ?_; (case hd => rfl); (case hg => rfl); (case hr => first | (go_simp; done) | (go_simp; rfl)); (case hp => exact (Reps.c2 (show Kd.M k57 _ _ _ (⟨(⟨#[99, 112, 117]⟩ : ByteArray), 1⟩ : S57) [.string (⟨#[99, 112, 117]⟩ : ByteArray), .int .i64 1] from (k57_mkM _ _ _ (⟨(⟨#[99, 112, 117]⟩ : ByteArray), 1⟩ : S57) )) (Reps.c2 (show Kd.M k57 _ _ _ (⟨(⟨#[109, 101, 109, 111, 114, 121]⟩ : ByteArray), 2⟩ : S57) [.string (⟨#[109, 101, 109, 111, 114, 121]⟩ : ByteArray), .int .i64 2] from (k57_mkM _ _ _ (⟨(⟨#[109, 101, 109, 111, 114, 121]⟩ : ByteArray), 2⟩ : S57) )) (Reps.none _ _)))); intro v108 w33 ho34 hb hg_ hnew_; clear hg_ hnew_; (first | rw [← Ny107.out] at ho34 | (simp only [Int.reduceToNat] at ho34; rw [← Ny107.out] at ho34)); have n0_ := Aside0.mk (Kd.R_lower ho34 (below_size (by repeat (first | (with_reducible first | exact HB.out | apply below_alloc | apply pw_below_drewN | apply below_drew1) | exact HB.out)))); have n1_ := Aside0.mk (below_step (by repeat (first | (with_reducible first | exact HB.out | apply below_alloc | apply pw_below_drewN | apply below_drew1) | exact HB.out)) hb); clear HB; have HO109 := n0_; have HB := n1_; clear n0_ n1_; clear hb ho34) | ((with_reducible refine gate_dst (N := 26) rfl ?_); (try (refine gate_guard (by rfl) ?_; dsimp only)); refine Kd.R_lit k57 _ 57 ?hg (N := 26) ?hd (xs := ([(⟨(⟨#[109, 101, 109, 111, 114, 121]⟩ : ByteArray), 3⟩ : S57)] : List (S57))) (inner := [.string (⟨#[109, 101, 109, 111, 114, 121]⟩ : ByteArray), .int .i64 3]) (ok := fun _ => True) (okp := fun _ => True) ?hr ?hp (fun _ hk => hk) trivial (Below.refl _ _) (Nat.le_refl _) (by simp) ?_; (case hd => rfl); (case hg => rfl); (case hr => first | (go_simp; done) | (go_simp; rfl)); (case hp => exact (Reps.c2 (show Kd.M k57 _ _ _ (⟨(⟨#[109, 101, 109, 111, 114, 121]⟩ : ByteArray), 3⟩ : S57) [.string (⟨#[109, 101, 109, 111, 114, 121]⟩ : ByteArray), .int .i64 3] from (k57_mkM _ _ _ (⟨(⟨#[109, 101, 109, 111, 114, 121]⟩ : ByteArray), 3⟩ : S57) )) (Reps.none _ _))); intro v111 w35 ho36 hb hg_ hnew_; clear hg_ hnew_; (first | rw [← Ny110.out] at ho36 | (simp only [Int.reduceToNat] at ho36; rw [← Ny110.out] at ho36)); have n0_ := Aside0.mk (Kd.R_elder' (by (with_reducible repeat (first | apply Kd.R_alloc | apply Kd.R_drewN | apply Kd.R_drew)); exact HO109.out) (Kd.R_base ho36) hb); have n1_ := Aside0.mk (Kd.R_lower (Kd.R_new' ho36 (Kd.R_lt (by (with_reducible repeat (first | apply Kd.R_alloc | apply Kd.R_drewN | apply Kd.R_drew)); exact HO109.out))) (below_size (by repeat (first | (with_reducible first | exact HB.out | apply below_alloc | apply pw_below_drewN | apply below_drew1) | exact HB.out)))); have n2_ := Aside0.mk (below_step (by repeat (first | (with_reducible first | exact HB.out | apply below_alloc | apply pw_below_drewN | apply below_drew1) | exact HB.out)) hb); clear HO109; clear HB; have HO109 := n0_; have HO112 := n1_; have HB := n2_; clear n0_ n1_ n2_; clear hb ho36; obtain ⟨Ao37, co37, eo37⟩ := Kd.R_slice HO109.out; subst eo37; obtain ⟨Ao38, co38, eo38⟩ := Kd.R_slice HO112.out; subst eo38) | ((with_reducible refine gate_callee (f := 41) rfl ?_); refine goesL_ (some 27) rfl rfl Tryz.func41 (by kernel_rfl) rfl #[.slice Ao37 y107.length co37, .slice Ao38 y110.length co38] rfl (by (try simp only [List.map_toArray, List.map_cons, List.map_nil]); first | done | rfl | (simp only [List.length_drop, List.length_take]; rfl)) ?_; (with_reducible refine (quant_Plus.calls k _ _ y107 _ _ y110 t113 t114 _ ?side1 ?side2 ?side3 ?side4 A4.out (Glob.below hG (by repeat (first | (with_reducible first | exact HB.out | apply below_alloc | apply pw_below_drewN | apply below_drew1) | exact HB.out)))).mono ?_); (case side1 => repeat (first | exact (Kd.R_reads' HO109.out).2.2 | (with_reducible refine Kd.C_alloc ?_ _) | (with_reducible refine Kd.C_drewN ?_ _) | (with_reducible refine Kd.C_drew ?_))); (case side2 => exact (Kd.R_reads' HO109.out).2.1); (case side3 => repeat (first | exact (Kd.R_reads' HO112.out).2.2 | (with_reducible refine Kd.C_alloc ?_ _) | (with_reducible refine Kd.C_drewN ?_ _) | (with_reducible refine Kd.C_drew ?_))); (case side4 => exact (Kd.R_reads' HO112.out).2.1); rintro e w39 ⟨v115, rfl, ho0, hb⟩; refine ⟨_, rfl, ?_⟩; have n0_ := Aside0.mk (Kd.R_elder' (by (with_reducible repeat (first | apply Kd.R_alloc | apply Kd.R_drewN | apply Kd.R_drew)); exact HO109.out) (Kd.R_base ho0) hb); have n1_ := Aside0.mk (Kd.R_elder' (by (with_reducible repeat (first | apply Kd.R_alloc | apply Kd.R_drewN | apply Kd.R_drew)); exact HO112.out) (Kd.R_base ho0) hb); have n2_ := Aside0.mk (Kd.R_lower (Kd.R_new' (Kd.R_new' ho0 (Kd.R_lt (by (with_reducible repeat (first | apply Kd.R_alloc | apply Kd.R_drewN | apply Kd.R_drew)); exact HO109.out))) (Kd.R_lt (by (with_reducible repeat (first | apply Kd.R_alloc | apply Kd.R_drewN | apply Kd.R_drew)); exact HO112.out))) (below_size (by repeat (first | (with_reducible first | exact HB.out | apply below_alloc | apply pw_below_drewN | apply below_drew1) | exact HB.out)))); have n3_ := Aside0.mk (below_step (by repeat (first | (with_reducible first | exact HB.out | apply below_alloc | apply pw_below_drewN | apply below_drew1) | exact HB.out)) hb); clear HO109; clear HO112; clear HB; have HO109 := n0_; have HO112 := n1_; have HO116 := n2_; have HB := n3_; clear n0_ n1_ n2_ n3_; (try clear hb); (try clear hb2); (try clear hk); (try clear hi); (try clear ho0); obtain ⟨Ao40, co40, eo40⟩ := Kd.R_slice HO116.out; subst eo40; have p117 : 0 ≤ (1 : Int) := (by omega); have q117 : 1 < (t113.length : Int) := of_decide_eq_true (by first | (with_reducible assumption) | assumption); obtain ⟨ad117, e117, hx117_0, hx117_1⟩ := at_T57 (Kd.R_reads' HO116.out).2.2 1 p117 q117; cases e117; (try simp only [show (1 : Int).toNat = 1 from rfl, Nat.reduceMul, Nat.reduceEqDiff, Go.Addr.add, ↓reduceIte] at hx117_0); (try simp only [show (1 : Int).toNat = 1 from rfl, Nat.reduceMul, Nat.reduceEqDiff, Go.Addr.add, ↓reduceIte] at hx117_1); have qi117 : (1 < t113.length) = True := eq_true (by omega); (try rw [show ((1 : Int)).toNat = 1 from rfl] at hx117_0); (try rw [show 1 * 2 = 2 from rfl] at hx117_0); (try rw [show ((1 : Int)).toNat = 1 from rfl] at hx117_1); (try rw [show 1 * 2 = 2 from rfl] at hx117_1); replace p117 := eq_true p117; replace q117 := eq_true q117) | (go_at_call 19; (with_reducible refine (quant_Print.calls k 1024000 t118 _ A14.out (Glob.below hG (by repeat (first | (with_reducible first | exact HB.out | apply below_alloc | apply pw_below_drewN | apply below_drew1) | exact HB.out)))).mono ?_); rintro e w41 ⟨rfl, hb⟩; have n0_ := Aside0.mk (Kd.R_below (by (with_reducible repeat (first | apply Kd.R_alloc | apply Kd.R_drewN | apply Kd.R_drew)); exact HO109.out) hb); have n1_ := Aside0.mk (Kd.R_below (by (with_reducible repeat (first | apply Kd.R_alloc | apply Kd.R_drewN | apply Kd.R_drew)); exact HO112.out) hb); have n2_ := Aside0.mk (Kd.R_below (by (with_reducible repeat (first | apply Kd.R_alloc | apply Kd.R_drewN | apply Kd.R_drew)); exact HO116.out) hb); have n3_ := Aside0.mk (below_step (by repeat (first | (with_reducible first | exact HB.out | apply below_alloc | apply pw_below_drewN | apply below_drew1) | exact HB.out)) hb); clear HO109; clear HO112; clear HO116; clear HB; have HO109 := n0_; have HO112 := n1_; have HO116 := n2_; have HB := n3_; clear n0_ n1_ n2_ n3_; (try clear hb); (try clear hb2); (try clear hk); (try clear hi)))
           go_ret
           exact ⟨by first | rfl | (simp [errW_none, errW_some] <;> rfl) | (simp [*, errW_none, errW_some] <;> rfl), by repeat (first | (with_reducible first | exact HB.out | apply below_alloc | apply pw_below_drewN | apply below_drew1) | exact HB.out)⟩
         ·rw [if_neg c13] at H
          have c13b0 : ((((rd_T57 t113 1).f0).toList) == ([109, 101, 109, 111, 114, 121] : List UInt8) && (((rd_T57 t113 1).f1) == 5)) = false := by simpa using c13
          (try (have c13b1 : decide ((((rd_T57 t113 1).f0).toList) = ([109, 101, 109, 111, 114, 121] : List UInt8) && (((rd_T57 t113 1).f1) == 5)) = false := by simpa using c13))
          (try (have c13b2 : ((((rd_T57 t113 1).f0).toList) == ([109, 101, 109, 111, 114, 121] : List UInt8) && (((rd_T57 t113 1).f1) == 5)) = false := by simpa using c13))
          (try (have c13b3 : ¬ ((((rd_T57 t113 1).f0).toList) = ([109, 101, 109, 111, 114, 121] : List UInt8) && (((rd_T57 t113 1).f1) == 5)) := by simpa using c13))
          clear c13
          obtain rfl := Option.some.inj H
          go_enter Tryz.func16, Tryz.ntmps16
          go_wp2_with (first | ((with_reducible refine gate_callee (f := 17) rfl ?_); refine goesL_ (some 10) rfl rfl Tryz.func17 (by kernel_rfl) rfl #[.string (⟨#[49, 46, 53, 75, 105]⟩ : ByteArray)] rfl (by (try simp only [List.map_toArray, List.map_cons, List.map_nil]); first | done | rfl | (simp only [List.length_drop, List.length_take]; rfl)) ?_; (with_reducible refine (quant_Parse.calls k (⟨#[49, 46, 53, 75, 105]⟩ : ByteArray) t101 t102 _ A1.out (Glob.below hG (by repeat (first | (with_reducible first | exact HB.out | apply below_alloc | apply pw_below_drewN | apply below_drew1) | exact HB.out)))).mono ?_); rintro e w42 ⟨rfl, hb⟩; refine ⟨_, rfl, ?_⟩; have n0_ := Aside0.mk (below_step (by repeat (first | (with_reducible first | exact HB.out | apply below_alloc | apply pw_below_drewN | apply below_drew1) | exact HB.out)) hb); clear HB; have HB := n0_; clear n0_; (try clear hb); (try clear hb2); (try clear hk); (try clear hi)) | ((with_reducible refine gate_callee (f := 17) rfl ?_); refine goesL_ (some 14) rfl rfl Tryz.func17 (by kernel_rfl) rfl #[.string (⟨#[48, 46, 48, 48, 48, 49]⟩ : ByteArray)] rfl (by (try simp only [List.map_toArray, List.map_cons, List.map_nil]); first | done | rfl | (simp only [List.length_drop, List.length_take]; rfl)) ?_; (with_reducible refine (quant_Parse.calls k (⟨#[48, 46, 48, 48, 48, 49]⟩ : ByteArray) t103 t104 _ A2.out (Glob.below hG (by repeat (first | (with_reducible first | exact HB.out | apply below_alloc | apply pw_below_drewN | apply below_drew1) | exact HB.out)))).mono ?_); rintro e w43 ⟨rfl, hb⟩; refine ⟨_, rfl, ?_⟩; have n0_ := Aside0.mk (below_step (by repeat (first | (with_reducible first | exact HB.out | apply below_alloc | apply pw_below_drewN | apply below_drew1) | exact HB.out)) hb); clear HB; have HB := n0_; clear n0_; (try clear hb); (try clear hb2); (try clear hk); (try clear hi)) | ((with_reducible refine gate_callee (f := 17) rfl ?_); refine goesL_ (some 18) rfl rfl Tryz.func17 (by kernel_rfl) rfl #[.string (⟨#[49, 75]⟩ : ByteArray)] rfl (by (try simp only [List.map_toArray, List.map_cons, List.map_nil]); first | done | rfl | (simp only [List.length_drop, List.length_take]; rfl)) ?_; (with_reducible refine (quant_Parse.calls k (⟨#[49, 75]⟩ : ByteArray) t105 t106 _ A3.out (Glob.below hG (by repeat (first | (with_reducible first | exact HB.out | apply below_alloc | apply pw_below_drewN | apply below_drew1) | exact HB.out)))).mono ?_); rintro e w44 ⟨rfl, hb⟩; refine ⟨_, rfl, ?_⟩; have n0_ := Aside0.mk (below_step (by repeat (first | (with_reducible first | exact HB.out | apply below_alloc | apply pw_below_drewN | apply below_drew1) | exact HB.out)) hb); clear HB; have HB := n0_; clear n0_; (try clear hb); (try clear hb2); (try clear hk); (try clear hi)) | ((with_reducible refine gate_dst (N := 24) rfl ?_); (try (refine gate_guard (by rfl) ?_; dsimp only)); refine Kd.R_lit k57 _ 57 ?hg (N := 24) ?hd (xs := ([(⟨(⟨#[99, 112, 117]⟩ : ByteArray), 1⟩ : S57), (⟨(⟨#[109, 101, 109, 111, 114, 121]⟩ : ByteArray), 2⟩ : S57)] : List (S57))) (inner := [.string (⟨#[99, 112, 117]⟩ : ByteArray), .int .i64 1, .string (⟨#[109, 101, 109, 111, 114, 121]⟩ : ByteArray), .int .i64 2]) (ok := fun _ => True) (okp := fun _ => True) ?hr ?hp (fun _ hk => hk) trivial (Below.refl _ _) (Nat.le_refl _) (by simp) ?_; (case hd => rfl); (case hg => rfl); (case hr => first | (go_simp; done) | (go_simp; rfl)); (case hp => exact (Reps.c2 (show Kd.M k57 _ _ _ (⟨(⟨#[99, 112, 117]⟩ : ByteArray), 1⟩ : S57) [.string (⟨#[99, 112, 117]⟩ : ByteArray), .int .i64 1] from (k57_mkM _ _ _ (⟨(⟨#[99, 112, 117]⟩ : ByteArray), 1⟩ : S57) )) (Reps.c2 (show Kd.M k57 _ _ _ (⟨(⟨#[109, 101, 109, 111, 114, 121]⟩ : ByteArray), 2⟩ : S57) [.string (⟨#[109, 101, 109, 111, 114, 121]⟩ : ByteArray), .int .i64 2] from (k57_mkM _ _ _ (⟨(⟨#[109, 101, 109, 111, 114, 121]⟩ : ByteArray), 2⟩ : S57) )) (Reps.none _ _)))); intro v108 w45 ho46 hb hg_ hnew_; clear hg_ hnew_; (first | rw [← Ny107.out] at ho46 | (simp only [Int.reduceToNat] at ho46; rw [← Ny107.out] at ho46)); have n0_ := Aside0.mk (Kd.R_lower ho46 (below_size (by repeat (first | (with_reducible first | exact HB.out | apply below_alloc | apply pw_below_drewN | apply below_drew1) | exact HB.out)))); have n1_ := Aside0.mk (below_step (by repeat (first | (with_reducible first | exact HB.out | apply below_alloc | apply pw_below_drewN | apply below_drew1) | exact HB.out)) hb); clear HB; have HO109 := n0_; have HB := n1_; clear n0_ n1_; clear hb ho46) | ((with_reducible refine gate_dst (N := 26) rfl ?_); (try (refine gate_guard (by rfl) ?_; dsimp only)); refine Kd.R_lit k57 _ 57 ?hg (N := 26) ?hd (xs := ([(⟨(⟨#[109, 101, 109, 111, 114, 121]⟩ : ByteArray), 3⟩ : S57)] : List (S57))) (inner := [.string (⟨#[109, 101, 109, 111, 114, 121]⟩ : ByteArray), .int .i64 3]) (ok := fun _ => True) (okp := fun _ => True) ?hr ?hp (fun _ hk => hk) trivial (Below.refl _ _) (Nat.le_refl _) (by simp) ?_; (case hd => rfl); (case hg => rfl); (case hr => first | (go_simp; done) | (go_simp; rfl)); (case hp => exact (Reps.c2 (show Kd.M k57 _ _ _ (⟨(⟨#[109, 101, 109, 111, 114, 121]⟩ : ByteArray), 3⟩ : S57) [.string (⟨#[109, 101, 109, 111, 114, 121]⟩ : ByteArray), .int .i64 3] from (k57_mkM _ _ _ (⟨(⟨#[109, 101, 109, 111, 114, 121]⟩ : ByteArray), 3⟩ : S57) )) (Reps.none _ _))); intro v111 w47 ho48 hb hg_ hnew_; clear hg_ hnew_; (first | rw [← Ny110.out] at ho48 | (simp only [Int.reduceToNat] at ho48; rw [← Ny110.out] at ho48)); have n0_ := Aside0.mk (Kd.R_elder' (by (with_reducible repeat (first | apply Kd.R_alloc | apply Kd.R_drewN | apply Kd.R_drew)); exact HO109.out) (Kd.R_base ho48) hb); have n1_ := Aside0.mk (Kd.R_lower (Kd.R_new' ho48 (Kd.R_lt (by (with_reducible repeat (first | apply Kd.R_alloc | apply Kd.R_drewN | apply Kd.R_drew)); exact HO109.out))) (below_size (by repeat (first | (with_reducible first | exact HB.out | apply below_alloc | apply pw_below_drewN | apply below_drew1) | exact HB.out)))); have n2_ := Aside0.mk (below_step (by repeat (first | (with_reducible first | exact HB.out | apply below_alloc | apply pw_below_drewN | apply below_drew1) | exact HB.out)) hb); clear HO109; clear HB; have HO109 := n0_; have HO112 := n1_; have HB := n2_; clear n0_ n1_ n2_; clear hb ho48; obtain ⟨Ao49, co49, eo49⟩ := Kd.R_slice HO109.out; subst eo49; obtain ⟨Ao50, co50, eo50⟩ := Kd.R_slice HO112.out; subst eo50) | ((with_reducible refine gate_callee (f := 41) rfl ?_); refine goesL_ (some 27) rfl rfl Tryz.func41 (by kernel_rfl) rfl #[.slice Ao49 y107.length co49, .slice Ao50 y110.length co50] rfl (by (try simp only [List.map_toArray, List.map_cons, List.map_nil]); first | done | rfl | (simp only [List.length_drop, List.length_take]; rfl)) ?_; (with_reducible refine (quant_Plus.calls k _ _ y107 _ _ y110 t113 t114 _ ?side1 ?side2 ?side3 ?side4 A4.out (Glob.below hG (by repeat (first | (with_reducible first | exact HB.out | apply below_alloc | apply pw_below_drewN | apply below_drew1) | exact HB.out)))).mono ?_); (case side1 => repeat (first | exact (Kd.R_reads' HO109.out).2.2 | (with_reducible refine Kd.C_alloc ?_ _) | (with_reducible refine Kd.C_drewN ?_ _) | (with_reducible refine Kd.C_drew ?_))); (case side2 => exact (Kd.R_reads' HO109.out).2.1); (case side3 => repeat (first | exact (Kd.R_reads' HO112.out).2.2 | (with_reducible refine Kd.C_alloc ?_ _) | (with_reducible refine Kd.C_drewN ?_ _) | (with_reducible refine Kd.C_drew ?_))); (case side4 => exact (Kd.R_reads' HO112.out).2.1); rintro e w51 ⟨v115, rfl, ho0, hb⟩; refine ⟨_, rfl, ?_⟩; have n0_ := Aside0.mk (Kd.R_elder' (by (with_reducible repeat (first | apply Kd.R_alloc | apply Kd.R_drewN | apply Kd.R_drew)); exact HO109.out) (Kd.R_base ho0) hb); have n1_ := Aside0.mk (Kd.R_elder' (by (with_reducible repeat (first | apply Kd.R_alloc | apply Kd.R_drewN | apply Kd.R_drew)); exact HO112.out) (Kd.R_base ho0) hb); have n2_ := Aside0.mk (Kd.R_lower (Kd.R_new' (Kd.R_new' ho0 (Kd.R_lt (by (with_reducible repeat (first | apply Kd.R_alloc | apply Kd.R_drewN | apply Kd.R_drew)); exact HO109.out))) (Kd.R_lt (by (with_reducible repeat (first | apply Kd.R_alloc | apply Kd.R_drewN | apply Kd.R_drew)); exact HO112.out))) (below_size (by repeat (first | (with_reducible first | exact HB.out | apply below_alloc | apply pw_below_drewN | apply below_drew1) | exact HB.out)))); have n3_ := Aside0.mk (below_step (by repeat (first | (with_reducible first | exact HB.out | apply below_alloc | apply pw_below_drewN | apply below_drew1) | exact HB.out)) hb); clear HO109; clear HO112; clear HB; have HO109 := n0_; have HO112 := n1_; have HO116 := n2_; have HB := n3_; clear n0_ n1_ n2_ n3_; (try clear hb); (try clear hb2); (try clear hk); (try clear hi); (try clear ho0); obtain ⟨Ao52, co52, eo52⟩ := Kd.R_slice HO116.out; subst eo52; have p117 : 0 ≤ (1 : Int) := (by omega); have q117 : 1 < (t113.length : Int) := of_decide_eq_true (by first | (with_reducible assumption) | assumption); obtain ⟨ad117, e117, hx117_0, hx117_1⟩ := at_T57 (Kd.R_reads' HO116.out).2.2 1 p117 q117; cases e117; (try simp only [show (1 : Int).toNat = 1 from rfl, Nat.reduceMul, Nat.reduceEqDiff, Go.Addr.add, ↓reduceIte] at hx117_0); (try simp only [show (1 : Int).toNat = 1 from rfl, Nat.reduceMul, Nat.reduceEqDiff, Go.Addr.add, ↓reduceIte] at hx117_1); have qi117 : (1 < t113.length) = True := eq_true (by omega); (try rw [show ((1 : Int)).toNat = 1 from rfl] at hx117_0); (try rw [show 1 * 2 = 2 from rfl] at hx117_0); (try rw [show ((1 : Int)).toNat = 1 from rfl] at hx117_1); (try rw [show 1 * 2 = 2 from rfl] at hx117_1); replace p117 := eq_true p117; replace q117 := eq_true q117))
          go_ret
          exact ⟨by first | rfl | (simp [errW_none, errW_some] <;> rfl) | (simp [*, errW_none, errW_some] <;> rfl), by repeat (first | (with_reducible first | exact HB.out | apply below_alloc | apply pw_below_drewN | apply below_drew1) | exact HB.out)⟩
        ·rw [if_neg c12] at H
         exact absurd H (by simp)
       ·rw [if_neg c11] at H
        have c11b0 : ((t113.length : Int) == 2) = false := beq_eq_false_iff_ne.mpr c11
        have c11b1 : ((t113.length : Int) != 2) = true := bne_iff_ne.mpr c11
        obtain rfl := Option.some.inj H
        go_enter Tryz.func16, Tryz.ntmps16
        go_wp2_with (first | ((with_reducible refine gate_callee (f := 17) rfl ?_); refine goesL_ (some 10) rfl rfl Tryz.func17 (by kernel_rfl) rfl #[.string (⟨#[49, 46, 53, 75, 105]⟩ : ByteArray)] rfl (by (try simp only [List.map_toArray, List.map_cons, List.map_nil]); first | done | rfl | (simp only [List.length_drop, List.length_take]; rfl)) ?_; (with_reducible refine (quant_Parse.calls k (⟨#[49, 46, 53, 75, 105]⟩ : ByteArray) t101 t102 _ A1.out (Glob.below hG (by repeat (first | (with_reducible first | exact HB.out | apply below_alloc | apply pw_below_drewN | apply below_drew1) | exact HB.out)))).mono ?_); rintro e w53 ⟨rfl, hb⟩; refine ⟨_, rfl, ?_⟩; have n0_ := Aside0.mk (below_step (by repeat (first | (with_reducible first | exact HB.out | apply below_alloc | apply pw_below_drewN | apply below_drew1) | exact HB.out)) hb); clear HB; have HB := n0_; clear n0_; (try clear hb); (try clear hb2); (try clear hk); (try clear hi)) | ((with_reducible refine gate_callee (f := 17) rfl ?_); refine goesL_ (some 14) rfl rfl Tryz.func17 (by kernel_rfl) rfl #[.string (⟨#[48, 46, 48, 48, 48, 49]⟩ : ByteArray)] rfl (by (try simp only [List.map_toArray, List.map_cons, List.map_nil]); first | done | rfl | (simp only [List.length_drop, List.length_take]; rfl)) ?_; (with_reducible refine (quant_Parse.calls k (⟨#[48, 46, 48, 48, 48, 49]⟩ : ByteArray) t103 t104 _ A2.out (Glob.below hG (by repeat (first | (with_reducible first | exact HB.out | apply below_alloc | apply pw_below_drewN | apply below_drew1) | exact HB.out)))).mono ?_); rintro e w54 ⟨rfl, hb⟩; refine ⟨_, rfl, ?_⟩; have n0_ := Aside0.mk (below_step (by repeat (first | (with_reducible first | exact HB.out | apply below_alloc | apply pw_below_drewN | apply below_drew1) | exact HB.out)) hb); clear HB; have HB := n0_; clear n0_; (try clear hb); (try clear hb2); (try clear hk); (try clear hi)) | ((with_reducible refine gate_callee (f := 17) rfl ?_); refine goesL_ (some 18) rfl rfl Tryz.func17 (by kernel_rfl) rfl #[.string (⟨#[49, 75]⟩ : ByteArray)] rfl (by (try simp only [List.map_toArray, List.map_cons, List.map_nil]); first | done | rfl | (simp only [List.length_drop, List.length_take]; rfl)) ?_; (with_reducible refine (quant_Parse.calls k (⟨#[49, 75]⟩ : ByteArray) t105 t106 _ A3.out (Glob.below hG (by repeat (first | (with_reducible first | exact HB.out | apply below_alloc | apply pw_below_drewN | apply below_drew1) | exact HB.out)))).mono ?_); rintro e w55 ⟨rfl, hb⟩; refine ⟨_, rfl, ?_⟩; have n0_ := Aside0.mk (below_step (by repeat (first | (with_reducible first | exact HB.out | apply below_alloc | apply pw_below_drewN | apply below_drew1) | exact HB.out)) hb); clear HB; have HB := n0_; clear n0_; (try clear hb); (try clear hb2); (try clear hk); (try clear hi)) | ((with_reducible refine gate_dst (N := 24) rfl ?_); (try (refine gate_guard (by rfl) ?_; dsimp only)); refine Kd.R_lit k57 _ 57 ?hg (N := 24) ?hd (xs := ([(⟨(⟨#[99, 112, 117]⟩ : ByteArray), 1⟩ : S57), (⟨(⟨#[109, 101, 109, 111, 114, 121]⟩ : ByteArray), 2⟩ : S57)] : List (S57))) (inner := [.string (⟨#[99, 112, 117]⟩ : ByteArray), .int .i64 1, .string (⟨#[109, 101, 109, 111, 114, 121]⟩ : ByteArray), .int .i64 2]) (ok := fun _ => True) (okp := fun _ => True) ?hr ?hp (fun _ hk => hk) trivial (Below.refl _ _) (Nat.le_refl _) (by simp) ?_; (case hd => rfl); (case hg => rfl); (case hr => first | (go_simp; done) | (go_simp; rfl)); (case hp => exact (Reps.c2 (show Kd.M k57 _ _ _ (⟨(⟨#[99, 112, 117]⟩ : ByteArray), 1⟩ : S57) [.string (⟨#[99, 112, 117]⟩ : ByteArray), .int .i64 1] from (k57_mkM _ _ _ (⟨(⟨#[99, 112, 117]⟩ : ByteArray), 1⟩ : S57) )) (Reps.c2 (show Kd.M k57 _ _ _ (⟨(⟨#[109, 101, 109, 111, 114, 121]⟩ : ByteArray), 2⟩ : S57) [.string (⟨#[109, 101, 109, 111, 114, 121]⟩ : ByteArray), .int .i64 2] from (k57_mkM _ _ _ (⟨(⟨#[109, 101, 109, 111, 114, 121]⟩ : ByteArray), 2⟩ : S57) )) (Reps.none _ _)))); intro v108 w56 ho57 hb hg_ hnew_; clear hg_ hnew_; (first | rw [← Ny107.out] at ho57 | (simp only [Int.reduceToNat] at ho57; rw [← Ny107.out] at ho57)); have n0_ := Aside0.mk (Kd.R_lower ho57 (below_size (by repeat (first | (with_reducible first | exact HB.out | apply below_alloc | apply pw_below_drewN | apply below_drew1) | exact HB.out)))); have n1_ := Aside0.mk (below_step (by repeat (first | (with_reducible first | exact HB.out | apply below_alloc | apply pw_below_drewN | apply below_drew1) | exact HB.out)) hb); clear HB; have HO109 := n0_; have HB := n1_; clear n0_ n1_; clear hb ho57) | ((with_reducible refine gate_dst (N := 26) rfl ?_); (try (refine gate_guard (by rfl) ?_; dsimp only)); refine Kd.R_lit k57 _ 57 ?hg (N := 26) ?hd (xs := ([(⟨(⟨#[109, 101, 109, 111, 114, 121]⟩ : ByteArray), 3⟩ : S57)] : List (S57))) (inner := [.string (⟨#[109, 101, 109, 111, 114, 121]⟩ : ByteArray), .int .i64 3]) (ok := fun _ => True) (okp := fun _ => True) ?hr ?hp (fun _ hk => hk) trivial (Below.refl _ _) (Nat.le_refl _) (by simp) ?_; (case hd => rfl); (case hg => rfl); (case hr => first | (go_simp; done) | (go_simp; rfl)); (case hp => exact (Reps.c2 (show Kd.M k57 _ _ _ (⟨(⟨#[109, 101, 109, 111, 114, 121]⟩ : ByteArray), 3⟩ : S57) [.string (⟨#[109, 101, 109, 111, 114, 121]⟩ : ByteArray), .int .i64 3] from (k57_mkM _ _ _ (⟨(⟨#[109, 101, 109, 111, 114, 121]⟩ : ByteArray), 3⟩ : S57) )) (Reps.none _ _))); intro v111 w58 ho59 hb hg_ hnew_; clear hg_ hnew_; (first | rw [← Ny110.out] at ho59 | (simp only [Int.reduceToNat] at ho59; rw [← Ny110.out] at ho59)); have n0_ := Aside0.mk (Kd.R_elder' (by (with_reducible repeat (first | apply Kd.R_alloc | apply Kd.R_drewN | apply Kd.R_drew)); exact HO109.out) (Kd.R_base ho59) hb); have n1_ := Aside0.mk (Kd.R_lower (Kd.R_new' ho59 (Kd.R_lt (by (with_reducible repeat (first | apply Kd.R_alloc | apply Kd.R_drewN | apply Kd.R_drew)); exact HO109.out))) (below_size (by repeat (first | (with_reducible first | exact HB.out | apply below_alloc | apply pw_below_drewN | apply below_drew1) | exact HB.out)))); have n2_ := Aside0.mk (below_step (by repeat (first | (with_reducible first | exact HB.out | apply below_alloc | apply pw_below_drewN | apply below_drew1) | exact HB.out)) hb); clear HO109; clear HB; have HO109 := n0_; have HO112 := n1_; have HB := n2_; clear n0_ n1_ n2_; clear hb ho59; obtain ⟨Ao60, co60, eo60⟩ := Kd.R_slice HO109.out; subst eo60; obtain ⟨Ao61, co61, eo61⟩ := Kd.R_slice HO112.out; subst eo61) | ((with_reducible refine gate_callee (f := 41) rfl ?_); refine goesL_ (some 27) rfl rfl Tryz.func41 (by kernel_rfl) rfl #[.slice Ao60 y107.length co60, .slice Ao61 y110.length co61] rfl (by (try simp only [List.map_toArray, List.map_cons, List.map_nil]); first | done | rfl | (simp only [List.length_drop, List.length_take]; rfl)) ?_; (with_reducible refine (quant_Plus.calls k _ _ y107 _ _ y110 t113 t114 _ ?side1 ?side2 ?side3 ?side4 A4.out (Glob.below hG (by repeat (first | (with_reducible first | exact HB.out | apply below_alloc | apply pw_below_drewN | apply below_drew1) | exact HB.out)))).mono ?_); (case side1 => repeat (first | exact (Kd.R_reads' HO109.out).2.2 | (with_reducible refine Kd.C_alloc ?_ _) | (with_reducible refine Kd.C_drewN ?_ _) | (with_reducible refine Kd.C_drew ?_))); (case side2 => exact (Kd.R_reads' HO109.out).2.1); (case side3 => repeat (first | exact (Kd.R_reads' HO112.out).2.2 | (with_reducible refine Kd.C_alloc ?_ _) | (with_reducible refine Kd.C_drewN ?_ _) | (with_reducible refine Kd.C_drew ?_))); (case side4 => exact (Kd.R_reads' HO112.out).2.1); rintro e w62 ⟨v115, rfl, ho0, hb⟩; refine ⟨_, rfl, ?_⟩; have n0_ := Aside0.mk (Kd.R_elder' (by (with_reducible repeat (first | apply Kd.R_alloc | apply Kd.R_drewN | apply Kd.R_drew)); exact HO109.out) (Kd.R_base ho0) hb); have n1_ := Aside0.mk (Kd.R_elder' (by (with_reducible repeat (first | apply Kd.R_alloc | apply Kd.R_drewN | apply Kd.R_drew)); exact HO112.out) (Kd.R_base ho0) hb); have n2_ := Aside0.mk (Kd.R_lower (Kd.R_new' (Kd.R_new' ho0 (Kd.R_lt (by (with_reducible repeat (first | apply Kd.R_alloc | apply Kd.R_drewN | apply Kd.R_drew)); exact HO109.out))) (Kd.R_lt (by (with_reducible repeat (first | apply Kd.R_alloc | apply Kd.R_drewN | apply Kd.R_drew)); exact HO112.out))) (below_size (by repeat (first | (with_reducible first | exact HB.out | apply below_alloc | apply pw_below_drewN | apply below_drew1) | exact HB.out)))); have n3_ := Aside0.mk (below_step (by repeat (first | (with_reducible first | exact HB.out | apply below_alloc | apply pw_below_drewN | apply below_drew1) | exact HB.out)) hb); clear HO109; clear HO112; clear HB; have HO109 := n0_; have HO112 := n1_; have HO116 := n2_; have HB := n3_; clear n0_ n1_ n2_ n3_; (try clear hb); (try clear hb2); (try clear hk); (try clear hi); (try clear ho0); obtain ⟨Ao63, co63, eo63⟩ := Kd.R_slice HO116.out; subst eo63))
        go_ret
        exact ⟨by first | rfl | (simp [errW_none, errW_some] <;> rfl) | (simp [*, errW_none, errW_some] <;> rfl), by repeat (first | (with_reducible first | exact HB.out | apply below_alloc | apply pw_below_drewN | apply below_drew1) | exact HB.out)⟩
      ·rw [if_neg c10] at H
       have c10b0 : (t114 == 0) = false := beq_eq_false_iff_ne.mpr c10
       have c10b1 : (t114 != 0) = true := bne_iff_ne.mpr c10
       obtain rfl := Option.some.inj H
       go_enter Tryz.func16, Tryz.ntmps16
       go_wp2_with (first | ((with_reducible refine gate_callee (f := 17) rfl ?_); refine goesL_ (some 10) rfl rfl Tryz.func17 (by kernel_rfl) rfl #[.string (⟨#[49, 46, 53, 75, 105]⟩ : ByteArray)] rfl (by (try simp only [List.map_toArray, List.map_cons, List.map_nil]); first | done | rfl | (simp only [List.length_drop, List.length_take]; rfl)) ?_; (with_reducible refine (quant_Parse.calls k (⟨#[49, 46, 53, 75, 105]⟩ : ByteArray) t101 t102 _ A1.out (Glob.below hG (by repeat (first | (with_reducible first | exact HB.out | apply below_alloc | apply pw_below_drewN | apply below_drew1) | exact HB.out)))).mono ?_); rintro e w64 ⟨rfl, hb⟩; refine ⟨_, rfl, ?_⟩; have n0_ := Aside0.mk (below_step (by repeat (first | (with_reducible first | exact HB.out | apply below_alloc | apply pw_below_drewN | apply below_drew1) | exact HB.out)) hb); clear HB; have HB := n0_; clear n0_; (try clear hb); (try clear hb2); (try clear hk); (try clear hi)) | ((with_reducible refine gate_callee (f := 17) rfl ?_); refine goesL_ (some 14) rfl rfl Tryz.func17 (by kernel_rfl) rfl #[.string (⟨#[48, 46, 48, 48, 48, 49]⟩ : ByteArray)] rfl (by (try simp only [List.map_toArray, List.map_cons, List.map_nil]); first | done | rfl | (simp only [List.length_drop, List.length_take]; rfl)) ?_; (with_reducible refine (quant_Parse.calls k (⟨#[48, 46, 48, 48, 48, 49]⟩ : ByteArray) t103 t104 _ A2.out (Glob.below hG (by repeat (first | (with_reducible first | exact HB.out | apply below_alloc | apply pw_below_drewN | apply below_drew1) | exact HB.out)))).mono ?_); rintro e w65 ⟨rfl, hb⟩; refine ⟨_, rfl, ?_⟩; have n0_ := Aside0.mk (below_step (by repeat (first | (with_reducible first | exact HB.out | apply below_alloc | apply pw_below_drewN | apply below_drew1) | exact HB.out)) hb); clear HB; have HB := n0_; clear n0_; (try clear hb); (try clear hb2); (try clear hk); (try clear hi)) | ((with_reducible refine gate_callee (f := 17) rfl ?_); refine goesL_ (some 18) rfl rfl Tryz.func17 (by kernel_rfl) rfl #[.string (⟨#[49, 75]⟩ : ByteArray)] rfl (by (try simp only [List.map_toArray, List.map_cons, List.map_nil]); first | done | rfl | (simp only [List.length_drop, List.length_take]; rfl)) ?_; (with_reducible refine (quant_Parse.calls k (⟨#[49, 75]⟩ : ByteArray) t105 t106 _ A3.out (Glob.below hG (by repeat (first | (with_reducible first | exact HB.out | apply below_alloc | apply pw_below_drewN | apply below_drew1) | exact HB.out)))).mono ?_); rintro e w66 ⟨rfl, hb⟩; refine ⟨_, rfl, ?_⟩; have n0_ := Aside0.mk (below_step (by repeat (first | (with_reducible first | exact HB.out | apply below_alloc | apply pw_below_drewN | apply below_drew1) | exact HB.out)) hb); clear HB; have HB := n0_; clear n0_; (try clear hb); (try clear hb2); (try clear hk); (try clear hi)) | ((with_reducible refine gate_dst (N := 24) rfl ?_); (try (refine gate_guard (by rfl) ?_; dsimp only)); refine Kd.R_lit k57 _ 57 ?hg (N := 24) ?hd (xs := ([(⟨(⟨#[99, 112, 117]⟩ : ByteArray), 1⟩ : S57), (⟨(⟨#[109, 101, 109, 111, 114, 121]⟩ : ByteArray), 2⟩ : S57)] : List (S57))) (inner := [.string (⟨#[99, 112, 117]⟩ : ByteArray), .int .i64 1, .string (⟨#[109, 101, 109, 111, 114, 121]⟩ : ByteArray), .int .i64 2]) (ok := fun _ => True) (okp := fun _ => True) ?hr ?hp (fun _ hk => hk) trivial (Below.refl _ _) (Nat.le_refl _) (by simp) ?_; (case hd => rfl); (case hg => rfl); (case hr => first | (go_simp; done) | (go_simp; rfl)); (case hp => exact (Reps.c2 (show Kd.M k57 _ _ _ (⟨(⟨#[99, 112, 117]⟩ : ByteArray), 1⟩ : S57) [.string (⟨#[99, 112, 117]⟩ : ByteArray), .int .i64 1] from (k57_mkM _ _ _ (⟨(⟨#[99, 112, 117]⟩ : ByteArray), 1⟩ : S57) )) (Reps.c2 (show Kd.M k57 _ _ _ (⟨(⟨#[109, 101, 109, 111, 114, 121]⟩ : ByteArray), 2⟩ : S57) [.string (⟨#[109, 101, 109, 111, 114, 121]⟩ : ByteArray), .int .i64 2] from (k57_mkM _ _ _ (⟨(⟨#[109, 101, 109, 111, 114, 121]⟩ : ByteArray), 2⟩ : S57) )) (Reps.none _ _)))); intro v108 w67 ho68 hb hg_ hnew_; clear hg_ hnew_; (first | rw [← Ny107.out] at ho68 | (simp only [Int.reduceToNat] at ho68; rw [← Ny107.out] at ho68)); have n0_ := Aside0.mk (Kd.R_lower ho68 (below_size (by repeat (first | (with_reducible first | exact HB.out | apply below_alloc | apply pw_below_drewN | apply below_drew1) | exact HB.out)))); have n1_ := Aside0.mk (below_step (by repeat (first | (with_reducible first | exact HB.out | apply below_alloc | apply pw_below_drewN | apply below_drew1) | exact HB.out)) hb); clear HB; have HO109 := n0_; have HB := n1_; clear n0_ n1_; clear hb ho68) | ((with_reducible refine gate_dst (N := 26) rfl ?_); (try (refine gate_guard (by rfl) ?_; dsimp only)); refine Kd.R_lit k57 _ 57 ?hg (N := 26) ?hd (xs := ([(⟨(⟨#[109, 101, 109, 111, 114, 121]⟩ : ByteArray), 3⟩ : S57)] : List (S57))) (inner := [.string (⟨#[109, 101, 109, 111, 114, 121]⟩ : ByteArray), .int .i64 3]) (ok := fun _ => True) (okp := fun _ => True) ?hr ?hp (fun _ hk => hk) trivial (Below.refl _ _) (Nat.le_refl _) (by simp) ?_; (case hd => rfl); (case hg => rfl); (case hr => first | (go_simp; done) | (go_simp; rfl)); (case hp => exact (Reps.c2 (show Kd.M k57 _ _ _ (⟨(⟨#[109, 101, 109, 111, 114, 121]⟩ : ByteArray), 3⟩ : S57) [.string (⟨#[109, 101, 109, 111, 114, 121]⟩ : ByteArray), .int .i64 3] from (k57_mkM _ _ _ (⟨(⟨#[109, 101, 109, 111, 114, 121]⟩ : ByteArray), 3⟩ : S57) )) (Reps.none _ _))); intro v111 w69 ho70 hb hg_ hnew_; clear hg_ hnew_; (first | rw [← Ny110.out] at ho70 | (simp only [Int.reduceToNat] at ho70; rw [← Ny110.out] at ho70)); have n0_ := Aside0.mk (Kd.R_elder' (by (with_reducible repeat (first | apply Kd.R_alloc | apply Kd.R_drewN | apply Kd.R_drew)); exact HO109.out) (Kd.R_base ho70) hb); have n1_ := Aside0.mk (Kd.R_lower (Kd.R_new' ho70 (Kd.R_lt (by (with_reducible repeat (first | apply Kd.R_alloc | apply Kd.R_drewN | apply Kd.R_drew)); exact HO109.out))) (below_size (by repeat (first | (with_reducible first | exact HB.out | apply below_alloc | apply pw_below_drewN | apply below_drew1) | exact HB.out)))); have n2_ := Aside0.mk (below_step (by repeat (first | (with_reducible first | exact HB.out | apply below_alloc | apply pw_below_drewN | apply below_drew1) | exact HB.out)) hb); clear HO109; clear HB; have HO109 := n0_; have HO112 := n1_; have HB := n2_; clear n0_ n1_ n2_; clear hb ho70; obtain ⟨Ao71, co71, eo71⟩ := Kd.R_slice HO109.out; subst eo71; obtain ⟨Ao72, co72, eo72⟩ := Kd.R_slice HO112.out; subst eo72) | ((with_reducible refine gate_callee (f := 41) rfl ?_); refine goesL_ (some 27) rfl rfl Tryz.func41 (by kernel_rfl) rfl #[.slice Ao71 y107.length co71, .slice Ao72 y110.length co72] rfl (by (try simp only [List.map_toArray, List.map_cons, List.map_nil]); first | done | rfl | (simp only [List.length_drop, List.length_take]; rfl)) ?_; (with_reducible refine (quant_Plus.calls k _ _ y107 _ _ y110 t113 t114 _ ?side1 ?side2 ?side3 ?side4 A4.out (Glob.below hG (by repeat (first | (with_reducible first | exact HB.out | apply below_alloc | apply pw_below_drewN | apply below_drew1) | exact HB.out)))).mono ?_); (case side1 => repeat (first | exact (Kd.R_reads' HO109.out).2.2 | (with_reducible refine Kd.C_alloc ?_ _) | (with_reducible refine Kd.C_drewN ?_ _) | (with_reducible refine Kd.C_drew ?_))); (case side2 => exact (Kd.R_reads' HO109.out).2.1); (case side3 => repeat (first | exact (Kd.R_reads' HO112.out).2.2 | (with_reducible refine Kd.C_alloc ?_ _) | (with_reducible refine Kd.C_drewN ?_ _) | (with_reducible refine Kd.C_drew ?_))); (case side4 => exact (Kd.R_reads' HO112.out).2.1); rintro e w73 ⟨v115, rfl, ho0, hb⟩; refine ⟨_, rfl, ?_⟩; have n0_ := Aside0.mk (Kd.R_elder' (by (with_reducible repeat (first | apply Kd.R_alloc | apply Kd.R_drewN | apply Kd.R_drew)); exact HO109.out) (Kd.R_base ho0) hb); have n1_ := Aside0.mk (Kd.R_elder' (by (with_reducible repeat (first | apply Kd.R_alloc | apply Kd.R_drewN | apply Kd.R_drew)); exact HO112.out) (Kd.R_base ho0) hb); have n2_ := Aside0.mk (Kd.R_lower (Kd.R_new' (Kd.R_new' ho0 (Kd.R_lt (by (with_reducible repeat (first | apply Kd.R_alloc | apply Kd.R_drewN | apply Kd.R_drew)); exact HO109.out))) (Kd.R_lt (by (with_reducible repeat (first | apply Kd.R_alloc | apply Kd.R_drewN | apply Kd.R_drew)); exact HO112.out))) (below_size (by repeat (first | (with_reducible first | exact HB.out | apply below_alloc | apply pw_below_drewN | apply below_drew1) | exact HB.out)))); have n3_ := Aside0.mk (below_step (by repeat (first | (with_reducible first | exact HB.out | apply below_alloc | apply pw_below_drewN | apply below_drew1) | exact HB.out)) hb); clear HO109; clear HO112; clear HB; have HO109 := n0_; have HO112 := n1_; have HO116 := n2_; have HB := n3_; clear n0_ n1_ n2_ n3_; (try clear hb); (try clear hb2); (try clear hk); (try clear hi); (try clear ho0)))
       go_ret
       exact ⟨by first | rfl | (simp [errW_none, errW_some] <;> rfl) | (simp [*, errW_none, errW_some] <;> rfl), by repeat (first | (with_reducible first | exact HB.out | apply below_alloc | apply pw_below_drewN | apply below_drew1) | exact HB.out)⟩
     ·rw [if_neg c9] at H
      have c9b0 : (t106 == 30) = false := beq_eq_false_iff_ne.mpr c9
      have c9b1 : (t106 != 30) = true := bne_iff_ne.mpr c9
      obtain rfl := Option.some.inj H
      go_enter Tryz.func16, Tryz.ntmps16
      go_wp2_with (first | ((with_reducible refine gate_callee (f := 17) rfl ?_); refine goesL_ (some 10) rfl rfl Tryz.func17 (by kernel_rfl) rfl #[.string (⟨#[49, 46, 53, 75, 105]⟩ : ByteArray)] rfl (by (try simp only [List.map_toArray, List.map_cons, List.map_nil]); first | done | rfl | (simp only [List.length_drop, List.length_take]; rfl)) ?_; (with_reducible refine (quant_Parse.calls k (⟨#[49, 46, 53, 75, 105]⟩ : ByteArray) t101 t102 _ A1.out (Glob.below hG (by repeat (first | (with_reducible first | exact HB.out | apply below_alloc | apply pw_below_drewN | apply below_drew1) | exact HB.out)))).mono ?_); rintro e w74 ⟨rfl, hb⟩; refine ⟨_, rfl, ?_⟩; have n0_ := Aside0.mk (below_step (by repeat (first | (with_reducible first | exact HB.out | apply below_alloc | apply pw_below_drewN | apply below_drew1) | exact HB.out)) hb); clear HB; have HB := n0_; clear n0_; (try clear hb); (try clear hb2); (try clear hk); (try clear hi)) | ((with_reducible refine gate_callee (f := 17) rfl ?_); refine goesL_ (some 14) rfl rfl Tryz.func17 (by kernel_rfl) rfl #[.string (⟨#[48, 46, 48, 48, 48, 49]⟩ : ByteArray)] rfl (by (try simp only [List.map_toArray, List.map_cons, List.map_nil]); first | done | rfl | (simp only [List.length_drop, List.length_take]; rfl)) ?_; (with_reducible refine (quant_Parse.calls k (⟨#[48, 46, 48, 48, 48, 49]⟩ : ByteArray) t103 t104 _ A2.out (Glob.below hG (by repeat (first | (with_reducible first | exact HB.out | apply below_alloc | apply pw_below_drewN | apply below_drew1) | exact HB.out)))).mono ?_); rintro e w75 ⟨rfl, hb⟩; refine ⟨_, rfl, ?_⟩; have n0_ := Aside0.mk (below_step (by repeat (first | (with_reducible first | exact HB.out | apply below_alloc | apply pw_below_drewN | apply below_drew1) | exact HB.out)) hb); clear HB; have HB := n0_; clear n0_; (try clear hb); (try clear hb2); (try clear hk); (try clear hi)) | ((with_reducible refine gate_callee (f := 17) rfl ?_); refine goesL_ (some 18) rfl rfl Tryz.func17 (by kernel_rfl) rfl #[.string (⟨#[49, 75]⟩ : ByteArray)] rfl (by (try simp only [List.map_toArray, List.map_cons, List.map_nil]); first | done | rfl | (simp only [List.length_drop, List.length_take]; rfl)) ?_; (with_reducible refine (quant_Parse.calls k (⟨#[49, 75]⟩ : ByteArray) t105 t106 _ A3.out (Glob.below hG (by repeat (first | (with_reducible first | exact HB.out | apply below_alloc | apply pw_below_drewN | apply below_drew1) | exact HB.out)))).mono ?_); rintro e w76 ⟨rfl, hb⟩; refine ⟨_, rfl, ?_⟩; have n0_ := Aside0.mk (below_step (by repeat (first | (with_reducible first | exact HB.out | apply below_alloc | apply pw_below_drewN | apply below_drew1) | exact HB.out)) hb); clear HB; have HB := n0_; clear n0_; (try clear hb); (try clear hb2); (try clear hk); (try clear hi)) | ((with_reducible refine gate_dst (N := 24) rfl ?_); (try (refine gate_guard (by rfl) ?_; dsimp only)); refine Kd.R_lit k57 _ 57 ?hg (N := 24) ?hd (xs := ([(⟨(⟨#[99, 112, 117]⟩ : ByteArray), 1⟩ : S57), (⟨(⟨#[109, 101, 109, 111, 114, 121]⟩ : ByteArray), 2⟩ : S57)] : List (S57))) (inner := [.string (⟨#[99, 112, 117]⟩ : ByteArray), .int .i64 1, .string (⟨#[109, 101, 109, 111, 114, 121]⟩ : ByteArray), .int .i64 2]) (ok := fun _ => True) (okp := fun _ => True) ?hr ?hp (fun _ hk => hk) trivial (Below.refl _ _) (Nat.le_refl _) (by simp) ?_; (case hd => rfl); (case hg => rfl); (case hr => first | (go_simp; done) | (go_simp; rfl)); (case hp => exact (Reps.c2 (show Kd.M k57 _ _ _ (⟨(⟨#[99, 112, 117]⟩ : ByteArray), 1⟩ : S57) [.string (⟨#[99, 112, 117]⟩ : ByteArray), .int .i64 1] from (k57_mkM _ _ _ (⟨(⟨#[99, 112, 117]⟩ : ByteArray), 1⟩ : S57) )) (Reps.c2 (show Kd.M k57 _ _ _ (⟨(⟨#[109, 101, 109, 111, 114, 121]⟩ : ByteArray), 2⟩ : S57) [.string (⟨#[109, 101, 109, 111, 114, 121]⟩ : ByteArray), .int .i64 2] from (k57_mkM _ _ _ (⟨(⟨#[109, 101, 109, 111, 114, 121]⟩ : ByteArray), 2⟩ : S57) )) (Reps.none _ _)))); intro v108 w77 ho78 hb hg_ hnew_; clear hg_ hnew_; (first | rw [← Ny107.out] at ho78 | (simp only [Int.reduceToNat] at ho78; rw [← Ny107.out] at ho78)); have n0_ := Aside0.mk (Kd.R_lower ho78 (below_size (by repeat (first | (with_reducible first | exact HB.out | apply below_alloc | apply pw_below_drewN | apply below_drew1) | exact HB.out)))); have n1_ := Aside0.mk (below_step (by repeat (first | (with_reducible first | exact HB.out | apply below_alloc | apply pw_below_drewN | apply below_drew1) | exact HB.out)) hb); clear HB; have HO109 := n0_; have HB := n1_; clear n0_ n1_; clear hb ho78) | ((with_reducible refine gate_dst (N := 26) rfl ?_); (try (refine gate_guard (by rfl) ?_; dsimp only)); refine Kd.R_lit k57 _ 57 ?hg (N := 26) ?hd (xs := ([(⟨(⟨#[109, 101, 109, 111, 114, 121]⟩ : ByteArray), 3⟩ : S57)] : List (S57))) (inner := [.string (⟨#[109, 101, 109, 111, 114, 121]⟩ : ByteArray), .int .i64 3]) (ok := fun _ => True) (okp := fun _ => True) ?hr ?hp (fun _ hk => hk) trivial (Below.refl _ _) (Nat.le_refl _) (by simp) ?_; (case hd => rfl); (case hg => rfl); (case hr => first | (go_simp; done) | (go_simp; rfl)); (case hp => exact (Reps.c2 (show Kd.M k57 _ _ _ (⟨(⟨#[109, 101, 109, 111, 114, 121]⟩ : ByteArray), 3⟩ : S57) [.string (⟨#[109, 101, 109, 111, 114, 121]⟩ : ByteArray), .int .i64 3] from (k57_mkM _ _ _ (⟨(⟨#[109, 101, 109, 111, 114, 121]⟩ : ByteArray), 3⟩ : S57) )) (Reps.none _ _))); intro v111 w79 ho80 hb hg_ hnew_; clear hg_ hnew_; (first | rw [← Ny110.out] at ho80 | (simp only [Int.reduceToNat] at ho80; rw [← Ny110.out] at ho80)); have n0_ := Aside0.mk (Kd.R_elder' (by (with_reducible repeat (first | apply Kd.R_alloc | apply Kd.R_drewN | apply Kd.R_drew)); exact HO109.out) (Kd.R_base ho80) hb); have n1_ := Aside0.mk (Kd.R_lower (Kd.R_new' ho80 (Kd.R_lt (by (with_reducible repeat (first | apply Kd.R_alloc | apply Kd.R_drewN | apply Kd.R_drew)); exact HO109.out))) (below_size (by repeat (first | (with_reducible first | exact HB.out | apply below_alloc | apply pw_below_drewN | apply below_drew1) | exact HB.out)))); have n2_ := Aside0.mk (below_step (by repeat (first | (with_reducible first | exact HB.out | apply below_alloc | apply pw_below_drewN | apply below_drew1) | exact HB.out)) hb); clear HO109; clear HB; have HO109 := n0_; have HO112 := n1_; have HB := n2_; clear n0_ n1_ n2_; clear hb ho80; obtain ⟨Ao81, co81, eo81⟩ := Kd.R_slice HO109.out; subst eo81; obtain ⟨Ao82, co82, eo82⟩ := Kd.R_slice HO112.out; subst eo82) | ((with_reducible refine gate_callee (f := 41) rfl ?_); refine goesL_ (some 27) rfl rfl Tryz.func41 (by kernel_rfl) rfl #[.slice Ao81 y107.length co81, .slice Ao82 y110.length co82] rfl (by (try simp only [List.map_toArray, List.map_cons, List.map_nil]); first | done | rfl | (simp only [List.length_drop, List.length_take]; rfl)) ?_; (with_reducible refine (quant_Plus.calls k _ _ y107 _ _ y110 t113 t114 _ ?side1 ?side2 ?side3 ?side4 A4.out (Glob.below hG (by repeat (first | (with_reducible first | exact HB.out | apply below_alloc | apply pw_below_drewN | apply below_drew1) | exact HB.out)))).mono ?_); (case side1 => repeat (first | exact (Kd.R_reads' HO109.out).2.2 | (with_reducible refine Kd.C_alloc ?_ _) | (with_reducible refine Kd.C_drewN ?_ _) | (with_reducible refine Kd.C_drew ?_))); (case side2 => exact (Kd.R_reads' HO109.out).2.1); (case side3 => repeat (first | exact (Kd.R_reads' HO112.out).2.2 | (with_reducible refine Kd.C_alloc ?_ _) | (with_reducible refine Kd.C_drewN ?_ _) | (with_reducible refine Kd.C_drew ?_))); (case side4 => exact (Kd.R_reads' HO112.out).2.1); rintro e w83 ⟨v115, rfl, ho0, hb⟩; refine ⟨_, rfl, ?_⟩; have n0_ := Aside0.mk (Kd.R_elder' (by (with_reducible repeat (first | apply Kd.R_alloc | apply Kd.R_drewN | apply Kd.R_drew)); exact HO109.out) (Kd.R_base ho0) hb); have n1_ := Aside0.mk (Kd.R_elder' (by (with_reducible repeat (first | apply Kd.R_alloc | apply Kd.R_drewN | apply Kd.R_drew)); exact HO112.out) (Kd.R_base ho0) hb); have n2_ := Aside0.mk (Kd.R_lower (Kd.R_new' (Kd.R_new' ho0 (Kd.R_lt (by (with_reducible repeat (first | apply Kd.R_alloc | apply Kd.R_drewN | apply Kd.R_drew)); exact HO109.out))) (Kd.R_lt (by (with_reducible repeat (first | apply Kd.R_alloc | apply Kd.R_drewN | apply Kd.R_drew)); exact HO112.out))) (below_size (by repeat (first | (with_reducible first | exact HB.out | apply below_alloc | apply pw_below_drewN | apply below_drew1) | exact HB.out)))); have n3_ := Aside0.mk (below_step (by repeat (first | (with_reducible first | exact HB.out | apply below_alloc | apply pw_below_drewN | apply below_drew1) | exact HB.out)) hb); clear HO109; clear HO112; clear HB; have HO109 := n0_; have HO112 := n1_; have HO116 := n2_; have HB := n3_; clear n0_ n1_ n2_ n3_; (try clear hb); (try clear hb2); (try clear hk); (try clear hi); (try clear ho0)))
      go_ret
      exact ⟨by first | rfl | (simp [errW_none, errW_some] <;> rfl) | (simp [*, errW_none, errW_some] <;> rfl), by repeat (first | (with_reducible first | exact HB.out | apply below_alloc | apply pw_below_drewN | apply below_drew1) | exact HB.out)⟩
    ·rw [if_neg c8] at H
     have c8b0 : (t104 == 0) = false := beq_eq_false_iff_ne.mpr c8
     have c8b1 : (t104 != 0) = true := bne_iff_ne.mpr c8
     obtain rfl := Option.some.inj H
     go_enter Tryz.func16, Tryz.ntmps16
     go_wp2_with (first | ((with_reducible refine gate_callee (f := 17) rfl ?_); refine goesL_ (some 10) rfl rfl Tryz.func17 (by kernel_rfl) rfl #[.string (⟨#[49, 46, 53, 75, 105]⟩ : ByteArray)] rfl (by (try simp only [List.map_toArray, List.map_cons, List.map_nil]); first | done | rfl | (simp only [List.length_drop, List.length_take]; rfl)) ?_; (with_reducible refine (quant_Parse.calls k (⟨#[49, 46, 53, 75, 105]⟩ : ByteArray) t101 t102 _ A1.out (Glob.below hG (by repeat (first | (with_reducible first | exact HB.out | apply below_alloc | apply pw_below_drewN | apply below_drew1) | exact HB.out)))).mono ?_); rintro e w84 ⟨rfl, hb⟩; refine ⟨_, rfl, ?_⟩; have n0_ := Aside0.mk (below_step (by repeat (first | (with_reducible first | exact HB.out | apply below_alloc | apply pw_below_drewN | apply below_drew1) | exact HB.out)) hb); clear HB; have HB := n0_; clear n0_; (try clear hb); (try clear hb2); (try clear hk); (try clear hi)) | ((with_reducible refine gate_callee (f := 17) rfl ?_); refine goesL_ (some 14) rfl rfl Tryz.func17 (by kernel_rfl) rfl #[.string (⟨#[48, 46, 48, 48, 48, 49]⟩ : ByteArray)] rfl (by (try simp only [List.map_toArray, List.map_cons, List.map_nil]); first | done | rfl | (simp only [List.length_drop, List.length_take]; rfl)) ?_; (with_reducible refine (quant_Parse.calls k (⟨#[48, 46, 48, 48, 48, 49]⟩ : ByteArray) t103 t104 _ A2.out (Glob.below hG (by repeat (first | (with_reducible first | exact HB.out | apply below_alloc | apply pw_below_drewN | apply below_drew1) | exact HB.out)))).mono ?_); rintro e w85 ⟨rfl, hb⟩; refine ⟨_, rfl, ?_⟩; have n0_ := Aside0.mk (below_step (by repeat (first | (with_reducible first | exact HB.out | apply below_alloc | apply pw_below_drewN | apply below_drew1) | exact HB.out)) hb); clear HB; have HB := n0_; clear n0_; (try clear hb); (try clear hb2); (try clear hk); (try clear hi)) | ((with_reducible refine gate_callee (f := 17) rfl ?_); refine goesL_ (some 18) rfl rfl Tryz.func17 (by kernel_rfl) rfl #[.string (⟨#[49, 75]⟩ : ByteArray)] rfl (by (try simp only [List.map_toArray, List.map_cons, List.map_nil]); first | done | rfl | (simp only [List.length_drop, List.length_take]; rfl)) ?_; (with_reducible refine (quant_Parse.calls k (⟨#[49, 75]⟩ : ByteArray) t105 t106 _ A3.out (Glob.below hG (by repeat (first | (with_reducible first | exact HB.out | apply below_alloc | apply pw_below_drewN | apply below_drew1) | exact HB.out)))).mono ?_); rintro e w86 ⟨rfl, hb⟩; refine ⟨_, rfl, ?_⟩; have n0_ := Aside0.mk (below_step (by repeat (first | (with_reducible first | exact HB.out | apply below_alloc | apply pw_below_drewN | apply below_drew1) | exact HB.out)) hb); clear HB; have HB := n0_; clear n0_; (try clear hb); (try clear hb2); (try clear hk); (try clear hi)) | ((with_reducible refine gate_dst (N := 24) rfl ?_); (try (refine gate_guard (by rfl) ?_; dsimp only)); refine Kd.R_lit k57 _ 57 ?hg (N := 24) ?hd (xs := ([(⟨(⟨#[99, 112, 117]⟩ : ByteArray), 1⟩ : S57), (⟨(⟨#[109, 101, 109, 111, 114, 121]⟩ : ByteArray), 2⟩ : S57)] : List (S57))) (inner := [.string (⟨#[99, 112, 117]⟩ : ByteArray), .int .i64 1, .string (⟨#[109, 101, 109, 111, 114, 121]⟩ : ByteArray), .int .i64 2]) (ok := fun _ => True) (okp := fun _ => True) ?hr ?hp (fun _ hk => hk) trivial (Below.refl _ _) (Nat.le_refl _) (by simp) ?_; (case hd => rfl); (case hg => rfl); (case hr => first | (go_simp; done) | (go_simp; rfl)); (case hp => exact (Reps.c2 (show Kd.M k57 _ _ _ (⟨(⟨#[99, 112, 117]⟩ : ByteArray), 1⟩ : S57) [.string (⟨#[99, 112, 117]⟩ : ByteArray), .int .i64 1] from (k57_mkM _ _ _ (⟨(⟨#[99, 112, 117]⟩ : ByteArray), 1⟩ : S57) )) (Reps.c2 (show Kd.M k57 _ _ _ (⟨(⟨#[109, 101, 109, 111, 114, 121]⟩ : ByteArray), 2⟩ : S57) [.string (⟨#[109, 101, 109, 111, 114, 121]⟩ : ByteArray), .int .i64 2] from (k57_mkM _ _ _ (⟨(⟨#[109, 101, 109, 111, 114, 121]⟩ : ByteArray), 2⟩ : S57) )) (Reps.none _ _)))); intro v108 w87 ho88 hb hg_ hnew_; clear hg_ hnew_; (first | rw [← Ny107.out] at ho88 | (simp only [Int.reduceToNat] at ho88; rw [← Ny107.out] at ho88)); have n0_ := Aside0.mk (Kd.R_lower ho88 (below_size (by repeat (first | (with_reducible first | exact HB.out | apply below_alloc | apply pw_below_drewN | apply below_drew1) | exact HB.out)))); have n1_ := Aside0.mk (below_step (by repeat (first | (with_reducible first | exact HB.out | apply below_alloc | apply pw_below_drewN | apply below_drew1) | exact HB.out)) hb); clear HB; have HO109 := n0_; have HB := n1_; clear n0_ n1_; clear hb ho88) | ((with_reducible refine gate_dst (N := 26) rfl ?_); (try (refine gate_guard (by rfl) ?_; dsimp only)); refine Kd.R_lit k57 _ 57 ?hg (N := 26) ?hd (xs := ([(⟨(⟨#[109, 101, 109, 111, 114, 121]⟩ : ByteArray), 3⟩ : S57)] : List (S57))) (inner := [.string (⟨#[109, 101, 109, 111, 114, 121]⟩ : ByteArray), .int .i64 3]) (ok := fun _ => True) (okp := fun _ => True) ?hr ?hp (fun _ hk => hk) trivial (Below.refl _ _) (Nat.le_refl _) (by simp) ?_; (case hd => rfl); (case hg => rfl); (case hr => first | (go_simp; done) | (go_simp; rfl)); (case hp => exact (Reps.c2 (show Kd.M k57 _ _ _ (⟨(⟨#[109, 101, 109, 111, 114, 121]⟩ : ByteArray), 3⟩ : S57) [.string (⟨#[109, 101, 109, 111, 114, 121]⟩ : ByteArray), .int .i64 3] from (k57_mkM _ _ _ (⟨(⟨#[109, 101, 109, 111, 114, 121]⟩ : ByteArray), 3⟩ : S57) )) (Reps.none _ _))); intro v111 w89 ho90 hb hg_ hnew_; clear hg_ hnew_; (first | rw [← Ny110.out] at ho90 | (simp only [Int.reduceToNat] at ho90; rw [← Ny110.out] at ho90)); have n0_ := Aside0.mk (Kd.R_elder' (by (with_reducible repeat (first | apply Kd.R_alloc | apply Kd.R_drewN | apply Kd.R_drew)); exact HO109.out) (Kd.R_base ho90) hb); have n1_ := Aside0.mk (Kd.R_lower (Kd.R_new' ho90 (Kd.R_lt (by (with_reducible repeat (first | apply Kd.R_alloc | apply Kd.R_drewN | apply Kd.R_drew)); exact HO109.out))) (below_size (by repeat (first | (with_reducible first | exact HB.out | apply below_alloc | apply pw_below_drewN | apply below_drew1) | exact HB.out)))); have n2_ := Aside0.mk (below_step (by repeat (first | (with_reducible first | exact HB.out | apply below_alloc | apply pw_below_drewN | apply below_drew1) | exact HB.out)) hb); clear HO109; clear HB; have HO109 := n0_; have HO112 := n1_; have HB := n2_; clear n0_ n1_ n2_; clear hb ho90; obtain ⟨Ao91, co91, eo91⟩ := Kd.R_slice HO109.out; subst eo91; obtain ⟨Ao92, co92, eo92⟩ := Kd.R_slice HO112.out; subst eo92) | ((with_reducible refine gate_callee (f := 41) rfl ?_); refine goesL_ (some 27) rfl rfl Tryz.func41 (by kernel_rfl) rfl #[.slice Ao91 y107.length co91, .slice Ao92 y110.length co92] rfl (by (try simp only [List.map_toArray, List.map_cons, List.map_nil]); first | done | rfl | (simp only [List.length_drop, List.length_take]; rfl)) ?_; (with_reducible refine (quant_Plus.calls k _ _ y107 _ _ y110 t113 t114 _ ?side1 ?side2 ?side3 ?side4 A4.out (Glob.below hG (by repeat (first | (with_reducible first | exact HB.out | apply below_alloc | apply pw_below_drewN | apply below_drew1) | exact HB.out)))).mono ?_); (case side1 => repeat (first | exact (Kd.R_reads' HO109.out).2.2 | (with_reducible refine Kd.C_alloc ?_ _) | (with_reducible refine Kd.C_drewN ?_ _) | (with_reducible refine Kd.C_drew ?_))); (case side2 => exact (Kd.R_reads' HO109.out).2.1); (case side3 => repeat (first | exact (Kd.R_reads' HO112.out).2.2 | (with_reducible refine Kd.C_alloc ?_ _) | (with_reducible refine Kd.C_drewN ?_ _) | (with_reducible refine Kd.C_drew ?_))); (case side4 => exact (Kd.R_reads' HO112.out).2.1); rintro e w93 ⟨v115, rfl, ho0, hb⟩; refine ⟨_, rfl, ?_⟩; have n0_ := Aside0.mk (Kd.R_elder' (by (with_reducible repeat (first | apply Kd.R_alloc | apply Kd.R_drewN | apply Kd.R_drew)); exact HO109.out) (Kd.R_base ho0) hb); have n1_ := Aside0.mk (Kd.R_elder' (by (with_reducible repeat (first | apply Kd.R_alloc | apply Kd.R_drewN | apply Kd.R_drew)); exact HO112.out) (Kd.R_base ho0) hb); have n2_ := Aside0.mk (Kd.R_lower (Kd.R_new' (Kd.R_new' ho0 (Kd.R_lt (by (with_reducible repeat (first | apply Kd.R_alloc | apply Kd.R_drewN | apply Kd.R_drew)); exact HO109.out))) (Kd.R_lt (by (with_reducible repeat (first | apply Kd.R_alloc | apply Kd.R_drewN | apply Kd.R_drew)); exact HO112.out))) (below_size (by repeat (first | (with_reducible first | exact HB.out | apply below_alloc | apply pw_below_drewN | apply below_drew1) | exact HB.out)))); have n3_ := Aside0.mk (below_step (by repeat (first | (with_reducible first | exact HB.out | apply below_alloc | apply pw_below_drewN | apply below_drew1) | exact HB.out)) hb); clear HO109; clear HO112; clear HB; have HO109 := n0_; have HO112 := n1_; have HO116 := n2_; have HB := n3_; clear n0_ n1_ n2_ n3_; (try clear hb); (try clear hb2); (try clear hk); (try clear hi); (try clear ho0)))
     go_ret
     exact ⟨by first | rfl | (simp [errW_none, errW_some] <;> rfl) | (simp [*, errW_none, errW_some] <;> rfl), by repeat (first | (with_reducible first | exact HB.out | apply below_alloc | apply pw_below_drewN | apply below_drew1) | exact HB.out)⟩
   ·rw [if_neg c7] at H
    have c7b0 : (t103 == 1) = false := beq_eq_false_iff_ne.mpr c7
    have c7b1 : (t103 != 1) = true := bne_iff_ne.mpr c7
    obtain rfl := Option.some.inj H
    go_enter Tryz.func16, Tryz.ntmps16
    go_wp2_with (first | ((with_reducible refine gate_callee (f := 17) rfl ?_); refine goesL_ (some 10) rfl rfl Tryz.func17 (by kernel_rfl) rfl #[.string (⟨#[49, 46, 53, 75, 105]⟩ : ByteArray)] rfl (by (try simp only [List.map_toArray, List.map_cons, List.map_nil]); first | done | rfl | (simp only [List.length_drop, List.length_take]; rfl)) ?_; (with_reducible refine (quant_Parse.calls k (⟨#[49, 46, 53, 75, 105]⟩ : ByteArray) t101 t102 _ A1.out (Glob.below hG (by repeat (first | (with_reducible first | exact HB.out | apply below_alloc | apply pw_below_drewN | apply below_drew1) | exact HB.out)))).mono ?_); rintro e w94 ⟨rfl, hb⟩; refine ⟨_, rfl, ?_⟩; have n0_ := Aside0.mk (below_step (by repeat (first | (with_reducible first | exact HB.out | apply below_alloc | apply pw_below_drewN | apply below_drew1) | exact HB.out)) hb); clear HB; have HB := n0_; clear n0_; (try clear hb); (try clear hb2); (try clear hk); (try clear hi)) | ((with_reducible refine gate_callee (f := 17) rfl ?_); refine goesL_ (some 14) rfl rfl Tryz.func17 (by kernel_rfl) rfl #[.string (⟨#[48, 46, 48, 48, 48, 49]⟩ : ByteArray)] rfl (by (try simp only [List.map_toArray, List.map_cons, List.map_nil]); first | done | rfl | (simp only [List.length_drop, List.length_take]; rfl)) ?_; (with_reducible refine (quant_Parse.calls k (⟨#[48, 46, 48, 48, 48, 49]⟩ : ByteArray) t103 t104 _ A2.out (Glob.below hG (by repeat (first | (with_reducible first | exact HB.out | apply below_alloc | apply pw_below_drewN | apply below_drew1) | exact HB.out)))).mono ?_); rintro e w95 ⟨rfl, hb⟩; refine ⟨_, rfl, ?_⟩; have n0_ := Aside0.mk (below_step (by repeat (first | (with_reducible first | exact HB.out | apply below_alloc | apply pw_below_drewN | apply below_drew1) | exact HB.out)) hb); clear HB; have HB := n0_; clear n0_; (try clear hb); (try clear hb2); (try clear hk); (try clear hi)) | ((with_reducible refine gate_callee (f := 17) rfl ?_); refine goesL_ (some 18) rfl rfl Tryz.func17 (by kernel_rfl) rfl #[.string (⟨#[49, 75]⟩ : ByteArray)] rfl (by (try simp only [List.map_toArray, List.map_cons, List.map_nil]); first | done | rfl | (simp only [List.length_drop, List.length_take]; rfl)) ?_; (with_reducible refine (quant_Parse.calls k (⟨#[49, 75]⟩ : ByteArray) t105 t106 _ A3.out (Glob.below hG (by repeat (first | (with_reducible first | exact HB.out | apply below_alloc | apply pw_below_drewN | apply below_drew1) | exact HB.out)))).mono ?_); rintro e w96 ⟨rfl, hb⟩; refine ⟨_, rfl, ?_⟩; have n0_ := Aside0.mk (below_step (by repeat (first | (with_reducible first | exact HB.out | apply below_alloc | apply pw_below_drewN | apply below_drew1) | exact HB.out)) hb); clear HB; have HB := n0_; clear n0_; (try clear hb); (try clear hb2); (try clear hk); (try clear hi)) | ((with_reducible refine gate_dst (N := 24) rfl ?_); (try (refine gate_guard (by rfl) ?_; dsimp only)); refine Kd.R_lit k57 _ 57 ?hg (N := 24) ?hd (xs := ([(⟨(⟨#[99, 112, 117]⟩ : ByteArray), 1⟩ : S57), (⟨(⟨#[109, 101, 109, 111, 114, 121]⟩ : ByteArray), 2⟩ : S57)] : List (S57))) (inner := [.string (⟨#[99, 112, 117]⟩ : ByteArray), .int .i64 1, .string (⟨#[109, 101, 109, 111, 114, 121]⟩ : ByteArray), .int .i64 2]) (ok := fun _ => True) (okp := fun _ => True) ?hr ?hp (fun _ hk => hk) trivial (Below.refl _ _) (Nat.le_refl _) (by simp) ?_; (case hd => rfl); (case hg => rfl); (case hr => first | (go_simp; done) | (go_simp; rfl)); (case hp => exact (Reps.c2 (show Kd.M k57 _ _ _ (⟨(⟨#[99, 112, 117]⟩ : ByteArray), 1⟩ : S57) [.string (⟨#[99, 112, 117]⟩ : ByteArray), .int .i64 1] from (k57_mkM _ _ _ (⟨(⟨#[99, 112, 117]⟩ : ByteArray), 1⟩ : S57) )) (Reps.c2 (show Kd.M k57 _ _ _ (⟨(⟨#[109, 101, 109, 111, 114, 121]⟩ : ByteArray), 2⟩ : S57) [.string (⟨#[109, 101, 109, 111, 114, 121]⟩ : ByteArray), .int .i64 2] from (k57_mkM _ _ _ (⟨(⟨#[109, 101, 109, 111, 114, 121]⟩ : ByteArray), 2⟩ : S57) )) (Reps.none _ _)))); intro v108 w97 ho98 hb hg_ hnew_; clear hg_ hnew_; (first | rw [← Ny107.out] at ho98 | (simp only [Int.reduceToNat] at ho98; rw [← Ny107.out] at ho98)); have n0_ := Aside0.mk (Kd.R_lower ho98 (below_size (by repeat (first | (with_reducible first | exact HB.out | apply below_alloc | apply pw_below_drewN | apply below_drew1) | exact HB.out)))); have n1_ := Aside0.mk (below_step (by repeat (first | (with_reducible first | exact HB.out | apply below_alloc | apply pw_below_drewN | apply below_drew1) | exact HB.out)) hb); clear HB; have HO109 := n0_; have HB := n1_; clear n0_ n1_; clear hb ho98) | ((with_reducible refine gate_dst (N := 26) rfl ?_); (try (refine gate_guard (by rfl) ?_; dsimp only)); refine Kd.R_lit k57 _ 57 ?hg (N := 26) ?hd (xs := ([(⟨(⟨#[109, 101, 109, 111, 114, 121]⟩ : ByteArray), 3⟩ : S57)] : List (S57))) (inner := [.string (⟨#[109, 101, 109, 111, 114, 121]⟩ : ByteArray), .int .i64 3]) (ok := fun _ => True) (okp := fun _ => True) ?hr ?hp (fun _ hk => hk) trivial (Below.refl _ _) (Nat.le_refl _) (by simp) ?_; (case hd => rfl); (case hg => rfl); (case hr => first | (go_simp; done) | (go_simp; rfl)); (case hp => exact (Reps.c2 (show Kd.M k57 _ _ _ (⟨(⟨#[109, 101, 109, 111, 114, 121]⟩ : ByteArray), 3⟩ : S57) [.string (⟨#[109, 101, 109, 111, 114, 121]⟩ : ByteArray), .int .i64 3] from (k57_mkM _ _ _ (⟨(⟨#[109, 101, 109, 111, 114, 121]⟩ : ByteArray), 3⟩ : S57) )) (Reps.none _ _))); intro v111 w99 ho100 hb hg_ hnew_; clear hg_ hnew_; (first | rw [← Ny110.out] at ho100 | (simp only [Int.reduceToNat] at ho100; rw [← Ny110.out] at ho100)); have n0_ := Aside0.mk (Kd.R_elder' (by (with_reducible repeat (first | apply Kd.R_alloc | apply Kd.R_drewN | apply Kd.R_drew)); exact HO109.out) (Kd.R_base ho100) hb); have n1_ := Aside0.mk (Kd.R_lower (Kd.R_new' ho100 (Kd.R_lt (by (with_reducible repeat (first | apply Kd.R_alloc | apply Kd.R_drewN | apply Kd.R_drew)); exact HO109.out))) (below_size (by repeat (first | (with_reducible first | exact HB.out | apply below_alloc | apply pw_below_drewN | apply below_drew1) | exact HB.out)))); have n2_ := Aside0.mk (below_step (by repeat (first | (with_reducible first | exact HB.out | apply below_alloc | apply pw_below_drewN | apply below_drew1) | exact HB.out)) hb); clear HO109; clear HB; have HO109 := n0_; have HO112 := n1_; have HB := n2_; clear n0_ n1_ n2_; clear hb ho100; obtain ⟨Ao101, co101, eo101⟩ := Kd.R_slice HO109.out; subst eo101; obtain ⟨Ao102, co102, eo102⟩ := Kd.R_slice HO112.out; subst eo102) | ((with_reducible refine gate_callee (f := 41) rfl ?_); refine goesL_ (some 27) rfl rfl Tryz.func41 (by kernel_rfl) rfl #[.slice Ao101 y107.length co101, .slice Ao102 y110.length co102] rfl (by (try simp only [List.map_toArray, List.map_cons, List.map_nil]); first | done | rfl | (simp only [List.length_drop, List.length_take]; rfl)) ?_; (with_reducible refine (quant_Plus.calls k _ _ y107 _ _ y110 t113 t114 _ ?side1 ?side2 ?side3 ?side4 A4.out (Glob.below hG (by repeat (first | (with_reducible first | exact HB.out | apply below_alloc | apply pw_below_drewN | apply below_drew1) | exact HB.out)))).mono ?_); (case side1 => repeat (first | exact (Kd.R_reads' HO109.out).2.2 | (with_reducible refine Kd.C_alloc ?_ _) | (with_reducible refine Kd.C_drewN ?_ _) | (with_reducible refine Kd.C_drew ?_))); (case side2 => exact (Kd.R_reads' HO109.out).2.1); (case side3 => repeat (first | exact (Kd.R_reads' HO112.out).2.2 | (with_reducible refine Kd.C_alloc ?_ _) | (with_reducible refine Kd.C_drewN ?_ _) | (with_reducible refine Kd.C_drew ?_))); (case side4 => exact (Kd.R_reads' HO112.out).2.1); rintro e w103 ⟨v115, rfl, ho0, hb⟩; refine ⟨_, rfl, ?_⟩; have n0_ := Aside0.mk (Kd.R_elder' (by (with_reducible repeat (first | apply Kd.R_alloc | apply Kd.R_drewN | apply Kd.R_drew)); exact HO109.out) (Kd.R_base ho0) hb); have n1_ := Aside0.mk (Kd.R_elder' (by (with_reducible repeat (first | apply Kd.R_alloc | apply Kd.R_drewN | apply Kd.R_drew)); exact HO112.out) (Kd.R_base ho0) hb); have n2_ := Aside0.mk (Kd.R_lower (Kd.R_new' (Kd.R_new' ho0 (Kd.R_lt (by (with_reducible repeat (first | apply Kd.R_alloc | apply Kd.R_drewN | apply Kd.R_drew)); exact HO109.out))) (Kd.R_lt (by (with_reducible repeat (first | apply Kd.R_alloc | apply Kd.R_drewN | apply Kd.R_drew)); exact HO112.out))) (below_size (by repeat (first | (with_reducible first | exact HB.out | apply below_alloc | apply pw_below_drewN | apply below_drew1) | exact HB.out)))); have n3_ := Aside0.mk (below_step (by repeat (first | (with_reducible first | exact HB.out | apply below_alloc | apply pw_below_drewN | apply below_drew1) | exact HB.out)) hb); clear HO109; clear HO112; clear HB; have HO109 := n0_; have HO112 := n1_; have HO116 := n2_; have HB := n3_; clear n0_ n1_ n2_ n3_; (try clear hb); (try clear hb2); (try clear hk); (try clear hi); (try clear ho0)))
    go_ret
    exact ⟨by first | rfl | (simp [errW_none, errW_some] <;> rfl) | (simp [*, errW_none, errW_some] <;> rfl), by repeat (first | (with_reducible first | exact HB.out | apply below_alloc | apply pw_below_drewN | apply below_drew1) | exact HB.out)⟩
  ·rw [if_neg c6] at H
   have c6b0 : (t102 == 0) = false := beq_eq_false_iff_ne.mpr c6
   have c6b1 : (t102 != 0) = true := bne_iff_ne.mpr c6
   obtain rfl := Option.some.inj H
   go_enter Tryz.func16, Tryz.ntmps16
   go_wp2_with (first | ((with_reducible refine gate_callee (f := 17) rfl ?_); refine goesL_ (some 10) rfl rfl Tryz.func17 (by kernel_rfl) rfl #[.string (⟨#[49, 46, 53, 75, 105]⟩ : ByteArray)] rfl (by (try simp only [List.map_toArray, List.map_cons, List.map_nil]); first | done | rfl | (simp only [List.length_drop, List.length_take]; rfl)) ?_; (with_reducible refine (quant_Parse.calls k (⟨#[49, 46, 53, 75, 105]⟩ : ByteArray) t101 t102 _ A1.out (Glob.below hG (by repeat (first | (with_reducible first | exact HB.out | apply below_alloc | apply pw_below_drewN | apply below_drew1) | exact HB.out)))).mono ?_); rintro e w104 ⟨rfl, hb⟩; refine ⟨_, rfl, ?_⟩; have n0_ := Aside0.mk (below_step (by repeat (first | (with_reducible first | exact HB.out | apply below_alloc | apply pw_below_drewN | apply below_drew1) | exact HB.out)) hb); clear HB; have HB := n0_; clear n0_; (try clear hb); (try clear hb2); (try clear hk); (try clear hi)) | ((with_reducible refine gate_callee (f := 17) rfl ?_); refine goesL_ (some 14) rfl rfl Tryz.func17 (by kernel_rfl) rfl #[.string (⟨#[48, 46, 48, 48, 48, 49]⟩ : ByteArray)] rfl (by (try simp only [List.map_toArray, List.map_cons, List.map_nil]); first | done | rfl | (simp only [List.length_drop, List.length_take]; rfl)) ?_; (with_reducible refine (quant_Parse.calls k (⟨#[48, 46, 48, 48, 48, 49]⟩ : ByteArray) t103 t104 _ A2.out (Glob.below hG (by repeat (first | (with_reducible first | exact HB.out | apply below_alloc | apply pw_below_drewN | apply below_drew1) | exact HB.out)))).mono ?_); rintro e w105 ⟨rfl, hb⟩; refine ⟨_, rfl, ?_⟩; have n0_ := Aside0.mk (below_step (by repeat (first | (with_reducible first | exact HB.out | apply below_alloc | apply pw_below_drewN | apply below_drew1) | exact HB.out)) hb); clear HB; have HB := n0_; clear n0_; (try clear hb); (try clear hb2); (try clear hk); (try clear hi)) | ((with_reducible refine gate_callee (f := 17) rfl ?_); refine goesL_ (some 18) rfl rfl Tryz.func17 (by kernel_rfl) rfl #[.string (⟨#[49, 75]⟩ : ByteArray)] rfl (by (try simp only [List.map_toArray, List.map_cons, List.map_nil]); first | done | rfl | (simp only [List.length_drop, List.length_take]; rfl)) ?_; (with_reducible refine (quant_Parse.calls k (⟨#[49, 75]⟩ : ByteArray) t105 t106 _ A3.out (Glob.below hG (by repeat (first | (with_reducible first | exact HB.out | apply below_alloc | apply pw_below_drewN | apply below_drew1) | exact HB.out)))).mono ?_); rintro e w106 ⟨rfl, hb⟩; refine ⟨_, rfl, ?_⟩; have n0_ := Aside0.mk (below_step (by repeat (first | (with_reducible first | exact HB.out | apply below_alloc | apply pw_below_drewN | apply below_drew1) | exact HB.out)) hb); clear HB; have HB := n0_; clear n0_; (try clear hb); (try clear hb2); (try clear hk); (try clear hi)) | ((with_reducible refine gate_dst (N := 24) rfl ?_); (try (refine gate_guard (by rfl) ?_; dsimp only)); refine Kd.R_lit k57 _ 57 ?hg (N := 24) ?hd (xs := ([(⟨(⟨#[99, 112, 117]⟩ : ByteArray), 1⟩ : S57), (⟨(⟨#[109, 101, 109, 111, 114, 121]⟩ : ByteArray), 2⟩ : S57)] : List (S57))) (inner := [.string (⟨#[99, 112, 117]⟩ : ByteArray), .int .i64 1, .string (⟨#[109, 101, 109, 111, 114, 121]⟩ : ByteArray), .int .i64 2]) (ok := fun _ => True) (okp := fun _ => True) ?hr ?hp (fun _ hk => hk) trivial (Below.refl _ _) (Nat.le_refl _) (by simp) ?_; (case hd => rfl); (case hg => rfl); (case hr => first | (go_simp; done) | (go_simp; rfl)); (case hp => exact (Reps.c2 (show Kd.M k57 _ _ _ (⟨(⟨#[99, 112, 117]⟩ : ByteArray), 1⟩ : S57) [.string (⟨#[99, 112, 117]⟩ : ByteArray), .int .i64 1] from (k57_mkM _ _ _ (⟨(⟨#[99, 112, 117]⟩ : ByteArray), 1⟩ : S57) )) (Reps.c2 (show Kd.M k57 _ _ _ (⟨(⟨#[109, 101, 109, 111, 114, 121]⟩ : ByteArray), 2⟩ : S57) [.string (⟨#[109, 101, 109, 111, 114, 121]⟩ : ByteArray), .int .i64 2] from (k57_mkM _ _ _ (⟨(⟨#[109, 101, 109, 111, 114, 121]⟩ : ByteArray), 2⟩ : S57) )) (Reps.none _ _)))); intro v108 w107 ho108 hb hg_ hnew_; clear hg_ hnew_; (first | rw [← Ny107.out] at ho108 | (simp only [Int.reduceToNat] at ho108; rw [← Ny107.out] at ho108)); have n0_ := Aside0.mk (Kd.R_lower ho108 (below_size (by repeat (first | (with_reducible first | exact HB.out | apply below_alloc | apply pw_below_drewN | apply below_drew1) | exact HB.out)))); have n1_ := Aside0.mk (below_step (by repeat (first | (with_reducible first | exact HB.out | apply below_alloc | apply pw_below_drewN | apply below_drew1) | exact HB.out)) hb); clear HB; have HO109 := n0_; have HB := n1_; clear n0_ n1_; clear hb ho108) | ((with_reducible refine gate_dst (N := 26) rfl ?_); (try (refine gate_guard (by rfl) ?_; dsimp only)); refine Kd.R_lit k57 _ 57 ?hg (N := 26) ?hd (xs := ([(⟨(⟨#[109, 101, 109, 111, 114, 121]⟩ : ByteArray), 3⟩ : S57)] : List (S57))) (inner := [.string (⟨#[109, 101, 109, 111, 114, 121]⟩ : ByteArray), .int .i64 3]) (ok := fun _ => True) (okp := fun _ => True) ?hr ?hp (fun _ hk => hk) trivial (Below.refl _ _) (Nat.le_refl _) (by simp) ?_; (case hd => rfl); (case hg => rfl); (case hr => first | (go_simp; done) | (go_simp; rfl)); (case hp => exact (Reps.c2 (show Kd.M k57 _ _ _ (⟨(⟨#[109, 101, 109, 111, 114, 121]⟩ : ByteArray), 3⟩ : S57) [.string (⟨#[109, 101, 109, 111, 114, 121]⟩ : ByteArray), .int .i64 3] from (k57_mkM _ _ _ (⟨(⟨#[109, 101, 109, 111, 114, 121]⟩ : ByteArray), 3⟩ : S57) )) (Reps.none _ _))); intro v111 w109 ho110 hb hg_ hnew_; clear hg_ hnew_; (first | rw [← Ny110.out] at ho110 | (simp only [Int.reduceToNat] at ho110; rw [← Ny110.out] at ho110)); have n0_ := Aside0.mk (Kd.R_elder' (by (with_reducible repeat (first | apply Kd.R_alloc | apply Kd.R_drewN | apply Kd.R_drew)); exact HO109.out) (Kd.R_base ho110) hb); have n1_ := Aside0.mk (Kd.R_lower (Kd.R_new' ho110 (Kd.R_lt (by (with_reducible repeat (first | apply Kd.R_alloc | apply Kd.R_drewN | apply Kd.R_drew)); exact HO109.out))) (below_size (by repeat (first | (with_reducible first | exact HB.out | apply below_alloc | apply pw_below_drewN | apply below_drew1) | exact HB.out)))); have n2_ := Aside0.mk (below_step (by repeat (first | (with_reducible first | exact HB.out | apply below_alloc | apply pw_below_drewN | apply below_drew1) | exact HB.out)) hb); clear HO109; clear HB; have HO109 := n0_; have HO112 := n1_; have HB := n2_; clear n0_ n1_ n2_; clear hb ho110; obtain ⟨Ao111, co111, eo111⟩ := Kd.R_slice HO109.out; subst eo111; obtain ⟨Ao112, co112, eo112⟩ := Kd.R_slice HO112.out; subst eo112) | ((with_reducible refine gate_callee (f := 41) rfl ?_); refine goesL_ (some 27) rfl rfl Tryz.func41 (by kernel_rfl) rfl #[.slice Ao111 y107.length co111, .slice Ao112 y110.length co112] rfl (by (try simp only [List.map_toArray, List.map_cons, List.map_nil]); first | done | rfl | (simp only [List.length_drop, List.length_take]; rfl)) ?_; (with_reducible refine (quant_Plus.calls k _ _ y107 _ _ y110 t113 t114 _ ?side1 ?side2 ?side3 ?side4 A4.out (Glob.below hG (by repeat (first | (with_reducible first | exact HB.out | apply below_alloc | apply pw_below_drewN | apply below_drew1) | exact HB.out)))).mono ?_); (case side1 => repeat (first | exact (Kd.R_reads' HO109.out).2.2 | (with_reducible refine Kd.C_alloc ?_ _) | (with_reducible refine Kd.C_drewN ?_ _) | (with_reducible refine Kd.C_drew ?_))); (case side2 => exact (Kd.R_reads' HO109.out).2.1); (case side3 => repeat (first | exact (Kd.R_reads' HO112.out).2.2 | (with_reducible refine Kd.C_alloc ?_ _) | (with_reducible refine Kd.C_drewN ?_ _) | (with_reducible refine Kd.C_drew ?_))); (case side4 => exact (Kd.R_reads' HO112.out).2.1); rintro e w113 ⟨v115, rfl, ho0, hb⟩; refine ⟨_, rfl, ?_⟩; have n0_ := Aside0.mk (Kd.R_elder' (by (with_reducible repeat (first | apply Kd.R_alloc | apply Kd.R_drewN | apply Kd.R_drew)); exact HO109.out) (Kd.R_base ho0) hb); have n1_ := Aside0.mk (Kd.R_elder' (by (with_reducible repeat (first | apply Kd.R_alloc | apply Kd.R_drewN | apply Kd.R_drew)); exact HO112.out) (Kd.R_base ho0) hb); have n2_ := Aside0.mk (Kd.R_lower (Kd.R_new' (Kd.R_new' ho0 (Kd.R_lt (by (with_reducible repeat (first | apply Kd.R_alloc | apply Kd.R_drewN | apply Kd.R_drew)); exact HO109.out))) (Kd.R_lt (by (with_reducible repeat (first | apply Kd.R_alloc | apply Kd.R_drewN | apply Kd.R_drew)); exact HO112.out))) (below_size (by repeat (first | (with_reducible first | exact HB.out | apply below_alloc | apply pw_below_drewN | apply below_drew1) | exact HB.out)))); have n3_ := Aside0.mk (below_step (by repeat (first | (with_reducible first | exact HB.out | apply below_alloc | apply pw_below_drewN | apply below_drew1) | exact HB.out)) hb); clear HO109; clear HO112; clear HB; have HO109 := n0_; have HO112 := n1_; have HO116 := n2_; have HB := n3_; clear n0_ n1_ n2_ n3_; (try clear hb); (try clear hb2); (try clear hk); (try clear hi); (try clear ho0)))
   go_ret
   exact ⟨by first | rfl | (simp [errW_none, errW_some] <;> rfl) | (simp [*, errW_none, errW_some] <;> rfl), by repeat (first | (with_reducible first | exact HB.out | apply below_alloc | apply pw_below_drewN | apply below_drew1) | exact HB.out)⟩
 ·rw [if_neg c5] at H
  have c5b0 : (t101 == 1536000) = false := beq_eq_false_iff_ne.mpr c5
  have c5b1 : (t101 != 1536000) = true := bne_iff_ne.mpr c5
  obtain rfl := Option.some.inj H
  go_enter Tryz.func16, Tryz.ntmps16
  go_wp2_with (first | ((with_reducible refine gate_callee (f := 17) rfl ?_); refine goesL_ (some 10) rfl rfl Tryz.func17 (by kernel_rfl) rfl #[.string (⟨#[49, 46, 53, 75, 105]⟩ : ByteArray)] rfl (by (try simp only [List.map_toArray, List.map_cons, List.map_nil]); first | done | rfl | (simp only [List.length_drop, List.length_take]; rfl)) ?_; (with_reducible refine (quant_Parse.calls k (⟨#[49, 46, 53, 75, 105]⟩ : ByteArray) t101 t102 _ A1.out (Glob.below hG (by repeat (first | (with_reducible first | exact HB.out | apply below_alloc | apply pw_below_drewN | apply below_drew1) | exact HB.out)))).mono ?_); rintro e w114 ⟨rfl, hb⟩; refine ⟨_, rfl, ?_⟩; have n0_ := Aside0.mk (below_step (by repeat (first | (with_reducible first | exact HB.out | apply below_alloc | apply pw_below_drewN | apply below_drew1) | exact HB.out)) hb); clear HB; have HB := n0_; clear n0_; (try clear hb); (try clear hb2); (try clear hk); (try clear hi)) | ((with_reducible refine gate_callee (f := 17) rfl ?_); refine goesL_ (some 14) rfl rfl Tryz.func17 (by kernel_rfl) rfl #[.string (⟨#[48, 46, 48, 48, 48, 49]⟩ : ByteArray)] rfl (by (try simp only [List.map_toArray, List.map_cons, List.map_nil]); first | done | rfl | (simp only [List.length_drop, List.length_take]; rfl)) ?_; (with_reducible refine (quant_Parse.calls k (⟨#[48, 46, 48, 48, 48, 49]⟩ : ByteArray) t103 t104 _ A2.out (Glob.below hG (by repeat (first | (with_reducible first | exact HB.out | apply below_alloc | apply pw_below_drewN | apply below_drew1) | exact HB.out)))).mono ?_); rintro e w115 ⟨rfl, hb⟩; refine ⟨_, rfl, ?_⟩; have n0_ := Aside0.mk (below_step (by repeat (first | (with_reducible first | exact HB.out | apply below_alloc | apply pw_below_drewN | apply below_drew1) | exact HB.out)) hb); clear HB; have HB := n0_; clear n0_; (try clear hb); (try clear hb2); (try clear hk); (try clear hi)) | ((with_reducible refine gate_callee (f := 17) rfl ?_); refine goesL_ (some 18) rfl rfl Tryz.func17 (by kernel_rfl) rfl #[.string (⟨#[49, 75]⟩ : ByteArray)] rfl (by (try simp only [List.map_toArray, List.map_cons, List.map_nil]); first | done | rfl | (simp only [List.length_drop, List.length_take]; rfl)) ?_; (with_reducible refine (quant_Parse.calls k (⟨#[49, 75]⟩ : ByteArray) t105 t106 _ A3.out (Glob.below hG (by repeat (first | (with_reducible first | exact HB.out | apply below_alloc | apply pw_below_drewN | apply below_drew1) | exact HB.out)))).mono ?_); rintro e w116 ⟨rfl, hb⟩; refine ⟨_, rfl, ?_⟩; have n0_ := Aside0.mk (below_step (by repeat (first | (with_reducible first | exact HB.out | apply below_alloc | apply pw_below_drewN | apply below_drew1) | exact HB.out)) hb); clear HB; have HB := n0_; clear n0_; (try clear hb); (try clear hb2); (try clear hk); (try clear hi)) | ((with_reducible refine gate_dst (N := 24) rfl ?_); (try (refine gate_guard (by rfl) ?_; dsimp only)); refine Kd.R_lit k57 _ 57 ?hg (N := 24) ?hd (xs := ([(⟨(⟨#[99, 112, 117]⟩ : ByteArray), 1⟩ : S57), (⟨(⟨#[109, 101, 109, 111, 114, 121]⟩ : ByteArray), 2⟩ : S57)] : List (S57))) (inner := [.string (⟨#[99, 112, 117]⟩ : ByteArray), .int .i64 1, .string (⟨#[109, 101, 109, 111, 114, 121]⟩ : ByteArray), .int .i64 2]) (ok := fun _ => True) (okp := fun _ => True) ?hr ?hp (fun _ hk => hk) trivial (Below.refl _ _) (Nat.le_refl _) (by simp) ?_; (case hd => rfl); (case hg => rfl); (case hr => first | (go_simp; done) | (go_simp; rfl)); (case hp => exact (Reps.c2 (show Kd.M k57 _ _ _ (⟨(⟨#[99, 112, 117]⟩ : ByteArray), 1⟩ : S57) [.string (⟨#[99, 112, 117]⟩ : ByteArray), .int .i64 1] from (k57_mkM _ _ _ (⟨(⟨#[99, 112, 117]⟩ : ByteArray), 1⟩ : S57) )) (Reps.c2 (show Kd.M k57 _ _ _ (⟨(⟨#[109, 101, 109, 111, 114, 121]⟩ : ByteArray), 2⟩ : S57) [.string (⟨#[109, 101, 109, 111, 114, 121]⟩ : ByteArray), .int .i64 2] from (k57_mkM _ _ _ (⟨(⟨#[109, 101, 109, 111, 114, 121]⟩ : ByteArray), 2⟩ : S57) )) (Reps.none _ _)))); intro v108 w117 ho118 hb hg_ hnew_; clear hg_ hnew_; (first | rw [← Ny107.out] at ho118 | (simp only [Int.reduceToNat] at ho118; rw [← Ny107.out] at ho118)); have n0_ := Aside0.mk (Kd.R_lower ho118 (below_size (by repeat (first | (with_reducible first | exact HB.out | apply below_alloc | apply pw_below_drewN | apply below_drew1) | exact HB.out)))); have n1_ := Aside0.mk (below_step (by repeat (first | (with_reducible first | exact HB.out | apply below_alloc | apply pw_below_drewN | apply below_drew1) | exact HB.out)) hb); clear HB; have HO109 := n0_; have HB := n1_; clear n0_ n1_; clear hb ho118) | ((with_reducible refine gate_dst (N := 26) rfl ?_); (try (refine gate_guard (by rfl) ?_; dsimp only)); refine Kd.R_lit k57 _ 57 ?hg (N := 26) ?hd (xs := ([(⟨(⟨#[109, 101, 109, 111, 114, 121]⟩ : ByteArray), 3⟩ : S57)] : List (S57))) (inner := [.string (⟨#[109, 101, 109, 111, 114, 121]⟩ : ByteArray), .int .i64 3]) (ok := fun _ => True) (okp := fun _ => True) ?hr ?hp (fun _ hk => hk) trivial (Below.refl _ _) (Nat.le_refl _) (by simp) ?_; (case hd => rfl); (case hg => rfl); (case hr => first | (go_simp; done) | (go_simp; rfl)); (case hp => exact (Reps.c2 (show Kd.M k57 _ _ _ (⟨(⟨#[109, 101, 109, 111, 114, 121]⟩ : ByteArray), 3⟩ : S57) [.string (⟨#[109, 101, 109, 111, 114, 121]⟩ : ByteArray), .int .i64 3] from (k57_mkM _ _ _ (⟨(⟨#[109, 101, 109, 111, 114, 121]⟩ : ByteArray), 3⟩ : S57) )) (Reps.none _ _))); intro v111 w119 ho120 hb hg_ hnew_; clear hg_ hnew_; (first | rw [← Ny110.out] at ho120 | (simp only [Int.reduceToNat] at ho120; rw [← Ny110.out] at ho120)); have n0_ := Aside0.mk (Kd.R_elder' (by (with_reducible repeat (first | apply Kd.R_alloc | apply Kd.R_drewN | apply Kd.R_drew)); exact HO109.out) (Kd.R_base ho120) hb); have n1_ := Aside0.mk (Kd.R_lower (Kd.R_new' ho120 (Kd.R_lt (by (with_reducible repeat (first | apply Kd.R_alloc | apply Kd.R_drewN | apply Kd.R_drew)); exact HO109.out))) (below_size (by repeat (first | (with_reducible first | exact HB.out | apply below_alloc | apply pw_below_drewN | apply below_drew1) | exact HB.out)))); have n2_ := Aside0.mk (below_step (by repeat (first | (with_reducible first | exact HB.out | apply below_alloc | apply pw_below_drewN | apply below_drew1) | exact HB.out)) hb); clear HO109; clear HB; have HO109 := n0_; have HO112 := n1_; have HB := n2_; clear n0_ n1_ n2_; clear hb ho120; obtain ⟨Ao121, co121, eo121⟩ := Kd.R_slice HO109.out; subst eo121; obtain ⟨Ao122, co122, eo122⟩ := Kd.R_slice HO112.out; subst eo122) | ((with_reducible refine gate_callee (f := 41) rfl ?_); refine goesL_ (some 27) rfl rfl Tryz.func41 (by kernel_rfl) rfl #[.slice Ao121 y107.length co121, .slice Ao122 y110.length co122] rfl (by (try simp only [List.map_toArray, List.map_cons, List.map_nil]); first | done | rfl | (simp only [List.length_drop, List.length_take]; rfl)) ?_; (with_reducible refine (quant_Plus.calls k _ _ y107 _ _ y110 t113 t114 _ ?side1 ?side2 ?side3 ?side4 A4.out (Glob.below hG (by repeat (first | (with_reducible first | exact HB.out | apply below_alloc | apply pw_below_drewN | apply below_drew1) | exact HB.out)))).mono ?_); (case side1 => repeat (first | exact (Kd.R_reads' HO109.out).2.2 | (with_reducible refine Kd.C_alloc ?_ _) | (with_reducible refine Kd.C_drewN ?_ _) | (with_reducible refine Kd.C_drew ?_))); (case side2 => exact (Kd.R_reads' HO109.out).2.1); (case side3 => repeat (first | exact (Kd.R_reads' HO112.out).2.2 | (with_reducible refine Kd.C_alloc ?_ _) | (with_reducible refine Kd.C_drewN ?_ _) | (with_reducible refine Kd.C_drew ?_))); (case side4 => exact (Kd.R_reads' HO112.out).2.1); rintro e w123 ⟨v115, rfl, ho0, hb⟩; refine ⟨_, rfl, ?_⟩; have n0_ := Aside0.mk (Kd.R_elder' (by (with_reducible repeat (first | apply Kd.R_alloc | apply Kd.R_drewN | apply Kd.R_drew)); exact HO109.out) (Kd.R_base ho0) hb); have n1_ := Aside0.mk (Kd.R_elder' (by (with_reducible repeat (first | apply Kd.R_alloc | apply Kd.R_drewN | apply Kd.R_drew)); exact HO112.out) (Kd.R_base ho0) hb); have n2_ := Aside0.mk (Kd.R_lower (Kd.R_new' (Kd.R_new' ho0 (Kd.R_lt (by (with_reducible repeat (first | apply Kd.R_alloc | apply Kd.R_drewN | apply Kd.R_drew)); exact HO109.out))) (Kd.R_lt (by (with_reducible repeat (first | apply Kd.R_alloc | apply Kd.R_drewN | apply Kd.R_drew)); exact HO112.out))) (below_size (by repeat (first | (with_reducible first | exact HB.out | apply below_alloc | apply pw_below_drewN | apply below_drew1) | exact HB.out)))); have n3_ := Aside0.mk (below_step (by repeat (first | (with_reducible first | exact HB.out | apply below_alloc | apply pw_below_drewN | apply below_drew1) | exact HB.out)) hb); clear HO109; clear HO112; clear HB; have HO109 := n0_; have HO112 := n1_; have HO116 := n2_; have HB := n3_; clear n0_ n1_ n2_ n3_; (try clear hb); (try clear hb2); (try clear hk); (try clear hi); (try clear ho0)))
  go_ret
  exact ⟨by first | rfl | (simp [errW_none, errW_some] <;> rfl) | (simp [*, errW_none, errW_some] <;> rfl), by repeat (first | (with_reducible first | exact HB.out | apply below_alloc | apply pw_below_drewN | apply below_drew1) | exact HB.out)⟩
end Go.Proofs.YtejgbdclhlolkaaGreatDoor.Q
