/- What the statement ObjectPlacesUptoCardSaid rests on, part 4 of 7: walks and plain laws; what of the printer's words it leans on. -/
import Derived.Test.YtniolbolfclhkaaDoorMOP3
import Derived.Lib.SplitLaws
import Derived.Shelf.Strings.BuilderX
import Derived.Lib.AppendStr
import Derived.Lib.UnsafeStr
import Derived.Lib.Builder
import Derived.Laws.Externs
import GoSem.Op.String
import Derived.Lib.Hide
import Derived.Lib.CountLaws
import Derived.Lib.Replace
import Derived.Laws.BitsAllLaws
namespace Go.Proofs.YtniolbolfclhkaaDoor.Q
open Go.RowKit Go.Proofs.YtniolbolfclhkaaDoorW.PrintWords Go.Proofs.YtniolbolfclhkaaDoorW.PrintLast Go.Proofs.YtniolbolfclhkaaDoorW.PrintMore
attribute [local go_sem] binOp_leq_ binOp_gtr_ binOp_geq_ max2_int min2_int max_two min_two max_three min_three max_four min_four   -- for this text's walks alone
set_option linter.unusedVariables false
set_option linter.unusedSimpArgs false
def quant_Valid.l0 : Nat → List (S50) → List (S50) → Int → Int → Option (Int)
|0,_,_,_,_ => none
|k + 1,x0,x8,x9,x10 => if x10 < x9 then (if 0 ≤ x10 then (if x10 < (x8.length : Int) then ((quant_resource.f k ((rd_T50 x8 x10).f0)).bind fun t481 => (if t481 = true then (if ((rd_T50 x8 x10).f1) < 0 then (some 31) else (if x10 > 0 then (if 0 ≤ (wrap64 (x10 - 1)) then (if (wrap64 (x10 - 1)) < (x0.length : Int) then (if ((Op.bytesLess (((rd_T50 x0 (wrap64 (x10 - 1))).f0).toList) (((rd_T50 x8 x10).f0).toList)) = true) then (quant_Valid.l0 k x0 x8 x9 (wrap64 (x10 + 1))) else (some 31)) else (none)) else (none)) else (quant_Valid.l0 k x0 x8 x9 (wrap64 (x10 + 1))))) else (some 31))) else (none)) else (none)) else (some 0)
def quant_Valid.f (k : Nat) (l0 : List (S50)) : Option (Int) := if (l0.length : Int) > 16 then (some 23) else (quant_Valid.l0 k l0 l0 (l0.length : Int) 0)
theorem quant_Valid.mono_l : ∀ k, (∀ y0 y1 y2 y3, LeO (quant_Valid.l0 k y0 y1 y2 y3) (quant_Valid.l0 (k + 1) y0 y1 y2 y3))
|0 => fun _ _ _ _ r h => by simp [quant_Valid.l0] at h
|k + 1 => by
  have ih0:=quant_Valid.mono_l k
  ·intro y0 y1 y2 y3
   unfold quant_Valid.l0
   repeat' first
  |(with_reducible exact ih0 _ _ _ _)
  |(with_reducible exact quant_resource.mono _ _)
  |(with_reducible exact LeO.refl _)
  |(with_reducible exact LeO.none _)
  |(with_reducible refine LeO.ite ?_ ?_)
  |(with_reducible refine LeO.bind ?_ (fun _ => ?_))
  |exact ih0 _ _ _ _
  |exact quant_resource.mono _ _
  |exact LeO.none _
  |refine LeO.ite ?_ ?_
  |refine LeO.bind ?_ (fun _ => ?_)
theorem quant_Valid.mono : ∀ a0 k, LeO (quant_Valid.f k a0) (quant_Valid.f (k + 1) a0) := by
 intro a0 k
 have ih0:=quant_Valid.mono_l k
 unfold quant_Valid.f
 repeat' first
  |(with_reducible exact ih0 _ _ _ _)
  |(with_reducible exact quant_resource.mono _ _)
  |(with_reducible exact LeO.refl _)
  |(with_reducible exact LeO.none _)
  |(with_reducible refine LeO.ite ?_ ?_)
  |(with_reducible refine LeO.bind ?_ (fun _ => ?_))
  |exact ih0 _ _ _ _
  |exact quant_resource.mono _ _
  |exact LeO.none _
  |refine LeO.ite ?_ ?_
  |refine LeO.bind ?_ (fun _ => ?_)
def quant_Valid.T6 : Bool × List (List Nat × List Nat) := (true, [([], []), ([0], [0]), ([1], [1]), ([2], [2]), ([3, 2], [3]), ([4], [4]), ([5, 4], [4, 5]), ([6, 4], [4, 6]), ([4, 7], [4, 7]), ([8, 4], [8]), ([9], [9]), ([10, 9], [9, 10]), ([11, 9, 9], [9, 11]), ([12], [12]), ([13, 12], [12, 13]), ([12], [12]), ([12], [12]), ([16, 12], [12, 16]), ([15, 17, 12], [12, 15, 17]), ([18, 12], [12, 18]), ([19, 12], [12, 19]), ([14, 20, 12], [12, 14, 20]), ([12, 21, 9], [9, 12, 21]), ([9, 22], [9, 22])])
def quant_Valid.B6 : List Nat := [0, 1, 3, 7, 15, 31, 63, 127, 255, 511, 1023, 2047, 4095, 8191, 16383, 8191, 8191, 73727, 237567, 499711, 1023999, 2097151, 4194303, 8388607]
theorem quant_Valid.tab6 : rtab .any (opsOf Tryd.f47 6) = quant_Valid.T6 := by kernel_rfl
theorem quant_Valid.bits6 : waitsOk quant_Valid.T6.2 quant_Valid.B6 = true := by kernel_rfl
set_option maxHeartbeats 8000000 in
set_option maxRecDepth 100000 in
theorem quant_Valid.calls (k : Nat) (A0 : Option Addr) (c0 : Nat) (l0 : List (S50)) (r : Int) (w : World) (hr0 : Kd.C k50 w A0 l0.length l0) (hc0 : l0.length ≤ c0) (h : quant_Valid.f k l0 = some r) (hG : Glob w) :
  Calls Tryd.prog 47 #[.slice A0 l0.length c0] w fun e w' => e = .returned (.int .i64 r) ∧ Below w.heap.size w w':=by
 have hu50:=Tryd.underlying50
 have HR0:=Aside0.mk hr0
 have HC0:=Aside0.mk hc0
 clear hr0 hc0
 have HB:=Aside0.mk (Below.refl w.heap.size w)
 have H : (if (l0.length : Int) > 16 then (some 23) else (quant_Valid.l0 k l0 l0 (l0.length : Int) 0)) = some r:=h
 clear h
 by_cases c2 : (l0.length : Int) > 16
 ·rw [if_pos c2] at H
  have c2b0 : decide (16 < (l0.length : Int)) = true:=decide_eq_true c2
  have c2b1 : decide (16 < l0.length) = true:=decide_eq_true (by omega)
  clear c2
  obtain rfl:=Option.some.inj H
  go_enter Tryd.func47,Tryd.ntmps47
  go_wp2
  go_ret
  exact ⟨by first|rfl|(simp [errW_none,errW_some] <;> rfl)|(simp [*,errW_none,errW_some] <;> rfl),by repeat (first|(with_reducible first|exact HB.out|apply below_alloc|apply pw_below_drewN|apply below_drew1)|exact HB.out)⟩
 rw [if_neg c2] at H
 have c2b0 : decide (16 < (l0.length : Int)) = false:=decide_eq_false c2
 have c2b1 : decide (16 < l0.length) = false:=decide_eq_false (by omega)
 clear c2
 have H':=Aside0.mk H
 clear H
 go_enter Tryd.func47,Tryd.ntmps47
 go_wp2
 go_loopg [10] k (fun kq v10 w' => ∃ (x10_1 : Int),v10 = .int .i64 x10_1 ∧ Aside0 (quant_Valid.l0 kq l0 l0 (l0.length : Int) x10_1 = some r) ∧ Aside0 (kq ≤ k) ∧ Aside0 (Below w.heap.size w w'))
 case atStart => exact ⟨(0),(by first|rfl|(simp;done)|(simp [*];done)|(simp;rw [Bool.eq_iff_iff];simp;done)|(rw [Bool.eq_iff_iff];simp;done)),H',⟨Nat.le_refl _⟩,⟨by repeat (first|(with_reducible first|exact HB.out|apply below_alloc|apply pw_below_drewN|apply below_drew1)|exact HB.out)⟩⟩
 case round =>
  clear H';(try clear c2);(try clear c2b0);(try clear c2b1);(try clear p2)
  obtain ⟨x10_1,rfl,HA,HK1,HB⟩:=hrel
  cases gk with
 |zero => exact absurd HA.out (by simp [quant_Valid.l0])
 |succ k1 =>
   have H:=HA.out
   clear HA
   simp only [quant_Valid.l0] at H
   by_cases c3 : x10_1 < (l0.length : Int)
   rotate_left
   ·rw [if_neg c3] at H
    have c3b0 : decide (x10_1 < (l0.length : Int)) = false:=decide_eq_false c3
    clear c3
    obtain rfl:=Option.some.inj H
    go_wp2
    go_ret
    exact ⟨by first|rfl|(simp [errW_none,errW_some] <;> rfl)|(simp [*,errW_none,errW_some] <;> rfl),by repeat (first|(with_reducible first|exact HB.out|apply below_alloc|apply pw_below_drewN|apply below_drew1)|exact HB.out)⟩
   rw [if_pos c3] at H
   have c3b0 : decide (x10_1 < (l0.length : Int)) = true:=decide_eq_true c3
   clear c3
   by_cases c4 : 0 ≤ x10_1
   rotate_left
   ·rw [if_neg c4] at H
    exact absurd H (by simp)
   rw [if_pos c4] at H
   have c4b0 : decide (0 ≤ x10_1) = true:=decide_eq_true c4
   clear c4
   by_cases c5 : x10_1 < (l0.length : Int)
   rotate_left
   ·rw [if_neg c5] at H
    exact absurd H (by simp)
   rw [if_pos c5] at H
   have c5b0 : decide (x10_1 < (l0.length : Int)) = true:=decide_eq_true c5
   clear c5
   replace H:=Option.bind_eq_some_iff.mp H
   obtain ⟨t481,A60,H⟩:=H
   replace H : (if t481 = true then (if ((rd_T50 l0 x10_1).f1) < 0 then (some 31) else (if x10_1 > 0 then (if 0 ≤ (wrap64 (x10_1 - 1)) then (if (wrap64 (x10_1 - 1)) < (l0.length : Int) then (if ((Op.bytesLess (((rd_T50 l0 (wrap64 (x10_1 - 1))).f0).toList) (((rd_T50 l0 x10_1).f0).toList)) = true) then (quant_Valid.l0 k1 l0 l0 (l0.length : Int) (wrap64 (x10_1 + 1))) else (some 31)) else (none)) else (none)) else (quant_Valid.l0 k1 l0 l0 (l0.length : Int) (wrap64 (x10_1 + 1))))) else (some 31)) = some r:=H
   have A6:=Aside0.mk A60
   clear A60
   by_cases c7 : t481 = true
   rotate_left
   ·replace c7:=Bool.eq_false_iff.mpr c7
    subst c7
    have H1 : (some 31) = some r:=by rw [if_neg (show ¬ (false = true) by decide)] at H;exact H
    clear H;have H:=H1;clear H1
    obtain rfl:=Option.some.inj H
    have p479 : 0 ≤ (x10_1 : Int):=of_decide_eq_true (by first|(with_reducible assumption)|assumption)
    have q479 : x10_1 < (l0.length : Int):=of_decide_eq_true (by first|(with_reducible assumption)|assumption)
    obtain ⟨ad479,e479,hx479_0,hx479_1⟩:=at_T50 HR0.out x10_1 p479 q479
    cases e479
    replace hx479_0:=(HB.out.cell (World.block_lt_of_cell? w _ hx479_0)).trans hx479_0
    replace hx479_1:=(HB.out.cell (World.block_lt_of_cell? w _ hx479_1)).trans hx479_1
    replace p479:=eq_true p479
    replace q479:=eq_true q479
    try go_wp2_with (first|((with_reducible refine gate_dst (N:=4) rfl ?_);refine box_event ?hg (N:=4) ?hd (cs:=#[.string (⟨#[]⟩ : ByteArray),.int .i64 0]) (t:=50) ?hr ?_;(case hd => rfl);(case hg => rfl);(case hr => first|(go_simp;done)|(go_simp;rfl));intro gb480 hg w34 hbox hb;have n0_:=Aside0.mk (below_step (by repeat (first|(with_reducible first|exact HB.out|apply below_alloc|apply pw_below_drewN|apply below_drew1)|exact HB.out)) hb);have n1_:=Aside0.mk (hbox);have n2_:=Aside0.mk ((by rw [hg];exact (below_size (by repeat (first|(with_reducible first|exact HB.out|apply below_alloc|apply pw_below_drewN|apply below_drew1)|exact HB.out))) : w.heap.size ≤ gb480));have n3_:=Aside0.mk ((by rw [hg];exact (below_size (by repeat (first|(with_reducible first|exact HB.out|apply below_alloc|apply pw_below_drewN|apply below_drew1)|exact HB.out))) : w.heap.size ≤ gb480));clear HB;have HB:=n0_;have BK480:=n1_;have GW480:=n2_;have GE480:=n3_;clear n0_ n1_ n2_ n3_;clear hb hbox hg;have hcz35_0 : w34.cell? ⟨gb480,0,none⟩ = some (.string (⟨#[]⟩ : ByteArray)):=(blk_cell BK480.out 0).trans rfl;have hcz35_1 : w34.cell? ⟨gb480,1,none⟩ = some (.int .i64 0):=(blk_cell BK480.out 1).trans rfl;have hfz35_0:=blk_frozen BK480.out 0;have hfz35_1:=blk_frozen BK480.out 1))
    have n0_ : Aside0 (((w34.setCell ⟨gb480,0,none⟩ (.string ((rd_T50 l0 x10_1).f0))).setCell ⟨gb480,1,none⟩ (.int .i64 ((rd_T50 l0 x10_1).f1))).heap[gb480]? = some (.cells #[.string ((rd_T50 l0 x10_1).f0),.int .i64 ((rd_T50 l0 x10_1).f1)] 50 (0,0))):=⟨by (with_reducible repeat (first|refine blk_drewN ?_ _|refine blk_drew ?_|refine blk_alloc ?_ _));refine blk_put (cs:=#[.string ((rd_T50 l0 x10_1).f0),.int .i64 0]) ?_ 1 _ rfl;(with_reducible repeat (first|refine blk_drewN ?_ _|refine blk_drew ?_|refine blk_alloc ?_ _));refine blk_put (cs:=#[.string (⟨#[]⟩ : ByteArray),.int .i64 0]) ?_ 0 _ rfl;(with_reducible repeat (first|refine blk_drewN ?_ _|refine blk_drew ?_|refine blk_alloc ?_ _));exact BK480.out⟩
    have n1_ : Aside0 (Below w.heap.size w ((w34.setCell ⟨gb480,0,none⟩ (.string ((rd_T50 l0 x10_1).f0))).setCell ⟨gb480,1,none⟩ (.int .i64 ((rd_T50 l0 x10_1).f1)))):=⟨by repeat (first|(with_reducible first|exact HB.out|apply below_alloc|apply pw_below_drewN|apply below_drew1|refine below_set ?_ GE480.out)|exact HB.out)⟩
    (try clear BK480);(try clear HB)
    generalize ((w34.setCell ⟨gb480,0,none⟩ (.string ((rd_T50 l0 x10_1).f0))).setCell ⟨gb480,1,none⟩ (.int .i64 ((rd_T50 l0 x10_1).f1))) = w36 at n0_ n1_ ⊢
    have BK480:=n0_;have HB:=n1_;clear n0_ n1_
    have n0_:=Aside0.mk (blk_drew BK480.out)
    have n1_:=Aside0.mk (below_drew1 HB.out)
    clear BK480;clear HB;have BK480:=n0_;have HB:=n1_;clear n0_ n1_
    refine start_ (n:=24) (S:=fun w' => w'.cell? ⟨gb480,0,none⟩ = some (.string ((rd_T50 l0 x10_1).f0)) ∧ w'.cell? ⟨gb480,1,none⟩ = some (.int .i64 ((rd_T50 l0 x10_1).f1))) (ds:=[]) (bl 0 24) (by kernel_rfl) rfl rfl ⟨(blk_cell BK480.out 0).trans rfl,(blk_cell BK480.out 1).trans rfl⟩ (fun hHeld => ?_);refine with_tabW quant_Valid.tab6 quant_Valid.bits6 (fun HT_ HW_ => ?_)
    generalize w36.drew = w37 at BK480 HB hHeld ⊢
    refine pure_ (i:=0) (N:=some 15) (v:=?_) (a':=?_) (bl 1 23) rfl rfl (any_of HT_.out (by kernel_rfl)) (fun _ _ _ h => h) (Or.inl ⟨by rfl,?_⟩) ?_ ?_
    rotate_left;·intro w';go_simp;with_reducible rfl
    rotate_left;·simp only [pu_];rfl
    refine take_ (i:=1) (N:=some 16) (v:=?_) (a':=?_) (bl 2 22) rfl rfl (take_ofW HT_.out HW_.out (by kernel_rfl)) (fun _ _ _ h => h) (Or.inl ⟨by rfl,?_⟩) hHeld ?_ ?_
    rotate_left
    ·rintro w' ⟨s0,s1⟩
     go_simp
     with_reducible rfl
    rotate_left
    ·simp only [pu_]
     rfl
    refine one_ (i:=2) (N:=some 17) (bl 3 21) rfl rfl (one_of HT_.out (by kernel_rfl)) (by decide) (fun K hK => ?_)
    refine goes_ Tryd.func66 (by kernel_rfl) rfl #[.string ((rd_T50 l0 x10_1).f0)] (by rfl) rfl rfl (by (try simp only [List.map_toArray,List.map_cons,List.map_nil]);first|done|rfl|(simp only [List.length_drop,List.length_take];rfl)) ?_
    with_reducible refine (quant_resource.calls k1 ((rd_T50 l0 x10_1).f0) false _ A6.out (Glob.below hG (by repeat (first|(with_reducible first|exact HB.out|apply below_alloc|apply pw_below_drewN|apply below_drew1)|exact HB.out)))).mono ?_
    rintro e w38 ⟨rfl,hb⟩
    refine ⟨_,rfl,?_⟩
    have n0_:=Aside0.mk (blk_below (g:=gb480) (o:=.cells #[.string ((rd_T50 l0 x10_1).f0),.int .i64 ((rd_T50 l0 x10_1).f1)] 50 (0,0)) (by (with_reducible repeat (first|refine blk_drewN ?_ _|refine blk_drew ?_|refine blk_alloc ?_ _));exact BK480.out) hb)
    have n1_:=Aside0.mk (below_step (by repeat (first|(with_reducible first|exact HB.out|apply below_alloc|apply pw_below_drewN|apply below_drew1|refine below_set ?_ GE480.out)|exact HB.out)) hb)
    clear BK480;clear HB;have BK480:=n0_;have HB:=n1_;clear n0_ n1_;(try clear hb);(try clear hb2);(try clear hk);(try clear hi)
    refine hK.out _ _ ⟨(blk_cell BK480.out 0).trans rfl,(blk_cell BK480.out 1).trans rfl⟩ (fun hHeld => ?_)
    clear hK K
    refine norm_ (a':=?_) ?_ ?_
    rotate_left
    ·show Act.put _ (some 17) _ = _
     simp only [pu_]
     rfl
    refine pure_ (i:=3) (N:=some 18) (v:=?_) (a':=?_) (bl 4 20) rfl rfl (any_of HT_.out (by kernel_rfl)) (fun _ _ _ h => h) (Or.inl ⟨by rfl,?_⟩) ?_ ?_
    rotate_left;·intro w';go_simp;with_reducible rfl
    rotate_left;·simp only [pu_];rfl
    refine pure_ (i:=4) (N:=some 19) (v:=?_) (a':=?_) (bl 5 19) rfl rfl (any_of HT_.out (by kernel_rfl)) (fun _ _ _ h => h) (Or.inl ⟨by rfl,?_⟩) ?_ ?_
    rotate_left;·intro w';go_simp;with_reducible rfl
    rotate_left;·simp only [pu_];rfl
    refine pure_ (i:=5) (N:=some 20) (v:=undef) (a':=?_) (bl 6 18) rfl rfl (any_of HT_.out (by kernel_rfl)) (fun _ _ _ h => h) (Or.inr ⟨by rfl,rfl⟩) ?_ ?_
    rotate_left
    ·simp only [pu_]
     rfl
    refine pure_ (i:=6) (N:=some 21) (v:=undef) (a':=?_) (bl 7 17) rfl rfl (any_of HT_.out (by kernel_rfl)) (fun _ _ _ h => h) (Or.inr ⟨by rfl,rfl⟩) ?_ ?_
    rotate_left
    ·simp only [pu_]
     rfl
    refine pure_ (i:=7) (N:=some 22) (v:=undef) (a':=?_) (bl 8 16) rfl rfl (any_of HT_.out (by kernel_rfl)) (fun _ _ _ h => h) (Or.inr ⟨by rfl,rfl⟩) ?_ ?_
    rotate_left
    ·simp only [pu_]
     rfl
    refine pure_ (i:=8) (N:=some 23) (v:=?_) (a':=?_) (bl 9 15) rfl rfl (any_of HT_.out (by kernel_rfl)) (fun _ _ _ h => h) (Or.inl ⟨by rfl,?_⟩) ?_ ?_
    rotate_left;·intro w';go_simp;with_reducible rfl
    rotate_left;·simp only [pu_];rfl
    refine pure_ (i:=9) (N:=some 24) (v:=?_) (a':=?_) (bl 10 14) rfl rfl (any_of HT_.out (by kernel_rfl)) (fun _ _ _ h => h) (Or.inl ⟨by rfl,?_⟩) ?_ ?_
    rotate_left;·intro w';go_simp;with_reducible rfl
    rotate_left;·simp only [pu_];rfl
    refine pure_ (i:=10) (N:=some 25) (v:=undef) (a':=?_) (bl 11 13) rfl rfl (any_of HT_.out (by kernel_rfl)) (fun _ _ _ h => h) (Or.inr ⟨by rfl,rfl⟩) ?_ ?_
    rotate_left
    ·simp only [pu_]
     rfl
    refine pure_ (i:=11) (N:=some 26) (v:=undef) (a':=?_) (bl 12 12) rfl rfl (any_of HT_.out (by kernel_rfl)) (fun _ _ _ h => h) (Or.inr ⟨by rfl,rfl⟩) ?_ ?_
    rotate_left
    ·simp only [pu_]
     rfl
    refine pure_ (i:=12) (N:=some 27) (v:=undef) (a':=?_) (bl 13 11) rfl rfl (any_of HT_.out (by kernel_rfl)) (fun _ _ _ h => h) (Or.inr ⟨by rfl,rfl⟩) ?_ ?_
    rotate_left
    ·simp only [pu_]
     rfl
    refine pure_ (i:=13) (N:=some 28) (v:=undef) (a':=?_) (bl 14 10) rfl rfl (any_of HT_.out (by kernel_rfl)) (fun _ _ _ h => h) (Or.inr ⟨by rfl,rfl⟩) ?_ ?_
    rotate_left
    ·simp only [pu_]
     rfl
    refine pure_ (i:=14) (N:=some 29) (v:=undef) (a':=?_) (bl 15 9) rfl rfl (any_of HT_.out (by kernel_rfl)) (fun _ _ _ h => h) (Or.inr ⟨by rfl,rfl⟩) ?_ ?_
    rotate_left
    ·simp only [pu_]
     rfl
    refine pure_ (i:=15) (N:=some 30) (v:=undef) (a':=?_) (bl 16 8) rfl rfl (any_of HT_.out (by kernel_rfl)) (fun _ _ _ h => h) (Or.inr ⟨by rfl,rfl⟩) ?_ ?_
    rotate_left
    ·simp only [pu_]
     rfl
    refine pure_ (i:=16) (N:=some 31) (v:=undef) (a':=?_) (bl 17 7) rfl rfl (any_of HT_.out (by kernel_rfl)) (fun _ _ _ h => h) (Or.inr ⟨by rfl,rfl⟩) ?_ ?_
    rotate_left
    ·simp only [pu_]
     rfl
    refine pure_ (i:=17) (N:=some 32) (v:=undef) (a':=?_) (bl 18 6) rfl rfl (any_of HT_.out (by kernel_rfl)) (fun _ _ _ h => h) (Or.inr ⟨by rfl,rfl⟩) ?_ ?_
    rotate_left
    ·simp only [pu_]
     rfl
    refine pure_ (i:=18) (N:=some 33) (v:=undef) (a':=?_) (bl 19 5) rfl rfl (any_of HT_.out (by kernel_rfl)) (fun _ _ _ h => h) (Or.inr ⟨by rfl,rfl⟩) ?_ ?_
    rotate_left
    ·simp only [pu_]
     rfl
    refine pure_ (i:=19) (N:=some 34) (v:=undef) (a':=?_) (bl 20 4) rfl rfl (any_of HT_.out (by kernel_rfl)) (fun _ _ _ h => h) (Or.inr ⟨by rfl,rfl⟩) ?_ ?_
    rotate_left
    ·simp only [pu_]
     rfl
    refine pure_ (i:=20) (N:=some 35) (v:=undef) (a':=?_) (bl 21 3) rfl rfl (any_of HT_.out (by kernel_rfl)) (fun _ _ _ h => h) (Or.inr ⟨by rfl,rfl⟩) ?_ ?_
    rotate_left
    ·simp only [pu_]
     rfl
    refine pure_ (i:=21) (N:=some 36) (v:=undef) (a':=?_) (bl 22 2) rfl rfl (any_of HT_.out (by kernel_rfl)) (fun _ _ _ h => h) (Or.inr ⟨by rfl,rfl⟩) ?_ ?_
    rotate_left
    ·simp only [pu_]
     rfl
    refine pure_ (i:=22) (N:=some 37) (v:=undef) (a':=?_) (bl 23 1) rfl rfl (any_of HT_.out (by kernel_rfl)) (fun _ _ _ h => h) (Or.inr ⟨by rfl,rfl⟩) ?_ ?_
    rotate_left
    ·simp only [pu_]
     rfl
    refine pure_ (i:=23) (N:=some 38) (v:=?_) (a':=?_) (bl 24 0) rfl rfl (any_of HT_.out (by kernel_rfl)) (fun _ _ _ h => h) (Or.inl ⟨by rfl,?_⟩) ?_ ?_
    rotate_left;·intro w';go_simp;with_reducible rfl
    rotate_left;·simp only [pu_];rfl
    refine done_ (done_of HT_.out (by kernel_rfl)) ?_
    try go_wp2
    go_ret
    exact ⟨by first|rfl|(simp [errW_none,errW_some] <;> rfl)|(simp [*,errW_none,errW_some] <;> rfl),by repeat (first|(with_reducible first|exact HB.out|apply below_alloc|apply pw_below_drewN|apply below_drew1|refine below_set ?_ GE480.out)|exact HB.out)⟩
   subst c7
   have H1 : (if ((rd_T50 l0 x10_1).f1) < 0 then (some 31) else (if x10_1 > 0 then (if 0 ≤ (wrap64 (x10_1 - 1)) then (if (wrap64 (x10_1 - 1)) < (l0.length : Int) then (if ((Op.bytesLess (((rd_T50 l0 (wrap64 (x10_1 - 1))).f0).toList) (((rd_T50 l0 x10_1).f0).toList)) = true) then (quant_Valid.l0 k1 l0 l0 (l0.length : Int) (wrap64 (x10_1 + 1))) else (some 31)) else (none)) else (none)) else (quant_Valid.l0 k1 l0 l0 (l0.length : Int) (wrap64 (x10_1 + 1))))) = some r:=by rw [if_pos rfl] at H;exact H
   clear H;have H:=H1;clear H1
   by_cases c8 : ((rd_T50 l0 x10_1).f1) < 0
   ·rw [if_pos c8] at H
    have c8b0 : decide (((rd_T50 l0 x10_1).f1) < 0) = true:=decide_eq_true c8
    clear c8
    obtain rfl:=Option.some.inj H
    have p479 : 0 ≤ (x10_1 : Int):=of_decide_eq_true (by first|(with_reducible assumption)|assumption)
    have q479 : x10_1 < (l0.length : Int):=of_decide_eq_true (by first|(with_reducible assumption)|assumption)
    obtain ⟨ad479,e479,hx479_0,hx479_1⟩:=at_T50 HR0.out x10_1 p479 q479
    cases e479
    replace hx479_0:=(HB.out.cell (World.block_lt_of_cell? w _ hx479_0)).trans hx479_0
    replace hx479_1:=(HB.out.cell (World.block_lt_of_cell? w _ hx479_1)).trans hx479_1
    replace p479:=eq_true p479
    replace q479:=eq_true q479
    try go_wp2_with (first|((with_reducible refine gate_dst (N:=4) rfl ?_);refine box_event ?hg (N:=4) ?hd (cs:=#[.string (⟨#[]⟩ : ByteArray),.int .i64 0]) (t:=50) ?hr ?_;(case hd => rfl);(case hg => rfl);(case hr => first|(go_simp;done)|(go_simp;rfl));intro gb480 hg w9 hbox hb;have n0_:=Aside0.mk (below_step (by repeat (first|(with_reducible first|exact HB.out|apply below_alloc|apply pw_below_drewN|apply below_drew1)|exact HB.out)) hb);have n1_:=Aside0.mk (hbox);have n2_:=Aside0.mk ((by rw [hg];exact (below_size (by repeat (first|(with_reducible first|exact HB.out|apply below_alloc|apply pw_below_drewN|apply below_drew1)|exact HB.out))) : w.heap.size ≤ gb480));have n3_:=Aside0.mk ((by rw [hg];exact (below_size (by repeat (first|(with_reducible first|exact HB.out|apply below_alloc|apply pw_below_drewN|apply below_drew1)|exact HB.out))) : w.heap.size ≤ gb480));clear HB;have HB:=n0_;have BK480:=n1_;have GW480:=n2_;have GE480:=n3_;clear n0_ n1_ n2_ n3_;clear hb hbox hg;have hcz10_0 : w9.cell? ⟨gb480,0,none⟩ = some (.string (⟨#[]⟩ : ByteArray)):=(blk_cell BK480.out 0).trans rfl;have hcz10_1 : w9.cell? ⟨gb480,1,none⟩ = some (.int .i64 0):=(blk_cell BK480.out 1).trans rfl;have hfz10_0:=blk_frozen BK480.out 0;have hfz10_1:=blk_frozen BK480.out 1))
    have n0_ : Aside0 (((w9.setCell ⟨gb480,0,none⟩ (.string ((rd_T50 l0 x10_1).f0))).setCell ⟨gb480,1,none⟩ (.int .i64 ((rd_T50 l0 x10_1).f1))).heap[gb480]? = some (.cells #[.string ((rd_T50 l0 x10_1).f0),.int .i64 ((rd_T50 l0 x10_1).f1)] 50 (0,0))):=⟨by (with_reducible repeat (first|refine blk_drewN ?_ _|refine blk_drew ?_|refine blk_alloc ?_ _));refine blk_put (cs:=#[.string ((rd_T50 l0 x10_1).f0),.int .i64 0]) ?_ 1 _ rfl;(with_reducible repeat (first|refine blk_drewN ?_ _|refine blk_drew ?_|refine blk_alloc ?_ _));refine blk_put (cs:=#[.string (⟨#[]⟩ : ByteArray),.int .i64 0]) ?_ 0 _ rfl;(with_reducible repeat (first|refine blk_drewN ?_ _|refine blk_drew ?_|refine blk_alloc ?_ _));exact BK480.out⟩
    have n1_ : Aside0 (Below w.heap.size w ((w9.setCell ⟨gb480,0,none⟩ (.string ((rd_T50 l0 x10_1).f0))).setCell ⟨gb480,1,none⟩ (.int .i64 ((rd_T50 l0 x10_1).f1)))):=⟨by repeat (first|(with_reducible first|exact HB.out|apply below_alloc|apply pw_below_drewN|apply below_drew1|refine below_set ?_ GE480.out)|exact HB.out)⟩
    (try clear BK480);(try clear HB)
    generalize ((w9.setCell ⟨gb480,0,none⟩ (.string ((rd_T50 l0 x10_1).f0))).setCell ⟨gb480,1,none⟩ (.int .i64 ((rd_T50 l0 x10_1).f1))) = w11 at n0_ n1_ ⊢
    have BK480:=n0_;have HB:=n1_;clear n0_ n1_
    have n0_:=Aside0.mk (blk_drew BK480.out)
    have n1_:=Aside0.mk (below_drew1 HB.out)
    clear BK480;clear HB;have BK480:=n0_;have HB:=n1_;clear n0_ n1_
    refine start_ (n:=24) (S:=fun w' => w'.cell? ⟨gb480,0,none⟩ = some (.string ((rd_T50 l0 x10_1).f0)) ∧ w'.cell? ⟨gb480,1,none⟩ = some (.int .i64 ((rd_T50 l0 x10_1).f1))) (ds:=[]) (bl 0 24) (by kernel_rfl) rfl rfl ⟨(blk_cell BK480.out 0).trans rfl,(blk_cell BK480.out 1).trans rfl⟩ (fun hHeld => ?_);refine with_tabW quant_Valid.tab6 quant_Valid.bits6 (fun HT_ HW_ => ?_)
    generalize w11.drew = w12 at BK480 HB hHeld ⊢
    refine pure_ (i:=0) (N:=some 15) (v:=?_) (a':=?_) (bl 1 23) rfl rfl (any_of HT_.out (by kernel_rfl)) (fun _ _ _ h => h) (Or.inl ⟨by rfl,?_⟩) ?_ ?_
    rotate_left;·intro w';go_simp;with_reducible rfl
    rotate_left;·simp only [pu_];rfl
    refine take_ (i:=1) (N:=some 16) (v:=?_) (a':=?_) (bl 2 22) rfl rfl (take_ofW HT_.out HW_.out (by kernel_rfl)) (fun _ _ _ h => h) (Or.inl ⟨by rfl,?_⟩) hHeld ?_ ?_
    rotate_left
    ·rintro w' ⟨s0,s1⟩
     go_simp
     with_reducible rfl
    rotate_left
    ·simp only [pu_]
     rfl
    refine one_ (i:=2) (N:=some 17) (bl 3 21) rfl rfl (one_of HT_.out (by kernel_rfl)) (by decide) (fun K hK => ?_)
    refine goes_ Tryd.func66 (by kernel_rfl) rfl #[.string ((rd_T50 l0 x10_1).f0)] (by rfl) rfl rfl (by (try simp only [List.map_toArray,List.map_cons,List.map_nil]);first|done|rfl|(simp only [List.length_drop,List.length_take];rfl)) ?_
    with_reducible refine (quant_resource.calls k1 ((rd_T50 l0 x10_1).f0) true _ A6.out (Glob.below hG (by repeat (first|(with_reducible first|exact HB.out|apply below_alloc|apply pw_below_drewN|apply below_drew1)|exact HB.out)))).mono ?_
    rintro e w13 ⟨rfl,hb⟩
    refine ⟨_,rfl,?_⟩
    have n0_:=Aside0.mk (blk_below (g:=gb480) (o:=.cells #[.string ((rd_T50 l0 x10_1).f0),.int .i64 ((rd_T50 l0 x10_1).f1)] 50 (0,0)) (by (with_reducible repeat (first|refine blk_drewN ?_ _|refine blk_drew ?_|refine blk_alloc ?_ _));exact BK480.out) hb)
    have n1_:=Aside0.mk (below_step (by repeat (first|(with_reducible first|exact HB.out|apply below_alloc|apply pw_below_drewN|apply below_drew1|refine below_set ?_ GE480.out)|exact HB.out)) hb)
    clear BK480;clear HB;have BK480:=n0_;have HB:=n1_;clear n0_ n1_;(try clear hb);(try clear hb2);(try clear hk);(try clear hi)
    refine hK.out _ _ ⟨(blk_cell BK480.out 0).trans rfl,(blk_cell BK480.out 1).trans rfl⟩ (fun hHeld => ?_)
    clear hK K
    refine norm_ (a':=?_) ?_ ?_
    rotate_left
    ·show Act.put _ (some 17) _ = _
     simp only [pu_]
     rfl
    refine pure_ (i:=3) (N:=some 18) (v:=?_) (a':=?_) (bl 4 20) rfl rfl (any_of HT_.out (by kernel_rfl)) (fun _ _ _ h => h) (Or.inl ⟨by rfl,?_⟩) ?_ ?_
    rotate_left;·intro w';go_simp;with_reducible rfl
    rotate_left;·simp only [pu_];rfl
    refine pure_ (i:=4) (N:=some 19) (v:=?_) (a':=?_) (bl 5 19) rfl rfl (any_of HT_.out (by kernel_rfl)) (fun _ _ _ h => h) (Or.inl ⟨by rfl,?_⟩) ?_ ?_
    rotate_left;·intro w';go_simp;with_reducible rfl
    rotate_left;·simp only [pu_];rfl
    refine pure_ (i:=5) (N:=some 20) (v:=?_) (a':=?_) (bl 6 18) rfl rfl (any_of HT_.out (by kernel_rfl)) (fun _ _ _ h => h) (Or.inl ⟨by rfl,?_⟩) ?_ ?_
    rotate_left;·intro w';go_simp;with_reducible rfl
    rotate_left;·simp only [pu_];rfl
    refine take_ (i:=6) (N:=some 21) (v:=?_) (a':=?_) (bl 7 17) rfl rfl (take_ofW HT_.out HW_.out (by kernel_rfl)) (fun _ _ _ h => h) (Or.inl ⟨by rfl,?_⟩) hHeld ?_ ?_
    rotate_left
    ·rintro w' ⟨s0,s1⟩
     go_simp
     with_reducible rfl
    rotate_left
    ·simp only [pu_]
     rfl
    refine pure_ (i:=7) (N:=some 22) (v:=?_) (a':=?_) (bl 8 16) rfl rfl (any_of HT_.out (by kernel_rfl)) (fun _ _ _ h => h) (Or.inl ⟨by rfl,?_⟩) ?_ ?_
    rotate_left;·intro w';go_simp;with_reducible rfl
    rotate_left;·simp only [pu_];rfl
    refine pure_ (i:=8) (N:=some 23) (v:=?_) (a':=?_) (bl 9 15) rfl rfl (any_of HT_.out (by kernel_rfl)) (fun _ _ _ h => h) (Or.inl ⟨by rfl,?_⟩) ?_ ?_
    rotate_left;·intro w';go_simp;with_reducible rfl
    rotate_left;·simp only [pu_];rfl
    refine pure_ (i:=9) (N:=some 24) (v:=?_) (a':=?_) (bl 10 14) rfl rfl (any_of HT_.out (by kernel_rfl)) (fun _ _ _ h => h) (Or.inl ⟨by rfl,?_⟩) ?_ ?_
    rotate_left;·intro w';go_simp;with_reducible rfl
    rotate_left;·simp only [pu_];rfl
    refine pure_ (i:=10) (N:=some 25) (v:=undef) (a':=?_) (bl 11 13) rfl rfl (any_of HT_.out (by kernel_rfl)) (fun _ _ _ h => h) (Or.inr ⟨by rfl,rfl⟩) ?_ ?_
    rotate_left
    ·simp only [pu_]
     rfl
    refine pure_ (i:=11) (N:=some 26) (v:=undef) (a':=?_) (bl 12 12) rfl rfl (any_of HT_.out (by kernel_rfl)) (fun _ _ _ h => h) (Or.inr ⟨by rfl,rfl⟩) ?_ ?_
    rotate_left
    ·simp only [pu_]
     rfl
    refine pure_ (i:=12) (N:=some 27) (v:=undef) (a':=?_) (bl 13 11) rfl rfl (any_of HT_.out (by kernel_rfl)) (fun _ _ _ h => h) (Or.inr ⟨by rfl,rfl⟩) ?_ ?_
    rotate_left
    ·simp only [pu_]
     rfl
    refine pure_ (i:=13) (N:=some 28) (v:=undef) (a':=?_) (bl 14 10) rfl rfl (any_of HT_.out (by kernel_rfl)) (fun _ _ _ h => h) (Or.inr ⟨by rfl,rfl⟩) ?_ ?_
    rotate_left
    ·simp only [pu_]
     rfl
    refine pure_ (i:=14) (N:=some 29) (v:=undef) (a':=?_) (bl 15 9) rfl rfl (any_of HT_.out (by kernel_rfl)) (fun _ _ _ h => h) (Or.inr ⟨by rfl,rfl⟩) ?_ ?_
    rotate_left
    ·simp only [pu_]
     rfl
    refine pure_ (i:=15) (N:=some 30) (v:=undef) (a':=?_) (bl 16 8) rfl rfl (any_of HT_.out (by kernel_rfl)) (fun _ _ _ h => h) (Or.inr ⟨by rfl,rfl⟩) ?_ ?_
    rotate_left
    ·simp only [pu_]
     rfl
    refine pure_ (i:=16) (N:=some 31) (v:=undef) (a':=?_) (bl 17 7) rfl rfl (any_of HT_.out (by kernel_rfl)) (fun _ _ _ h => h) (Or.inr ⟨by rfl,rfl⟩) ?_ ?_
    rotate_left
    ·simp only [pu_]
     rfl
    refine pure_ (i:=17) (N:=some 32) (v:=undef) (a':=?_) (bl 18 6) rfl rfl (any_of HT_.out (by kernel_rfl)) (fun _ _ _ h => h) (Or.inr ⟨by rfl,rfl⟩) ?_ ?_
    rotate_left
    ·simp only [pu_]
     rfl
    refine pure_ (i:=18) (N:=some 33) (v:=undef) (a':=?_) (bl 19 5) rfl rfl (any_of HT_.out (by kernel_rfl)) (fun _ _ _ h => h) (Or.inr ⟨by rfl,rfl⟩) ?_ ?_
    rotate_left
    ·simp only [pu_]
     rfl
    refine pure_ (i:=19) (N:=some 34) (v:=undef) (a':=?_) (bl 20 4) rfl rfl (any_of HT_.out (by kernel_rfl)) (fun _ _ _ h => h) (Or.inr ⟨by rfl,rfl⟩) ?_ ?_
    rotate_left
    ·simp only [pu_]
     rfl
    refine pure_ (i:=20) (N:=some 35) (v:=undef) (a':=?_) (bl 21 3) rfl rfl (any_of HT_.out (by kernel_rfl)) (fun _ _ _ h => h) (Or.inr ⟨by rfl,rfl⟩) ?_ ?_
    rotate_left
    ·simp only [pu_]
     rfl
    refine pure_ (i:=21) (N:=some 36) (v:=undef) (a':=?_) (bl 22 2) rfl rfl (any_of HT_.out (by kernel_rfl)) (fun _ _ _ h => h) (Or.inr ⟨by rfl,rfl⟩) ?_ ?_
    rotate_left
    ·simp only [pu_]
     rfl
    refine pure_ (i:=22) (N:=some 37) (v:=undef) (a':=?_) (bl 23 1) rfl rfl (any_of HT_.out (by kernel_rfl)) (fun _ _ _ h => h) (Or.inr ⟨by rfl,rfl⟩) ?_ ?_
    rotate_left
    ·simp only [pu_]
     rfl
    refine pure_ (i:=23) (N:=some 38) (v:=?_) (a':=?_) (bl 24 0) rfl rfl (any_of HT_.out (by kernel_rfl)) (fun _ _ _ h => h) (Or.inl ⟨by rfl,?_⟩) ?_ ?_
    rotate_left;·intro w';go_simp;with_reducible rfl
    rotate_left;·simp only [pu_];rfl
    refine done_ (done_of HT_.out (by kernel_rfl)) ?_
    try go_wp2
    go_ret
    exact ⟨by first|rfl|(simp [errW_none,errW_some] <;> rfl)|(simp [*,errW_none,errW_some] <;> rfl),by repeat (first|(with_reducible first|exact HB.out|apply below_alloc|apply pw_below_drewN|apply below_drew1|refine below_set ?_ GE480.out)|exact HB.out)⟩
   rw [if_neg c8] at H
   have c8b0 : decide (((rd_T50 l0 x10_1).f1) < 0) = false:=decide_eq_false c8
   clear c8
   by_cases c14 : x10_1 > 0
   rotate_left
   ·rw [if_neg c14] at H
    have c14b0 : decide (0 < x10_1) = false:=decide_eq_false c14
    clear c14
    have H':=Aside0.mk H
    clear H
    have p479 : 0 ≤ (x10_1 : Int):=of_decide_eq_true (by first|(with_reducible assumption)|assumption)
    have q479 : x10_1 < (l0.length : Int):=of_decide_eq_true (by first|(with_reducible assumption)|assumption)
    obtain ⟨ad479,e479,hx479_0,hx479_1⟩:=at_T50 HR0.out x10_1 p479 q479
    cases e479
    replace hx479_0:=(HB.out.cell (World.block_lt_of_cell? w _ hx479_0)).trans hx479_0
    replace hx479_1:=(HB.out.cell (World.block_lt_of_cell? w _ hx479_1)).trans hx479_1
    replace p479:=eq_true p479
    replace q479:=eq_true q479
    try go_wp2_with (first|((with_reducible refine gate_dst (N:=4) rfl ?_);refine box_event ?hg (N:=4) ?hd (cs:=#[.string (⟨#[]⟩ : ByteArray),.int .i64 0]) (t:=50) ?hr ?_;(case hd => rfl);(case hg => rfl);(case hr => first|(go_simp;done)|(go_simp;rfl));intro gb480 hg w29 hbox hb;have n0_:=Aside0.mk (below_step (by repeat (first|(with_reducible first|exact HB.out|apply below_alloc|apply pw_below_drewN|apply below_drew1)|exact HB.out)) hb);have n1_:=Aside0.mk (hbox);have n2_:=Aside0.mk ((by rw [hg];exact (below_size (by repeat (first|(with_reducible first|exact HB.out|apply below_alloc|apply pw_below_drewN|apply below_drew1)|exact HB.out))) : w.heap.size ≤ gb480));have n3_:=Aside0.mk ((by rw [hg];exact (below_size (by repeat (first|(with_reducible first|exact HB.out|apply below_alloc|apply pw_below_drewN|apply below_drew1)|exact HB.out))) : w.heap.size ≤ gb480));clear HB;have HB:=n0_;have BK480:=n1_;have GW480:=n2_;have GE480:=n3_;clear n0_ n1_ n2_ n3_;clear hb hbox hg;have hcz30_0 : w29.cell? ⟨gb480,0,none⟩ = some (.string (⟨#[]⟩ : ByteArray)):=(blk_cell BK480.out 0).trans rfl;have hcz30_1 : w29.cell? ⟨gb480,1,none⟩ = some (.int .i64 0):=(blk_cell BK480.out 1).trans rfl;have hfz30_0:=blk_frozen BK480.out 0;have hfz30_1:=blk_frozen BK480.out 1))
    have n0_ : Aside0 (((w29.setCell ⟨gb480,0,none⟩ (.string ((rd_T50 l0 x10_1).f0))).setCell ⟨gb480,1,none⟩ (.int .i64 ((rd_T50 l0 x10_1).f1))).heap[gb480]? = some (.cells #[.string ((rd_T50 l0 x10_1).f0),.int .i64 ((rd_T50 l0 x10_1).f1)] 50 (0,0))):=⟨by (with_reducible repeat (first|refine blk_drewN ?_ _|refine blk_drew ?_|refine blk_alloc ?_ _));refine blk_put (cs:=#[.string ((rd_T50 l0 x10_1).f0),.int .i64 0]) ?_ 1 _ rfl;(with_reducible repeat (first|refine blk_drewN ?_ _|refine blk_drew ?_|refine blk_alloc ?_ _));refine blk_put (cs:=#[.string (⟨#[]⟩ : ByteArray),.int .i64 0]) ?_ 0 _ rfl;(with_reducible repeat (first|refine blk_drewN ?_ _|refine blk_drew ?_|refine blk_alloc ?_ _));exact BK480.out⟩
    have n1_ : Aside0 (Below w.heap.size w ((w29.setCell ⟨gb480,0,none⟩ (.string ((rd_T50 l0 x10_1).f0))).setCell ⟨gb480,1,none⟩ (.int .i64 ((rd_T50 l0 x10_1).f1)))):=⟨by repeat (first|(with_reducible first|exact HB.out|apply below_alloc|apply pw_below_drewN|apply below_drew1|refine below_set ?_ GE480.out)|exact HB.out)⟩
    (try clear BK480);(try clear HB)
    generalize ((w29.setCell ⟨gb480,0,none⟩ (.string ((rd_T50 l0 x10_1).f0))).setCell ⟨gb480,1,none⟩ (.int .i64 ((rd_T50 l0 x10_1).f1))) = w31 at n0_ n1_ ⊢
    have BK480:=n0_;have HB:=n1_;clear n0_ n1_
    have n0_:=Aside0.mk (blk_drew BK480.out)
    have n1_:=Aside0.mk (below_drew1 HB.out)
    clear BK480;clear HB;have BK480:=n0_;have HB:=n1_;clear n0_ n1_
    refine start_ (n:=24) (S:=fun w' => w'.cell? ⟨gb480,0,none⟩ = some (.string ((rd_T50 l0 x10_1).f0)) ∧ w'.cell? ⟨gb480,1,none⟩ = some (.int .i64 ((rd_T50 l0 x10_1).f1))) (ds:=[]) (bl 0 24) (by kernel_rfl) rfl rfl ⟨(blk_cell BK480.out 0).trans rfl,(blk_cell BK480.out 1).trans rfl⟩ (fun hHeld => ?_);refine with_tabW quant_Valid.tab6 quant_Valid.bits6 (fun HT_ HW_ => ?_)
    generalize w31.drew = w32 at BK480 HB hHeld ⊢
    refine pure_ (i:=0) (N:=some 15) (v:=?_) (a':=?_) (bl 1 23) rfl rfl (any_of HT_.out (by kernel_rfl)) (fun _ _ _ h => h) (Or.inl ⟨by rfl,?_⟩) ?_ ?_
    rotate_left;·intro w';go_simp;with_reducible rfl
    rotate_left;·simp only [pu_];rfl
    refine take_ (i:=1) (N:=some 16) (v:=?_) (a':=?_) (bl 2 22) rfl rfl (take_ofW HT_.out HW_.out (by kernel_rfl)) (fun _ _ _ h => h) (Or.inl ⟨by rfl,?_⟩) hHeld ?_ ?_
    rotate_left
    ·rintro w' ⟨s0,s1⟩
     go_simp
     with_reducible rfl
    rotate_left
    ·simp only [pu_]
     rfl
    refine one_ (i:=2) (N:=some 17) (bl 3 21) rfl rfl (one_of HT_.out (by kernel_rfl)) (by decide) (fun K hK => ?_)
    refine goes_ Tryd.func66 (by kernel_rfl) rfl #[.string ((rd_T50 l0 x10_1).f0)] (by rfl) rfl rfl (by (try simp only [List.map_toArray,List.map_cons,List.map_nil]);first|done|rfl|(simp only [List.length_drop,List.length_take];rfl)) ?_
    with_reducible refine (quant_resource.calls k1 ((rd_T50 l0 x10_1).f0) true _ A6.out (Glob.below hG (by repeat (first|(with_reducible first|exact HB.out|apply below_alloc|apply pw_below_drewN|apply below_drew1)|exact HB.out)))).mono ?_
    rintro e w33 ⟨rfl,hb⟩
    refine ⟨_,rfl,?_⟩
    have n0_:=Aside0.mk (blk_below (g:=gb480) (o:=.cells #[.string ((rd_T50 l0 x10_1).f0),.int .i64 ((rd_T50 l0 x10_1).f1)] 50 (0,0)) (by (with_reducible repeat (first|refine blk_drewN ?_ _|refine blk_drew ?_|refine blk_alloc ?_ _));exact BK480.out) hb)
    have n1_:=Aside0.mk (below_step (by repeat (first|(with_reducible first|exact HB.out|apply below_alloc|apply pw_below_drewN|apply below_drew1|refine below_set ?_ GE480.out)|exact HB.out)) hb)
    clear BK480;clear HB;have BK480:=n0_;have HB:=n1_;clear n0_ n1_;(try clear hb);(try clear hb2);(try clear hk);(try clear hi)
    refine hK.out _ _ ⟨(blk_cell BK480.out 0).trans rfl,(blk_cell BK480.out 1).trans rfl⟩ (fun hHeld => ?_)
    clear hK K
    refine norm_ (a':=?_) ?_ ?_
    rotate_left
    ·show Act.put _ (some 17) _ = _
     simp only [pu_]
     rfl
    refine pure_ (i:=3) (N:=some 18) (v:=?_) (a':=?_) (bl 4 20) rfl rfl (any_of HT_.out (by kernel_rfl)) (fun _ _ _ h => h) (Or.inl ⟨by rfl,?_⟩) ?_ ?_
    rotate_left;·intro w';go_simp;with_reducible rfl
    rotate_left;·simp only [pu_];rfl
    refine pure_ (i:=4) (N:=some 19) (v:=?_) (a':=?_) (bl 5 19) rfl rfl (any_of HT_.out (by kernel_rfl)) (fun _ _ _ h => h) (Or.inl ⟨by rfl,?_⟩) ?_ ?_
    rotate_left;·intro w';go_simp;with_reducible rfl
    rotate_left;·simp only [pu_];rfl
    refine pure_ (i:=5) (N:=some 20) (v:=?_) (a':=?_) (bl 6 18) rfl rfl (any_of HT_.out (by kernel_rfl)) (fun _ _ _ h => h) (Or.inl ⟨by rfl,?_⟩) ?_ ?_
    rotate_left;·intro w';go_simp;with_reducible rfl
    rotate_left;·simp only [pu_];rfl
    refine take_ (i:=6) (N:=some 21) (v:=?_) (a':=?_) (bl 7 17) rfl rfl (take_ofW HT_.out HW_.out (by kernel_rfl)) (fun _ _ _ h => h) (Or.inl ⟨by rfl,?_⟩) hHeld ?_ ?_
    rotate_left
    ·rintro w' ⟨s0,s1⟩
     go_simp
     with_reducible rfl
    rotate_left
    ·simp only [pu_]
     rfl
    refine pure_ (i:=7) (N:=some 22) (v:=?_) (a':=?_) (bl 8 16) rfl rfl (any_of HT_.out (by kernel_rfl)) (fun _ _ _ h => h) (Or.inl ⟨by rfl,?_⟩) ?_ ?_
    rotate_left;·intro w';go_simp;with_reducible rfl
    rotate_left;·simp only [pu_];rfl
    refine pure_ (i:=8) (N:=some 23) (v:=?_) (a':=?_) (bl 9 15) rfl rfl (any_of HT_.out (by kernel_rfl)) (fun _ _ _ h => h) (Or.inl ⟨by rfl,?_⟩) ?_ ?_
    rotate_left;·intro w';go_simp;with_reducible rfl
    rotate_left;·simp only [pu_];rfl
    refine pure_ (i:=9) (N:=some 24) (v:=?_) (a':=?_) (bl 10 14) rfl rfl (any_of HT_.out (by kernel_rfl)) (fun _ _ _ h => h) (Or.inl ⟨by rfl,?_⟩) ?_ ?_
    rotate_left;·intro w';go_simp;with_reducible rfl
    rotate_left;·simp only [pu_];rfl
    refine pure_ (i:=10) (N:=some 25) (v:=?_) (a':=?_) (bl 11 13) rfl rfl (any_of HT_.out (by kernel_rfl)) (fun _ _ _ h => h) (Or.inl ⟨by rfl,?_⟩) ?_ ?_
    rotate_left;·intro w';go_simp;with_reducible rfl
    rotate_left;·simp only [pu_];rfl
    refine pure_ (i:=11) (N:=some 26) (v:=?_) (a':=?_) (bl 12 12) rfl rfl (any_of HT_.out (by kernel_rfl)) (fun _ _ _ h => h) (Or.inl ⟨by rfl,?_⟩) ?_ ?_
    rotate_left;·intro w';go_simp;with_reducible rfl
    rotate_left;·simp only [pu_];rfl
    refine pure_ (i:=12) (N:=some 27) (v:=?_) (a':=?_) (bl 13 11) rfl rfl (any_of HT_.out (by kernel_rfl)) (fun _ _ _ h => h) (Or.inl ⟨by rfl,?_⟩) ?_ ?_
    rotate_left;·intro w';go_simp;with_reducible rfl
    rotate_left;·simp only [pu_];rfl
    refine pure_ (i:=13) (N:=some 28) (v:=undef) (a':=?_) (bl 14 10) rfl rfl (any_of HT_.out (by kernel_rfl)) (fun _ _ _ h => h) (Or.inr ⟨by rfl,rfl⟩) ?_ ?_
    rotate_left
    ·simp only [pu_]
     rfl
    refine pure_ (i:=14) (N:=some 29) (v:=undef) (a':=?_) (bl 15 9) rfl rfl (any_of HT_.out (by kernel_rfl)) (fun _ _ _ h => h) (Or.inr ⟨by rfl,rfl⟩) ?_ ?_
    rotate_left
    ·simp only [pu_]
     rfl
    refine pure_ (i:=15) (N:=some 30) (v:=undef) (a':=?_) (bl 16 8) rfl rfl (any_of HT_.out (by kernel_rfl)) (fun _ _ _ h => h) (Or.inr ⟨by rfl,rfl⟩) ?_ ?_
    rotate_left
    ·simp only [pu_]
     rfl
    refine pure_ (i:=16) (N:=some 31) (v:=undef) (a':=?_) (bl 17 7) rfl rfl (any_of HT_.out (by kernel_rfl)) (fun _ _ _ h => h) (Or.inr ⟨by rfl,rfl⟩) ?_ ?_
    rotate_left
    ·simp only [pu_]
     rfl
    refine pure_ (i:=17) (N:=some 32) (v:=undef) (a':=?_) (bl 18 6) rfl rfl (any_of HT_.out (by kernel_rfl)) (fun _ _ _ h => h) (Or.inr ⟨by rfl,rfl⟩) ?_ ?_
    rotate_left
    ·simp only [pu_]
     rfl
    refine pure_ (i:=18) (N:=some 33) (v:=undef) (a':=?_) (bl 19 5) rfl rfl (any_of HT_.out (by kernel_rfl)) (fun _ _ _ h => h) (Or.inr ⟨by rfl,rfl⟩) ?_ ?_
    rotate_left
    ·simp only [pu_]
     rfl
    refine pure_ (i:=19) (N:=some 34) (v:=undef) (a':=?_) (bl 20 4) rfl rfl (any_of HT_.out (by kernel_rfl)) (fun _ _ _ h => h) (Or.inr ⟨by rfl,rfl⟩) ?_ ?_
    rotate_left
    ·simp only [pu_]
     rfl
    refine pure_ (i:=20) (N:=some 35) (v:=undef) (a':=?_) (bl 21 3) rfl rfl (any_of HT_.out (by kernel_rfl)) (fun _ _ _ h => h) (Or.inr ⟨by rfl,rfl⟩) ?_ ?_
    rotate_left
    ·simp only [pu_]
     rfl
    refine pure_ (i:=21) (N:=some 36) (v:=undef) (a':=?_) (bl 22 2) rfl rfl (any_of HT_.out (by kernel_rfl)) (fun _ _ _ h => h) (Or.inr ⟨by rfl,rfl⟩) ?_ ?_
    rotate_left
    ·simp only [pu_]
     rfl
    refine pure_ (i:=22) (N:=some 37) (v:=?_) (a':=?_) (bl 23 1) rfl rfl (any_of HT_.out (by kernel_rfl)) (fun _ _ _ h => h) (Or.inl ⟨by rfl,?_⟩) ?_ ?_
    rotate_left;·intro w';go_simp;with_reducible rfl
    rotate_left;·simp only [pu_];rfl
    refine pure_ (i:=23) (N:=some 38) (v:=?_) (a':=?_) (bl 24 0) rfl rfl (any_of HT_.out (by kernel_rfl)) (fun _ _ _ h => h) (Or.inl ⟨by rfl,?_⟩) ?_ ?_
    rotate_left;·intro w';go_simp;with_reducible rfl
    rotate_left;·simp only [pu_];rfl
    refine done_ (done_of HT_.out (by kernel_rfl)) ?_
    try go_wp2
    go_roundg k1
    case measure => have:=HK1.out;omega
    case rel => exact ⟨(wrap64 (x10_1 + 1)),(by first|rfl|(simp;done)|(simp [*];done)|(simp;rw [Bool.eq_iff_iff];simp;done)|(rw [Bool.eq_iff_iff];simp;done)),H',⟨by have:=HK1.out;omega⟩,⟨by repeat (first|(with_reducible first|exact HB.out|apply below_alloc|apply pw_below_drewN|apply below_drew1|refine below_set ?_ GE480.out)|exact HB.out)⟩⟩
   rw [if_pos c14] at H
   have c14b0 : decide (0 < x10_1) = true:=decide_eq_true c14
   clear c14
   obtain ⟨ji15,hji15⟩ : ∃ j_ : Int,(wrap64 (x10_1 - 1)) = j_:=⟨_,rfl⟩
   replace H : (if 0 ≤ (ji15) then (if (ji15) < (l0.length : Int) then (if ((Op.bytesLess (((rd_T50 l0 (ji15)).f0).toList) (((rd_T50 l0 x10_1).f0).toList)) = true) then (quant_Valid.l0 k1 l0 l0 (l0.length : Int) (wrap64 (x10_1 + 1))) else (some 31)) else (none)) else (none)) = some r:=by first|(rw [hji15] at H;exact H)|(simp only [hji15] at H ⊢;exact H)
   (try rw [hji15] at A6)
   have hji15w : (IntKind.i64.wrap (x10_1 - 1)) = ji15:=(i64_w _).trans hji15
   by_cases c16 : 0 ≤ (ji15)
   rotate_left
   ·rw [if_neg c16] at H
    exact absurd H (by simp)
   rw [if_pos c16] at H
   have c16b0 : decide (0 ≤ (ji15)) = true:=decide_eq_true c16
   clear c16
   by_cases c17 : (ji15) < (l0.length : Int)
   rotate_left
   ·rw [if_neg c17] at H
    exact absurd H (by simp)
   rw [if_pos c17] at H
   have c17b0 : decide ((ji15) < (l0.length : Int)) = true:=decide_eq_true c17
   clear c17
   by_cases c18 : ((Op.bytesLess (((rd_T50 l0 (ji15)).f0).toList) (((rd_T50 l0 x10_1).f0).toList)) = true)
   rotate_left
   ·rw [if_neg c18] at H
    have c18b0 : (Op.bytesLess (((rd_T50 l0 (ji15)).f0).toList) (((rd_T50 l0 x10_1).f0).toList)) = false:=by simpa using c18
    clear c18
    obtain rfl:=Option.some.inj H
    have p479 : 0 ≤ (x10_1 : Int):=of_decide_eq_true (by first|(with_reducible assumption)|assumption)
    have q479 : x10_1 < (l0.length : Int):=of_decide_eq_true (by first|(with_reducible assumption)|assumption)
    obtain ⟨ad479,e479,hx479_0,hx479_1⟩:=at_T50 HR0.out x10_1 p479 q479
    cases e479
    replace hx479_0:=(HB.out.cell (World.block_lt_of_cell? w _ hx479_0)).trans hx479_0
    replace hx479_1:=(HB.out.cell (World.block_lt_of_cell? w _ hx479_1)).trans hx479_1
    replace p479:=eq_true p479
    replace q479:=eq_true q479
    try go_wp2_with (first|((with_reducible refine gate_dst (N:=4) rfl ?_);refine box_event ?hg (N:=4) ?hd (cs:=#[.string (⟨#[]⟩ : ByteArray),.int .i64 0]) (t:=50) ?hr ?_;(case hd => rfl);(case hg => rfl);(case hr => first|(go_simp;done)|(go_simp;rfl));intro gb480 hg w24 hbox hb;have n0_:=Aside0.mk (below_step (by repeat (first|(with_reducible first|exact HB.out|apply below_alloc|apply pw_below_drewN|apply below_drew1)|exact HB.out)) hb);have n1_:=Aside0.mk (hbox);have n2_:=Aside0.mk ((by rw [hg];exact (below_size (by repeat (first|(with_reducible first|exact HB.out|apply below_alloc|apply pw_below_drewN|apply below_drew1)|exact HB.out))) : w.heap.size ≤ gb480));have n3_:=Aside0.mk ((by rw [hg];exact (below_size (by repeat (first|(with_reducible first|exact HB.out|apply below_alloc|apply pw_below_drewN|apply below_drew1)|exact HB.out))) : w.heap.size ≤ gb480));clear HB;have HB:=n0_;have BK480:=n1_;have GW480:=n2_;have GE480:=n3_;clear n0_ n1_ n2_ n3_;clear hb hbox hg;have hcz25_0 : w24.cell? ⟨gb480,0,none⟩ = some (.string (⟨#[]⟩ : ByteArray)):=(blk_cell BK480.out 0).trans rfl;have hcz25_1 : w24.cell? ⟨gb480,1,none⟩ = some (.int .i64 0):=(blk_cell BK480.out 1).trans rfl;have hfz25_0:=blk_frozen BK480.out 0;have hfz25_1:=blk_frozen BK480.out 1))
    have n0_ : Aside0 (((w24.setCell ⟨gb480,0,none⟩ (.string ((rd_T50 l0 x10_1).f0))).setCell ⟨gb480,1,none⟩ (.int .i64 ((rd_T50 l0 x10_1).f1))).heap[gb480]? = some (.cells #[.string ((rd_T50 l0 x10_1).f0),.int .i64 ((rd_T50 l0 x10_1).f1)] 50 (0,0))):=⟨by (with_reducible repeat (first|refine blk_drewN ?_ _|refine blk_drew ?_|refine blk_alloc ?_ _));refine blk_put (cs:=#[.string ((rd_T50 l0 x10_1).f0),.int .i64 0]) ?_ 1 _ rfl;(with_reducible repeat (first|refine blk_drewN ?_ _|refine blk_drew ?_|refine blk_alloc ?_ _));refine blk_put (cs:=#[.string (⟨#[]⟩ : ByteArray),.int .i64 0]) ?_ 0 _ rfl;(with_reducible repeat (first|refine blk_drewN ?_ _|refine blk_drew ?_|refine blk_alloc ?_ _));exact BK480.out⟩
    have n1_ : Aside0 (Below w.heap.size w ((w24.setCell ⟨gb480,0,none⟩ (.string ((rd_T50 l0 x10_1).f0))).setCell ⟨gb480,1,none⟩ (.int .i64 ((rd_T50 l0 x10_1).f1)))):=⟨by repeat (first|(with_reducible first|exact HB.out|apply below_alloc|apply pw_below_drewN|apply below_drew1|refine below_set ?_ GE480.out)|exact HB.out)⟩
    (try clear BK480);(try clear HB)
    generalize ((w24.setCell ⟨gb480,0,none⟩ (.string ((rd_T50 l0 x10_1).f0))).setCell ⟨gb480,1,none⟩ (.int .i64 ((rd_T50 l0 x10_1).f1))) = w26 at n0_ n1_ ⊢
    have BK480:=n0_;have HB:=n1_;clear n0_ n1_
    have n0_:=Aside0.mk (blk_drew BK480.out)
    have n1_:=Aside0.mk (below_drew1 HB.out)
    clear BK480;clear HB;have BK480:=n0_;have HB:=n1_;clear n0_ n1_
    have p482 : 0 ≤ ((ji15) : Int):=of_decide_eq_true (by first|(with_reducible assumption)|assumption)
    have q482 : (ji15) < (l0.length : Int):=of_decide_eq_true (by first|(with_reducible assumption)|assumption)
    obtain ⟨ad482,e482,hx482_0,hx482_1⟩:=at_T50 HR0.out (ji15) p482 q482
    have hw482_1:=hx482_1;have hw482_0:=hx482_0
    obtain rfl : ad479 = ad482:=(by injection e482)
    replace hx482_0:=(HB.out.cell (World.block_lt_of_cell? w _ hx482_0)).trans hx482_0
    replace hx482_1:=(HB.out.cell (World.block_lt_of_cell? w _ hx482_1)).trans hx482_1
    replace p482:=eq_true p482
    replace q482:=eq_true q482
    refine start_ (n:=24) (S:=fun w' => w'.cell? ⟨gb480,0,none⟩ = some (.string ((rd_T50 l0 x10_1).f0)) ∧ w'.cell? ⟨gb480,1,none⟩ = some (.int .i64 ((rd_T50 l0 x10_1).f1)) ∧ w'.cell? (ad479.add (((ji15)).toNat * 2)) = some (.string ((rd_T50 l0 (ji15)).f0)) ∧ w'.cell? ⟨(ad479.add (((ji15)).toNat * 2)).block,(ad479.add (((ji15)).toNat * 2)).off + 1,none⟩ = some (.int .i64 ((rd_T50 l0 (ji15)).f1))) (ds:=[]) (bl 0 24) (by kernel_rfl) rfl rfl ⟨(blk_cell BK480.out 0).trans rfl,(blk_cell BK480.out 1).trans rfl,((HB.out.cell (World.block_lt_of_cell? w _ hw482_0)).trans hw482_0),((HB.out.cell (World.block_lt_of_cell? w _ hw482_1)).trans hw482_1)⟩ (fun hHeld => ?_);refine with_tabW quant_Valid.tab6 quant_Valid.bits6 (fun HT_ HW_ => ?_)
    generalize w26.drew = w27 at BK480 HB hx482_0 hx482_1 hHeld ⊢
    refine pure_ (i:=0) (N:=some 15) (v:=?_) (a':=?_) (bl 1 23) rfl rfl (any_of HT_.out (by kernel_rfl)) (fun _ _ _ h => h) (Or.inl ⟨by rfl,?_⟩) ?_ ?_
    rotate_left;·intro w';go_simp;with_reducible rfl
    rotate_left;·simp only [pu_];rfl
    refine take_ (i:=1) (N:=some 16) (v:=?_) (a':=?_) (bl 2 22) rfl rfl (take_ofW HT_.out HW_.out (by kernel_rfl)) (fun _ _ _ h => h) (Or.inl ⟨by rfl,?_⟩) hHeld ?_ ?_
    rotate_left
    ·rintro w' ⟨s0,s1,s2,s3⟩
     go_simp
     with_reducible rfl
    rotate_left
    ·simp only [pu_]
     rfl
    refine one_ (i:=2) (N:=some 17) (bl 3 21) rfl rfl (one_of HT_.out (by kernel_rfl)) (by decide) (fun K hK => ?_)
    refine goes_ Tryd.func66 (by kernel_rfl) rfl #[.string ((rd_T50 l0 x10_1).f0)] (by rfl) rfl rfl (by (try simp only [List.map_toArray,List.map_cons,List.map_nil]);first|done|rfl|(simp only [List.length_drop,List.length_take];rfl)) ?_
    with_reducible refine (quant_resource.calls k1 ((rd_T50 l0 x10_1).f0) true _ A6.out (Glob.below hG (by repeat (first|(with_reducible first|exact HB.out|apply below_alloc|apply pw_below_drewN|apply below_drew1)|exact HB.out)))).mono ?_
    rintro e w28 ⟨rfl,hb⟩
    refine ⟨_,rfl,?_⟩
    have n0_:=Aside0.mk (blk_below (g:=gb480) (o:=.cells #[.string ((rd_T50 l0 x10_1).f0),.int .i64 ((rd_T50 l0 x10_1).f1)] 50 (0,0)) (by (with_reducible repeat (first|refine blk_drewN ?_ _|refine blk_drew ?_|refine blk_alloc ?_ _));exact BK480.out) hb)
    have n1_:=Aside0.mk (below_step (by repeat (first|(with_reducible first|exact HB.out|apply below_alloc|apply pw_below_drewN|apply below_drew1|refine below_set ?_ GE480.out)|exact HB.out)) hb)
    clear BK480;clear HB;have BK480:=n0_;have HB:=n1_;clear n0_ n1_;(try clear hb);(try clear hb2);(try clear hk);(try clear hi)
    refine hK.out _ _ ⟨(blk_cell BK480.out 0).trans rfl,(blk_cell BK480.out 1).trans rfl,((HB.out.cell (World.block_lt_of_cell? w _ hw482_0)).trans hw482_0),((HB.out.cell (World.block_lt_of_cell? w _ hw482_1)).trans hw482_1)⟩ (fun hHeld => ?_)
    clear hK K
    refine norm_ (a':=?_) ?_ ?_
    rotate_left
    ·show Act.put _ (some 17) _ = _
     simp only [pu_]
     rfl
    refine pure_ (i:=3) (N:=some 18) (v:=?_) (a':=?_) (bl 4 20) rfl rfl (any_of HT_.out (by kernel_rfl)) (fun _ _ _ h => h) (Or.inl ⟨by rfl,?_⟩) ?_ ?_
    rotate_left;·intro w';go_simp;with_reducible rfl
    rotate_left;·simp only [pu_];rfl
    refine pure_ (i:=4) (N:=some 19) (v:=?_) (a':=?_) (bl 5 19) rfl rfl (any_of HT_.out (by kernel_rfl)) (fun _ _ _ h => h) (Or.inl ⟨by rfl,?_⟩) ?_ ?_
    rotate_left;·intro w';go_simp;with_reducible rfl
    rotate_left;·simp only [pu_];rfl
    refine pure_ (i:=5) (N:=some 20) (v:=?_) (a':=?_) (bl 6 18) rfl rfl (any_of HT_.out (by kernel_rfl)) (fun _ _ _ h => h) (Or.inl ⟨by rfl,?_⟩) ?_ ?_
    rotate_left;·intro w';go_simp;with_reducible rfl
    rotate_left;·simp only [pu_];rfl
    refine take_ (i:=6) (N:=some 21) (v:=?_) (a':=?_) (bl 7 17) rfl rfl (take_ofW HT_.out HW_.out (by kernel_rfl)) (fun _ _ _ h => h) (Or.inl ⟨by rfl,?_⟩) hHeld ?_ ?_
    rotate_left
    ·rintro w' ⟨s0,s1,s2,s3⟩
     go_simp
     with_reducible rfl
    rotate_left
    ·simp only [pu_]
     rfl
    refine pure_ (i:=7) (N:=some 22) (v:=?_) (a':=?_) (bl 8 16) rfl rfl (any_of HT_.out (by kernel_rfl)) (fun _ _ _ h => h) (Or.inl ⟨by rfl,?_⟩) ?_ ?_
    rotate_left;·intro w';go_simp;with_reducible rfl
    rotate_left;·simp only [pu_];rfl
    refine pure_ (i:=8) (N:=some 23) (v:=?_) (a':=?_) (bl 9 15) rfl rfl (any_of HT_.out (by kernel_rfl)) (fun _ _ _ h => h) (Or.inl ⟨by rfl,?_⟩) ?_ ?_
    rotate_left;·intro w';go_simp;with_reducible rfl
    rotate_left;·simp only [pu_];rfl
    refine pure_ (i:=9) (N:=some 24) (v:=?_) (a':=?_) (bl 10 14) rfl rfl (any_of HT_.out (by kernel_rfl)) (fun _ _ _ h => h) (Or.inl ⟨by rfl,?_⟩) ?_ ?_
    rotate_left;·intro w';go_simp;with_reducible rfl
    rotate_left;·simp only [pu_];rfl
    refine pure_ (i:=10) (N:=some 25) (v:=?_) (a':=?_) (bl 11 13) rfl rfl (any_of HT_.out (by kernel_rfl)) (fun _ _ _ h => h) (Or.inl ⟨by rfl,?_⟩) ?_ ?_
    rotate_left;·intro w';go_simp;with_reducible rfl
    rotate_left;·simp only [pu_];rfl
    refine pure_ (i:=11) (N:=some 26) (v:=?_) (a':=?_) (bl 12 12) rfl rfl (any_of HT_.out (by kernel_rfl)) (fun _ _ _ h => h) (Or.inl ⟨by rfl,?_⟩) ?_ ?_
    rotate_left;·intro w';go_simp;with_reducible rfl
    rotate_left;·simp only [pu_];rfl
    refine pure_ (i:=12) (N:=some 27) (v:=?_) (a':=?_) (bl 13 11) rfl rfl (any_of HT_.out (by kernel_rfl)) (fun _ _ _ h => h) (Or.inl ⟨by rfl,?_⟩) ?_ ?_
    rotate_left;·intro w';go_simp;with_reducible rfl
    rotate_left;·simp only [pu_];rfl
    refine pure_ (i:=13) (N:=some 28) (v:=?_) (a':=?_) (bl 14 10) rfl rfl (any_of HT_.out (by kernel_rfl)) (fun _ _ _ h => h) (Or.inl ⟨by rfl,?_⟩) ?_ ?_
    rotate_left;·intro w';go_simp;with_reducible rfl
    rotate_left;·simp only [pu_];rfl
    refine pure_ (i:=15) (N:=some 30) (v:=?_) (a':=?_) #[true,true,true,true,true,true,true,true,true,true,true,true,true,true,false,true,false,false,false,false,false,false,false,false] rfl rfl (any_of HT_.out (by kernel_rfl)) (fun _ _ _ h => h) (Or.inl ⟨by rfl,?_⟩) ?_ ?_
    rotate_left;·intro w';go_simp;with_reducible rfl
    rotate_left;·simp only [pu_];rfl
    refine pure_ (i:=16) (N:=some 31) (v:=?_) (a':=?_) #[true,true,true,true,true,true,true,true,true,true,true,true,true,true,false,true,true,false,false,false,false,false,false,false] rfl rfl (any_of HT_.out (by kernel_rfl)) (fun _ _ _ h => h) (Or.inl ⟨by rfl,?_⟩) ?_ ?_
    rotate_left;·intro w';go_simp;with_reducible rfl
    rotate_left;·simp only [pu_];rfl
    refine pure_ (i:=17) (N:=some 32) (v:=?_) (a':=?_) #[true,true,true,true,true,true,true,true,true,true,true,true,true,true,false,true,true,true,false,false,false,false,false,false] rfl rfl (any_of HT_.out (by kernel_rfl)) (fun _ _ _ h => h) (Or.inl ⟨by rfl,?_⟩) ?_ ?_
    rotate_left;·intro w';go_simp;with_reducible rfl
    rotate_left;·simp only [pu_];rfl
    refine pure_ (i:=18) (N:=some 33) (v:=?_) (a':=?_) #[true,true,true,true,true,true,true,true,true,true,true,true,true,true,false,true,true,true,true,false,false,false,false,false] rfl rfl (any_of HT_.out (by kernel_rfl)) (fun _ _ _ h => h) (Or.inl ⟨by rfl,?_⟩) ?_ ?_
    rotate_left;·intro w';go_simp;with_reducible rfl
    rotate_left;·simp only [pu_];rfl
    refine pure_ (i:=19) (N:=some 34) (v:=?_) (a':=?_) #[true,true,true,true,true,true,true,true,true,true,true,true,true,true,false,true,true,true,true,true,false,false,false,false] rfl rfl (any_of HT_.out (by kernel_rfl)) (fun _ _ _ h => h) (Or.inl ⟨by rfl,?_⟩) ?_ ?_
    rotate_left;·intro w';go_simp;with_reducible rfl
    rotate_left;·simp only [pu_];rfl
    refine take_ (i:=14) (N:=some 29) (v:=?_) (a':=?_) (bl 20 4) rfl rfl (take_ofW HT_.out HW_.out (by kernel_rfl)) (fun _ _ _ h => h) (Or.inl ⟨by rfl,?_⟩) hHeld ?_ ?_
    rotate_left
    ·rintro w' ⟨s0,s1,s2,s3⟩
     go_simp
     with_reducible rfl
    rotate_left
    ·simp only [pu_]
     rfl
    refine take_ (i:=20) (N:=some 35) (v:=?_) (a':=?_) (bl 21 3) rfl rfl (take_ofW HT_.out HW_.out (by kernel_rfl)) (fun _ _ _ h => h) (Or.inl ⟨by rfl,?_⟩) hHeld ?_ ?_
    rotate_left
    ·rintro w' ⟨s0,s1,s2,s3⟩
     go_simp
     with_reducible rfl
    rotate_left
    ·simp only [pu_]
     rfl
    refine pure_ (i:=21) (N:=some 36) (v:=?_) (a':=?_) (bl 22 2) rfl rfl (any_of HT_.out (by kernel_rfl)) (fun _ _ _ h => h) (Or.inl ⟨by rfl,?_⟩) ?_ ?_
    rotate_left;·intro w';go_simp;with_reducible rfl
    rotate_left;·simp only [pu_];rfl
    refine pure_ (i:=22) (N:=some 37) (v:=?_) (a':=?_) (bl 23 1) rfl rfl (any_of HT_.out (by kernel_rfl)) (fun _ _ _ h => h) (Or.inl ⟨by rfl,?_⟩) ?_ ?_
    rotate_left;·intro w';go_simp;with_reducible rfl
    rotate_left;·simp only [pu_];rfl
    refine pure_ (i:=23) (N:=some 38) (v:=?_) (a':=?_) (bl 24 0) rfl rfl (any_of HT_.out (by kernel_rfl)) (fun _ _ _ h => h) (Or.inl ⟨by rfl,?_⟩) ?_ ?_
    rotate_left;·intro w';go_simp;with_reducible rfl
    rotate_left;·simp only [pu_];rfl
    refine done_ (done_of HT_.out (by kernel_rfl)) ?_
    try go_wp2
    go_ret
    exact ⟨by first|rfl|(simp [errW_none,errW_some] <;> rfl)|(simp only [← hji15];first|rfl|(simp [errW_none,errW_some] <;> rfl))|(simp [*,errW_none,errW_some] <;> rfl),by repeat (first|(with_reducible first|exact HB.out|apply below_alloc|apply pw_below_drewN|apply below_drew1|refine below_set ?_ GE480.out)|exact HB.out)⟩
   rw [if_pos c18] at H
   have c18b0 : (Op.bytesLess (((rd_T50 l0 (ji15)).f0).toList) (((rd_T50 l0 x10_1).f0).toList)) = true:=c18
   clear c18
   have H':=Aside0.mk H
   clear H
   have p479 : 0 ≤ (x10_1 : Int):=of_decide_eq_true (by first|(with_reducible assumption)|assumption)
   have q479 : x10_1 < (l0.length : Int):=of_decide_eq_true (by first|(with_reducible assumption)|assumption)
   obtain ⟨ad479,e479,hx479_0,hx479_1⟩:=at_T50 HR0.out x10_1 p479 q479
   cases e479
   replace hx479_0:=(HB.out.cell (World.block_lt_of_cell? w _ hx479_0)).trans hx479_0
   replace hx479_1:=(HB.out.cell (World.block_lt_of_cell? w _ hx479_1)).trans hx479_1
   replace p479:=eq_true p479
   replace q479:=eq_true q479
   try go_wp2_with (first|((with_reducible refine gate_dst (N:=4) rfl ?_);refine box_event ?hg (N:=4) ?hd (cs:=#[.string (⟨#[]⟩ : ByteArray),.int .i64 0]) (t:=50) ?hr ?_;(case hd => rfl);(case hg => rfl);(case hr => first|(go_simp;done)|(go_simp;rfl));intro gb480 hg w19 hbox hb;have n0_:=Aside0.mk (below_step (by repeat (first|(with_reducible first|exact HB.out|apply below_alloc|apply pw_below_drewN|apply below_drew1)|exact HB.out)) hb);have n1_:=Aside0.mk (hbox);have n2_:=Aside0.mk ((by rw [hg];exact (below_size (by repeat (first|(with_reducible first|exact HB.out|apply below_alloc|apply pw_below_drewN|apply below_drew1)|exact HB.out))) : w.heap.size ≤ gb480));have n3_:=Aside0.mk ((by rw [hg];exact (below_size (by repeat (first|(with_reducible first|exact HB.out|apply below_alloc|apply pw_below_drewN|apply below_drew1)|exact HB.out))) : w.heap.size ≤ gb480));clear HB;have HB:=n0_;have BK480:=n1_;have GW480:=n2_;have GE480:=n3_;clear n0_ n1_ n2_ n3_;clear hb hbox hg;have hcz20_0 : w19.cell? ⟨gb480,0,none⟩ = some (.string (⟨#[]⟩ : ByteArray)):=(blk_cell BK480.out 0).trans rfl;have hcz20_1 : w19.cell? ⟨gb480,1,none⟩ = some (.int .i64 0):=(blk_cell BK480.out 1).trans rfl;have hfz20_0:=blk_frozen BK480.out 0;have hfz20_1:=blk_frozen BK480.out 1))
   have n0_ : Aside0 (((w19.setCell ⟨gb480,0,none⟩ (.string ((rd_T50 l0 x10_1).f0))).setCell ⟨gb480,1,none⟩ (.int .i64 ((rd_T50 l0 x10_1).f1))).heap[gb480]? = some (.cells #[.string ((rd_T50 l0 x10_1).f0),.int .i64 ((rd_T50 l0 x10_1).f1)] 50 (0,0))):=⟨by (with_reducible repeat (first|refine blk_drewN ?_ _|refine blk_drew ?_|refine blk_alloc ?_ _));refine blk_put (cs:=#[.string ((rd_T50 l0 x10_1).f0),.int .i64 0]) ?_ 1 _ rfl;(with_reducible repeat (first|refine blk_drewN ?_ _|refine blk_drew ?_|refine blk_alloc ?_ _));refine blk_put (cs:=#[.string (⟨#[]⟩ : ByteArray),.int .i64 0]) ?_ 0 _ rfl;(with_reducible repeat (first|refine blk_drewN ?_ _|refine blk_drew ?_|refine blk_alloc ?_ _));exact BK480.out⟩
   have n1_ : Aside0 (Below w.heap.size w ((w19.setCell ⟨gb480,0,none⟩ (.string ((rd_T50 l0 x10_1).f0))).setCell ⟨gb480,1,none⟩ (.int .i64 ((rd_T50 l0 x10_1).f1)))):=⟨by repeat (first|(with_reducible first|exact HB.out|apply below_alloc|apply pw_below_drewN|apply below_drew1|refine below_set ?_ GE480.out)|exact HB.out)⟩
   (try clear BK480);(try clear HB)
   generalize ((w19.setCell ⟨gb480,0,none⟩ (.string ((rd_T50 l0 x10_1).f0))).setCell ⟨gb480,1,none⟩ (.int .i64 ((rd_T50 l0 x10_1).f1))) = w21 at n0_ n1_ ⊢
   have BK480:=n0_;have HB:=n1_;clear n0_ n1_
   have n0_:=Aside0.mk (blk_drew BK480.out)
   have n1_:=Aside0.mk (below_drew1 HB.out)
   clear BK480;clear HB;have BK480:=n0_;have HB:=n1_;clear n0_ n1_
   have p482 : 0 ≤ ((ji15) : Int):=of_decide_eq_true (by first|(with_reducible assumption)|assumption)
   have q482 : (ji15) < (l0.length : Int):=of_decide_eq_true (by first|(with_reducible assumption)|assumption)
   obtain ⟨ad482,e482,hx482_0,hx482_1⟩:=at_T50 HR0.out (ji15) p482 q482
   have hw482_1:=hx482_1;have hw482_0:=hx482_0
   obtain rfl : ad479 = ad482:=(by injection e482)
   replace hx482_0:=(HB.out.cell (World.block_lt_of_cell? w _ hx482_0)).trans hx482_0
   replace hx482_1:=(HB.out.cell (World.block_lt_of_cell? w _ hx482_1)).trans hx482_1
   replace p482:=eq_true p482
   replace q482:=eq_true q482
   refine start_ (n:=24) (S:=fun w' => w'.cell? ⟨gb480,0,none⟩ = some (.string ((rd_T50 l0 x10_1).f0)) ∧ w'.cell? ⟨gb480,1,none⟩ = some (.int .i64 ((rd_T50 l0 x10_1).f1)) ∧ w'.cell? (ad479.add (((ji15)).toNat * 2)) = some (.string ((rd_T50 l0 (ji15)).f0)) ∧ w'.cell? ⟨(ad479.add (((ji15)).toNat * 2)).block,(ad479.add (((ji15)).toNat * 2)).off + 1,none⟩ = some (.int .i64 ((rd_T50 l0 (ji15)).f1))) (ds:=[]) (bl 0 24) (by kernel_rfl) rfl rfl ⟨(blk_cell BK480.out 0).trans rfl,(blk_cell BK480.out 1).trans rfl,((HB.out.cell (World.block_lt_of_cell? w _ hw482_0)).trans hw482_0),((HB.out.cell (World.block_lt_of_cell? w _ hw482_1)).trans hw482_1)⟩ (fun hHeld => ?_);refine with_tabW quant_Valid.tab6 quant_Valid.bits6 (fun HT_ HW_ => ?_)
   generalize w21.drew = w22 at BK480 HB hx482_0 hx482_1 hHeld ⊢
   refine pure_ (i:=0) (N:=some 15) (v:=?_) (a':=?_) (bl 1 23) rfl rfl (any_of HT_.out (by kernel_rfl)) (fun _ _ _ h => h) (Or.inl ⟨by rfl,?_⟩) ?_ ?_
   rotate_left;·intro w';go_simp;with_reducible rfl
   rotate_left;·simp only [pu_];rfl
   refine take_ (i:=1) (N:=some 16) (v:=?_) (a':=?_) (bl 2 22) rfl rfl (take_ofW HT_.out HW_.out (by kernel_rfl)) (fun _ _ _ h => h) (Or.inl ⟨by rfl,?_⟩) hHeld ?_ ?_
   rotate_left
   ·rintro w' ⟨s0,s1,s2,s3⟩
    go_simp
    with_reducible rfl
   rotate_left
   ·simp only [pu_]
    rfl
   refine one_ (i:=2) (N:=some 17) (bl 3 21) rfl rfl (one_of HT_.out (by kernel_rfl)) (by decide) (fun K hK => ?_)
   refine goes_ Tryd.func66 (by kernel_rfl) rfl #[.string ((rd_T50 l0 x10_1).f0)] (by rfl) rfl rfl (by (try simp only [List.map_toArray,List.map_cons,List.map_nil]);first|done|rfl|(simp only [List.length_drop,List.length_take];rfl)) ?_
   with_reducible refine (quant_resource.calls k1 ((rd_T50 l0 x10_1).f0) true _ A6.out (Glob.below hG (by repeat (first|(with_reducible first|exact HB.out|apply below_alloc|apply pw_below_drewN|apply below_drew1)|exact HB.out)))).mono ?_
   rintro e w23 ⟨rfl,hb⟩
   refine ⟨_,rfl,?_⟩
   have n0_:=Aside0.mk (blk_below (g:=gb480) (o:=.cells #[.string ((rd_T50 l0 x10_1).f0),.int .i64 ((rd_T50 l0 x10_1).f1)] 50 (0,0)) (by (with_reducible repeat (first|refine blk_drewN ?_ _|refine blk_drew ?_|refine blk_alloc ?_ _));exact BK480.out) hb)
   have n1_:=Aside0.mk (below_step (by repeat (first|(with_reducible first|exact HB.out|apply below_alloc|apply pw_below_drewN|apply below_drew1|refine below_set ?_ GE480.out)|exact HB.out)) hb)
   clear BK480;clear HB;have BK480:=n0_;have HB:=n1_;clear n0_ n1_;(try clear hb);(try clear hb2);(try clear hk);(try clear hi)
   refine hK.out _ _ ⟨(blk_cell BK480.out 0).trans rfl,(blk_cell BK480.out 1).trans rfl,((HB.out.cell (World.block_lt_of_cell? w _ hw482_0)).trans hw482_0),((HB.out.cell (World.block_lt_of_cell? w _ hw482_1)).trans hw482_1)⟩ (fun hHeld => ?_)
   clear hK K
   refine norm_ (a':=?_) ?_ ?_
   rotate_left
   ·show Act.put _ (some 17) _ = _
    simp only [pu_]
    rfl
   refine pure_ (i:=3) (N:=some 18) (v:=?_) (a':=?_) (bl 4 20) rfl rfl (any_of HT_.out (by kernel_rfl)) (fun _ _ _ h => h) (Or.inl ⟨by rfl,?_⟩) ?_ ?_
   rotate_left;·intro w';go_simp;with_reducible rfl
   rotate_left;·simp only [pu_];rfl
   refine pure_ (i:=4) (N:=some 19) (v:=?_) (a':=?_) (bl 5 19) rfl rfl (any_of HT_.out (by kernel_rfl)) (fun _ _ _ h => h) (Or.inl ⟨by rfl,?_⟩) ?_ ?_
   rotate_left;·intro w';go_simp;with_reducible rfl
   rotate_left;·simp only [pu_];rfl
   refine pure_ (i:=5) (N:=some 20) (v:=?_) (a':=?_) (bl 6 18) rfl rfl (any_of HT_.out (by kernel_rfl)) (fun _ _ _ h => h) (Or.inl ⟨by rfl,?_⟩) ?_ ?_
   rotate_left;·intro w';go_simp;with_reducible rfl
   rotate_left;·simp only [pu_];rfl
   refine take_ (i:=6) (N:=some 21) (v:=?_) (a':=?_) (bl 7 17) rfl rfl (take_ofW HT_.out HW_.out (by kernel_rfl)) (fun _ _ _ h => h) (Or.inl ⟨by rfl,?_⟩) hHeld ?_ ?_
   rotate_left
   ·rintro w' ⟨s0,s1,s2,s3⟩
    go_simp
    with_reducible rfl
   rotate_left
   ·simp only [pu_]
    rfl
   refine pure_ (i:=7) (N:=some 22) (v:=?_) (a':=?_) (bl 8 16) rfl rfl (any_of HT_.out (by kernel_rfl)) (fun _ _ _ h => h) (Or.inl ⟨by rfl,?_⟩) ?_ ?_
   rotate_left;·intro w';go_simp;with_reducible rfl
   rotate_left;·simp only [pu_];rfl
   refine pure_ (i:=8) (N:=some 23) (v:=?_) (a':=?_) (bl 9 15) rfl rfl (any_of HT_.out (by kernel_rfl)) (fun _ _ _ h => h) (Or.inl ⟨by rfl,?_⟩) ?_ ?_
   rotate_left;·intro w';go_simp;with_reducible rfl
   rotate_left;·simp only [pu_];rfl
   refine pure_ (i:=9) (N:=some 24) (v:=?_) (a':=?_) (bl 10 14) rfl rfl (any_of HT_.out (by kernel_rfl)) (fun _ _ _ h => h) (Or.inl ⟨by rfl,?_⟩) ?_ ?_
   rotate_left;·intro w';go_simp;with_reducible rfl
   rotate_left;·simp only [pu_];rfl
   refine pure_ (i:=10) (N:=some 25) (v:=?_) (a':=?_) (bl 11 13) rfl rfl (any_of HT_.out (by kernel_rfl)) (fun _ _ _ h => h) (Or.inl ⟨by rfl,?_⟩) ?_ ?_
   rotate_left;·intro w';go_simp;with_reducible rfl
   rotate_left;·simp only [pu_];rfl
   refine pure_ (i:=11) (N:=some 26) (v:=?_) (a':=?_) (bl 12 12) rfl rfl (any_of HT_.out (by kernel_rfl)) (fun _ _ _ h => h) (Or.inl ⟨by rfl,?_⟩) ?_ ?_
   rotate_left;·intro w';go_simp;with_reducible rfl
   rotate_left;·simp only [pu_];rfl
   refine pure_ (i:=12) (N:=some 27) (v:=?_) (a':=?_) (bl 13 11) rfl rfl (any_of HT_.out (by kernel_rfl)) (fun _ _ _ h => h) (Or.inl ⟨by rfl,?_⟩) ?_ ?_
   rotate_left;·intro w';go_simp;with_reducible rfl
   rotate_left;·simp only [pu_];rfl
   refine pure_ (i:=13) (N:=some 28) (v:=?_) (a':=?_) (bl 14 10) rfl rfl (any_of HT_.out (by kernel_rfl)) (fun _ _ _ h => h) (Or.inl ⟨by rfl,?_⟩) ?_ ?_
   rotate_left;·intro w';go_simp;with_reducible rfl
   rotate_left;·simp only [pu_];rfl
   refine pure_ (i:=15) (N:=some 30) (v:=?_) (a':=?_) #[true,true,true,true,true,true,true,true,true,true,true,true,true,true,false,true,false,false,false,false,false,false,false,false] rfl rfl (any_of HT_.out (by kernel_rfl)) (fun _ _ _ h => h) (Or.inl ⟨by rfl,?_⟩) ?_ ?_
   rotate_left;·intro w';go_simp;with_reducible rfl
   rotate_left;·simp only [pu_];rfl
   refine pure_ (i:=16) (N:=some 31) (v:=?_) (a':=?_) #[true,true,true,true,true,true,true,true,true,true,true,true,true,true,false,true,true,false,false,false,false,false,false,false] rfl rfl (any_of HT_.out (by kernel_rfl)) (fun _ _ _ h => h) (Or.inl ⟨by rfl,?_⟩) ?_ ?_
   rotate_left;·intro w';go_simp;with_reducible rfl
   rotate_left;·simp only [pu_];rfl
   refine pure_ (i:=17) (N:=some 32) (v:=?_) (a':=?_) #[true,true,true,true,true,true,true,true,true,true,true,true,true,true,false,true,true,true,false,false,false,false,false,false] rfl rfl (any_of HT_.out (by kernel_rfl)) (fun _ _ _ h => h) (Or.inl ⟨by rfl,?_⟩) ?_ ?_
   rotate_left;·intro w';go_simp;with_reducible rfl
   rotate_left;·simp only [pu_];rfl
   refine pure_ (i:=18) (N:=some 33) (v:=?_) (a':=?_) #[true,true,true,true,true,true,true,true,true,true,true,true,true,true,false,true,true,true,true,false,false,false,false,false] rfl rfl (any_of HT_.out (by kernel_rfl)) (fun _ _ _ h => h) (Or.inl ⟨by rfl,?_⟩) ?_ ?_
   rotate_left;·intro w';go_simp;with_reducible rfl
   rotate_left;·simp only [pu_];rfl
   refine pure_ (i:=19) (N:=some 34) (v:=?_) (a':=?_) #[true,true,true,true,true,true,true,true,true,true,true,true,true,true,false,true,true,true,true,true,false,false,false,false] rfl rfl (any_of HT_.out (by kernel_rfl)) (fun _ _ _ h => h) (Or.inl ⟨by rfl,?_⟩) ?_ ?_
   rotate_left;·intro w';go_simp;with_reducible rfl
   rotate_left;·simp only [pu_];rfl
   refine take_ (i:=14) (N:=some 29) (v:=?_) (a':=?_) (bl 20 4) rfl rfl (take_ofW HT_.out HW_.out (by kernel_rfl)) (fun _ _ _ h => h) (Or.inl ⟨by rfl,?_⟩) hHeld ?_ ?_
   rotate_left
   ·rintro w' ⟨s0,s1,s2,s3⟩
    go_simp
    with_reducible rfl
   rotate_left
   ·simp only [pu_]
    rfl
   refine take_ (i:=20) (N:=some 35) (v:=?_) (a':=?_) (bl 21 3) rfl rfl (take_ofW HT_.out HW_.out (by kernel_rfl)) (fun _ _ _ h => h) (Or.inl ⟨by rfl,?_⟩) hHeld ?_ ?_
   rotate_left
   ·rintro w' ⟨s0,s1,s2,s3⟩
    go_simp
    with_reducible rfl
   rotate_left
   ·simp only [pu_]
    rfl
   refine pure_ (i:=21) (N:=some 36) (v:=?_) (a':=?_) (bl 22 2) rfl rfl (any_of HT_.out (by kernel_rfl)) (fun _ _ _ h => h) (Or.inl ⟨by rfl,?_⟩) ?_ ?_
   rotate_left;·intro w';go_simp;with_reducible rfl
   rotate_left;·simp only [pu_];rfl
   refine pure_ (i:=22) (N:=some 37) (v:=?_) (a':=?_) (bl 23 1) rfl rfl (any_of HT_.out (by kernel_rfl)) (fun _ _ _ h => h) (Or.inl ⟨by rfl,?_⟩) ?_ ?_
   rotate_left;·intro w';go_simp;with_reducible rfl
   rotate_left;·simp only [pu_];rfl
   refine pure_ (i:=23) (N:=some 38) (v:=?_) (a':=?_) (bl 24 0) rfl rfl (any_of HT_.out (by kernel_rfl)) (fun _ _ _ h => h) (Or.inl ⟨by rfl,?_⟩) ?_ ?_
   rotate_left;·intro w';go_simp;with_reducible rfl
   rotate_left;·simp only [pu_];rfl
   refine done_ (done_of HT_.out (by kernel_rfl)) ?_
   try go_wp2
   go_roundg k1
   case measure => have:=HK1.out;omega
   case rel => exact ⟨(wrap64 (x10_1 + 1)),(by first|rfl|(simp;done)|(simp [*];done)|(simp;rw [Bool.eq_iff_iff];simp;done)|(rw [Bool.eq_iff_iff];simp;done)),H',⟨by have:=HK1.out;omega⟩,⟨by repeat (first|(with_reducible first|exact HB.out|apply below_alloc|apply pw_below_drewN|apply below_drew1|refine below_set ?_ GE480.out)|exact HB.out)⟩⟩
end Go.Proofs.YtniolbolfclhkaaDoor.Q
namespace Go.Proofs.YtniolbolfclhkaaDoor.Q
open Go.RowKit Go.Proofs.YtniolbolfclhkaaDoorW.PrintWords Go.Proofs.YtniolbolfclhkaaDoorW.PrintLast
set_option linter.unusedVariables false
set_option linter.unusedSimpArgs false
theorem wl (i : Nat) (h : i < 9223372036854775807) : wrap64 ((i : Int) + 1) = ((i + 1 : Nat) : Int) := by unfold wrap64; omega
def nless (x y : ByteArray) : Bool := Op.bytesLess x.data.toList y.data.toList
def Rises (L : List S50) : Prop := L.Pairwise fun x y => Op.bytesLess x.f0.data.toList y.f0.data.toList = true
theorem nless_trans {x y z : ByteArray} (h : nless x y = true) (k : nless y z = true) : nless x z = true := less_trans _ _ _ h k
theorem rises_cons {a : S50} {l : List S50} : Rises (a :: l) ↔ (∀ y ∈ l, nless a.f0 y.f0 = true) ∧ Rises l := List.pairwise_cons
theorem rdG50 (l : List S50) (i : Nat) (h : i < l.length) : rd_T50 l (i : Int) = l[i] := by
  unfold rd_T50
  rw [Int.toNat_natCast, List.getD_eq_getElem?_getD, List.getElem?_eq_getElem h]
  rfl
def edgeB (c : Int) : Bool := (decide (97 ≤ c) && decide (c ≤ 122)) || (decide (48 ≤ c) && decide (c ≤ 57))
theorem edge_is (c : Int) : quant_edge.f c = some (edgeB c) := by
  unfold quant_edge.f edgeB
  by_cases h1 : c ≥ 97
  · rw [if_pos h1, decide_eq_true (show 97 ≤ c from h1)]
    by_cases h2 : c ≤ 122
    · rw [if_pos h2, decide_eq_true h2]; rfl
    · rw [if_neg h2, if_pos (show c ≥ 48 by omega), decide_eq_false h2, decide_eq_false (show ¬ c ≤ 57 by omega)]; simp
  · rw [if_neg h1, decide_eq_false (show ¬ 97 ≤ c from h1)]
    by_cases h2 : c ≥ 48
    · rw [if_pos h2, decide_eq_true (show 48 ≤ c from h2)]; simp
    · rw [if_neg h2, decide_eq_false (show ¬ 48 ≤ c from h2)]; simp
def innerB (p : ByteArray) (i : Nat) : Bool := edgeB (bt p (i : Int)) || decide (bt p (i : Int) = 45)
def allFrom (p : ByteArray) : Nat → Nat → Bool
  | 0, _ => true
  | m + 1, i => innerB p i && allFrom p m (i + 1)
def pieceB (p : ByteArray) : Bool := !(p.toList == ([] : List UInt8)) && edgeB (bt p 0) && edgeB (bt p ((p.size : Int) - 1)) && allFrom p p.size 0
def piecesOf (s : ByteArray) : List ByteArray := Lib.splitB (⟨#[46]⟩ : ByteArray) 0 (Lib.countB s (⟨#[46]⟩ : ByteArray)) s
def resP (s : ByteArray) : Bool := decide (s.size ≤ 48) && (piecesOf s).all pieceB
theorem rd_ba (l : List ByteArray) (i : Nat) (h : i < l.length) : rdOf ByteArray.empty l (i : Int) = l[i] := by simp [rdOf, List.getD_eq_getElem?_getD, h]
theorem empty_iffR (p : ByteArray) : p.toList = ([] : List UInt8) ↔ p.size = 0 := by rw [ByteArray.toList_eq, Lib.size_eq, List.length_eq_zero_iff]
theorem res_l1 (ps : List ByteArray) (len i : Int) (p : ByteArray) (hp : p.size < 4611686018427387904) (r : Bool) (hK : Ev (fun k => quant_resource.l0 k ps len (wrap64 (i + 1))) r) :
    ∀ (m j : Nat), j + m = p.size → Ev (fun k => quant_resource.l1 k p ps len i (p.size : Int) (j : Int)) (allFrom p m j && r) := by
  intro m
  induction m with
  | zero =>
    intro j hj
    refine Ev.step (fun k => ?_) hK
    simp only [quant_resource.l1]
    rw [if_neg (by omega)]
  | succ m ih =>
    intro j hj
    have key := ih (j + 1) (by omega)
    have hw : wrap64 ((j : Int) + 1) = ((j + 1 : Nat) : Int) := wl j (by omega)
    rw [allFrom]
    cases hi : innerB p j with
    | true =>
      rw [Bool.true_and]
      refine Ev.step (fun k => ?_) key
      simp only [quant_resource.l1]
      rw [if_pos (by omega), if_pos (by omega), if_pos (by omega), edge_is, Option.bind_some, hw]
      unfold innerB at hi
      cases he : edgeB (bt p (j : Int)) with
      | true => rw [if_pos rfl]
      | false =>
        rw [he, Bool.false_or, decide_eq_true_eq] at hi
        rw [if_neg Bool.false_ne_true, if_pos hi]
    | false =>
      rw [Bool.false_and, Bool.false_and]
      refine Ev.step (f := fun _ => some false) (fun k => ?_) (Ev.now _)
      unfold innerB at hi
      rw [Bool.or_eq_false_iff, decide_eq_false_iff_not] at hi
      simp only [quant_resource.l1]
      rw [if_pos (by omega), if_pos (by omega), if_pos (by omega), edge_is, Option.bind_some, hi.1, if_neg Bool.false_ne_true, if_neg hi.2]
theorem res_l0 (ps : List ByteArray) (hl : ps.length < 4611686018427387904) (hs : ∀ p ∈ ps, p.size < 4611686018427387904) :
    ∀ (m i : Nat), i + m = ps.length → Ev (fun k => quant_resource.l0 k ps (ps.length : Int) (i : Int)) ((ps.drop i).all pieceB) := by
  intro m
  induction m with
  | zero =>
    intro i hi
    rw [List.drop_eq_nil_of_le (by omega)]
    refine Ev.step (f := fun _ => some true) (fun k => ?_) (Ev.now _)
    simp only [quant_resource.l0]
    rw [if_neg (by omega)]
  | succ m ih =>
    intro i hi
    have hil : i < ps.length := by omega
    have key := ih (i + 1) (by omega)
    have hw : wrap64 ((i : Int) + 1) = ((i + 1 : Nat) : Int) := wl i (by omega)
    rw [← hw] at key
    have hps := hs ps[i] (List.getElem_mem hil)
    have l1 := res_l1 ps (ps.length : Int) (i : Int) ps[i] hps _ key (ps[i]).size 0 (by omega)
    rw [List.drop_eq_getElem_cons hil, List.all_cons]
    clear hw key
    have hnext : ∀ b : Bool, Ev (fun k => quant_resource.j1 k ps[i] ps (ps.length : Int) (i : Int) b) (if b = true then false else allFrom ps[i] (ps[i]).size 0 && (ps.drop (i + 1)).all pieceB) := by
      intro b
      cases b with
      | true => exact Ev.step (f := fun _ => some false) (fun k => by simp only [quant_resource.j1]; rw [if_pos trivial]) (Ev.now _)
      | false => exact Ev.step (fun k => by simp only [quant_resource.j1]; rw [if_neg Bool.false_ne_true]; rfl) l1
    have hhead : ∀ k, quant_resource.l0 (k + 1) ps (ps.length : Int) (i : Int) = if (ps[i]).toList = ([] : List UInt8) then (quant_resource.j1 k ps[i] ps (ps.length : Int) (i : Int) true) else (if 0 < ((ps[i]).size : Int) then ((quant_edge.f (bt ps[i] 0)).bind fun t450 => (if t450 = true then (if 0 ≤ (wrap64 (((ps[i]).size : Int) - 1)) then (if (wrap64 (((ps[i]).size : Int) - 1)) < ((ps[i]).size : Int) then ((quant_edge.f (bt ps[i] (wrap64 (((ps[i]).size : Int) - 1)))).bind fun t451 => (quant_resource.j1 k ps[i] ps (ps.length : Int) (i : Int) (!t451))) else (none)) else (none)) else (quant_resource.j1 k ps[i] ps (ps.length : Int) (i : Int) true))) else (none)) := by
      intro k
      simp only [quant_resource.l0]
      rw [if_pos (by omega), if_pos (by omega), if_pos (by omega), rd_ba ps i hil]
    generalize ps[i] = p at *
    unfold pieceB
    by_cases h0 : p.toList = ([] : List UInt8)
    · rw [h0, beq_self_eq_true, Bool.not_true, Bool.false_and, Bool.false_and, Bool.false_and, Bool.false_and]
      exact Ev.step (fun k => by rw [hhead, if_pos h0]) (hnext true)
    · have hpos : 0 < p.size := by rw [empty_iffR] at h0; omega
      have hb : (p.toList == ([] : List UInt8)) = false := beq_eq_false_iff_ne.2 h0
      have hw1 : wrap64 ((p.size : Int) - 1) = (p.size : Int) - 1 := by unfold wrap64; omega
      rw [hb, Bool.not_false, Bool.true_and]
      cases he : edgeB (bt p 0) with
      | false =>
        rw [Bool.false_and, Bool.false_and, Bool.false_and]
        exact Ev.step (fun k => by rw [hhead, if_neg h0, if_pos (by omega), edge_is, Option.bind_some, he, if_neg Bool.false_ne_true]) (hnext true)
      | true =>
        rw [Bool.true_and]
        have hn := hnext (!edgeB (bt p ((p.size : Int) - 1)))
        have e : (if (!edgeB (bt p ((p.size : Int) - 1))) = true then false else allFrom p p.size 0 && (ps.drop (i + 1)).all pieceB) = (edgeB (bt p ((p.size : Int) - 1)) && allFrom p p.size 0 && (ps.drop (i + 1)).all pieceB) := by
          cases edgeB (bt p ((p.size : Int) - 1)) <;> simp
        rw [e] at hn
        exact Ev.step (fun k => by rw [hhead, if_neg h0, if_pos (by omega), edge_is, Option.bind_some, he, if_pos rfl, hw1, if_pos (by omega), if_pos (by omega), edge_is, Option.bind_some]) hn
theorem split_le (sep : ByteArray) (save : Nat) : ∀ (k : Nat) (s : ByteArray), ∀ p ∈ Lib.splitB sep save k s, p.size ≤ s.size
  | 0, s, p, hp => by rw [Lib.splitB_zero, List.mem_singleton] at hp; rw [hp]; exact Nat.le_refl _
  | k + 1, s, p, hp => by
    unfold Lib.splitB at hp
    split at hp
    · rw [List.mem_singleton] at hp; rw [hp]; exact Nat.le_refl _
    · rcases List.mem_cons.1 hp with hp | hp
      · rw [hp, ByteArray.size_extract]; omega
      · have := split_le sep save k _ p hp
        rw [ByteArray.size_extract] at this
        omega
theorem resource_ev (s : ByteArray) : Ev (fun k => quant_resource.f k s) (resP s) := by
  unfold resP
  by_cases h : 48 < s.size
  · rw [decide_eq_false (by omega), Bool.false_and]
    exact Ev.congr (f := fun _ => some false) (fun k => by unfold quant_resource.f; rw [if_pos (by omega)]) (Ev.now _)
  · rw [decide_eq_true (by omega), Bool.true_and]
    have hf : strings_Split.f s (⟨#[46]⟩ : ByteArray) = some (piecesOf s) := by unfold strings_Split.f; exact if_pos ⟨by omega, by decide⟩
    have hc := Lib.countB_le (⟨#[46]⟩ : ByteArray) (by decide) s.size s (Nat.le_refl _)
    have hl : (piecesOf s).length = Lib.countB s (⟨#[46]⟩ : ByteArray) + 1 := Lib.splitB_all (⟨#[46]⟩ : ByteArray) (by decide) 0 _ s rfl
    have key := res_l0 (piecesOf s) (by omega) (fun p hp => by have := split_le _ _ _ s p hp; omega) (piecesOf s).length 0 (by omega)
    refine Ev.congr (fun k => ?_) key
    unfold quant_resource.f
    rw [if_neg (by omega), hf, Option.bind_some]
    rfl
theorem resP_size {s : ByteArray} (h : resP s = true) : s.size ≤ 48 := by
  unfold resP at h
  rw [Bool.and_eq_true, decide_eq_true_eq] at h
  exact h.1
def okPrev (p : Option ByteArray) (x : ByteArray) : Bool := match p with | none => true | some q => nless q x
theorem okPrev_none (x : ByteArray) : okPrev none x = true := rfl
theorem okPrev_some (q x : ByteArray) : okPrev (some q) x = nless q x := rfl
def stepV : Option ByteArray → List S50 → Bool
  | _, [] => true
  | p, a :: r => resP a.f0 && decide (0 ≤ a.f1) && okPrev p a.f0 && stepV (some a.f0) r
theorem stepV_cons (p : Option ByteArray) (a : S50) (r : List S50) : stepV p (a :: r) = (resP a.f0 && decide (0 ≤ a.f1) && okPrev p a.f0 && stepV (some a.f0) r) := rfl
def validB (l : List S50) : Bool := stepV none l
def validP (l : List S50) : Int := if 16 < l.length then 23 else if validB l = true then 0 else 31
def prevOf (l : List S50) (i : Nat) : Option ByteArray := if i = 0 then none else (l[i - 1]?).map (·.f0)
theorem less_toList (x y : ByteArray) : Op.bytesLess x.toList y.toList = nless x y := by rw [ByteArray.toList_eq, ByteArray.toList_eq]; rfl
theorem valid_l0 (l : List S50) (hl : l.length ≤ 1000000) : ∀ (m i : Nat), i + m = l.length → Ev (fun k => quant_Valid.l0 k l l (l.length : Int) (i : Int)) (if stepV (prevOf l i) (l.drop i) = true then 0 else 31) := by
  intro m
  induction m with
  | zero =>
    intro i hi
    rw [List.drop_eq_nil_of_le (by omega), stepV, if_pos rfl]
    refine Ev.step (f := fun _ => some 0) (fun k => ?_) (Ev.now _)
    simp only [quant_Valid.l0]
    rw [if_neg (by omega)]
  | succ m ih =>
    intro i hi
    have hil : i < l.length := by omega
    have key := ih (i + 1) (by omega)
    have hp1 : prevOf l (i + 1) = some (l[i]).f0 := by unfold prevOf; rw [if_neg (by omega), Nat.add_sub_cancel, List.getElem?_eq_getElem hil]; rfl
    have hre := resource_ev (l[i]).f0
    have hr0 := rdG50 l i hil
    rw [hp1] at key
    rw [List.drop_eq_getElem_cons hil, stepV_cons]
    have hno : ∀ c : Bool, c = false → (if c = true then (0 : Int) else 31) = 31 := fun c h => by rw [h]; rfl
    refine Ev.step (f := fun k => (quant_resource.f k (l[i]).f0).bind fun t455 => (if t455 = true then (if (l[i]).f1 < 0 then (some 31) else (if (i : Int) > 0 then (if 0 ≤ (wrap64 ((i : Int) - 1)) then (if (wrap64 ((i : Int) - 1)) < (l.length : Int) then (if ((Op.bytesLess (((rd_T50 l (wrap64 ((i : Int) - 1))).f0).toList) (((l[i]).f0).toList)) = true) then (quant_Valid.l0 k l l (l.length : Int) (wrap64 ((i : Int) + 1))) else (some 31)) else (none)) else (none)) else (quant_Valid.l0 k l l (l.length : Int) (wrap64 ((i : Int) + 1))))) else (some 31))) (fun k => ?_) (Ev.bind hre ?_)
    · simp only [quant_Valid.l0]
      rw [if_pos (by omega), if_pos (by omega), if_pos (by omega), hr0]
    · cases hres : resP (l[i]).f0 with
      | false => exact Ev.congr (fun k => if_neg Bool.false_ne_true) (by rw [Bool.false_and, Bool.false_and, Bool.false_and]; exact Ev.now _)
      | true =>
        refine Ev.congr (fun k => if_pos rfl) ?_
        rw [Bool.true_and]
        by_cases hneg : (l[i]).f1 < 0
        · rw [decide_eq_false (by omega), Bool.false_and, Bool.false_and]
          exact Ev.congr (fun k => if_pos hneg) (Ev.now _)
        · rw [decide_eq_true (by omega), Bool.true_and]
          refine Ev.congr (fun k => if_neg hneg) ?_
          by_cases h0 : i = 0
          · have hp0 : prevOf l i = none := by unfold prevOf; rw [if_pos h0]
            rw [hp0, okPrev_none, Bool.true_and]
            refine Ev.congr (fun k => if_neg (by omega)) ?_
            rw [wl i (by omega)]
            exact key
          · have hp0 : prevOf l i = some (l[i - 1]'(by omega)).f0 := by unfold prevOf; rw [if_neg h0, List.getElem?_eq_getElem (by omega)]; rfl
            have hw1 : wrap64 ((i : Int) - 1) = ((i - 1 : Nat) : Int) := by unfold wrap64; omega
            rw [hp0]
            refine Ev.congr (fun k => if_pos (by omega)) ?_
            rw [hw1, rdG50 l (i - 1) (by omega), less_toList, wl i (by omega)]
            refine Ev.congr (fun k => if_pos (by omega)) (Ev.congr (fun k => if_pos (by omega)) ?_)
            cases hlt : nless (l[i - 1]'(by omega)).f0 (l[i]).f0 with
            | true =>
              refine Ev.congr (fun k => if_pos rfl) ?_
              rw [okPrev_some, hlt, Bool.true_and]
              exact key
            | false =>
              refine Ev.congr (fun k => if_neg Bool.false_ne_true) ?_
              rw [okPrev_some, hlt, Bool.false_and]
              exact Ev.now _
theorem valid_ev (l : List S50) : Ev (fun k => quant_Valid.f k l) (validP l) := by
  unfold validP validB
  by_cases h : 16 < l.length
  · rw [if_pos h]
    exact Ev.congr (f := fun _ => some 23) (fun k => by unfold quant_Valid.f; rw [if_pos (by omega)]) (Ev.now _)
  · rw [if_neg h]
    have key := valid_l0 l (by omega) l.length 0 (by omega)
    rw [show prevOf l 0 = none from rfl, List.drop_zero] at key
    refine Ev.congr (fun k => ?_) key
    unfold quant_Valid.f
    rw [if_neg (by omega)]
    rfl
theorem step_rises : ∀ (l : List S50) (p : Option ByteArray), stepV p l = true → Rises l ∧ (∀ y ∈ l, resP y.f0 = true ∧ 0 ≤ y.f1) ∧ (∀ q, p = some q → ∀ y ∈ l, nless q y.f0 = true)
  | [], p, _ => ⟨List.Pairwise.nil, by simp, by simp⟩
  | a :: r, p, h => by
    rw [stepV_cons, Bool.and_eq_true, Bool.and_eq_true, Bool.and_eq_true, decide_eq_true_eq] at h
    obtain ⟨⟨⟨h1, h2⟩, h3⟩, h4⟩ := h
    obtain ⟨i1, i2, i3⟩ := step_rises r (some a.f0) h4
    refine ⟨rises_cons.2 ⟨i3 _ rfl, i1⟩, fun y hy => ?_, fun q hq y hy => ?_⟩
    · rcases List.mem_cons.1 hy with rfl | hy
      · exact ⟨h1, h2⟩
      · exact i2 y hy
    · subst hq
      rcases List.mem_cons.1 hy with rfl | hy
      · exact h3
      · exact nless_trans h3 (i3 _ rfl y hy)
theorem rises_step : ∀ (l : List S50) (p : Option ByteArray), Rises l → (∀ y ∈ l, resP y.f0 = true ∧ 0 ≤ y.f1) → (∀ q, p = some q → ∀ y ∈ l, nless q y.f0 = true) → stepV p l = true
  | [], p, _, _, _ => rfl
  | a :: r, p, h1, h2, h3 => by
    obtain ⟨i1, i2⟩ := rises_cons.1 h1
    have ha := h2 a (by simp)
    rw [stepV_cons, Bool.and_eq_true, Bool.and_eq_true, Bool.and_eq_true, decide_eq_true_eq]
    refine ⟨⟨⟨ha.1, ha.2⟩, ?_⟩, rises_step r (some a.f0) i2 (fun y hy => h2 y (by simp [hy])) (fun q hq y hy => by cases hq; exact i1 y hy)⟩
    cases p with
    | none => rfl
    | some q => exact h3 q rfl a (by simp)
theorem valid_iff (l : List S50) : validP l = 0 ↔ l.length ≤ 16 ∧ Rises l ∧ ∀ y ∈ l, resP y.f0 = true ∧ 0 ≤ y.f1 := by
  unfold validP validB
  by_cases h : 16 < l.length
  · rw [if_pos h]
    exact ⟨fun e => by omega, fun e => by omega⟩
  · rw [if_neg h]
    cases hs : stepV none l with
    | true =>
      rw [if_pos rfl]
      have := step_rises l none hs
      exact ⟨fun _ => ⟨by omega, this.1, this.2.1⟩, fun _ => rfl⟩
    | false =>
      rw [if_neg Bool.false_ne_true]
      refine ⟨fun e => by omega, fun e => ?_⟩
      have := rises_step l none e.2.1 e.2.2 (fun q hq => by cases hq)
      rw [hs] at this
      cases this
end Go.Proofs.YtniolbolfclhkaaDoor.Q
namespace Go.Proofs.YtniolbolfclhkaaDoor.Q
open Go.RowKit Go.Proofs.YtniolbolfclhkaaDoorW.PrintWords Go.Proofs.YtniolbolfclhkaaDoorW.PrintLast Go.Proofs.YtniolbolfclhkaaDoorW.PrintMore
attribute [local go_sem] max2_int min2_int max_two min_two max_three min_three max_four min_four   -- for this text's walks alone
set_option linter.unusedVariables false
set_option linter.unusedSimpArgs false
def object_within.f (a0 : Int) (a1 : Int) (a2 : Int) : Option (Bool) := if a0 ≥ a1 then (some (decide (a0 ≤ a2))) else (some false)
set_option maxHeartbeats 8000000 in
set_option maxRecDepth 100000 in
theorem object_within.calls (a0 : Int) (a1 : Int) (a2 : Int) (r : Bool) (w : World) (h : object_within.f a0 a1 a2 = some r) :
  Calls Tryd.prog 46 #[.int .i64 a0,.int .i64 a1,.int .i64 a2] w fun e w' => e = .returned (.bool r) ∧ Drawn0 w w':=by
 have H : (if a0 ≥ a1 then (some (decide (a0 ≤ a2))) else (some false)) = some r:=h
 clear h
 by_cases c4 : a0 ≥ a1
 ·rw [if_pos c4] at H
  have c4b0 : decide (a1 ≤ a0) = true:=decide_eq_true c4
  clear c4
  obtain rfl:=Option.some.inj H
  go_enter Tryd.func46,Tryd.ntmps46
  go_wp2
  go_ret
  exact ⟨by first|rfl|(simp;done)|(simp [*];done),by repeat (first|exact Drawn0.refl _|apply Drawn0.step)⟩
 ·rw [if_neg c4] at H
  have c4b0 : decide (a1 ≤ a0) = false:=decide_eq_false c4
  clear c4
  obtain rfl:=Option.some.inj H
  go_enter Tryd.func46,Tryd.ntmps46
  go_wp2
  go_ret
  exact ⟨by first|rfl|(simp;done)|(simp [*];done),by repeat (first|exact Drawn0.refl _|apply Drawn0.step)⟩
end Go.Proofs.YtniolbolfclhkaaDoor.Q
namespace Go.Proofs.YtniolbolfclhkaaDoor.Bu
open Go.RowKit Go.Proofs.YtniolbolfclhkaaDoorW.PrintWords Go.Proofs.YtniolbolfclhkaaDoorW.PrintLast
set_option linter.unusedVariables false
set_option linter.unusedSimpArgs false
theorem sizeBuilder : (Tryd.prog.info? 97).map (·.size) = some 2 := by kernel_rfl
theorem liesBuilder : liesAt Tryd.prog Tryd.prog.depth 97 (2 / Tryd.prog.cellsOf 97) 0 97 1 = true := by kernel_rfl
set_option maxHeartbeats 1000000 in
set_option maxRecDepth 100000 in
theorem copyCheck_used (b : Nat) (w : World) (h0 : w.cell? ⟨b, 0, none⟩ = some (.pointer (some ⟨b, 0, none⟩))) :
    Calls Tryd.prog 69 #[.pointer (some ⟨b, 0, none⟩)] w fun e w' => e = .returned (.tuple #[]) ∧ w' = w := by
  obtain ⟨j, hj, _⟩ := Option.map_eq_some_iff.1 sizeBuilder
  go_enter Tryd.func69, Tryd.ntmps69
  go_wp2
  rw [Lib.run_neq_ptr_same w _ Tryd.underlying95 hj]
  go_wp2
  go_end0
  exact ⟨rfl, rfl⟩
set_option maxHeartbeats 1000000 in
set_option maxRecDepth 100000 in
theorem copyCheck_fresh (b : Nat) (w : World) (h0 : w.cell? ⟨b, 0, none⟩ = some (.pointer none)) (hsh : w.shape? b = some (97, 2)) (hfz : w.frozen? ⟨b, 0, none⟩ = false) :
    Calls Tryd.prog 69 #[.pointer (some ⟨b, 0, none⟩)] w fun e w' => e = .returned (.tuple #[]) ∧ w' = w.setCell ⟨b, 0, none⟩ (.pointer (some ⟨b, 0, none⟩)) := by
  obtain ⟨j, hj, hjs⟩ := Option.map_eq_some_iff.1 sizeBuilder
  go_enter Tryd.func69, Tryd.ntmps69
  go_wp2
  rw [Lib.run_to_unsafe w ⟨b, 0, none⟩ Tryd.underlying95 Tryd.underlying119 hj (by rw [hjs]; decide) hsh (Nat.zero_lt_succ 1)]
  simp only [Result.andThen]
  rw [Oper.upon_value]
  go_wp2
  rw [run_callFunc_extern Tryd.func75 (by kernel_rfl) (by kernel_rfl) (by kernel_rfl) (e := Extern.AbiNoEscape.same) (by kernel_rfl)]
  rw [Lib.run_noEscape]
  simp only [Result.andThen]
  rw [Oper.upon_value]
  go_wp2
  rw [Lib.run_from_unsafe w ⟨b, 0, none⟩ Tryd.underlying119 Tryd.underlying95 hj hsh liesBuilder]
  simp only [Result.andThen]
  rw [Oper.upon_value]
  go_wp2
  go_end0
  exact ⟨rfl, rfl⟩
theorem copyCheck_ok (B b : Nat) (bs : List Value) (w : World) (h : Lib.IsBuilder 97 5 B b bs w) :
    Calls Tryd.prog 69 #[.pointer (some ⟨b, 0, none⟩)] w fun e w' => e = .returned (.tuple #[]) ∧ (Lib.BuilderAt 97 5 B b (.pointer (some ⟨b, 0, none⟩)) bs w' ∧ Below B w w') := by
  rcases h with h | h
  · refine (copyCheck_fresh b w h.cell0 h.shape h.frozen0).mono ?_
    rintro e w' ⟨rfl, rfl⟩
    exact ⟨rfl, h.used _, (Below.refl B w).setCell (p := ⟨b, 0, none⟩) h.1 _⟩
  · refine (copyCheck_used b w h.cell0).mono ?_
    rintro e w' ⟨rfl, rfl⟩
    exact ⟨rfl, h, Below.refl B _⟩
set_option maxHeartbeats 2000000 in
set_option maxRecDepth 100000 in
theorem write_ok (B b : Nat) (bs : List Value) (s : ByteArray) (w : World) (h : Lib.IsBuilder 97 5 B b bs w) (hlen : bs.length + s.size ≤ 140737488355328) (hBw : B ≤ w.heap.size) :
    Calls Tryd.prog 56 #[.pointer (some ⟨b, 0, none⟩), .string s] w fun e w' => e = .returned (.tuple #[.int .i64 s.size, .nilIface]) ∧ (Lib.BuilderAt 97 5 B b (.pointer (some ⟨b, 0, none⟩)) (bs ++ Lib.strCells s) w' ∧ Below B w w') := by
  obtain ⟨i0, hi, hz0, hz1, hz2⟩ := info_parts Q.info5
  go_enter Tryd.func56, Tryd.ntmps56
  go_wp2_with (go_at_call 69; refine (copyCheck_ok B b bs _ h).mono ?_)
  rintro e w1 ⟨rfl, h1, hb1⟩
  obtain ⟨hB, v, hbk, hown, hne⟩ := h1
  have c0 : w1.cell? ⟨b, 0, none⟩ = some (.pointer (some ⟨b, 0, none⟩)) := by rw [Lib.cell_of_heap hbk]; rfl
  have c1 : w1.cell? ⟨b, 1, none⟩ = some v := by rw [Lib.cell_of_heap hbk]; rfl
  go_wp2_with (at_builtin; refine Lib.wpList_append_own_string _ rfl _ _ 51 9 rfl B 5 i0 Tryd.underlying51 Tryd.underlying9 hi hz0 hz1 hz2 _ _ _ rfl hown s rfl ?c3 ?c4 ?c5 ?_)
  case c3 => unfold maxLen; omega
  case c4 => omega
  case c5 => have := hb1.size; omega
  intro v' w2 hown' hgrow _
  have hlt : b < w1.heap.size := by
    rcases Nat.lt_or_ge b w1.heap.size with h' | h'
    · exact h'
    · simp [Array.getElem?_eq_none h'] at hbk
  have hb2 : w2.heap[b]? = some (.cells #[.pointer (some ⟨b, 0, none⟩), v] 97 (0, 0)) := by
    rw [hgrow.block b hlt (fun e => hne e.symm)]
    exact hbk
  have d0 : w2.cell? ⟨b, 0, none⟩ = some (.pointer (some ⟨b, 0, none⟩)) := by rw [Lib.cell_of_heap hb2]; rfl
  have d1 : w2.cell? ⟨b, 1, none⟩ = some v := by rw [Lib.cell_of_heap hb2]; rfl
  have f1 : w2.frozen? ⟨b, 1, none⟩ = false := Lib.frozen_of_heap hb2 1
  obtain ⟨ao, n', cap, rfl⟩ : ∃ ao n' cap, v' = .slice ao n' cap := by
    rcases hown'.2 with ⟨hv, _⟩ | ⟨g, cap, cur, hv, _⟩
    · exact ⟨_, _, _, hv⟩
    · exact ⟨_, _, _, hv⟩
  go_wp2
  go_ret2
  refine ⟨rfl, ?_, ?_⟩
  · exact Lib.BuilderAt.put (T := 97) (e := 5) hB hb2 (bs' := bs ++ Lib.strCells s) (by rw [List.length_append, show (Lib.strCells s).length = s.size by simp [Lib.strCells]]; exact hown') (by decide)
  · exact (hb1.grown hgrow (by have := hb1.size; omega) (fun k hk => (hown.lt k hk).1)).setCell (p := ⟨b, 1, none⟩) hB _
end Go.Proofs.YtniolbolfclhkaaDoor.Bu
namespace Go.Proofs.YtniolbolfclhkaaDoor.Pl
def esc : List UInt8 → List UInt8
  | [] => []
  | c :: r => if c = 0 then 0 :: 255 :: esc r else c :: esc r
def makeK : List (List UInt8) → List UInt8
  | [] => []
  | p :: r => esc p ++ 0 :: 1 :: makeK r
theorem esc_app (a b : List UInt8) : esc (a ++ b) = esc a ++ esc b := by
  induction a with
  | nil => rfl
  | cons c r ih =>
    rw [List.cons_append]
    simp only [esc]
    split
    · rw [ih]; rfl
    · rw [ih]; rfl
theorem makeK_app (a b : List (List UInt8)) : makeK (a ++ b) = makeK a ++ makeK b := by
  induction a with
  | nil => rfl
  | cons p r ih => rw [List.cons_append, makeK, makeK, ih]; simp
theorem makeK_snoc (a : List (List UInt8)) (p : List UInt8) : makeK (a ++ [p]) = makeK a ++ (esc p ++ [0, 1]) := by
  rw [makeK_app]
  congr 1
def cutK : List UInt8 → List UInt8 → List (List UInt8) → Option (List (List UInt8))
  | [], cur, acc => if cur = [] then some acc else none
  | c :: r, cur, acc => if c ≠ 0 then cutK r (cur ++ [c]) acc else match r with
    | [] => none
    | d :: r' => if d = 255 then cutK r' (cur ++ [0]) acc else if d = 1 then cutK r' [] (acc ++ [cur]) else none
theorem cutK_of : ∀ (l cur : List UInt8) (acc ps : List (List UInt8)), cutK l cur acc = some ps → makeK acc ++ esc cur ++ l = makeK ps
  | [], cur, acc, ps, h => by
    unfold cutK at h
    split at h
    · rename_i h0
      rw [h0, ← Option.some.inj h]
      simp [esc]
    · cases h
  | [c], cur, acc, ps, h => by
    unfold cutK at h
    split at h
    · unfold cutK at h
      simp at h
    · cases h
  | c :: d :: r, cur, acc, ps, h => by
    unfold cutK at h
    split at h
    · rename_i hc
      have := cutK_of (d :: r) (cur ++ [c]) acc ps h
      rw [esc_app] at this
      rw [← this]
      simp only [esc, if_neg hc, List.append_assoc, List.cons_append, List.nil_append]
    · rename_i hc
      have hc0 : c = 0 := Classical.not_not.1 hc
      simp only at h
      split at h
      · rename_i hd
        have := cutK_of r (cur ++ [0]) acc ps h
        rw [esc_app] at this
        rw [← this, hc0, hd]
        simp [esc]
      · split at h
        · rename_i _ hd
          have := cutK_of r [] (acc ++ [cur]) ps h
          rw [makeK_snoc] at this
          rw [← this, hc0, hd]
          simp [esc]
        · cases h
theorem cutK_part : ∀ (p cur r : List UInt8) (acc : List (List UInt8)), cutK (esc p ++ 0 :: 1 :: r) cur acc = cutK r [] (acc ++ [cur ++ p])
  | [], cur, r, acc => by
    rw [List.append_nil]
    show cutK (0 :: 1 :: r) cur acc = _
    rw [cutK, if_neg (by decide)]
    show (if (1 : UInt8) = 255 then _ else if (1 : UInt8) = 1 then _ else _) = _
    rw [if_neg (by decide), if_pos rfl]
  | c :: p, cur, r, acc => by
    by_cases hc : c = 0
    · subst hc
      rw [esc, if_pos rfl]
      show cutK (0 :: 255 :: (esc p ++ 0 :: 1 :: r)) cur acc = _
      rw [cutK, if_neg (by decide)]
      show (if (255 : UInt8) = 255 then _ else _) = _
      rw [if_pos rfl, cutK_part p (cur ++ [0]) r acc]
      simp
    · rw [esc, if_neg hc]
      show cutK (c :: (esc p ++ 0 :: 1 :: r)) cur acc = _
      conv => lhs; unfold cutK
      show (if c ≠ 0 then cutK (esc p ++ 0 :: 1 :: r) (cur ++ [c]) acc else _) = _
      rw [if_pos hc, cutK_part p (cur ++ [c]) r acc]
      simp
theorem cutK_make : ∀ (ps acc : List (List UInt8)), cutK (makeK ps) [] acc = some (acc ++ ps)
  | [], acc => by simp [makeK, cutK]
  | p :: r, acc => by
    rw [makeK, cutK_part, cutK_make r]
    simp
theorem cutK_iff (l : List UInt8) (ps : List (List UInt8)) : cutK l [] [] = some ps ↔ l = makeK ps := by
  constructor
  · intro h
    have := cutK_of l [] [] ps h
    simpa [makeK, esc] using this
  · rintro rfl
    rw [cutK_make]
    rfl
theorem cutK_pre : ∀ (ps : List (List UInt8)) (t : List UInt8) (acc : List (List UInt8)), cutK (makeK ps ++ t) [] acc = cutK t [] (acc ++ ps)
  | [], t, acc => by simp [makeK]
  | p :: r, t, acc => by
    rw [makeK, List.append_assoc, List.cons_append, List.cons_append, cutK_part, cutK_pre r]
    simp
theorem cutK_acc : ∀ (l cur : List UInt8) (acc qs : List (List UInt8)), cutK l cur acc = some qs → acc <+: qs
  | [], cur, acc, qs, h => by
    unfold cutK at h
    split at h
    · rw [← Option.some.inj h]; exact List.prefix_refl _
    · cases h
  | [c], cur, acc, qs, h => by
    unfold cutK at h
    split at h
    · exact cutK_acc [] (cur ++ [c]) acc qs h
    · cases h
  | c :: d :: r, cur, acc, qs, h => by
    unfold cutK at h
    split at h
    · exact cutK_acc (d :: r) (cur ++ [c]) acc qs h
    · simp only at h
      split at h
      · exact cutK_acc r (cur ++ [0]) acc qs h
      · split at h
        · exact (List.prefix_append acc [cur]).trans (cutK_acc r [] (acc ++ [cur]) qs h)
        · cases h
theorem makeK_prefix (ps qs : List (List UInt8)) : makeK ps <+: makeK qs ↔ ps <+: qs := by
  constructor
  · rintro ⟨t, ht⟩
    have h := cutK_make qs []
    rw [← ht, cutK_pre, List.nil_append, List.nil_append] at h
    exact cutK_acc _ _ _ _ h
  · rintro ⟨t, rfl⟩
    rw [makeK_app]
    exact List.prefix_append _ _
theorem makeK_inj {ps qs : List (List UInt8)} (h : makeK ps = makeK qs) : ps = qs := by
  have h1 := cutK_make ps []
  rw [h, cutK_make] at h1
  simpa using (Option.some.inj h1).symm
theorem less_cons (a b : UInt8) (x y : List UInt8) : Go.Op.bytesLess (a :: x) (b :: y) = true ↔ a.toNat < b.toNat ∨ (a = b ∧ Go.Op.bytesLess x y = true) := by
  rw [Go.Op.bytesLess, Bool.or_eq_true, Bool.and_eq_true, decide_eq_true_eq, beq_iff_eq, UInt8.lt_iff_toNat_lt]
theorem less_nil (x : List UInt8) : Go.Op.bytesLess x [] = false := by cases x <;> rfl
theorem in_range : ∀ (X k : List UInt8), (Go.Op.bytesLess k (X ++ [0, 1]) = false ∧ Go.Op.bytesLess k (X ++ [0, 2]) = true) ↔ X ++ [0, 1] <+: k
  | [], [] => ⟨fun h => absurd h.1 (by decide), fun h => by have := h.length_le; simp at this⟩
  | [], [c] => by
    refine ⟨fun h => ?_, fun h => by have := h.length_le; simp at this⟩
    obtain ⟨h1, h2⟩ := h
    rw [List.nil_append] at h1 h2
    rw [less_cons] at h2
    rw [Bool.eq_false_iff, Ne, less_cons] at h1
    rcases h2 with h2 | ⟨h2, _⟩
    · exact absurd h2 (by simp)
    · exact absurd (Or.inr ⟨h2, rfl⟩) h1
  | [], c :: d :: r => by
    rw [List.nil_append, List.nil_append, Bool.eq_false_iff, Ne, less_cons, less_cons, less_cons, less_cons, less_nil]
    have e1 : (0 : UInt8).toNat = 0 := rfl
    have e2 : (1 : UInt8).toNat = 1 := rfl
    have e3 : (2 : UInt8).toNat = 2 := rfl
    rw [e1, e2, e3]
    constructor
    · rintro ⟨h1, h2⟩
      rcases h2 with h2 | ⟨h2, h3⟩
      · omega
      · rcases h3 with h3 | ⟨_, h3⟩
        · have h4 : d = 1 := UInt8.toNat_inj.1 (by
            have h5 : ¬ d.toNat < 1 := fun h5 => h1 (Or.inr ⟨h2, Or.inl h5⟩)
            rw [e2]; omega)
          exact ⟨r, by rw [h2, h4]; rfl⟩
        · cases h3
    · rintro ⟨t, ht⟩
      simp only [List.cons_append, List.nil_append, List.cons.injEq] at ht
      obtain ⟨rfl, rfl, rfl⟩ := ht
      refine ⟨?_, Or.inr ⟨rfl, Or.inl (by decide)⟩⟩
      rintro (h | ⟨_, h | ⟨_, h⟩⟩)
      · exact absurd h (by decide)
      · exact absurd h (by decide)
      · cases h
  | a :: X, [] => ⟨fun h => (by have h1 := h.1; rw [List.cons_append, Go.Op.bytesLess] at h1; cases h1), fun h => by have := h.length_le; simp at this⟩
  | a :: X, c :: k => by
    have ih := in_range X k
    rw [List.cons_append, List.cons_append, Bool.eq_false_iff, Ne, less_cons, less_cons]
    constructor
    · rintro ⟨h1, h2⟩
      rcases h2 with h2 | ⟨h2, h3⟩
      · exact absurd (Or.inl h2) h1
      · subst h2
        have h4 : Go.Op.bytesLess k (X ++ [0, 1]) = false := by
          rw [Bool.eq_false_iff]
          exact fun h5 => h1 (Or.inr ⟨rfl, h5⟩)
        obtain ⟨t, ht⟩ := ih.1 ⟨h4, h3⟩
        exact ⟨t, by rw [List.cons_append, ht]⟩
    · rintro ⟨t, ht⟩
      rw [List.cons_append] at ht
      simp only [List.cons.injEq] at ht
      obtain ⟨rfl, ht⟩ := ht
      have h5 := ih.2 ⟨t, ht⟩
      refine ⟨?_, Or.inr ⟨rfl, h5.2⟩⟩
      rintro (h | ⟨_, h⟩)
      · exact absurd h (Nat.lt_irrefl _)
      · rw [h5.1] at h; cases h
theorem makeK_ends {ps : List (List UInt8)} (h : ps ≠ []) : ∃ X, makeK ps = X ++ [0, 1] := by
  have e := List.dropLast_concat_getLast h
  refine ⟨makeK ps.dropLast ++ esc (ps.getLast h), ?_⟩
  conv => lhs; rw [← e]
  rw [makeK_snoc, List.append_assoc]
theorem range_iff {ps qs : List (List UInt8)} {X : List UInt8} (hX : makeK ps = X ++ [0, 1]) : (Go.Op.bytesLess (makeK qs) (makeK ps) = false ∧ Go.Op.bytesLess (makeK qs) (X ++ [0, 2]) = true) ↔ ps <+: qs := by
  rw [hX, in_range, ← hX, makeK_prefix]
end Go.Proofs.YtniolbolfclhkaaDoor.Pl
namespace Go.Proofs.YtniolbolfclhkaaDoor.Q
open Go.RowKit Go.Proofs.YtniolbolfclhkaaDoorW.PrintWords Go.Proofs.YtniolbolfclhkaaDoorW.PrintLast Go.Proofs.YtniolbolfclhkaaDoor.Pl
set_option linter.unusedVariables false
set_option linter.unusedSimpArgs false
def listB (s : ByteArray) : List UInt8 := s.data.toList
def makeB (l : List ByteArray) : List UInt8 := makeK (l.map listB)
def key_Make.f (l : List ByteArray) : Option (ByteArray × Int) :=
  if l.length = 0 ∨ 8 < l.length then some (⟨#[]⟩, 1) else if ∀ s ∈ l, (0 : UInt8) ∉ listB s ∧ s.size ≤ 4096 then (if (makeB l).length ≤ 120 then some (⟨(makeB l).toArray⟩, 0) else some (⟨#[]⟩, 23)) else none
theorem index_zero : ∀ {l : List UInt8}, (0 : UInt8) ∉ l → Lib.index l [0] = -1
  | [], _ => rfl
  | c :: r, h => by
    have hc : c ≠ 0 := fun e => h (by rw [e]; exact List.mem_cons_self)
    have hr : Lib.index r [0] = -1 := index_zero (fun e => h (List.mem_cons_of_mem _ e))
    unfold Lib.index
    rw [if_neg (by simp [List.isPrefixOf, Ne.symm hc]), hr]
    rfl
theorem replace_zero {l : List UInt8} (h : (0 : UInt8) ∉ l) : Lib.replaceAll l [0] [0, 255] = l := by
  have hc : Lib.count l [0] = 0 := Lib.count_miss (index_zero h)
  unfold Lib.replaceAll Lib.replace Lib.replaceNum
  rw [if_neg (by decide), if_pos (.inl (by decide)), hc]
  rfl
theorem rep_ok (s : ByteArray) (w : World) (hs : s.size ≤ 4096) (hz : (0 : UInt8) ∉ listB s) (hG : Glob w) :
    Calls Tryd.prog 57 #[.string s, .string ⟨#[0]⟩, .string ⟨#[0, 255]⟩] w fun e w' => e = .returned (.string s) ∧ Below w.heap.size w w' := by
  obtain ⟨m, hm⟩ := hG.maxLen
  have hle := Lib.countB_le ⟨#[0]⟩ (by decide) s.size s (Nat.le_refl _)
  refine (Tryd.strings_ReplaceAll s ⟨#[0]⟩ ⟨#[0, 255]⟩ m w (by omega) hm (by decide) (by show s.size + Lib.countB s ⟨#[0]⟩ * 2 ≤ _; omega)).mono ?_
  rintro e w' ⟨rfl, hb⟩
  refine ⟨?_, hb⟩
  rw [show (⟨#[0]⟩ : ByteArray).data.toList = [0] from rfl, show (⟨#[0, 255]⟩ : ByteArray).data.toList = [0, 255] from rfl, replace_zero (l := s.data.toList) hz]
theorem esc_id {l : List UInt8} (h : (0 : UInt8) ∉ l) : esc l = l := by
  induction l with
  | nil => rfl
  | cons c r ih =>
    have hc : c ≠ 0 := fun e => h (by rw [e]; exact List.mem_cons_self)
    unfold esc
    rw [if_neg hc, ih (fun e => h (List.mem_cons_of_mem _ e))]
theorem makeB_snoc {l : List ByteArray} {k : Nat} (hk : k < l.length) (hz : (0 : UInt8) ∉ listB l[k]) : makeB (l.take (k + 1)) = makeB (l.take k) ++ (listB l[k] ++ [0, 1]) := by
  rw [List.take_succ_eq_append_getElem hk]
  unfold makeB
  rw [List.map_append, List.map_cons, List.map_nil, makeK_snoc, esc_id hz]
theorem makeB_mono {l : List ByteArray} {k : Nat} : (makeB (l.take k)).length ≤ (makeB l).length := by
  have : makeB l = makeB (l.take k) ++ makeB (l.drop k) := by
    unfold makeB
    rw [← makeK_app, ← List.map_append, List.take_append_drop]
  rw [this, List.length_append]
  omega
theorem cells_app (a : List UInt8) (s : ByteArray) : Lib.byteCells a ++ Lib.strCells s = Lib.byteCells (a ++ listB s) := by
  unfold Lib.byteCells
  rw [List.map_append]
  rfl
theorem cells_two (a : List UInt8) : Lib.byteCells a ++ Lib.strCells ⟨#[0, 1]⟩ = Lib.byteCells (a ++ [0, 1]) := cells_app a ⟨#[0, 1]⟩
theorem cells_len (a : List UInt8) : (Lib.byteCells a).length = a.length := by unfold Lib.byteCells; simp
theorem below_lower {b c : Nat} {w W : World} (h : Below c w W) (hb : b ≤ c) : Below b w W := ⟨h.os, h.tape, h.output, h.size, fun k hk => h.block k (by omega)⟩
theorem IsB.below {T e B b : Nat} {bs : List Value} {w W : World} (h : Lib.IsBuilder T e B b bs w) (hb : Below w.heap.size w W) : Lib.IsBuilder T e B b bs W := by
  have key : ∀ p, Lib.BuilderAt T e B b p bs w → Lib.BuilderAt T e B b p bs W := by
    rintro p ⟨h1, v, h2, h3, h4⟩
    exact ⟨h1, v, (hb.block b (blk_lt h2)).trans h2, own_move h3 (fun k hk => hb.block k (own_lt h3 k hk)), h4⟩
  exact h.elim (fun x => .inl (key _ x)) (fun x => .inr (key _ x))
set_option maxHeartbeats 4000000 in
set_option maxRecDepth 100000 in
theorem key_Make.calls (A0 : Option Addr) (c0 : Nat) (l0 : List ByteArray) (r1 : ByteArray) (r2 : Int) (w : World) (hr0 : Kd.C Kd.string w A0 l0.length l0) (hc0 : l0.length ≤ c0) (h : key_Make.f l0 = some (r1, r2)) (hG : Glob w) :
    Calls Tryd.prog 30 #[.slice A0 l0.length c0] w fun e w' => e = .returned (.tuple #[.string r1, .int .i64 r2]) ∧ Below w.heap.size w w' := by
  have hu97 := Tryd.underlying97
  unfold key_Make.f at h
  have HL := Lib.hid hr0.2.1
  by_cases hn : l0.length = 0 ∨ 8 < l0.length
  · rw [if_pos hn] at h
    simp only [Option.some.injEq, Prod.mk.injEq] at h
    obtain ⟨rfl, rfl⟩ := h
    clear hr0 hG
    rcases hn with hn | hn
    · have b1 : ((l0.length : Int) == 0) = true := beq_iff_eq.2 (by omega)
      have b2 : (l0.length == 0) = true := beq_iff_eq.2 hn
      clear hn
      go_enter Tryd.func30, Tryd.ntmps30
      go_wp2
      go_ret2
      exact ⟨rfl, Below.refl _ _⟩
    · have b1 : ((l0.length : Int) == 0) = false := beq_eq_false_iff_ne.2 (by omega)
      have b2 : (l0.length == 0) = false := beq_eq_false_iff_ne.2 (by omega)
      have b3 : decide ((8 : Int) < (l0.length : Int)) = true := decide_eq_true (by omega)
      have b4 : decide (8 < l0.length) = true := decide_eq_true (by omega)
      go_enter Tryd.func30, Tryd.ntmps30
      go_wp2
      go_ret2
      exact ⟨rfl, Below.refl _ _⟩
  · rw [if_neg hn] at h
    by_cases hz : ∀ s ∈ l0, (0 : UInt8) ∉ listB s ∧ s.size ≤ 4096
    · rw [if_pos hz] at h
      have b1 : ((l0.length : Int) == 0) = false := beq_eq_false_iff_ne.2 (by omega)
      have b2 : (l0.length == 0) = false := beq_eq_false_iff_ne.2 (by omega)
      have b3 : decide ((8 : Int) < (l0.length : Int)) = false := decide_eq_false (by omega)
      have b4 : decide (8 < l0.length) = false := decide_eq_false (by omega)
      have hl8 : l0.length ≤ 8 := by omega
      have HZ := Lib.hid hz
      have HH := Lib.hid h
      have HR := Lib.hid hr0
      have HG := Lib.hid hG
      clear hz h hr0 hG hn
      go_enter Tryd.func30, Tryd.ntmps30
      go_upto_region 4 with fail
      have hb0 : Lib.IsBuilder 97 5 w.heap.size w.heap.size (Lib.byteCells (makeB (l0.take 0))) (w.alloc (.cells #[.pointer none, .slice none 0 0] 97)) := by
        refine .inl ⟨Nat.le_refl _, .slice none 0 0, blk_new w _, ?_, by simp [Value.ownBlock]⟩
        rw [cells_len]
        exact ⟨rfl, .inl ⟨rfl, rfl⟩⟩
      have hB0 : Below w.heap.size w (w.alloc (.cells #[.pointer none, .slice none 0 0] 97)) := (Below.refl _ _).alloc (Nat.le_refl _) _
      have HB0 := Lib.hid hb0
      have HW0 := Lib.hid hB0
      clear hb0 hB0
      obtain ⟨b, hbe⟩ : ∃ b, b = w.heap.size := ⟨_, rfl⟩
      have HBE := Lib.hid hbe
      generalize w.alloc _ = w1 at HB0 HW0 ⊢
      rw [← hbe] at HB0 ⊢
      clear hbe
      go_wp2
      go_loopg [17] l0.length (fun g v17 wr => ∃ k : Nat, v17 = .int .i64 (k : Int) ∧ k + g = l0.length ∧ Aside0 (Lib.IsBuilder 97 5 b b (Lib.byteCells (makeB (l0.take k))) wr) ∧ Aside0 (Below w.heap.size w wr) ∧ Aside0 ((makeB (l0.take k)).length ≤ 120))
      case atStart => exact ⟨0, rfl, by omega, ⟨HB0.out⟩, ⟨HW0.out⟩, ⟨by simp [makeB, makeK]⟩⟩
      case round =>
        obtain ⟨k, rfl, hg, HBr, HWr, HM⟩ := hrel
        cases gk with
        | zero =>
          have b5 : decide ((k : Int) < (l0.length : Int)) = false := decide_eq_false (by omega)
          have b6 : decide (k < l0.length) = false := decide_eq_false (by omega)
          have hfin : (⟨(makeB l0).toArray⟩, (0 : Int)) = (r1, r2) := by
            have h1 := HH.out
            have h2 := HM.out
            rw [List.take_of_length_le (by omega)] at h2
            rw [if_pos h2] at h1
            exact Option.some.inj h1
          have HF := Lib.hid hfin
          have hbk : b ≤ w.heap.size := Nat.le_of_eq HBE.out
          have HBK := Lib.hid hbk
          clear hfin hbk
          go_wp2_with (go_at_call 59; refine (Tryd.Builder_String_any b b (makeB (l0.take k)) _ HBr.out (Nat.le_trans HBK.out HWr.out.size)).mono ?_; rintro e w2 ⟨rfl, hb2⟩; have B2 := Lib.hid hb2; clear hb2)
          go_ret2
          have hk : l0.take k = l0 := List.take_of_length_le (by omega)
          rw [hk]
          have hf := HF.out
          simp only [Prod.mk.injEq] at hf
          refine ⟨by rw [hf.1, hf.2]; rfl, HWr.out.trans (⟨B2.out.os, B2.out.tape, B2.out.output, B2.out.size, fun k hk => B2.out.block k (by have := HBE.out; omega)⟩)⟩
        | succ g =>
          have hk : k < l0.length := by omega
          have b5 : decide ((k : Int) < (l0.length : Int)) = true := decide_eq_true (by omega)
          have b6 : decide (k < l0.length) = true := decide_eq_true (by omega)
          obtain ⟨z1, z2⟩ := HZ.out l0[k] (List.getElem_mem hk)
          have hsn := makeB_snoc hk z1
          obtain ⟨ad, hA, hcell⟩ := Kd.at_string (Kd.C_below HR.out HWr.out) (k : Int) (by omega) (by omega)
          subst hA
          rw [Int.toNat_natCast, rd_at l0 k hk] at hcell
          have RK := Lib.hid (rep_ok l0[k] · z2 z1)
          have SN := Lib.hid hsn
          have Z2 := Lib.hid z2
          have e1 := congrArg List.length hsn
          simp only [List.length_append, List.length_cons, List.length_nil] at e1
          have hsz : (listB l0[k]).length = l0[k].size := by unfold listB; rw [Array.length_toList]; rfl
          have E1 := Lib.hid e1
          have HSZ := Lib.hid hsz
          have GR := Lib.hid (Glob.below HG.out HWr.out)
          clear hsn z1 z2 e1 hsz
          generalize l0[k] = s at hcell RK SN Z2 E1 HSZ
          have hl2 : (Lib.byteCells (makeB (l0.take k) ++ listB s)).length + (⟨#[0, 1]⟩ : ByteArray).size ≤ 140737488355328 := by rw [cells_len, List.length_append]; have := HM.out; have := HSZ.out; have := Z2.out; show _ + 2 ≤ _; omega
          have L2 := Lib.hid hl2
          clear hl2
          by_cases h120 : (makeB (l0.take (k + 1))).length ≤ 120
          · have b7 : decide ((120 : Int) < ((makeB (l0.take (k + 1))).length : Int)) = false := decide_eq_false (by omega)
            have b8 : decide (120 < (makeB (l0.take (k + 1))).length) = false := decide_eq_false (by omega)
            go_wp2_with (first
              | (go_at_call 57; refine (RK.out _ GR.out).mono ?_; rintro e w2 ⟨rfl, hb2⟩; have W2 := Lib.hid (HWr.out.trans (below_lower hb2 HWr.out.size)); have I2 := Lib.hid (IsB.below HBr.out hb2); clear hb2)
              | (go_at_call 56; (with_reducible refine (Bu.write_ok b b _ s w2 I2.out (by rw [cells_len]; have := HM.out; have := Z2.out; omega) (by have := HBE.out; have := W2.out.size; omega)).mono ?_); rintro e w3 ⟨rfl, h3, hb3⟩; rw [cells_app] at h3; have I3 := Lib.hid (show Lib.IsBuilder 97 5 b b _ w3 from Or.inr h3); have W3 := Lib.hid (W2.out.trans (below_lower hb3 (by have := HBE.out; omega))); clear h3 hb3)
              | (go_at_call 56; (with_reducible refine (Bu.write_ok b b _ ⟨#[0, 1]⟩ w3 I3.out L2.out (by have := HBE.out; have := W3.out.size; omega)).mono ?_); rintro e w4 ⟨rfl, h4, hb4⟩; rw [cells_two, List.append_assoc, ← SN.out] at h4; have I4 := Lib.hid (show Lib.IsBuilder 97 5 b b _ w4 from Or.inr h4); have W4 := Lib.hid (W3.out.trans (below_lower hb4 (by have := HBE.out; omega))); clear h4 hb4)
              | (go_at_call 58; refine (Tryd.Builder_Len b b _ w4 I4.out).mono ?_; rintro e w5 ⟨rfl, rfl⟩; rw [cells_len]))
            go_roundg g
            case measure => omega
            case rel => exact ⟨k + 1, by go_num, by omega, ⟨I4.out⟩, ⟨W4.out⟩, ⟨h120⟩⟩
          · have b7 : decide ((120 : Int) < ((makeB (l0.take (k + 1))).length : Int)) = true := decide_eq_true (by omega)
            have b8 : decide (120 < (makeB (l0.take (k + 1))).length) = true := decide_eq_true (by omega)
            go_wp2_with (first
              | (go_at_call 57; refine (RK.out _ GR.out).mono ?_; rintro e w2 ⟨rfl, hb2⟩; have W2 := Lib.hid (HWr.out.trans (below_lower hb2 HWr.out.size)); have I2 := Lib.hid (IsB.below HBr.out hb2); clear hb2)
              | (go_at_call 56; (with_reducible refine (Bu.write_ok b b _ s w2 I2.out (by rw [cells_len]; have := HM.out; have := Z2.out; omega) (by have := HBE.out; have := W2.out.size; omega)).mono ?_); rintro e w3 ⟨rfl, h3, hb3⟩; rw [cells_app] at h3; have I3 := Lib.hid (show Lib.IsBuilder 97 5 b b _ w3 from Or.inr h3); have W3 := Lib.hid (W2.out.trans (below_lower hb3 (by have := HBE.out; omega))); clear h3 hb3)
              | (go_at_call 56; (with_reducible refine (Bu.write_ok b b _ ⟨#[0, 1]⟩ w3 I3.out L2.out (by have := HBE.out; have := W3.out.size; omega)).mono ?_); rintro e w4 ⟨rfl, h4, hb4⟩; rw [cells_two, List.append_assoc, ← SN.out] at h4; have I4 := Lib.hid (show Lib.IsBuilder 97 5 b b _ w4 from Or.inr h4); have W4 := Lib.hid (W3.out.trans (below_lower hb4 (by have := HBE.out; omega))); clear h4 hb4)
              | (go_at_call 58; refine (Tryd.Builder_Len b b _ w4 I4.out).mono ?_; rintro e w5 ⟨rfl, rfl⟩; rw [cells_len]))
            go_ret2
            have h1 := HH.out
            rw [if_neg (by have := makeB_mono (l := l0) (k := k + 1); omega)] at h1
            simp only [Option.some.injEq, Prod.mk.injEq] at h1
            exact ⟨by rw [← h1.1, ← h1.2]; rfl, W4.out⟩
    · rw [if_neg hz] at h
      cases h
end Go.Proofs.YtniolbolfclhkaaDoor.Q
namespace Go.Proofs.YtniolbolfclhkaaDoor.Q
open Go.RowKit Go.Proofs.YtniolbolfclhkaaDoorW.PrintWords Go.Proofs.YtniolbolfclhkaaDoorW.PrintLast Go.Proofs.YtniolbolfclhkaaDoorW.PrintMore
attribute [local go_sem] binOp_leq_ binOp_gtr_ binOp_geq_
set_option linter.unusedVariables false
set_option linter.unusedSimpArgs false
theorem path_ok (s : ByteArray) (w : World) (hG : Glob w) : Calls Tryd.prog 28 #[.string s] w fun e w' => e = .returned (.int .i64 (pathS s)) ∧ Below w.heap.size w w' := by
  obtain ⟨k, hk⟩ := (path_ev s).rounds
  exact label_Path.calls k s _ w hk hG
theorem name_ok (s : ByteArray) (w : World) : Calls Tryd.prog 29 #[.string s] w fun e w' => e = .returned (.bool (nameB s)) ∧ Below w.heap.size w w' := label_Name.calls s _ w rfl
theorem labels_ok (l : List Lab) (A : Option Addr) (c : Nat) (w : World) (h : Kd.C k37 w A l.length l) (hc : l.length ≤ c) : Calls Tryd.prog 45 #[.slice A l.length c] w fun e w' => e = .returned (.int .i64 (vR l)) ∧ Below w.heap.size w w' := by
  obtain ⟨k, hk⟩ := (labels_ev l).rounds
  exact label_Valid.calls k A c l _ w h hc hk
theorem amounts_ok (l : List Amt) (A : Option Addr) (c : Nat) (w : World) (h : Kd.C k50 w A l.length l) (hc : l.length ≤ c) (hG : Glob w) : Calls Tryd.prog 47 #[.slice A l.length c] w fun e w' => e = .returned (.int .i64 (validP l)) ∧ Below w.heap.size w w' := by
  obtain ⟨k, hk⟩ := (valid_ev l).rounds
  exact quant_Valid.calls k A c l _ w h hc hk hG
def stampB (d : Int) : Bool := decide (0 ≤ d ∧ d ≤ 1152921504606846976)
theorem stamp_ok (d : Int) (w : World) : Calls Tryd.prog 46 #[.int .i64 d, .int .i64 0, .int .i64 1152921504606846976] w fun e w' => e = .returned (.bool (stampB d)) ∧ Below w.heap.size w w' := by
  refine (object_within.calls d 0 1152921504606846976 (stampB d) w ?_).mono fun e w' h => ⟨h.1, h.2.below⟩
  unfold object_within.f stampB
  by_cases h : d ≥ 0
  · rw [if_pos h]
    congr 1
    rw [decide_eq_decide]
    exact ⟨fun x => ⟨h, x⟩, fun x => x.2⟩
  · rw [if_neg h, decide_eq_false (fun x => h x.1)]
def upN (nm : Nat → ByteArray) (n : Nat) : Bool := (List.range' 1 (n - 1)).all fun i => Op.bytesLess (nm (i - 1)).toList (nm i).toList
theorem upN_all {nm : Nat → ByteArray} {n : Nat} (h : ∀ i, 1 ≤ i → i < n → Op.bytesLess (nm (i - 1)).toList (nm i).toList = true) : upN nm n = true := by
  unfold upN
  rw [List.all_eq_true]
  intro i hi
  rw [List.mem_range'_1] at hi
  exact h i hi.1 (by omega)
theorem upN_not {nm : Nat → ByteArray} {n i : Nat} (h1 : 1 ≤ i) (h2 : i < n) (h : Op.bytesLess (nm (i - 1)).toList (nm i).toList = false) : upN nm n = false := by
  unfold upN
  rw [List.all_eq_false]
  exact ⟨i, by rw [List.mem_range'_1]; omega, by rw [h]; decide⟩
set_option maxHeartbeats 4000000 in
set_option maxRecDepth 100000 in
theorem nm_ok (ps : List Prt) (A : Option Addr) (c bo : Nat) (x0 x1 x2 x3 x4 x6 : Value) (i : Nat) (hi : i < ps.length) (w : World) (hb : w.heap[bo]? = some (.cells #[x0, x1, x2, x3, x4, .slice A ps.length c, x6] 25 (0, 0))) (hr : Kd.C k35 w A ps.length ps) :
    Calls Tryd.prog 49 #[.int .i64 (i : Int), .pointer (some ⟨bo, 0, none⟩)] w fun e w' => e = .returned (.string (rd_T35 ps (i : Int)).f0) ∧ w' = w := by
  have hc5 := (blk_cell hb 5).trans rfl
  obtain ⟨ad, A1, c1, A2, c2, e1, x0', _, _, _⟩ := at_T35 hr (i : Int) (by omega) (by omega)
  cases e1
  rw [Int.toNat_natCast] at x0'
  have HB := Lib.hid hb
  have p2' : ((i : Int) < (ps.length : Int)) = True := eq_true (by omega)
  have hle := hr.2.1
  clear hb hr
  go_enter Tryd.func49, Tryd.ntmps49
  go_wp2
  go_ret
  exact ⟨rfl, rfl⟩
set_option maxHeartbeats 4000000 in
set_option maxRecDepth 100000 in
theorem named_ok (n : Nat) (hn : n ≤ 9223372036854775807) (nm : Nat → ByteArray) (cap : Value) (w : World) (h : ∀ i, i < n → Calls Tryd.prog 49 #[.int .i64 (i : Int), cap] w fun e w' => e = .returned (.string (nm i)) ∧ w' = w) :
    Calls Tryd.prog 48 #[.int .i64 (n : Int), .func (.func 49) #[] #[cap]] w fun e w' => e = .returned (.bool (upN nm n)) ∧ w' = w := by
  have NM := Lib.hid h
  have HN := Lib.hid hn
  clear h
  go_enter Tryd.func48, Tryd.ntmps48
  go_wp2
  go_loopg [5] n (fun g v5 wr => ∃ k : Nat, v5 = .int .i64 (k : Int) ∧ 1 ≤ k ∧ Aside0 (n ≤ k + g) ∧ Aside0 (∀ i, 1 ≤ i → i < k → i < n → Op.bytesLess (nm (i - 1)).toList (nm i).toList = true) ∧ wr = w)
  case atStart => exact ⟨1, rfl, Nat.le_refl _, ⟨by omega⟩, ⟨fun i h1 h2 => by omega⟩, rfl⟩
  case round =>
    obtain ⟨k, rfl, h1, HG, HA, rfl⟩ := hrel
    by_cases hk : k < n
    · have b1 : decide ((k : Int) < (n : Int)) = true := decide_eq_true (by omega)
      have b2 : decide (k < n) = true := decide_eq_true hk
      have N1 := Lib.hid (NM.out k hk)
      have n2 := NM.out (k - 1) (by omega)
      rw [show ((k - 1 : Nat) : Int) = (k : Int) - 1 by omega] at n2
      have N2 := Lib.hid n2
      have HK := Lib.hid hk
      have H1 := Lib.hid h1
      clear n2 hk
      have hk63 : (k : Int) + 1 ≤ 9223372036854775807 := by have := HK.out; have := HN.out; omega
      cases hc : Op.bytesLess (nm (k - 1)).toList (nm k).toList with
      | true =>
        have HC := Lib.hid hc
        go_wp2_with (first
          | (go_at_call 49; (with_reducible refine N1.out.mono ?_); rintro e w' ⟨rfl, rfl⟩)
          | (go_at_call 49; (with_reducible refine N2.out.mono ?_); rintro e w' ⟨rfl, rfl⟩))
        go_roundg (gk - 1)
        case measure => have := HG.out; have := HK.out; omega
        case rel => exact ⟨k + 1, by go_num, by omega, ⟨by have := HG.out; have := HK.out; omega⟩, ⟨fun i i1 i2 i3 => by
          rcases Nat.lt_or_ge i k with hlt | hge
          · exact HA.out i i1 hlt i3
          · obtain rfl : i = k := by omega
            exact HC.out⟩, rfl⟩
      | false =>
        have HC := Lib.hid hc
        go_wp2_with (first
          | (go_at_call 49; (with_reducible refine N1.out.mono ?_); rintro e w' ⟨rfl, rfl⟩)
          | (go_at_call 49; (with_reducible refine N2.out.mono ?_); rintro e w' ⟨rfl, rfl⟩))
        go_ret
        exact ⟨by rw [upN_not H1.out HK.out HC.out]; rfl, rfl⟩
    · have b1 : decide ((k : Int) < (n : Int)) = false := decide_eq_false (by omega)
      have b2 : decide (k < n) = false := decide_eq_false hk
      have HK := Lib.hid hk
      clear hk
      go_wp2
      go_ret
      exact ⟨by rw [upN_all (fun i i1 i2 => HA.out i i1 (by have := HK.out; omega) i2)]; rfl, rfl⟩
def partB (p : Prt) : Bool := nameB p.f0 && (decide (validP p.f1 = 0) && decide (validP p.f2 = 0))
def headB (p n : ByteArray) (ls : List Lab) : Bool := decide (pathS p = 0) && (nameB n && decide (vR ls = 0))
def midB (pr d : Int) (ps : List Prt) (v : Int) : Bool := decide (0 ≤ pr) && (decide (pr ≤ 9) && (stampB d && (stampB v && (decide (1 ≤ ps.length) && decide (ps.length ≤ 8)))))
def formB (p n : ByteArray) (ls : List Lab) (pr d : Int) (ps : List Prt) (v : Int) : Bool :=
  headB p n ls && (midB pr d ps v && (ps.all partB && upN (fun i => (rd_T35 ps (i : Int)).f0) ps.length))
def object_formedObject.f (p n : ByteArray) (ls : List Lab) (pr d : Int) (ps : List Prt) (v : Int) : Option Bool := some (formB p n ls pr d ps v)
set_option maxHeartbeats 16000000 in
set_option maxRecDepth 100000 in
theorem formed_ok (p n : ByteArray) (A2 : Option Addr) (c2 : Nat) (ls : List Lab) (pr d : Int) (A5 : Option Addr) (c5 : Nat) (ps : List Prt) (v : Int) (w : World) (HR1 : Kd.C k37 w A2 ls.length ls) (hc2 : ls.length ≤ c2) (HR2 : Kd.C k35 w A5 ps.length ps) (hc5 : ps.length ≤ c5) (hG : Glob w) :
    Calls Tryd.prog 19 #[.agg #[.string p, .string n, .slice A2 ls.length c2, .int .i64 pr, .int .i64 d, .slice A5 ps.length c5, .int .i64 v]] w fun e w' => e = .returned (.bool (formB p n ls pr d ps v)) ∧ Below w.heap.size w w' := by
  have hu25 := Tryd.underlying25
  have hu35 := Tryd.underlying35
  obtain ⟨res, hres⟩ : ∃ res, res = formB p n ls pr d ps v := ⟨_, rfl⟩
  rw [← hres]
  have HRES := Lib.hid hres
  have hal := (Below.refl w.heap.size w).alloc (Nat.le_refl _) (.cells #[.string p, .string n, .slice A2 ls.length c2, .int .i64 pr, .int .i64 d, .slice A5 ps.length c5, .int .i64 v] 25)
  have hnew := blk_new w (.cells #[.string p, .string n, .slice A2 ls.length c2, .int .i64 pr, .int .i64 d, .slice A5 ps.length c5, .int .i64 v] 25)
  have HB := Lib.hid hal
  have BO := Lib.hid hnew
  have GL := Lib.hid (Glob.below hG hal)
  have K1 := Lib.hid HR1
  have K2 := Lib.hid HR2
  have HC2 := Lib.hid hc2
  have HC5 := Lib.hid hc5
  have HL5 := Lib.hid HR2.2.1
  have KP := Lib.hid (path_ok p)
  have KN := Lib.hid (name_ok n)
  have KL := Lib.hid (fun W (hb : Below w.heap.size w W) => labels_ok ls A2 c2 W (Kd.C_below HR1 hb) hc2)
  have KD := Lib.hid (stamp_ok d)
  have KV := Lib.hid (stamp_ok v)
  clear hres hal hnew hG HR1 HR2 hc2 hc5
  by_cases h0 : pathS p = 0
  rotate_left
  · have HX := Lib.hid h0
    have t1 : (pathS p != 0) = true := by rw [bne_iff_ne]; exact h0
    have t2 : (pathS p == 0) = false := beq_eq_false_iff_ne.2 h0
    clear h0
    go_enter Tryd.func19, Tryd.ntmps19
    go_upto_region 1 with fail
    generalize w.alloc _ = w0 at HB BO GL ⊢
    have c0_ := (blk_cell BO.out 0).trans rfl
    go_wp2_with (first | (go_at_call 28; (with_reducible refine (KP.out _ GL.out).mono ?_); rintro e w1 ⟨rfl, hb⟩; have n1 := Lib.hid (HB.out.trans (below_lower hb HB.out.size)); have n2 := Lib.hid (blk_below BO.out hb); have n3 := Lib.hid (Glob.below GL.out hb); clear HB BO GL hb; have HB := n1; have BO := n2; have GL := n3; clear n1 n2 n3; have c1_ := (blk_cell BO.out 1).trans rfl) | (go_at_call 29; (with_reducible refine (KN.out _).mono ?_); rintro e w2 ⟨rfl, hb⟩; have n1 := Lib.hid (HB.out.trans (below_lower hb HB.out.size)); have n2 := Lib.hid (blk_below BO.out hb); have n3 := Lib.hid (Glob.below GL.out hb); clear HB BO GL hb; have HB := n1; have BO := n2; have GL := n3; clear n1 n2 n3; have c2_ := (blk_cell BO.out 2).trans rfl) | (go_at_call 45; (with_reducible refine (KL.out _ HB.out).mono ?_); rintro e w3 ⟨rfl, hb⟩; have n1 := Lib.hid (HB.out.trans (below_lower hb HB.out.size)); have n2 := Lib.hid (blk_below BO.out hb); have n3 := Lib.hid (Glob.below GL.out hb); clear HB BO GL hb; have HB := n1; have BO := n2; have GL := n3; clear n1 n2 n3; have c3_ := (blk_cell BO.out 3).trans rfl; have c4_ := (blk_cell BO.out 4).trans rfl; have c5_ := (blk_cell BO.out 5).trans rfl; have c6_ := (blk_cell BO.out 6).trans rfl) | (go_at_call 46; (with_reducible refine (KD.out _).mono ?_); rintro e w4 ⟨rfl, hb⟩; have n1 := Lib.hid (HB.out.trans (below_lower hb HB.out.size)); have n2 := Lib.hid (blk_below BO.out hb); have n3 := Lib.hid (Glob.below GL.out hb); clear HB BO GL hb; have HB := n1; have BO := n2; have GL := n3; clear n1 n2 n3; have c3_ := (blk_cell BO.out 3).trans rfl; have c4_ := (blk_cell BO.out 4).trans rfl; have c5_ := (blk_cell BO.out 5).trans rfl; have c6_ := (blk_cell BO.out 6).trans rfl) | (go_at_call 46; (with_reducible refine (KV.out _).mono ?_); rintro e w5 ⟨rfl, hb⟩; have n1 := Lib.hid (HB.out.trans (below_lower hb HB.out.size)); have n2 := Lib.hid (blk_below BO.out hb); have n3 := Lib.hid (Glob.below GL.out hb); clear HB BO GL hb; have HB := n1; have BO := n2; have GL := n3; clear n1 n2 n3; have c3_ := (blk_cell BO.out 3).trans rfl; have c4_ := (blk_cell BO.out 4).trans rfl; have c5_ := (blk_cell BO.out 5).trans rfl; have c6_ := (blk_cell BO.out 6).trans rfl))
    go_ret
    exact ⟨by rw [HRES.out]; unfold formB headB; rw [decide_eq_false HX.out]; rfl, HB.out⟩
  have k_ := KP.out
  simp only [h0] at k_
  clear KP
  have KP := Lib.hid k_
  clear k_
  by_cases h1 : nameB n = true
  rotate_left
  · have h1 : nameB n = false := by simpa using h1
    have k_ := KN.out
    simp only [h1] at k_
    clear KN
    have KN := Lib.hid k_
    clear k_
    have HX := Lib.hid h1
    have H0 := Lib.hid h0
    clear h0 h1
    go_enter Tryd.func19, Tryd.ntmps19
    go_upto_region 1 with fail
    generalize w.alloc _ = w0 at HB BO GL ⊢
    have c0_ := (blk_cell BO.out 0).trans rfl
    go_wp2_with (first | (go_at_call 28; (with_reducible refine (KP.out _ GL.out).mono ?_); rintro e w1 ⟨rfl, hb⟩; have n1 := Lib.hid (HB.out.trans (below_lower hb HB.out.size)); have n2 := Lib.hid (blk_below BO.out hb); have n3 := Lib.hid (Glob.below GL.out hb); clear HB BO GL hb; have HB := n1; have BO := n2; have GL := n3; clear n1 n2 n3; have c1_ := (blk_cell BO.out 1).trans rfl) | (go_at_call 29; (with_reducible refine (KN.out _).mono ?_); rintro e w2 ⟨rfl, hb⟩; have n1 := Lib.hid (HB.out.trans (below_lower hb HB.out.size)); have n2 := Lib.hid (blk_below BO.out hb); have n3 := Lib.hid (Glob.below GL.out hb); clear HB BO GL hb; have HB := n1; have BO := n2; have GL := n3; clear n1 n2 n3; have c2_ := (blk_cell BO.out 2).trans rfl) | (go_at_call 45; (with_reducible refine (KL.out _ HB.out).mono ?_); rintro e w3 ⟨rfl, hb⟩; have n1 := Lib.hid (HB.out.trans (below_lower hb HB.out.size)); have n2 := Lib.hid (blk_below BO.out hb); have n3 := Lib.hid (Glob.below GL.out hb); clear HB BO GL hb; have HB := n1; have BO := n2; have GL := n3; clear n1 n2 n3; have c3_ := (blk_cell BO.out 3).trans rfl; have c4_ := (blk_cell BO.out 4).trans rfl; have c5_ := (blk_cell BO.out 5).trans rfl; have c6_ := (blk_cell BO.out 6).trans rfl) | (go_at_call 46; (with_reducible refine (KD.out _).mono ?_); rintro e w4 ⟨rfl, hb⟩; have n1 := Lib.hid (HB.out.trans (below_lower hb HB.out.size)); have n2 := Lib.hid (blk_below BO.out hb); have n3 := Lib.hid (Glob.below GL.out hb); clear HB BO GL hb; have HB := n1; have BO := n2; have GL := n3; clear n1 n2 n3; have c3_ := (blk_cell BO.out 3).trans rfl; have c4_ := (blk_cell BO.out 4).trans rfl; have c5_ := (blk_cell BO.out 5).trans rfl; have c6_ := (blk_cell BO.out 6).trans rfl) | (go_at_call 46; (with_reducible refine (KV.out _).mono ?_); rintro e w5 ⟨rfl, hb⟩; have n1 := Lib.hid (HB.out.trans (below_lower hb HB.out.size)); have n2 := Lib.hid (blk_below BO.out hb); have n3 := Lib.hid (Glob.below GL.out hb); clear HB BO GL hb; have HB := n1; have BO := n2; have GL := n3; clear n1 n2 n3; have c3_ := (blk_cell BO.out 3).trans rfl; have c4_ := (blk_cell BO.out 4).trans rfl; have c5_ := (blk_cell BO.out 5).trans rfl; have c6_ := (blk_cell BO.out 6).trans rfl))
    go_ret
    exact ⟨by rw [HRES.out]; unfold formB headB; rw [HX.out, decide_eq_true H0.out]; rfl, HB.out⟩
  have k_ := KN.out
  simp only [h1] at k_
  clear KN
  have KN := Lib.hid k_
  clear k_
  by_cases h2 : vR ls = 0
  rotate_left
  · have HX := Lib.hid h2
    have H0 := Lib.hid h0
    have H1 := Lib.hid h1
    have t1 : (vR ls != 0) = true := by rw [bne_iff_ne]; exact h2
    have t2 : (vR ls == 0) = false := beq_eq_false_iff_ne.2 h2
    clear h0 h1 h2
    go_enter Tryd.func19, Tryd.ntmps19
    go_upto_region 1 with fail
    generalize w.alloc _ = w0 at HB BO GL ⊢
    have c0_ := (blk_cell BO.out 0).trans rfl
    go_wp2_with (first | (go_at_call 28; (with_reducible refine (KP.out _ GL.out).mono ?_); rintro e w1 ⟨rfl, hb⟩; have n1 := Lib.hid (HB.out.trans (below_lower hb HB.out.size)); have n2 := Lib.hid (blk_below BO.out hb); have n3 := Lib.hid (Glob.below GL.out hb); clear HB BO GL hb; have HB := n1; have BO := n2; have GL := n3; clear n1 n2 n3; have c1_ := (blk_cell BO.out 1).trans rfl) | (go_at_call 29; (with_reducible refine (KN.out _).mono ?_); rintro e w2 ⟨rfl, hb⟩; have n1 := Lib.hid (HB.out.trans (below_lower hb HB.out.size)); have n2 := Lib.hid (blk_below BO.out hb); have n3 := Lib.hid (Glob.below GL.out hb); clear HB BO GL hb; have HB := n1; have BO := n2; have GL := n3; clear n1 n2 n3; have c2_ := (blk_cell BO.out 2).trans rfl) | (go_at_call 45; (with_reducible refine (KL.out _ HB.out).mono ?_); rintro e w3 ⟨rfl, hb⟩; have n1 := Lib.hid (HB.out.trans (below_lower hb HB.out.size)); have n2 := Lib.hid (blk_below BO.out hb); have n3 := Lib.hid (Glob.below GL.out hb); clear HB BO GL hb; have HB := n1; have BO := n2; have GL := n3; clear n1 n2 n3; have c3_ := (blk_cell BO.out 3).trans rfl; have c4_ := (blk_cell BO.out 4).trans rfl; have c5_ := (blk_cell BO.out 5).trans rfl; have c6_ := (blk_cell BO.out 6).trans rfl) | (go_at_call 46; (with_reducible refine (KD.out _).mono ?_); rintro e w4 ⟨rfl, hb⟩; have n1 := Lib.hid (HB.out.trans (below_lower hb HB.out.size)); have n2 := Lib.hid (blk_below BO.out hb); have n3 := Lib.hid (Glob.below GL.out hb); clear HB BO GL hb; have HB := n1; have BO := n2; have GL := n3; clear n1 n2 n3; have c3_ := (blk_cell BO.out 3).trans rfl; have c4_ := (blk_cell BO.out 4).trans rfl; have c5_ := (blk_cell BO.out 5).trans rfl; have c6_ := (blk_cell BO.out 6).trans rfl) | (go_at_call 46; (with_reducible refine (KV.out _).mono ?_); rintro e w5 ⟨rfl, hb⟩; have n1 := Lib.hid (HB.out.trans (below_lower hb HB.out.size)); have n2 := Lib.hid (blk_below BO.out hb); have n3 := Lib.hid (Glob.below GL.out hb); clear HB BO GL hb; have HB := n1; have BO := n2; have GL := n3; clear n1 n2 n3; have c3_ := (blk_cell BO.out 3).trans rfl; have c4_ := (blk_cell BO.out 4).trans rfl; have c5_ := (blk_cell BO.out 5).trans rfl; have c6_ := (blk_cell BO.out 6).trans rfl))
    go_ret
    exact ⟨by rw [HRES.out]; unfold formB headB; rw [decide_eq_false HX.out, H1.out, decide_eq_true H0.out]; rfl, HB.out⟩
  have k_ := KL.out
  simp only [h2] at k_
  clear KL
  have KL := Lib.hid k_
  clear k_
  have HH := Lib.hid (show headB p n ls = true by unfold headB; rw [decide_eq_true h0, h1, decide_eq_true h2]; rfl)
  clear h0 h1 h2
  by_cases q0 : pr < 0
  · have b1 : decide (pr < 0) = true := decide_eq_true q0
    have HX := Lib.hid (show midB pr d ps v = false by unfold midB; simp only [Bool.and_eq_false_iff, decide_eq_false_iff_not]; (first | (simp only [q0]; simp; done) | omega | (simp only [q0]; simp; done)))
    clear q0
    go_enter Tryd.func19, Tryd.ntmps19
    go_upto_region 1 with fail
    generalize w.alloc _ = w0 at HB BO GL ⊢
    have c0_ := (blk_cell BO.out 0).trans rfl
    go_wp2_with (first | (go_at_call 28; (with_reducible refine (KP.out _ GL.out).mono ?_); rintro e w1 ⟨rfl, hb⟩; have n1 := Lib.hid (HB.out.trans (below_lower hb HB.out.size)); have n2 := Lib.hid (blk_below BO.out hb); have n3 := Lib.hid (Glob.below GL.out hb); clear HB BO GL hb; have HB := n1; have BO := n2; have GL := n3; clear n1 n2 n3; have c1_ := (blk_cell BO.out 1).trans rfl) | (go_at_call 29; (with_reducible refine (KN.out _).mono ?_); rintro e w2 ⟨rfl, hb⟩; have n1 := Lib.hid (HB.out.trans (below_lower hb HB.out.size)); have n2 := Lib.hid (blk_below BO.out hb); have n3 := Lib.hid (Glob.below GL.out hb); clear HB BO GL hb; have HB := n1; have BO := n2; have GL := n3; clear n1 n2 n3; have c2_ := (blk_cell BO.out 2).trans rfl) | (go_at_call 45; (with_reducible refine (KL.out _ HB.out).mono ?_); rintro e w3 ⟨rfl, hb⟩; have n1 := Lib.hid (HB.out.trans (below_lower hb HB.out.size)); have n2 := Lib.hid (blk_below BO.out hb); have n3 := Lib.hid (Glob.below GL.out hb); clear HB BO GL hb; have HB := n1; have BO := n2; have GL := n3; clear n1 n2 n3; have c3_ := (blk_cell BO.out 3).trans rfl; have c4_ := (blk_cell BO.out 4).trans rfl; have c5_ := (blk_cell BO.out 5).trans rfl; have c6_ := (blk_cell BO.out 6).trans rfl) | (go_at_call 46; (with_reducible refine (KD.out _).mono ?_); rintro e w4 ⟨rfl, hb⟩; have n1 := Lib.hid (HB.out.trans (below_lower hb HB.out.size)); have n2 := Lib.hid (blk_below BO.out hb); have n3 := Lib.hid (Glob.below GL.out hb); clear HB BO GL hb; have HB := n1; have BO := n2; have GL := n3; clear n1 n2 n3; have c3_ := (blk_cell BO.out 3).trans rfl; have c4_ := (blk_cell BO.out 4).trans rfl; have c5_ := (blk_cell BO.out 5).trans rfl; have c6_ := (blk_cell BO.out 6).trans rfl) | (go_at_call 46; (with_reducible refine (KV.out _).mono ?_); rintro e w5 ⟨rfl, hb⟩; have n1 := Lib.hid (HB.out.trans (below_lower hb HB.out.size)); have n2 := Lib.hid (blk_below BO.out hb); have n3 := Lib.hid (Glob.below GL.out hb); clear HB BO GL hb; have HB := n1; have BO := n2; have GL := n3; clear n1 n2 n3; have c3_ := (blk_cell BO.out 3).trans rfl; have c4_ := (blk_cell BO.out 4).trans rfl; have c5_ := (blk_cell BO.out 5).trans rfl; have c6_ := (blk_cell BO.out 6).trans rfl))
    go_ret
    exact ⟨by rw [HRES.out]; unfold formB; rw [HH.out, HX.out]; rfl, HB.out⟩
  have b1 : decide (pr < 0) = false := decide_eq_false q0
  by_cases q1 : 9 < pr
  · have b2 : decide (9 < pr) = true := decide_eq_true q1
    have HX := Lib.hid (show midB pr d ps v = false by unfold midB; simp only [Bool.and_eq_false_iff, decide_eq_false_iff_not]; (first | (simp only [q1]; simp; done) | omega | (simp only [q1]; simp; done)))
    clear q0 q1
    go_enter Tryd.func19, Tryd.ntmps19
    go_upto_region 1 with fail
    generalize w.alloc _ = w0 at HB BO GL ⊢
    have c0_ := (blk_cell BO.out 0).trans rfl
    go_wp2_with (first | (go_at_call 28; (with_reducible refine (KP.out _ GL.out).mono ?_); rintro e w1 ⟨rfl, hb⟩; have n1 := Lib.hid (HB.out.trans (below_lower hb HB.out.size)); have n2 := Lib.hid (blk_below BO.out hb); have n3 := Lib.hid (Glob.below GL.out hb); clear HB BO GL hb; have HB := n1; have BO := n2; have GL := n3; clear n1 n2 n3; have c1_ := (blk_cell BO.out 1).trans rfl) | (go_at_call 29; (with_reducible refine (KN.out _).mono ?_); rintro e w2 ⟨rfl, hb⟩; have n1 := Lib.hid (HB.out.trans (below_lower hb HB.out.size)); have n2 := Lib.hid (blk_below BO.out hb); have n3 := Lib.hid (Glob.below GL.out hb); clear HB BO GL hb; have HB := n1; have BO := n2; have GL := n3; clear n1 n2 n3; have c2_ := (blk_cell BO.out 2).trans rfl) | (go_at_call 45; (with_reducible refine (KL.out _ HB.out).mono ?_); rintro e w3 ⟨rfl, hb⟩; have n1 := Lib.hid (HB.out.trans (below_lower hb HB.out.size)); have n2 := Lib.hid (blk_below BO.out hb); have n3 := Lib.hid (Glob.below GL.out hb); clear HB BO GL hb; have HB := n1; have BO := n2; have GL := n3; clear n1 n2 n3; have c3_ := (blk_cell BO.out 3).trans rfl; have c4_ := (blk_cell BO.out 4).trans rfl; have c5_ := (blk_cell BO.out 5).trans rfl; have c6_ := (blk_cell BO.out 6).trans rfl) | (go_at_call 46; (with_reducible refine (KD.out _).mono ?_); rintro e w4 ⟨rfl, hb⟩; have n1 := Lib.hid (HB.out.trans (below_lower hb HB.out.size)); have n2 := Lib.hid (blk_below BO.out hb); have n3 := Lib.hid (Glob.below GL.out hb); clear HB BO GL hb; have HB := n1; have BO := n2; have GL := n3; clear n1 n2 n3; have c3_ := (blk_cell BO.out 3).trans rfl; have c4_ := (blk_cell BO.out 4).trans rfl; have c5_ := (blk_cell BO.out 5).trans rfl; have c6_ := (blk_cell BO.out 6).trans rfl) | (go_at_call 46; (with_reducible refine (KV.out _).mono ?_); rintro e w5 ⟨rfl, hb⟩; have n1 := Lib.hid (HB.out.trans (below_lower hb HB.out.size)); have n2 := Lib.hid (blk_below BO.out hb); have n3 := Lib.hid (Glob.below GL.out hb); clear HB BO GL hb; have HB := n1; have BO := n2; have GL := n3; clear n1 n2 n3; have c3_ := (blk_cell BO.out 3).trans rfl; have c4_ := (blk_cell BO.out 4).trans rfl; have c5_ := (blk_cell BO.out 5).trans rfl; have c6_ := (blk_cell BO.out 6).trans rfl))
    go_ret
    exact ⟨by rw [HRES.out]; unfold formB; rw [HH.out, HX.out]; rfl, HB.out⟩
  have b2 : decide (9 < pr) = false := decide_eq_false q1
  by_cases q2 : stampB d = false
  · have k_ := KD.out
    simp only [q2] at k_
    clear KD
    have KD := Lib.hid k_
    clear k_
    have HX := Lib.hid (show midB pr d ps v = false by unfold midB; simp only [Bool.and_eq_false_iff, decide_eq_false_iff_not]; (first | (simp only [q2]; simp; done) | omega | (simp only [q2]; simp; done)))
    clear q0 q1 q2
    go_enter Tryd.func19, Tryd.ntmps19
    go_upto_region 1 with fail
    generalize w.alloc _ = w0 at HB BO GL ⊢
    have c0_ := (blk_cell BO.out 0).trans rfl
    go_wp2_with (first | (go_at_call 28; (with_reducible refine (KP.out _ GL.out).mono ?_); rintro e w1 ⟨rfl, hb⟩; have n1 := Lib.hid (HB.out.trans (below_lower hb HB.out.size)); have n2 := Lib.hid (blk_below BO.out hb); have n3 := Lib.hid (Glob.below GL.out hb); clear HB BO GL hb; have HB := n1; have BO := n2; have GL := n3; clear n1 n2 n3; have c1_ := (blk_cell BO.out 1).trans rfl) | (go_at_call 29; (with_reducible refine (KN.out _).mono ?_); rintro e w2 ⟨rfl, hb⟩; have n1 := Lib.hid (HB.out.trans (below_lower hb HB.out.size)); have n2 := Lib.hid (blk_below BO.out hb); have n3 := Lib.hid (Glob.below GL.out hb); clear HB BO GL hb; have HB := n1; have BO := n2; have GL := n3; clear n1 n2 n3; have c2_ := (blk_cell BO.out 2).trans rfl) | (go_at_call 45; (with_reducible refine (KL.out _ HB.out).mono ?_); rintro e w3 ⟨rfl, hb⟩; have n1 := Lib.hid (HB.out.trans (below_lower hb HB.out.size)); have n2 := Lib.hid (blk_below BO.out hb); have n3 := Lib.hid (Glob.below GL.out hb); clear HB BO GL hb; have HB := n1; have BO := n2; have GL := n3; clear n1 n2 n3; have c3_ := (blk_cell BO.out 3).trans rfl; have c4_ := (blk_cell BO.out 4).trans rfl; have c5_ := (blk_cell BO.out 5).trans rfl; have c6_ := (blk_cell BO.out 6).trans rfl) | (go_at_call 46; (with_reducible refine (KD.out _).mono ?_); rintro e w4 ⟨rfl, hb⟩; have n1 := Lib.hid (HB.out.trans (below_lower hb HB.out.size)); have n2 := Lib.hid (blk_below BO.out hb); have n3 := Lib.hid (Glob.below GL.out hb); clear HB BO GL hb; have HB := n1; have BO := n2; have GL := n3; clear n1 n2 n3; have c3_ := (blk_cell BO.out 3).trans rfl; have c4_ := (blk_cell BO.out 4).trans rfl; have c5_ := (blk_cell BO.out 5).trans rfl; have c6_ := (blk_cell BO.out 6).trans rfl) | (go_at_call 46; (with_reducible refine (KV.out _).mono ?_); rintro e w5 ⟨rfl, hb⟩; have n1 := Lib.hid (HB.out.trans (below_lower hb HB.out.size)); have n2 := Lib.hid (blk_below BO.out hb); have n3 := Lib.hid (Glob.below GL.out hb); clear HB BO GL hb; have HB := n1; have BO := n2; have GL := n3; clear n1 n2 n3; have c3_ := (blk_cell BO.out 3).trans rfl; have c4_ := (blk_cell BO.out 4).trans rfl; have c5_ := (blk_cell BO.out 5).trans rfl; have c6_ := (blk_cell BO.out 6).trans rfl))
    go_ret
    exact ⟨by rw [HRES.out]; unfold formB; rw [HH.out, HX.out]; rfl, HB.out⟩
  have q2_ : stampB d = true := by simpa using q2
  clear q2
  have q2 := q2_
  clear q2_
  have k_ := KD.out
  simp only [q2] at k_
  clear KD
  have KD := Lib.hid k_
  clear k_
  by_cases q3 : stampB v = false
  · have k_ := KV.out
    simp only [q3] at k_
    clear KV
    have KV := Lib.hid k_
    clear k_
    have HX := Lib.hid (show midB pr d ps v = false by unfold midB; simp only [Bool.and_eq_false_iff, decide_eq_false_iff_not]; (first | (simp only [q3]; simp; done) | omega | (simp only [q3]; simp; done)))
    clear q0 q1 q2 q3
    go_enter Tryd.func19, Tryd.ntmps19
    go_upto_region 1 with fail
    generalize w.alloc _ = w0 at HB BO GL ⊢
    have c0_ := (blk_cell BO.out 0).trans rfl
    go_wp2_with (first | (go_at_call 28; (with_reducible refine (KP.out _ GL.out).mono ?_); rintro e w1 ⟨rfl, hb⟩; have n1 := Lib.hid (HB.out.trans (below_lower hb HB.out.size)); have n2 := Lib.hid (blk_below BO.out hb); have n3 := Lib.hid (Glob.below GL.out hb); clear HB BO GL hb; have HB := n1; have BO := n2; have GL := n3; clear n1 n2 n3; have c1_ := (blk_cell BO.out 1).trans rfl) | (go_at_call 29; (with_reducible refine (KN.out _).mono ?_); rintro e w2 ⟨rfl, hb⟩; have n1 := Lib.hid (HB.out.trans (below_lower hb HB.out.size)); have n2 := Lib.hid (blk_below BO.out hb); have n3 := Lib.hid (Glob.below GL.out hb); clear HB BO GL hb; have HB := n1; have BO := n2; have GL := n3; clear n1 n2 n3; have c2_ := (blk_cell BO.out 2).trans rfl) | (go_at_call 45; (with_reducible refine (KL.out _ HB.out).mono ?_); rintro e w3 ⟨rfl, hb⟩; have n1 := Lib.hid (HB.out.trans (below_lower hb HB.out.size)); have n2 := Lib.hid (blk_below BO.out hb); have n3 := Lib.hid (Glob.below GL.out hb); clear HB BO GL hb; have HB := n1; have BO := n2; have GL := n3; clear n1 n2 n3; have c3_ := (blk_cell BO.out 3).trans rfl; have c4_ := (blk_cell BO.out 4).trans rfl; have c5_ := (blk_cell BO.out 5).trans rfl; have c6_ := (blk_cell BO.out 6).trans rfl) | (go_at_call 46; (with_reducible refine (KD.out _).mono ?_); rintro e w4 ⟨rfl, hb⟩; have n1 := Lib.hid (HB.out.trans (below_lower hb HB.out.size)); have n2 := Lib.hid (blk_below BO.out hb); have n3 := Lib.hid (Glob.below GL.out hb); clear HB BO GL hb; have HB := n1; have BO := n2; have GL := n3; clear n1 n2 n3; have c3_ := (blk_cell BO.out 3).trans rfl; have c4_ := (blk_cell BO.out 4).trans rfl; have c5_ := (blk_cell BO.out 5).trans rfl; have c6_ := (blk_cell BO.out 6).trans rfl) | (go_at_call 46; (with_reducible refine (KV.out _).mono ?_); rintro e w5 ⟨rfl, hb⟩; have n1 := Lib.hid (HB.out.trans (below_lower hb HB.out.size)); have n2 := Lib.hid (blk_below BO.out hb); have n3 := Lib.hid (Glob.below GL.out hb); clear HB BO GL hb; have HB := n1; have BO := n2; have GL := n3; clear n1 n2 n3; have c3_ := (blk_cell BO.out 3).trans rfl; have c4_ := (blk_cell BO.out 4).trans rfl; have c5_ := (blk_cell BO.out 5).trans rfl; have c6_ := (blk_cell BO.out 6).trans rfl))
    go_ret
    exact ⟨by rw [HRES.out]; unfold formB; rw [HH.out, HX.out]; rfl, HB.out⟩
  have q3_ : stampB v = true := by simpa using q3
  clear q3
  have q3 := q3_
  clear q3_
  have k_ := KV.out
  simp only [q3] at k_
  clear KV
  have KV := Lib.hid k_
  clear k_
  by_cases q4 : ps.length < 1
  · have b5 : decide ((ps.length : Int) < 1) = true := decide_eq_true (by omega)
    have b5n : decide (ps.length < 1) = true := decide_eq_true q4
    have HX := Lib.hid (show midB pr d ps v = false by unfold midB; simp only [Bool.and_eq_false_iff, decide_eq_false_iff_not]; (first | (simp only [q4]; simp; done) | omega | (simp only [q4]; simp; done)))
    clear q0 q1 q2 q3 q4
    go_enter Tryd.func19, Tryd.ntmps19
    go_upto_region 1 with fail
    generalize w.alloc _ = w0 at HB BO GL ⊢
    have c0_ := (blk_cell BO.out 0).trans rfl
    go_wp2_with (first | (go_at_call 28; (with_reducible refine (KP.out _ GL.out).mono ?_); rintro e w1 ⟨rfl, hb⟩; have n1 := Lib.hid (HB.out.trans (below_lower hb HB.out.size)); have n2 := Lib.hid (blk_below BO.out hb); have n3 := Lib.hid (Glob.below GL.out hb); clear HB BO GL hb; have HB := n1; have BO := n2; have GL := n3; clear n1 n2 n3; have c1_ := (blk_cell BO.out 1).trans rfl) | (go_at_call 29; (with_reducible refine (KN.out _).mono ?_); rintro e w2 ⟨rfl, hb⟩; have n1 := Lib.hid (HB.out.trans (below_lower hb HB.out.size)); have n2 := Lib.hid (blk_below BO.out hb); have n3 := Lib.hid (Glob.below GL.out hb); clear HB BO GL hb; have HB := n1; have BO := n2; have GL := n3; clear n1 n2 n3; have c2_ := (blk_cell BO.out 2).trans rfl) | (go_at_call 45; (with_reducible refine (KL.out _ HB.out).mono ?_); rintro e w3 ⟨rfl, hb⟩; have n1 := Lib.hid (HB.out.trans (below_lower hb HB.out.size)); have n2 := Lib.hid (blk_below BO.out hb); have n3 := Lib.hid (Glob.below GL.out hb); clear HB BO GL hb; have HB := n1; have BO := n2; have GL := n3; clear n1 n2 n3; have c3_ := (blk_cell BO.out 3).trans rfl; have c4_ := (blk_cell BO.out 4).trans rfl; have c5_ := (blk_cell BO.out 5).trans rfl; have c6_ := (blk_cell BO.out 6).trans rfl) | (go_at_call 46; (with_reducible refine (KD.out _).mono ?_); rintro e w4 ⟨rfl, hb⟩; have n1 := Lib.hid (HB.out.trans (below_lower hb HB.out.size)); have n2 := Lib.hid (blk_below BO.out hb); have n3 := Lib.hid (Glob.below GL.out hb); clear HB BO GL hb; have HB := n1; have BO := n2; have GL := n3; clear n1 n2 n3; have c3_ := (blk_cell BO.out 3).trans rfl; have c4_ := (blk_cell BO.out 4).trans rfl; have c5_ := (blk_cell BO.out 5).trans rfl; have c6_ := (blk_cell BO.out 6).trans rfl) | (go_at_call 46; (with_reducible refine (KV.out _).mono ?_); rintro e w5 ⟨rfl, hb⟩; have n1 := Lib.hid (HB.out.trans (below_lower hb HB.out.size)); have n2 := Lib.hid (blk_below BO.out hb); have n3 := Lib.hid (Glob.below GL.out hb); clear HB BO GL hb; have HB := n1; have BO := n2; have GL := n3; clear n1 n2 n3; have c3_ := (blk_cell BO.out 3).trans rfl; have c4_ := (blk_cell BO.out 4).trans rfl; have c5_ := (blk_cell BO.out 5).trans rfl; have c6_ := (blk_cell BO.out 6).trans rfl))
    go_ret
    exact ⟨by rw [HRES.out]; unfold formB; rw [HH.out, HX.out]; rfl, HB.out⟩
  have b5 : decide ((ps.length : Int) < 1) = false := decide_eq_false (by omega)
  have b5n : decide (ps.length < 1) = false := decide_eq_false q4
  by_cases q5 : 8 < ps.length
  · have b6 : decide ((8 : Int) < (ps.length : Int)) = true := decide_eq_true (by omega)
    have b6n : decide (8 < ps.length) = true := decide_eq_true q5
    have HX := Lib.hid (show midB pr d ps v = false by unfold midB; simp only [Bool.and_eq_false_iff, decide_eq_false_iff_not]; (first | (simp only [q5]; simp; done) | omega | (simp only [q5]; simp; done)))
    clear q0 q1 q2 q3 q4 q5
    go_enter Tryd.func19, Tryd.ntmps19
    go_upto_region 1 with fail
    generalize w.alloc _ = w0 at HB BO GL ⊢
    have c0_ := (blk_cell BO.out 0).trans rfl
    go_wp2_with (first | (go_at_call 28; (with_reducible refine (KP.out _ GL.out).mono ?_); rintro e w1 ⟨rfl, hb⟩; have n1 := Lib.hid (HB.out.trans (below_lower hb HB.out.size)); have n2 := Lib.hid (blk_below BO.out hb); have n3 := Lib.hid (Glob.below GL.out hb); clear HB BO GL hb; have HB := n1; have BO := n2; have GL := n3; clear n1 n2 n3; have c1_ := (blk_cell BO.out 1).trans rfl) | (go_at_call 29; (with_reducible refine (KN.out _).mono ?_); rintro e w2 ⟨rfl, hb⟩; have n1 := Lib.hid (HB.out.trans (below_lower hb HB.out.size)); have n2 := Lib.hid (blk_below BO.out hb); have n3 := Lib.hid (Glob.below GL.out hb); clear HB BO GL hb; have HB := n1; have BO := n2; have GL := n3; clear n1 n2 n3; have c2_ := (blk_cell BO.out 2).trans rfl) | (go_at_call 45; (with_reducible refine (KL.out _ HB.out).mono ?_); rintro e w3 ⟨rfl, hb⟩; have n1 := Lib.hid (HB.out.trans (below_lower hb HB.out.size)); have n2 := Lib.hid (blk_below BO.out hb); have n3 := Lib.hid (Glob.below GL.out hb); clear HB BO GL hb; have HB := n1; have BO := n2; have GL := n3; clear n1 n2 n3; have c3_ := (blk_cell BO.out 3).trans rfl; have c4_ := (blk_cell BO.out 4).trans rfl; have c5_ := (blk_cell BO.out 5).trans rfl; have c6_ := (blk_cell BO.out 6).trans rfl) | (go_at_call 46; (with_reducible refine (KD.out _).mono ?_); rintro e w4 ⟨rfl, hb⟩; have n1 := Lib.hid (HB.out.trans (below_lower hb HB.out.size)); have n2 := Lib.hid (blk_below BO.out hb); have n3 := Lib.hid (Glob.below GL.out hb); clear HB BO GL hb; have HB := n1; have BO := n2; have GL := n3; clear n1 n2 n3; have c3_ := (blk_cell BO.out 3).trans rfl; have c4_ := (blk_cell BO.out 4).trans rfl; have c5_ := (blk_cell BO.out 5).trans rfl; have c6_ := (blk_cell BO.out 6).trans rfl) | (go_at_call 46; (with_reducible refine (KV.out _).mono ?_); rintro e w5 ⟨rfl, hb⟩; have n1 := Lib.hid (HB.out.trans (below_lower hb HB.out.size)); have n2 := Lib.hid (blk_below BO.out hb); have n3 := Lib.hid (Glob.below GL.out hb); clear HB BO GL hb; have HB := n1; have BO := n2; have GL := n3; clear n1 n2 n3; have c3_ := (blk_cell BO.out 3).trans rfl; have c4_ := (blk_cell BO.out 4).trans rfl; have c5_ := (blk_cell BO.out 5).trans rfl; have c6_ := (blk_cell BO.out 6).trans rfl))
    go_ret
    exact ⟨by rw [HRES.out]; unfold formB; rw [HH.out, HX.out]; rfl, HB.out⟩
  have b6 : decide ((8 : Int) < (ps.length : Int)) = false := decide_eq_false (by omega)
  have b6n : decide (8 < ps.length) = false := decide_eq_false q5
  have HM := Lib.hid (show midB pr d ps v = true by unfold midB; rw [q2, q3, decide_eq_true (show 0 ≤ pr by omega), decide_eq_true (show pr ≤ 9 by omega), decide_eq_true (show 1 ≤ ps.length by omega), decide_eq_true (show ps.length ≤ 8 by omega)]; rfl)
  have HL := Lib.hid (show ps.length ≤ 8 by omega)
  clear q0 q1 q2 q3 q4 q5
  have hmf : ∀ (fn : Fn) (first cap : Array Value) (w : World), (Instr.makeFunc fn first cap).run Tryd.prog w = .ok (.func fn first cap) w := fun _ _ _ _ => rfl
  go_enter Tryd.func19, Tryd.ntmps19
  go_upto_region 1 with fail
  generalize w.alloc _ = w0 at HB BO GL ⊢
  have c0_ := (blk_cell BO.out 0).trans rfl
  go_upto_region 5 with (first | (go_at_call 28; (with_reducible refine (KP.out _ GL.out).mono ?_); rintro e w1 ⟨rfl, hb⟩; have n1 := Lib.hid (HB.out.trans (below_lower hb HB.out.size)); have n2 := Lib.hid (blk_below BO.out hb); have n3 := Lib.hid (Glob.below GL.out hb); clear HB BO GL hb; have HB := n1; have BO := n2; have GL := n3; clear n1 n2 n3; have c1_ := (blk_cell BO.out 1).trans rfl) | (go_at_call 29; (with_reducible refine (KN.out _).mono ?_); rintro e w2 ⟨rfl, hb⟩; have n1 := Lib.hid (HB.out.trans (below_lower hb HB.out.size)); have n2 := Lib.hid (blk_below BO.out hb); have n3 := Lib.hid (Glob.below GL.out hb); clear HB BO GL hb; have HB := n1; have BO := n2; have GL := n3; clear n1 n2 n3; have c2_ := (blk_cell BO.out 2).trans rfl) | (go_at_call 45; (with_reducible refine (KL.out _ HB.out).mono ?_); rintro e w3 ⟨rfl, hb⟩; have n1 := Lib.hid (HB.out.trans (below_lower hb HB.out.size)); have n2 := Lib.hid (blk_below BO.out hb); have n3 := Lib.hid (Glob.below GL.out hb); clear HB BO GL hb; have HB := n1; have BO := n2; have GL := n3; clear n1 n2 n3; have c3_ := (blk_cell BO.out 3).trans rfl; have c4_ := (blk_cell BO.out 4).trans rfl; have c5_ := (blk_cell BO.out 5).trans rfl; have c6_ := (blk_cell BO.out 6).trans rfl) | (go_at_call 46; (with_reducible refine (KD.out _).mono ?_); rintro e w4 ⟨rfl, hb⟩; have n1 := Lib.hid (HB.out.trans (below_lower hb HB.out.size)); have n2 := Lib.hid (blk_below BO.out hb); have n3 := Lib.hid (Glob.below GL.out hb); clear HB BO GL hb; have HB := n1; have BO := n2; have GL := n3; clear n1 n2 n3; have c3_ := (blk_cell BO.out 3).trans rfl; have c4_ := (blk_cell BO.out 4).trans rfl; have c5_ := (blk_cell BO.out 5).trans rfl; have c6_ := (blk_cell BO.out 6).trans rfl) | (go_at_call 46; (with_reducible refine (KV.out _).mono ?_); rintro e w5 ⟨rfl, hb⟩; have n1 := Lib.hid (HB.out.trans (below_lower hb HB.out.size)); have n2 := Lib.hid (blk_below BO.out hb); have n3 := Lib.hid (Glob.below GL.out hb); clear HB BO GL hb; have HB := n1; have BO := n2; have GL := n3; clear n1 n2 n3; have c3_ := (blk_cell BO.out 3).trans rfl; have c4_ := (blk_cell BO.out 4).trans rfl; have c5_ := (blk_cell BO.out 5).trans rfl; have c6_ := (blk_cell BO.out 6).trans rfl))
  go_wp2
  clear c3_ c4_ c5_ c6_
  go_loopg [56] ps.length (fun g v56 wr => ∃ k : Nat, v56 = .int .i64 (k : Int) ∧ Aside0 (k + g = ps.length) ∧ Aside0 (Below w.heap.size w wr) ∧ Aside0 (wr.heap[w.heap.size]? = some (.cells #[.string p, .string n, .slice A2 ls.length c2, .int .i64 pr, .int .i64 d, .slice A5 ps.length c5, .int .i64 v] 25 (0, 0))) ∧ Aside0 (Glob wr) ∧ Aside0 (∀ q ∈ ps.take k, partB q = true))
  case atStart => exact ⟨0, rfl, ⟨by omega⟩, ⟨HB.out⟩, ⟨BO.out⟩, ⟨GL.out⟩, ⟨by simp⟩⟩
  case round =>
    clear HB BO GL
    obtain ⟨k, rfl, HK, HB, BO, GL, HP⟩ := hrel
    have hc5_ := (blk_cell BO.out 5).trans rfl
    have hkg := HK.out
    cases gk with
    | zero =>
      have b1 : decide ((k : Int) < (ps.length : Int)) = false := decide_eq_false (by omega)
      have b2 : decide (k < ps.length) = false := decide_eq_false (by omega)
      have HA := Lib.hid (show ps.all partB = true by rw [List.all_eq_true]; intro q hq; exact HP.out q (by rw [List.take_of_length_le (by omega)]; exact hq))
      have NMD := Lib.hid (named_ok ps.length HL5.out (fun i => (rd_T35 ps (i : Int)).f0) (.pointer (some ⟨w.heap.size, 0, none⟩)) wr (fun i hi => nm_ok ps A5 c5 w.heap.size _ _ _ _ _ _ i hi wr BO.out (Kd.C_below K2.out HB.out)))
      clear hkg
      go_wp2_with (go_at_call 48; (with_reducible refine NMD.out.mono ?_); rintro e w9 ⟨rfl, rfl⟩)
      go_ret
      exact ⟨by rw [HRES.out]; unfold formB; rw [HH.out, HM.out, HA.out, Bool.true_and, Bool.true_and, Bool.true_and]; rfl, HB.out⟩
    | succ g =>
      have b1 : decide ((k : Int) < (ps.length : Int)) = true := decide_eq_true (by omega)
      have b2 : decide (k < ps.length) = true := decide_eq_true (by omega)
      have hk1 : k < ps.length := by omega
      obtain ⟨ad, A1, c1, A3, c3, e1, x0, x1, x2, m1, C1, m2, C2⟩ := at_T35 (Kd.C_below K2.out HB.out) (k : Int) (by omega) (by omega)
      cases e1
      rw [rd35_at ps k hk1, Int.toNat_natCast] at x0 x1 x2
      rw [rd35_at ps k hk1] at m1 C1 m2 C2
      have HMX := Lib.hid (show ps[k] ∈ ps from List.getElem_mem hk1)
      have HTK := Lib.hid (List.take_succ_eq_append_getElem hk1)
      generalize ps[k] = X at x0 x1 x2 m1 C1 m2 C2 HMX HTK
      have p2' : ((k : Int) < (ps.length : Int)) = True := eq_true (by omega)
      have KX := Lib.hid (name_ok X.f0)
      have KA := Lib.hid (fun W (hb : Below wr.heap.size wr W) (hg : Glob W) => amounts_ok X.f1 A1 c1 W (Kd.C_below C1 hb) m1 hg)
      have KB := Lib.hid (fun W (hb : Below wr.heap.size wr W) (hg : Glob W) => amounts_ok X.f2 A3 c3 W (Kd.C_below C2 hb) m2 hg)
      clear m1 C1 m2 C2 hkg
      have hk63 : (k : Int) + 1 ≤ 9223372036854775807 := by have := HL.out; omega
      by_cases r0 : nameB X.f0 = true
      rotate_left
      · have r0 : nameB X.f0 = false := by simpa using r0
        have k_ := KX.out
        simp only [r0] at k_
        clear KX
        have KX := Lib.hid k_
        clear k_
        have HX := Lib.hid (show ps.all partB = false by rw [List.all_eq_false]; exact ⟨X, HMX.out, by unfold partB; rw [r0]; simp⟩)
        clear r0
        go_upto_region 8 with fail
        have BP := Aside0.mk (blk_new wr (.cells #[.string X.f0, .slice A1 X.f1.length c1, .slice A3 X.f2.length c3] 35))
        have hb := (Below.refl wr.heap.size wr).alloc (Nat.le_refl _) (.cells #[.string X.f0, .slice A1 X.f1.length c1, .slice A3 X.f2.length c3] 35)
        have HR := Aside0.mk hb
        have n1 := Aside0.mk (HB.out.trans (below_lower hb HB.out.size)); have n2 := Aside0.mk (blk_below BO.out hb); have n3 := Aside0.mk (Glob.below GL.out hb); clear HB BO GL hb; have HB := n1; have BO := n2; have GL := n3; clear n1 n2 n3
        clear x0 x1 x2
        generalize wr.alloc _ = wq at HB BO GL HR BP ⊢
        have d0_ := (blk_cell BP.out 0).trans rfl
        go_wp2_with (first | (go_at_call 29; (with_reducible refine (KX.out _).mono ?_); rintro e w6 ⟨rfl, hb⟩; have n1 := Aside0.mk (HB.out.trans (below_lower hb HB.out.size)); have n2 := Aside0.mk (blk_below BO.out hb); have n3 := Aside0.mk (Glob.below GL.out hb); have n4 := Aside0.mk (blk_below BP.out hb); have n5 := Aside0.mk (HR.out.trans (below_lower hb HR.out.size)); clear HB BO GL BP HR hb; have HB := n1; have BO := n2; have GL := n3; have BP := n4; have HR := n5; clear n1 n2 n3 n4 n5; have d1_ := (blk_cell BP.out 1).trans rfl; have d2_ := (blk_cell BP.out 2).trans rfl) | (go_at_call 47; (with_reducible refine (KA.out _ HR.out GL.out).mono ?_); rintro e w7 ⟨rfl, hb⟩; have n1 := Aside0.mk (HB.out.trans (below_lower hb HB.out.size)); have n2 := Aside0.mk (blk_below BO.out hb); have n3 := Aside0.mk (Glob.below GL.out hb); have n4 := Aside0.mk (blk_below BP.out hb); have n5 := Aside0.mk (HR.out.trans (below_lower hb HR.out.size)); clear HB BO GL BP HR hb; have HB := n1; have BO := n2; have GL := n3; have BP := n4; have HR := n5; clear n1 n2 n3 n4 n5; have d1_ := (blk_cell BP.out 1).trans rfl; have d2_ := (blk_cell BP.out 2).trans rfl) | (go_at_call 47; (with_reducible refine (KB.out _ HR.out GL.out).mono ?_); rintro e w8 ⟨rfl, hb⟩; have n1 := Aside0.mk (HB.out.trans (below_lower hb HB.out.size)); have n2 := Aside0.mk (blk_below BO.out hb); have n3 := Aside0.mk (Glob.below GL.out hb); have n4 := Aside0.mk (blk_below BP.out hb); have n5 := Aside0.mk (HR.out.trans (below_lower hb HR.out.size)); clear HB BO GL BP HR hb; have HB := n1; have BO := n2; have GL := n3; have BP := n4; have HR := n5; clear n1 n2 n3 n4 n5; have d1_ := (blk_cell BP.out 1).trans rfl; have d2_ := (blk_cell BP.out 2).trans rfl))
        go_ret
        exact ⟨by rw [HRES.out]; unfold formB; rw [HH.out, HM.out, HX.out, Bool.false_and]; rfl, HB.out⟩
      have k_ := KX.out
      simp only [r0] at k_
      clear KX
      have KX := Lib.hid k_
      clear k_
      by_cases r1 : validP X.f1 = 0
      rotate_left
      · have t1 : (validP X.f1 != 0) = true := by rw [bne_iff_ne]; exact r1
        have t2 : (validP X.f1 == 0) = false := beq_eq_false_iff_ne.2 r1
        have HX := Lib.hid (show ps.all partB = false by rw [List.all_eq_false]; exact ⟨X, HMX.out, by unfold partB; rw [decide_eq_false r1]; simp⟩)
        clear r0 r1
        go_upto_region 8 with fail
        have BP := Aside0.mk (blk_new wr (.cells #[.string X.f0, .slice A1 X.f1.length c1, .slice A3 X.f2.length c3] 35))
        have hb := (Below.refl wr.heap.size wr).alloc (Nat.le_refl _) (.cells #[.string X.f0, .slice A1 X.f1.length c1, .slice A3 X.f2.length c3] 35)
        have HR := Aside0.mk hb
        have n1 := Aside0.mk (HB.out.trans (below_lower hb HB.out.size)); have n2 := Aside0.mk (blk_below BO.out hb); have n3 := Aside0.mk (Glob.below GL.out hb); clear HB BO GL hb; have HB := n1; have BO := n2; have GL := n3; clear n1 n2 n3
        clear x0 x1 x2
        generalize wr.alloc _ = wq at HB BO GL HR BP ⊢
        have d0_ := (blk_cell BP.out 0).trans rfl
        go_wp2_with (first | (go_at_call 29; (with_reducible refine (KX.out _).mono ?_); rintro e w6 ⟨rfl, hb⟩; have n1 := Aside0.mk (HB.out.trans (below_lower hb HB.out.size)); have n2 := Aside0.mk (blk_below BO.out hb); have n3 := Aside0.mk (Glob.below GL.out hb); have n4 := Aside0.mk (blk_below BP.out hb); have n5 := Aside0.mk (HR.out.trans (below_lower hb HR.out.size)); clear HB BO GL BP HR hb; have HB := n1; have BO := n2; have GL := n3; have BP := n4; have HR := n5; clear n1 n2 n3 n4 n5; have d1_ := (blk_cell BP.out 1).trans rfl; have d2_ := (blk_cell BP.out 2).trans rfl) | (go_at_call 47; (with_reducible refine (KA.out _ HR.out GL.out).mono ?_); rintro e w7 ⟨rfl, hb⟩; have n1 := Aside0.mk (HB.out.trans (below_lower hb HB.out.size)); have n2 := Aside0.mk (blk_below BO.out hb); have n3 := Aside0.mk (Glob.below GL.out hb); have n4 := Aside0.mk (blk_below BP.out hb); have n5 := Aside0.mk (HR.out.trans (below_lower hb HR.out.size)); clear HB BO GL BP HR hb; have HB := n1; have BO := n2; have GL := n3; have BP := n4; have HR := n5; clear n1 n2 n3 n4 n5; have d1_ := (blk_cell BP.out 1).trans rfl; have d2_ := (blk_cell BP.out 2).trans rfl) | (go_at_call 47; (with_reducible refine (KB.out _ HR.out GL.out).mono ?_); rintro e w8 ⟨rfl, hb⟩; have n1 := Aside0.mk (HB.out.trans (below_lower hb HB.out.size)); have n2 := Aside0.mk (blk_below BO.out hb); have n3 := Aside0.mk (Glob.below GL.out hb); have n4 := Aside0.mk (blk_below BP.out hb); have n5 := Aside0.mk (HR.out.trans (below_lower hb HR.out.size)); clear HB BO GL BP HR hb; have HB := n1; have BO := n2; have GL := n3; have BP := n4; have HR := n5; clear n1 n2 n3 n4 n5; have d1_ := (blk_cell BP.out 1).trans rfl; have d2_ := (blk_cell BP.out 2).trans rfl))
        go_ret
        exact ⟨by rw [HRES.out]; unfold formB; rw [HH.out, HM.out, HX.out, Bool.false_and]; rfl, HB.out⟩
      have k_ := KA.out
      simp only [r1] at k_
      clear KA
      have KA := Lib.hid k_
      clear k_
      by_cases r2 : validP X.f2 = 0
      rotate_left
      · have t1 : (validP X.f2 != 0) = true := by rw [bne_iff_ne]; exact r2
        have t2 : (validP X.f2 == 0) = false := beq_eq_false_iff_ne.2 r2
        have HX := Lib.hid (show ps.all partB = false by rw [List.all_eq_false]; exact ⟨X, HMX.out, by unfold partB; rw [decide_eq_false r2]; simp⟩)
        clear r0 r1 r2
        go_upto_region 8 with fail
        have BP := Aside0.mk (blk_new wr (.cells #[.string X.f0, .slice A1 X.f1.length c1, .slice A3 X.f2.length c3] 35))
        have hb := (Below.refl wr.heap.size wr).alloc (Nat.le_refl _) (.cells #[.string X.f0, .slice A1 X.f1.length c1, .slice A3 X.f2.length c3] 35)
        have HR := Aside0.mk hb
        have n1 := Aside0.mk (HB.out.trans (below_lower hb HB.out.size)); have n2 := Aside0.mk (blk_below BO.out hb); have n3 := Aside0.mk (Glob.below GL.out hb); clear HB BO GL hb; have HB := n1; have BO := n2; have GL := n3; clear n1 n2 n3
        clear x0 x1 x2
        generalize wr.alloc _ = wq at HB BO GL HR BP ⊢
        have d0_ := (blk_cell BP.out 0).trans rfl
        go_wp2_with (first | (go_at_call 29; (with_reducible refine (KX.out _).mono ?_); rintro e w6 ⟨rfl, hb⟩; have n1 := Aside0.mk (HB.out.trans (below_lower hb HB.out.size)); have n2 := Aside0.mk (blk_below BO.out hb); have n3 := Aside0.mk (Glob.below GL.out hb); have n4 := Aside0.mk (blk_below BP.out hb); have n5 := Aside0.mk (HR.out.trans (below_lower hb HR.out.size)); clear HB BO GL BP HR hb; have HB := n1; have BO := n2; have GL := n3; have BP := n4; have HR := n5; clear n1 n2 n3 n4 n5; have d1_ := (blk_cell BP.out 1).trans rfl; have d2_ := (blk_cell BP.out 2).trans rfl) | (go_at_call 47; (with_reducible refine (KA.out _ HR.out GL.out).mono ?_); rintro e w7 ⟨rfl, hb⟩; have n1 := Aside0.mk (HB.out.trans (below_lower hb HB.out.size)); have n2 := Aside0.mk (blk_below BO.out hb); have n3 := Aside0.mk (Glob.below GL.out hb); have n4 := Aside0.mk (blk_below BP.out hb); have n5 := Aside0.mk (HR.out.trans (below_lower hb HR.out.size)); clear HB BO GL BP HR hb; have HB := n1; have BO := n2; have GL := n3; have BP := n4; have HR := n5; clear n1 n2 n3 n4 n5; have d1_ := (blk_cell BP.out 1).trans rfl; have d2_ := (blk_cell BP.out 2).trans rfl) | (go_at_call 47; (with_reducible refine (KB.out _ HR.out GL.out).mono ?_); rintro e w8 ⟨rfl, hb⟩; have n1 := Aside0.mk (HB.out.trans (below_lower hb HB.out.size)); have n2 := Aside0.mk (blk_below BO.out hb); have n3 := Aside0.mk (Glob.below GL.out hb); have n4 := Aside0.mk (blk_below BP.out hb); have n5 := Aside0.mk (HR.out.trans (below_lower hb HR.out.size)); clear HB BO GL BP HR hb; have HB := n1; have BO := n2; have GL := n3; have BP := n4; have HR := n5; clear n1 n2 n3 n4 n5; have d1_ := (blk_cell BP.out 1).trans rfl; have d2_ := (blk_cell BP.out 2).trans rfl))
        go_ret
        exact ⟨by rw [HRES.out]; unfold formB; rw [HH.out, HM.out, HX.out, Bool.false_and]; rfl, HB.out⟩
      have k_ := KB.out
      simp only [r2] at k_
      clear KB
      have KB := Lib.hid k_
      clear k_
      have HX := Lib.hid (show partB X = true by unfold partB; rw [r0, decide_eq_true r1, decide_eq_true r2]; rfl)
      clear r0 r1 r2
      go_upto_region 8 with fail
      have BP := Aside0.mk (blk_new wr (.cells #[.string X.f0, .slice A1 X.f1.length c1, .slice A3 X.f2.length c3] 35))
      have hb := (Below.refl wr.heap.size wr).alloc (Nat.le_refl _) (.cells #[.string X.f0, .slice A1 X.f1.length c1, .slice A3 X.f2.length c3] 35)
      have HR := Aside0.mk hb
      have n1 := Aside0.mk (HB.out.trans (below_lower hb HB.out.size)); have n2 := Aside0.mk (blk_below BO.out hb); have n3 := Aside0.mk (Glob.below GL.out hb); clear HB BO GL hb; have HB := n1; have BO := n2; have GL := n3; clear n1 n2 n3
      clear x0 x1 x2
      generalize wr.alloc _ = wq at HB BO GL HR BP ⊢
      have d0_ := (blk_cell BP.out 0).trans rfl
      go_wp2_with (first | (go_at_call 29; (with_reducible refine (KX.out _).mono ?_); rintro e w6 ⟨rfl, hb⟩; have n1 := Aside0.mk (HB.out.trans (below_lower hb HB.out.size)); have n2 := Aside0.mk (blk_below BO.out hb); have n3 := Aside0.mk (Glob.below GL.out hb); have n4 := Aside0.mk (blk_below BP.out hb); have n5 := Aside0.mk (HR.out.trans (below_lower hb HR.out.size)); clear HB BO GL BP HR hb; have HB := n1; have BO := n2; have GL := n3; have BP := n4; have HR := n5; clear n1 n2 n3 n4 n5; have d1_ := (blk_cell BP.out 1).trans rfl; have d2_ := (blk_cell BP.out 2).trans rfl) | (go_at_call 47; (with_reducible refine (KA.out _ HR.out GL.out).mono ?_); rintro e w7 ⟨rfl, hb⟩; have n1 := Aside0.mk (HB.out.trans (below_lower hb HB.out.size)); have n2 := Aside0.mk (blk_below BO.out hb); have n3 := Aside0.mk (Glob.below GL.out hb); have n4 := Aside0.mk (blk_below BP.out hb); have n5 := Aside0.mk (HR.out.trans (below_lower hb HR.out.size)); clear HB BO GL BP HR hb; have HB := n1; have BO := n2; have GL := n3; have BP := n4; have HR := n5; clear n1 n2 n3 n4 n5; have d1_ := (blk_cell BP.out 1).trans rfl; have d2_ := (blk_cell BP.out 2).trans rfl) | (go_at_call 47; (with_reducible refine (KB.out _ HR.out GL.out).mono ?_); rintro e w8 ⟨rfl, hb⟩; have n1 := Aside0.mk (HB.out.trans (below_lower hb HB.out.size)); have n2 := Aside0.mk (blk_below BO.out hb); have n3 := Aside0.mk (Glob.below GL.out hb); have n4 := Aside0.mk (blk_below BP.out hb); have n5 := Aside0.mk (HR.out.trans (below_lower hb HR.out.size)); clear HB BO GL BP HR hb; have HB := n1; have BO := n2; have GL := n3; have BP := n4; have HR := n5; clear n1 n2 n3 n4 n5; have d1_ := (blk_cell BP.out 1).trans rfl; have d2_ := (blk_cell BP.out 2).trans rfl))
      go_roundg g
      case measure => omega
      case rel => exact ⟨k + 1, by go_num, ⟨by have := HK.out; omega⟩, ⟨HB.out⟩, ⟨BO.out⟩, ⟨GL.out⟩, ⟨by rw [HTK.out]; intro q hq; rcases List.mem_append.1 hq with hq | hq; exact HP.out q hq; rw [List.mem_singleton.1 hq]; exact HX.out⟩⟩
end Go.Proofs.YtniolbolfclhkaaDoor.Q
namespace Go.Proofs.YtniolbolfclhkaaDoor.Q
open Go.RowKit Go.Proofs.YtniolbolfclhkaaDoorW.PrintWords Go.Proofs.YtniolbolfclhkaaDoorW.PrintLast Go.Proofs.YtniolbolfclhkaaDoorW.PrintMore
attribute [local go_sem] max2_int min2_int max_two min_two max_three min_three max_four min_four   -- for this text's walks alone
set_option linter.unusedVariables false
set_option linter.unusedSimpArgs false
def pack_number.l0 : Nat → Int → List Int → Option (List Int)
|0,_,_ => none
|k + 1,x0,x3 => if x0 ≥ 128 then (if x3.length < 140737488355328 then (pack_number.l0 k (x0 / 128) (x3 ++ [Go.bits .or .u8 ((x0) % 256) 128])) else (none)) else (if x3.length < 140737488355328 then (some (x3 ++ [(x0) % 256])) else (none))
def pack_number.f (k : Nat) (a0 : Int) : Option (List Int) := pack_number.l0 k a0 ([] : List Int)
theorem pack_number.mono_l : ∀ k, (∀ y0 y1, LeO (pack_number.l0 k y0 y1) (pack_number.l0 (k + 1) y0 y1))
|0 => fun _ _ r h => by simp [pack_number.l0] at h
|k + 1 => by
  have ih0:=pack_number.mono_l k
  ·intro y0 y1
   unfold pack_number.l0
   repeat' first
  |(with_reducible exact ih0 _ _)
  |(with_reducible exact LeO.refl _)
  |(with_reducible exact LeO.none _)
  |(with_reducible refine LeO.ite ?_ ?_)
  |(with_reducible refine LeO.bind ?_ (fun _ => ?_))
  |exact ih0 _ _
  |exact LeO.none _
  |refine LeO.ite ?_ ?_
  |refine LeO.bind ?_ (fun _ => ?_)
theorem pack_number.mono : ∀ a0 k, LeO (pack_number.f k a0) (pack_number.f (k + 1) a0) := by
 intro a0 k
 have ih0:=pack_number.mono_l k
 unfold pack_number.f
 repeat' first
  |(with_reducible exact ih0 _ _)
  |(with_reducible exact LeO.refl _)
  |(with_reducible exact LeO.none _)
  |(with_reducible refine LeO.ite ?_ ?_)
  |(with_reducible refine LeO.bind ?_ (fun _ => ?_))
  |exact ih0 _ _
  |exact LeO.none _
  |refine LeO.ite ?_ ?_
  |refine LeO.bind ?_ (fun _ => ?_)
set_option maxHeartbeats 8000000 in
set_option maxRecDepth 100000 in
theorem pack_number.calls (k : Nat) (a0 : Int) (r : List Int) (w : World) (h : pack_number.f k a0 = some r) :
  Calls Tryd.prog 52 #[.int .u64 a0] w fun e w' => ∃ v0_ : Value,e = .returned (v0_) ∧ Kd.R (Kd.int .u8) 5 w' w.heap.size (fun _ => True) v0_ r ∧ Below w.heap.size w w':=by
 have HB:=Aside0.mk (Below.refl w.heap.size w)
 have H : (pack_number.l0 k a0 ([] : List Int)) = some r:=h
 clear h
 have H':=Aside0.mk H
 clear H
 go_enter Tryd.func52,Tryd.ntmps52
 go_wp2
 go_loopg [0,3] k (fun kq v0 v3 w' => ∃ (x0_1 : Int) (x3_1 : List Int),v0 = .int .u64 x0_1 ∧ Aside0 (pack_number.l0 kq x0_1 x3_1 = some r) ∧ Aside0 (kq ≤ k) ∧ Aside0 (Kd.R (Kd.int .u8) 5 w' w.heap.size (fun _ => True) v3 x3_1) ∧ Aside0 (Below w.heap.size w w'))
 case atStart => exact ⟨(a0),(([] : List Int)),(by first|rfl|(simp;done)|(simp [*];done)|(simp;rw [Bool.eq_iff_iff];simp;done)|(rw [Bool.eq_iff_iff];simp;done)),H',⟨Nat.le_refl _⟩,⟨by first|exact Kd.R_nil _ _ _ _ _|exact Kd.N_nil _ _ _ _ _|exact Kd.V_nil _ _ _ _ _|exact Kd.Q_nil _ _ _ _ _|exact Kd.S_nil _ _ _ _ _⟩,⟨by repeat (first|(with_reducible first|exact HB.out|apply below_alloc|apply pw_below_drewN|apply below_drew1)|exact HB.out)⟩⟩
 case round =>
  clear H'
  obtain ⟨x0_1,x3_1,rfl,HA,HK1,HO_3,HB⟩:=hrel
  cases gk with
 |zero => exact absurd HA.out (by simp [pack_number.l0])
 |succ k1 =>
   have H:=HA.out
   clear HA
   simp only [pack_number.l0] at H
   by_cases c2 : x0_1 ≥ 128
   rotate_left
   ·rw [if_neg c2] at H
    have c2b0 : decide (128 ≤ x0_1) = false:=decide_eq_false c2
    clear c2
    by_cases c5 : x3_1.length < 140737488355328
    rotate_left
    ·rw [if_neg c5] at H
     exact absurd H (by simp)
    rw [if_pos c5] at H
    have LMc5:=Aside0.mk c5
    clear c5
    obtain ⟨y449,hy449⟩ : ∃ y_ : List Int,y_ = (x3_1 ++ [(x0_1) % 256]):=⟨_,rfl⟩
    replace H : (some y449) = some r:=by first|(rw [hy449];with_reducible exact H)|(have H2_:=(Option.bind_some _ _).symm.trans H;rw [hy449];with_reducible exact H2_)|(have H2_:=(Option.bind_some _ _).symm.trans H;with_reducible exact H2_)|with_reducible exact H|(rw [hy449];exact H)|exact H
    have Ny449:=Aside0.mk hy449
    clear hy449
    obtain rfl:=Option.some.inj H
    go_wp2_with (first|((with_reducible refine gate_builtin (b:=.append) (xs:=#[.tmp 14,.tmp 17]) rfl ?_);at_builtin;refine Kd.R_append (Kd.int .u8) (w0:=w) w.heap.size rfl (.tmp 14) (.tmp 17) 51 5 (.int .u8 0) 1 rfl Tryd.underlying51 info5 rfl (by decide) (by omega) u3 x3_1 ((x0_1) % 256) [.int .u8 ((x0_1) % 256)] (fun _ => True) (fun _ => False) rfl rfl ?aP (fun _ hk => hk.elim) ?aF ?aO ?aB ?aS ?aL ?_;(case aP => exact rfl);(case aB => exact (by repeat (first|(with_reducible first|exact HB.out|apply below_alloc|apply pw_below_drewN|apply below_drew1)|exact HB.out)));(case aF => exact (fun _ _ => trivial));(case aO => exact (by (with_reducible repeat (first|apply Kd.R_alloc|apply Kd.R_drewN|apply Kd.R_drew));exact HO_3.out));(case aS => exact (below_size (by repeat (first|(with_reducible first|exact HB.out|apply below_alloc|apply pw_below_drewN|apply below_drew1)|exact HB.out))));(case aL => have:=LMc5.out;omega);intro v450 w6 ho hb hg hat;rw [← Ny449.out] at ho;have n0_:=Aside0.mk (hb);have n1_:=Aside0.mk (ho);clear HB;clear HO_3;have HB:=n0_;have HO451:=n1_;clear n0_ n1_;clear ho hb hg hat))
    go_ret
    exact ⟨_,by first|rfl|(simp [errW_none,errW_some] <;> rfl)|(simp [*,errW_none,errW_some] <;> rfl),by (with_reducible repeat (first|apply Kd.R_alloc|apply Kd.R_drewN|apply Kd.R_drew));exact HO451.out,by repeat (first|(with_reducible first|exact HB.out|apply below_alloc|apply pw_below_drewN|apply below_drew1)|exact HB.out)⟩
   rw [if_pos c2] at H
   have c2b0 : decide (128 ≤ x0_1) = true:=decide_eq_true c2
   clear c2
   by_cases c3 : x3_1.length < 140737488355328
   rotate_left
   ·rw [if_neg c3] at H
    exact absurd H (by simp)
   rw [if_pos c3] at H
   have LMc3:=Aside0.mk c3
   clear c3
   obtain ⟨y446,hy446⟩ : ∃ y_ : List Int,y_ = (x3_1 ++ [Go.bits .or .u8 ((x0_1) % 256) 128]):=⟨_,rfl⟩
   replace H : (pack_number.l0 k1 (x0_1 / 128) y446) = some r:=by first|(rw [hy446];with_reducible exact H)|(have H2_:=(Option.bind_some _ _).symm.trans H;rw [hy446];with_reducible exact H2_)|(have H2_:=(Option.bind_some _ _).symm.trans H;with_reducible exact H2_)|with_reducible exact H|(rw [hy446];exact H)|exact H
   have Ny446:=Aside0.mk hy446
   clear hy446
   have H':=Aside0.mk H
   clear H
   go_wp2_with (first|((with_reducible refine gate_builtin (b:=.append) (xs:=#[.tmp 6,.tmp 10]) rfl ?_);at_builtin;refine Kd.R_append (Kd.int .u8) (w0:=w) w.heap.size rfl (.tmp 6) (.tmp 10) 51 5 (.int .u8 0) 1 rfl Tryd.underlying51 info5 rfl (by decide) (by omega) u3 x3_1 (Go.bits .or .u8 ((x0_1) % 256) 128) [.int .u8 (Go.bits .or .u8 ((x0_1) % 256) 128)] (fun _ => True) (fun _ => False) rfl rfl ?aP (fun _ hk => hk.elim) ?aF ?aO ?aB ?aS ?aL ?_;(case aP => exact rfl);(case aB => exact (by repeat (first|(with_reducible first|exact HB.out|apply below_alloc|apply pw_below_drewN|apply below_drew1)|exact HB.out)));(case aF => exact (fun _ _ => trivial));(case aO => exact (by (with_reducible repeat (first|apply Kd.R_alloc|apply Kd.R_drewN|apply Kd.R_drew));exact HO_3.out));(case aS => exact (below_size (by repeat (first|(with_reducible first|exact HB.out|apply below_alloc|apply pw_below_drewN|apply below_drew1)|exact HB.out))));(case aL => have:=LMc3.out;omega);intro v447 w4 ho hb hg hat;rw [← Ny446.out] at ho;have n0_:=Aside0.mk (hb);have n1_:=Aside0.mk (ho);clear HB;clear HO_3;have HB:=n0_;have HO448:=n1_;clear n0_ n1_;clear ho hb hg hat))
   go_roundg k1
   case measure => have:=HK1.out;omega
   case rel => exact ⟨(x0_1 / 128),(y446),(by first|rfl|(simp;done)|(simp [*];done)|(simp;rw [Bool.eq_iff_iff];simp;done)|(rw [Bool.eq_iff_iff];simp;done)),H',⟨by have:=HK1.out;omega⟩,⟨by (with_reducible repeat (first|apply Kd.R_alloc|apply Kd.R_drewN|apply Kd.R_drew));exact HO448.out⟩,⟨by repeat (first|(with_reducible first|exact HB.out|apply below_alloc|apply pw_below_drewN|apply below_drew1)|exact HB.out)⟩⟩
end Go.Proofs.YtniolbolfclhkaaDoor.Q
namespace Go.Proofs.YtniolbolfclhkaaDoor.Q
open Go.RowKit Go.Proofs.YtniolbolfclhkaaDoorW.PrintWords Go.Proofs.YtniolbolfclhkaaDoorW.PrintLast Go.Proofs.YtniolbolfclhkaaDoorW.PrintMore
attribute [local go_sem] max2_int min2_int max_two min_two max_three min_three max_four min_four   -- for this text's walks alone
set_option linter.unusedVariables false
set_option linter.unusedSimpArgs false
def IsS107 (w0 W : World) (g : Nat) (f0 : List Int) (f1 : Int) (f2 : Int) : Prop := ∃ A0 c0, W.heap[g]? = some (.cells #[.slice A0 f0.length c0, .int .i64 f1, .int .i64 f2] 107 (0, 0)) ∧ (w0.heap.size ≤ g ∧ f0.length ≤ c0) ∧ Kd.C (Kd.int .u8) w0 A0 f0.length f0
theorem IsS107.grown {w0 W : World} {g : Nat} {f0 : List Int} {f1 : Int} {f2 : Int} {W1 : World} {row : Option Nat} (h : IsS107 w0 W g f0 f1 f2) (hw : W.grownBy W1 row) (hne : some g ≠ row) : IsS107 w0 W1 g f0 f1 f2 := by
 obtain ⟨A0,c0,hb,hg,hr0⟩:=h
 exact ⟨A0,c0,blk_grown hb hw hne,hg,hr0⟩
theorem IsS107.kept {w0 W : World} {g : Nat} {f0 : List Int} {f1 : Int} {f2 : Int} {W1 : World} {S : Nat → Prop} (h : IsS107 w0 W g f0 f1 f2) (hk : Kept W W1 S) (hne : ¬ S g) : IsS107 w0 W1 g f0 f1 f2 := by
 obtain ⟨A0,c0,hb,hg,hr0⟩:=h
 exact ⟨A0,c0,blk_kept hb hk hne,hg,hr0⟩
theorem IsS107.below {w0 W : World} {g : Nat} {f0 : List Int} {f1 : Int} {f2 : Int} {W1 : World} (h : IsS107 w0 W g f0 f1 f2) (hw : Below W.heap.size W W1) : IsS107 w0 W1 g f0 f1 f2 := h.grown (grown_of_below hw none) (by simp)
theorem IsS107.alloc {w0 W : World} {g : Nat} {f0 : List Int} {f1 : Int} {f2 : Int} (h : IsS107 w0 W g f0 f1 f2) (o : Obj) : IsS107 w0 (W.alloc o) g f0 f1 f2 := h.below (below_alloc (Below.refl _ _) o)
theorem IsS107.drewN {w0 W : World} {g : Nat} {f0 : List Int} {f1 : Int} {f2 : Int} (h : IsS107 w0 W g f0 f1 f2) (m : Nat) : IsS107 w0 (W.drewN m) g f0 f1 f2 := h
theorem IsS107.drew {w0 W : World} {g : Nat} {f0 : List Int} {f1 : Int} {f2 : Int} (h : IsS107 w0 W g f0 f1 f2) : IsS107 w0 W.drew g f0 f1 f2 := h
theorem IsS107.own_ne {w0 W : World} {g : Nat} {f0 : List Int} {f1 : Int} {f2 : Int} {α : Type} {d : Kd α} {e : Nat} {base : Nat} {ok : Nat → Prop} {v : Value} {xs : List α} (h : IsS107 w0 W g f0 f1 f2) (ho : d.R e W base ok v xs) (ht : e ≠ 107) : some g ≠ v.ownBlock := by
 obtain ⟨A0,c0,hb,hg,hr0⟩:=h
 exact Kd.R_ne ho hb ht
theorem IsS107.lt {w0 W : World} {g : Nat} {f0 : List Int} {f1 : Int} {f2 : Int} (h : IsS107 w0 W g f0 f1 f2) : g < W.heap.size := by
 obtain ⟨A0,c0,hb,hg,hr0⟩:=h
 exact blk_lt hb
theorem IsS107.ge {w0 W : World} {g : Nat} {f0 : List Int} {f1 : Int} {f2 : Int} (h : IsS107 w0 W g f0 f1 f2) : w0.heap.size ≤ g := by
 obtain ⟨A0,c0,hb,hg,hr0⟩:=h
 exact hg.1
theorem IsS107.far {w0 W : World} {g : Nat} {f0 : List Int} {f1 : Int} {f2 : Int} {p : Addr} (h : IsS107 w0 W g f0 f1 f2) (hne : g ≠ p.block) (u : Value) : IsS107 w0 (W.setCell p u) g f0 f1 f2 := by
 obtain ⟨A0,c0,hb,hg,hr0⟩:=h
 exact ⟨A0,c0,blk_far hb hne u,hg,hr0⟩
theorem cellS107_0 {W : World} {g : Nat} {A0 : Option Addr} {c0 : Nat} {f0 : List Int} {f1 : Int} {f2 : Int} (h : W.heap[g]? = some (.cells #[.slice A0 f0.length c0, .int .i64 f1, .int .i64 f2] 107 (0, 0))) : W.cell? ⟨g, 0, none⟩ = some (.slice A0 f0.length c0) := (blk_cell h 0).trans rfl
theorem cellS107_1 {W : World} {g : Nat} {A0 : Option Addr} {c0 : Nat} {f0 : List Int} {f1 : Int} {f2 : Int} (h : W.heap[g]? = some (.cells #[.slice A0 f0.length c0, .int .i64 f1, .int .i64 f2] 107 (0, 0))) : W.cell? ⟨g, 1, none⟩ = some (.int .i64 f1) := (blk_cell h 1).trans rfl
theorem IsS107.set_1 {w0 W : World} {g : Nat} {f0 : List Int} {f1 : Int} {f2 : Int} (h : IsS107 w0 W g f0 f1 f2) (x : Int) : IsS107 w0 (W.setCell ⟨g, 1, none⟩ (.int .i64 x)) g f0 x f2 := by
 obtain ⟨A0,c0,hb,hg,hr0⟩:=h
 exact ⟨A0,c0,by simpa using blk_set hb 1 (.int .i64 x),hg,hr0⟩
theorem cellS107_2 {W : World} {g : Nat} {A0 : Option Addr} {c0 : Nat} {f0 : List Int} {f1 : Int} {f2 : Int} (h : W.heap[g]? = some (.cells #[.slice A0 f0.length c0, .int .i64 f1, .int .i64 f2] 107 (0, 0))) : W.cell? ⟨g, 2, none⟩ = some (.int .i64 f2) := (blk_cell h 2).trans rfl
theorem IsS107.set_2 {w0 W : World} {g : Nat} {f0 : List Int} {f1 : Int} {f2 : Int} (h : IsS107 w0 W g f0 f1 f2) (x : Int) : IsS107 w0 (W.setCell ⟨g, 2, none⟩ (.int .i64 x)) g f0 f1 x := by
 obtain ⟨A0,c0,hb,hg,hr0⟩:=h
 exact ⟨A0,c0,by simpa using blk_set hb 2 (.int .i64 x),hg,hr0⟩
theorem IsS107.new (w0 W : World) (A0 : Option Addr) (c0 : Nat) (f0 : List Int) (f1 : Int) (f2 : Int) (hc : f0.length ≤ c0) (hB : Below w0.heap.size w0 W) (hr0 : Kd.C (Kd.int .u8) w0 A0 f0.length f0) : IsS107 w0 (W.alloc (.cells #[.slice A0 f0.length c0, .int .i64 f1, .int .i64 f2] 107)) W.heap.size f0 f1 f2 := ⟨A0, c0, by simpa using heap_alloc_new W _, ⟨hB.size, hc⟩, hr0⟩
def pack_Reader_fail.f (s0_0 : List Int) (s0_1 : Int) (s0_2 : Int) (a1 : Int) (a2 : Int) : Option (Int × Int) := some (a1, a2)
set_option maxHeartbeats 8000000 in
set_option maxRecDepth 100000 in
theorem pack_Reader_fail.calls (g : Nat) (s0_0 : List Int) (s0_1 : Int) (s0_2 : Int) (a1 : Int) (a2 : Int) (r1 : Int) (r2 : Int) (w0 w : World) (hI : IsS107 w0 w g s0_0 s0_1 s0_2) (hB : Below w0.heap.size w0 w) (h : pack_Reader_fail.f s0_0 s0_1 s0_2 a1 a2 = some (r1, r2)) :
  Calls Tryd.prog 63 #[.pointer (some ⟨g,0,none⟩),.int .i64 a1,.int .i64 a2] w fun e w' => e = .returned (.tuple #[]) ∧ IsS107 w0 w' g s0_0 r1 r2 ∧ Below w0.heap.size w0 w' ∧ KeepBut w w' g none:=by
 have HI0:=Aside0.mk hI
 have HK:=Aside0.mk (KeepBut.refl w g none)
 have HL:=Aside0.mk hB.size
 clear hI
 have HW0:=Aside0.mk hB.size
 have HB:=Aside0.mk hB
 clear hB
 have H : (some (a1,a2)) = some (r1,r2):=h
 clear h
 simp only [Option.some.injEq,Prod.mk.injEq] at H
 obtain ⟨rfl,rfl⟩:=H
 obtain ⟨ASz4_0,cSz4_0,HGz4,hgz4,HSz4_0⟩:=HI0.out
 have hcz4_0:=cellS107_0 HGz4
 have hcz4_1:=cellS107_1 HGz4
 have hcz4_2:=cellS107_2 HGz4
 have hfz4_1:=blk_frozen HGz4 1
 have hfz4_2:=blk_frozen HGz4 2
 clear HGz4 hgz4
 go_enter Tryd.func63,Tryd.ntmps63
 go_wp2
 first|go_end0|((try simp only [Exit.inBlock,Exit.then]);refine bodyPost_ret (results_none rfl _ _ _) rfl ?_)
 exact ⟨by first|rfl|(simp [errW_none,errW_some] <;> rfl)|(simp [*,errW_none,errW_some] <;> rfl),by repeat (first|(with_reducible first|exact HI0.out|apply IsS107.alloc|apply IsS107.drewN|apply IsS107.drew|apply IsS107.set_1|apply IsS107.set_2)|exact HI0.out),by repeat (first|(with_reducible first|exact HB.out|apply below_alloc|apply pw_below_drewN|apply below_drew1|refine below_set ?_ (IsS107.ge HI0.out))|exact HB.out),by repeat (first|(with_reducible first|exact HK.out|apply KeepBut.set_|apply keep_drewN|apply keep_drew|apply keep_alloc)|exact HK.out)⟩
end Go.Proofs.YtniolbolfclhkaaDoor.Q
namespace Go.Proofs.YtniolbolfclhkaaDoor.Q
open Go.RowKit Go.Proofs.YtniolbolfclhkaaDoorW.PrintWords Go.Proofs.YtniolbolfclhkaaDoorW.PrintLast Go.Proofs.YtniolbolfclhkaaDoorW.PrintMore
attribute [local go_sem] max2_int min2_int max_two min_two max_three min_three max_four min_four   -- for this text's walks alone
set_option linter.unusedVariables false
set_option linter.unusedSimpArgs false
def pack_Reader_Uint.l0 : Nat → Int → Int → List Int → Int → Int → Option (Int × Int × Int)
|0,_,_,_,_,_ => none
|k + 1,x3,x11,x1000,x1001,x1002 => if x11 < 10 then (if (wrap64 (x1001 + x11)) = (x1000.length : Int) then ((pack_Reader_fail.f x1000 x1001 x1002 x1001 20).bind fun bt485 => (some (0,bt485.1,bt485.2))) else (if 0 ≤ (wrap64 (x1001 + x11)) then (if (wrap64 (x1001 + x11)) < (x1000.length : Int) then (if 0 ≤ (wrap64 (7 * x11)) then (if (rd x1000 (wrap64 (x1001 + x11))) ≥ 128 then (pack_Reader_Uint.l0 k (Go.bits .or .u64 x3 (shl .u64 (IntKind.u64.wrap (Go.bits .and .u8 (rd x1000 (wrap64 (x1001 + x11))) 127)) (wrap64 (7 * x11)))) (wrap64 (x11 + 1)) x1000 x1001 x1002) else (if x11 > 0 then (if (rd x1000 (wrap64 (x1001 + x11))) = 0 then ((pack_Reader_fail.f x1000 x1001 x1002 x1001 21).bind fun bt488 => (some (0,bt488.1,bt488.2))) else (if x11 = 9 then (if (rd x1000 (wrap64 (x1001 + x11))) > 1 then ((pack_Reader_fail.f x1000 x1001 x1002 x1001 21).bind fun bt490 => (some (0,bt490.1,bt490.2))) else (some (Go.bits .or .u64 x3 (shl .u64 (IntKind.u64.wrap (Go.bits .and .u8 (rd x1000 (wrap64 (x1001 + x11))) 127)) (wrap64 (7 * x11))),wrap64 (x1001 + (wrap64 (x11 + 1))),x1002))) else (some (Go.bits .or .u64 x3 (shl .u64 (IntKind.u64.wrap (Go.bits .and .u8 (rd x1000 (wrap64 (x1001 + x11))) 127)) (wrap64 (7 * x11))),wrap64 (x1001 + (wrap64 (x11 + 1))),x1002)))) else (if x11 = 9 then (if (rd x1000 (wrap64 (x1001 + x11))) > 1 then ((pack_Reader_fail.f x1000 x1001 x1002 x1001 21).bind fun bt492 => (some (0,bt492.1,bt492.2))) else (some (Go.bits .or .u64 x3 (shl .u64 (IntKind.u64.wrap (Go.bits .and .u8 (rd x1000 (wrap64 (x1001 + x11))) 127)) (wrap64 (7 * x11))),wrap64 (x1001 + (wrap64 (x11 + 1))),x1002))) else (some (Go.bits .or .u64 x3 (shl .u64 (IntKind.u64.wrap (Go.bits .and .u8 (rd x1000 (wrap64 (x1001 + x11))) 127)) (wrap64 (7 * x11))),wrap64 (x1001 + (wrap64 (x11 + 1))),x1002))))) else (none)) else (none)) else (none))) else ((pack_Reader_fail.f x1000 x1001 x1002 x1001 21).bind fun bt483 => (some (0,bt483.1,bt483.2)))
def pack_Reader_Uint.f (k : Nat) (s0_0 : List Int) (s0_1 : Int) (s0_2 : Int) : Option (Int × Int × Int) := if s0_2 = 0 then (pack_Reader_Uint.l0 k 0 0 s0_0 s0_1 s0_2) else (some (0, s0_1, s0_2))
theorem pack_Reader_Uint.mono_l : ∀ k, (∀ y0 y1 y2 y3 y4, LeO (pack_Reader_Uint.l0 k y0 y1 y2 y3 y4) (pack_Reader_Uint.l0 (k + 1) y0 y1 y2 y3 y4))
|0 => fun _ _ _ _ _ r h => by simp [pack_Reader_Uint.l0] at h
|k + 1 => by
  have ih0:=pack_Reader_Uint.mono_l k
  ·intro y0 y1 y2 y3 y4
   unfold pack_Reader_Uint.l0
   repeat' first
  |(with_reducible exact ih0 _ _ _ _ _)
  |(with_reducible exact LeO.refl _)
  |(with_reducible exact LeO.none _)
  |(with_reducible refine LeO.ite ?_ ?_)
  |(with_reducible refine LeO.bind ?_ (fun _ => ?_))
  |exact ih0 _ _ _ _ _
  |exact LeO.none _
  |refine LeO.ite ?_ ?_
  |refine LeO.bind ?_ (fun _ => ?_)
theorem pack_Reader_Uint.mono : ∀ a0 a1 a2 k, LeO (pack_Reader_Uint.f k a0 a1 a2) (pack_Reader_Uint.f (k + 1) a0 a1 a2) := by
 intro a0 a1 a2 k
 have ih0:=pack_Reader_Uint.mono_l k
 unfold pack_Reader_Uint.f
 repeat' first
  |(with_reducible exact ih0 _ _ _ _ _)
  |(with_reducible exact LeO.refl _)
  |(with_reducible exact LeO.none _)
  |(with_reducible refine LeO.ite ?_ ?_)
  |(with_reducible refine LeO.bind ?_ (fun _ => ?_))
  |exact ih0 _ _ _ _ _
  |exact LeO.none _
  |refine LeO.ite ?_ ?_
  |refine LeO.bind ?_ (fun _ => ?_)
set_option maxHeartbeats 8000000 in
set_option maxRecDepth 100000 in
theorem pack_Reader_Uint.calls (k : Nat) (g : Nat) (s0_0 : List Int) (s0_1 : Int) (s0_2 : Int) (r1 : Int) (r2 : Int) (r3 : Int) (w0 w : World) (hI : IsS107 w0 w g s0_0 s0_1 s0_2) (hB : Below w0.heap.size w0 w) (h : pack_Reader_Uint.f k s0_0 s0_1 s0_2 = some (r1, r2, r3)) :
  Calls Tryd.prog 62 #[.pointer (some ⟨g,0,none⟩)] w fun e w' => e = .returned (.int .u64 r1) ∧ IsS107 w0 w' g s0_0 r2 r3 ∧ Below w0.heap.size w0 w' ∧ KeepBut w w' g none:=by
 have HI0:=Aside0.mk hI
 have HK:=Aside0.mk (KeepBut.refl w g none)
 have HL:=Aside0.mk hB.size
 clear hI
 have HW0:=Aside0.mk hB.size
 have HB:=Aside0.mk hB
 clear hB
 have H : (if s0_2 = 0 then (pack_Reader_Uint.l0 k 0 0 s0_0 s0_1 s0_2) else (some (0,s0_1,s0_2))) = some (r1,r2,r3):=h
 clear h
 by_cases c2 : s0_2 = 0
 rotate_left
 ·rw [if_neg c2] at H
  have c2b0 : (s0_2 == 0) = false:=beq_eq_false_iff_ne.mpr c2
  have c2b1 : (s0_2 != 0) = true:=bne_iff_ne.mpr c2
  simp only [Option.some.injEq,Prod.mk.injEq] at H
  obtain ⟨rfl,rfl,rfl⟩:=H
  obtain ⟨ASz39_0,cSz39_0,HGz39,hgz39,HSz39_0⟩:=HI0.out
  have hcz39_0:=cellS107_0 HGz39
  have hcz39_1:=cellS107_1 HGz39
  have hcz39_2:=cellS107_2 HGz39
  have hfz39_1:=blk_frozen HGz39 1
  have hfz39_2:=blk_frozen HGz39 2
  clear HGz39 hgz39
  go_enter Tryd.func62,Tryd.ntmps62
  go_wp2
  repeat (go_quiet (fail);try go_wp2)
  go_ret
  exact ⟨by first|rfl|(simp [errW_none,errW_some] <;> rfl)|(simp [*,errW_none,errW_some] <;> rfl),by repeat (first|(with_reducible first|exact HI0.out|apply IsS107.alloc|apply IsS107.drewN|apply IsS107.drew|apply IsS107.set_1|apply IsS107.set_2)|exact HI0.out),by repeat (first|(with_reducible first|exact HB.out|apply below_alloc|apply pw_below_drewN|apply below_drew1|refine below_set ?_ (IsS107.ge HI0.out))|exact HB.out),by repeat (first|(with_reducible first|exact HK.out|apply KeepBut.set_|apply keep_drewN|apply keep_drew|apply keep_alloc)|exact HK.out)⟩
 rw [if_pos c2] at H
 have c2b0 : (s0_2 == 0) = true:=beq_iff_eq.mpr c2
 have c2b1 : (s0_2 != 0) = false:=bne_eq_false_iff_eq.mpr c2
 clear c2
 have H':=Aside0.mk H
 clear H
 obtain ⟨ASz3_0,cSz3_0,HGz3,hgz3,HSz3_0⟩:=HI0.out
 have hcz3_0:=cellS107_0 HGz3
 have hcz3_1:=cellS107_1 HGz3
 have hcz3_2:=cellS107_2 HGz3
 have hfz3_1:=blk_frozen HGz3 1
 have hfz3_2:=blk_frozen HGz3 2
 clear HGz3 hgz3
 go_enter Tryd.func62,Tryd.ntmps62
 go_wp2
 repeat (go_quiet (fail);try go_wp2)
 go_loopg [3,11] k (fun kq v3 v11 w' => ∃ (x3_1 : Int) (x11_1 : Int) (x1001_1 : Int) (x1002_1 : Int),v3 = .int .u64 x3_1 ∧ v11 = .int .i64 x11_1 ∧ Aside0 (pack_Reader_Uint.l0 kq x3_1 x11_1 s0_0 x1001_1 x1002_1 = some (r1,r2,r3)) ∧ Aside0 (kq ≤ k) ∧ Aside0 (IsS107 w0 w' g s0_0 x1001_1 x1002_1) ∧ Aside0 (KeepBut w w' g none) ∧ Aside0 (Below w0.heap.size w0 w'))
 case atStart => exact ⟨(0),(0),(s0_1),(s0_2),(by first|rfl|(simp;done)|(simp [*];done)|(simp;rw [Bool.eq_iff_iff];simp;done)|(rw [Bool.eq_iff_iff];simp;done)),(by first|rfl|(simp;done)|(simp [*];done)|(simp;rw [Bool.eq_iff_iff];simp;done)|(rw [Bool.eq_iff_iff];simp;done)),H',⟨Nat.le_refl _⟩,⟨by repeat (first|(with_reducible first|exact HI0.out|apply IsS107.alloc|apply IsS107.drewN|apply IsS107.drew|apply IsS107.set_1|apply IsS107.set_2)|exact HI0.out)⟩,⟨by repeat (first|(with_reducible first|exact HK.out|apply KeepBut.set_|apply keep_drewN|apply keep_drew|apply keep_alloc)|exact HK.out)⟩,⟨by repeat (first|(with_reducible first|exact HB.out|apply below_alloc|apply pw_below_drewN|apply below_drew1|refine below_set ?_ (IsS107.ge HI0.out))|exact HB.out)⟩⟩
 case round =>
  clear H';(try clear c2);(try clear c2b0);(try clear c2b1);(try clear p2);(try clear hcz3_0);(try clear hcz3_1);(try clear hcz3_2);(try clear hfz3_1);(try clear hfz3_2)
  obtain ⟨x3_1,x11_1,x1001_1,x1002_1,rfl,rfl,HA,HK1,HI0,HK,HB⟩:=hrel
  cases gk with
 |zero => exact absurd HA.out (by simp [pack_Reader_Uint.l0])
 |succ k1 =>
   have H:=HA.out
   clear HA
   simp only [pack_Reader_Uint.l0] at H
   by_cases c4 : x11_1 < 10
   rotate_left
   ·rw [if_neg c4] at H
    have c4b0 : decide (x11_1 < 10) = false:=decide_eq_false c4
    clear c4
    replace H:=Option.bind_eq_some_iff.mp H
    obtain ⟨⟨t483,t484⟩,A360,H⟩:=H
    replace H : (some (0,t483,t484)) = some (r1,r2,r3):=H
    have A36:=Aside0.mk A360
    clear A360
    simp only [Option.some.injEq,Prod.mk.injEq] at H
    obtain ⟨rfl,rfl,rfl⟩:=H
    obtain ⟨ASz37_0,cSz37_0,HGz37,hgz37,HSz37_0⟩:=HI0.out
    have hcz37_0:=cellS107_0 HGz37
    have hcz37_1:=cellS107_1 HGz37
    have hcz37_2:=cellS107_2 HGz37
    have hfz37_1:=blk_frozen HGz37 1
    have hfz37_2:=blk_frozen HGz37 2
    clear HGz37 hgz37
    go_wp2_with (first|(go_at_call 63;(with_reducible refine (pack_Reader_fail.calls g s0_0 x1001_1 x1002_1 x1001_1 21 t483 t484 w0 _ ?side1 ?side2 A36.out).mono ?_);(case side1 => repeat (first|(with_reducible first|exact HI0.out|apply IsS107.alloc|apply IsS107.drewN|apply IsS107.drew|apply IsS107.set_1|apply IsS107.set_2)|exact HI0.out));(case side2 => repeat (first|(with_reducible first|exact HB.out|apply below_alloc|apply pw_below_drewN|apply below_drew1|refine below_set ?_ (IsS107.ge HI0.out))|exact HB.out));rintro e w38 ⟨rfl,hi,hb,hk⟩;have n0_:=Aside0.mk (KeepBut.trans (by repeat (first|(with_reducible first|exact HK.out|apply KeepBut.set_|apply keep_drewN|apply keep_drew|apply keep_alloc)|exact HK.out)) hk (.inl rfl));have n1_:=Aside0.mk (hb);have n2_:=Aside0.mk (hi);clear HK;clear HB;clear HI0;have HK:=n0_;have HB:=n1_;have HI0:=n2_;clear n0_ n1_ n2_;(try clear hb);(try clear hb2);(try clear hk);(try clear hi)))
    repeat (go_quiet (first|(go_at_call 63;(with_reducible refine (pack_Reader_fail.calls g s0_0 x1001_1 x1002_1 x1001_1 21 t483 t484 w0 _ ?side1 ?side2 A36.out).mono ?_);(case side1 => repeat (first|(with_reducible first|exact HI0.out|apply IsS107.alloc|apply IsS107.drewN|apply IsS107.drew|apply IsS107.set_1|apply IsS107.set_2)|exact HI0.out));(case side2 => repeat (first|(with_reducible first|exact HB.out|apply below_alloc|apply pw_below_drewN|apply below_drew1|refine below_set ?_ (IsS107.ge HI0.out))|exact HB.out));rintro e w38 ⟨rfl,hi,hb,hk⟩;have n0_:=Aside0.mk (KeepBut.trans (by repeat (first|(with_reducible first|exact HK.out|apply KeepBut.set_|apply keep_drewN|apply keep_drew|apply keep_alloc)|exact HK.out)) hk (.inl rfl));have n1_:=Aside0.mk (hb);have n2_:=Aside0.mk (hi);clear HK;clear HB;clear HI0;have HK:=n0_;have HB:=n1_;have HI0:=n2_;clear n0_ n1_ n2_;(try clear hb);(try clear hb2);(try clear hk);(try clear hi)));try go_wp2_with (first|(go_at_call 63;(with_reducible refine (pack_Reader_fail.calls g s0_0 x1001_1 x1002_1 x1001_1 21 t483 t484 w0 _ ?side1 ?side2 A36.out).mono ?_);(case side1 => repeat (first|(with_reducible first|exact HI0.out|apply IsS107.alloc|apply IsS107.drewN|apply IsS107.drew|apply IsS107.set_1|apply IsS107.set_2)|exact HI0.out));(case side2 => repeat (first|(with_reducible first|exact HB.out|apply below_alloc|apply pw_below_drewN|apply below_drew1|refine below_set ?_ (IsS107.ge HI0.out))|exact HB.out));rintro e w38 ⟨rfl,hi,hb,hk⟩;have n0_:=Aside0.mk (KeepBut.trans (by repeat (first|(with_reducible first|exact HK.out|apply KeepBut.set_|apply keep_drewN|apply keep_drew|apply keep_alloc)|exact HK.out)) hk (.inl rfl));have n1_:=Aside0.mk (hb);have n2_:=Aside0.mk (hi);clear HK;clear HB;clear HI0;have HK:=n0_;have HB:=n1_;have HI0:=n2_;clear n0_ n1_ n2_;(try clear hb);(try clear hb2);(try clear hk);(try clear hi))))
    go_ret
    exact ⟨by first|rfl|(simp [errW_none,errW_some] <;> rfl)|(simp [*,errW_none,errW_some] <;> rfl),by repeat (first|(with_reducible first|exact HI0.out|apply IsS107.alloc|apply IsS107.drewN|apply IsS107.drew|apply IsS107.set_1|apply IsS107.set_2)|exact HI0.out),by repeat (first|(with_reducible first|exact HB.out|apply below_alloc|apply pw_below_drewN|apply below_drew1|refine below_set ?_ (IsS107.ge HI0.out))|exact HB.out),by repeat (first|(with_reducible first|exact HK.out|apply KeepBut.set_|apply keep_drewN|apply keep_drew|apply keep_alloc)|exact HK.out)⟩
   rw [if_pos c4] at H
   have c4b0 : decide (x11_1 < 10) = true:=decide_eq_true c4
   clear c4
   by_cases c5 : (wrap64 (x1001_1 + x11_1)) = (s0_0.length : Int)
   ·rw [if_pos c5] at H
    have c5b0 : ((wrap64 (x1001_1 + x11_1)) == (s0_0.length : Int)) = true:=beq_iff_eq.mpr c5
    have c5b1 : ((wrap64 (x1001_1 + x11_1)) != (s0_0.length : Int)) = false:=bne_eq_false_iff_eq.mpr c5
    clear c5
    replace H:=Option.bind_eq_some_iff.mp H
    obtain ⟨⟨t485,t486⟩,A60,H⟩:=H
    replace H : (some (0,t485,t486)) = some (r1,r2,r3):=H
    have A6:=Aside0.mk A60
    clear A60
    simp only [Option.some.injEq,Prod.mk.injEq] at H
    obtain ⟨rfl,rfl,rfl⟩:=H
    obtain ⟨ASz7_0,cSz7_0,HGz7,hgz7,HSz7_0⟩:=HI0.out
    have hcz7_0:=cellS107_0 HGz7
    have hcz7_1:=cellS107_1 HGz7
    have hcz7_2:=cellS107_2 HGz7
    have hfz7_1:=blk_frozen HGz7 1
    have hfz7_2:=blk_frozen HGz7 2
    clear HGz7 hgz7
    go_wp2_with (first|(go_at_call 63;(with_reducible refine (pack_Reader_fail.calls g s0_0 x1001_1 x1002_1 x1001_1 20 t485 t486 w0 _ ?side1 ?side2 A6.out).mono ?_);(case side1 => repeat (first|(with_reducible first|exact HI0.out|apply IsS107.alloc|apply IsS107.drewN|apply IsS107.drew|apply IsS107.set_1|apply IsS107.set_2)|exact HI0.out));(case side2 => repeat (first|(with_reducible first|exact HB.out|apply below_alloc|apply pw_below_drewN|apply below_drew1|refine below_set ?_ (IsS107.ge HI0.out))|exact HB.out));rintro e w8 ⟨rfl,hi,hb,hk⟩;have n0_:=Aside0.mk (KeepBut.trans (by repeat (first|(with_reducible first|exact HK.out|apply KeepBut.set_|apply keep_drewN|apply keep_drew|apply keep_alloc)|exact HK.out)) hk (.inl rfl));have n1_:=Aside0.mk (hb);have n2_:=Aside0.mk (hi);clear HK;clear HB;clear HI0;have HK:=n0_;have HB:=n1_;have HI0:=n2_;clear n0_ n1_ n2_;(try clear hb);(try clear hb2);(try clear hk);(try clear hi)))
    repeat (go_quiet (first|(go_at_call 63;(with_reducible refine (pack_Reader_fail.calls g s0_0 x1001_1 x1002_1 x1001_1 20 t485 t486 w0 _ ?side1 ?side2 A6.out).mono ?_);(case side1 => repeat (first|(with_reducible first|exact HI0.out|apply IsS107.alloc|apply IsS107.drewN|apply IsS107.drew|apply IsS107.set_1|apply IsS107.set_2)|exact HI0.out));(case side2 => repeat (first|(with_reducible first|exact HB.out|apply below_alloc|apply pw_below_drewN|apply below_drew1|refine below_set ?_ (IsS107.ge HI0.out))|exact HB.out));rintro e w8 ⟨rfl,hi,hb,hk⟩;have n0_:=Aside0.mk (KeepBut.trans (by repeat (first|(with_reducible first|exact HK.out|apply KeepBut.set_|apply keep_drewN|apply keep_drew|apply keep_alloc)|exact HK.out)) hk (.inl rfl));have n1_:=Aside0.mk (hb);have n2_:=Aside0.mk (hi);clear HK;clear HB;clear HI0;have HK:=n0_;have HB:=n1_;have HI0:=n2_;clear n0_ n1_ n2_;(try clear hb);(try clear hb2);(try clear hk);(try clear hi)));try go_wp2_with (first|(go_at_call 63;(with_reducible refine (pack_Reader_fail.calls g s0_0 x1001_1 x1002_1 x1001_1 20 t485 t486 w0 _ ?side1 ?side2 A6.out).mono ?_);(case side1 => repeat (first|(with_reducible first|exact HI0.out|apply IsS107.alloc|apply IsS107.drewN|apply IsS107.drew|apply IsS107.set_1|apply IsS107.set_2)|exact HI0.out));(case side2 => repeat (first|(with_reducible first|exact HB.out|apply below_alloc|apply pw_below_drewN|apply below_drew1|refine below_set ?_ (IsS107.ge HI0.out))|exact HB.out));rintro e w8 ⟨rfl,hi,hb,hk⟩;have n0_:=Aside0.mk (KeepBut.trans (by repeat (first|(with_reducible first|exact HK.out|apply KeepBut.set_|apply keep_drewN|apply keep_drew|apply keep_alloc)|exact HK.out)) hk (.inl rfl));have n1_:=Aside0.mk (hb);have n2_:=Aside0.mk (hi);clear HK;clear HB;clear HI0;have HK:=n0_;have HB:=n1_;have HI0:=n2_;clear n0_ n1_ n2_;(try clear hb);(try clear hb2);(try clear hk);(try clear hi))))
    go_ret
    exact ⟨by first|rfl|(simp [errW_none,errW_some] <;> rfl)|(simp [*,errW_none,errW_some] <;> rfl),by repeat (first|(with_reducible first|exact HI0.out|apply IsS107.alloc|apply IsS107.drewN|apply IsS107.drew|apply IsS107.set_1|apply IsS107.set_2)|exact HI0.out),by repeat (first|(with_reducible first|exact HB.out|apply below_alloc|apply pw_below_drewN|apply below_drew1|refine below_set ?_ (IsS107.ge HI0.out))|exact HB.out),by repeat (first|(with_reducible first|exact HK.out|apply KeepBut.set_|apply keep_drewN|apply keep_drew|apply keep_alloc)|exact HK.out)⟩
   rw [if_neg c5] at H
   have c5b0 : ((wrap64 (x1001_1 + x11_1)) == (s0_0.length : Int)) = false:=beq_eq_false_iff_ne.mpr c5
   have c5b1 : ((wrap64 (x1001_1 + x11_1)) != (s0_0.length : Int)) = true:=bne_iff_ne.mpr c5
   obtain ⟨ji9,hji9⟩ : ∃ j_ : Int,(wrap64 (x1001_1 + x11_1)) = j_:=⟨_,rfl⟩
   replace H : (if 0 ≤ (ji9) then (if (ji9) < (s0_0.length : Int) then (if 0 ≤ (wrap64 (7 * x11_1)) then (if (rd s0_0 (ji9)) ≥ 128 then (pack_Reader_Uint.l0 k1 (Go.bits .or .u64 x3_1 (shl .u64 (IntKind.u64.wrap (Go.bits .and .u8 (rd s0_0 (ji9)) 127)) (wrap64 (7 * x11_1)))) (wrap64 (x11_1 + 1)) s0_0 x1001_1 x1002_1) else (if x11_1 > 0 then (if (rd s0_0 (ji9)) = 0 then ((pack_Reader_fail.f s0_0 x1001_1 x1002_1 x1001_1 21).bind fun bt488 => (some (0,bt488.1,bt488.2))) else (if x11_1 = 9 then (if (rd s0_0 (ji9)) > 1 then ((pack_Reader_fail.f s0_0 x1001_1 x1002_1 x1001_1 21).bind fun bt490 => (some (0,bt490.1,bt490.2))) else (some (Go.bits .or .u64 x3_1 (shl .u64 (IntKind.u64.wrap (Go.bits .and .u8 (rd s0_0 (ji9)) 127)) (wrap64 (7 * x11_1))),wrap64 (x1001_1 + (wrap64 (x11_1 + 1))),x1002_1))) else (some (Go.bits .or .u64 x3_1 (shl .u64 (IntKind.u64.wrap (Go.bits .and .u8 (rd s0_0 (ji9)) 127)) (wrap64 (7 * x11_1))),wrap64 (x1001_1 + (wrap64 (x11_1 + 1))),x1002_1)))) else (if x11_1 = 9 then (if (rd s0_0 (ji9)) > 1 then ((pack_Reader_fail.f s0_0 x1001_1 x1002_1 x1001_1 21).bind fun bt492 => (some (0,bt492.1,bt492.2))) else (some (Go.bits .or .u64 x3_1 (shl .u64 (IntKind.u64.wrap (Go.bits .and .u8 (rd s0_0 (ji9)) 127)) (wrap64 (7 * x11_1))),wrap64 (x1001_1 + (wrap64 (x11_1 + 1))),x1002_1))) else (some (Go.bits .or .u64 x3_1 (shl .u64 (IntKind.u64.wrap (Go.bits .and .u8 (rd s0_0 (ji9)) 127)) (wrap64 (7 * x11_1))),wrap64 (x1001_1 + (wrap64 (x11_1 + 1))),x1002_1))))) else (none)) else (none)) else (none)) = some (r1,r2,r3):=by first|(rw [hji9] at H;exact H)|(simp only [hji9] at H ⊢;exact H)
   (try rw [hji9] at c5b0)
   (try rw [hji9] at c5b1)
   have hji9w : (IntKind.i64.wrap (x1001_1 + x11_1)) = ji9:=(i64_w _).trans hji9
   by_cases c10 : 0 ≤ (ji9)
   rotate_left
   ·rw [if_neg c10] at H
    exact absurd H (by simp)
   rw [if_pos c10] at H
   have c10b0 : decide (0 ≤ (ji9)) = true:=decide_eq_true c10
   clear c10
   by_cases c11 : (ji9) < (s0_0.length : Int)
   rotate_left
   ·rw [if_neg c11] at H
    exact absurd H (by simp)
   rw [if_pos c11] at H
   have c11b0 : decide ((ji9) < (s0_0.length : Int)) = true:=decide_eq_true c11
   clear c11
   obtain ⟨ji12,hji12⟩ : ∃ j_ : Int,(wrap64 (7 * x11_1)) = j_:=⟨_,rfl⟩
   replace H : (if 0 ≤ (ji12) then (if (rd s0_0 (ji9)) ≥ 128 then (pack_Reader_Uint.l0 k1 (Go.bits .or .u64 x3_1 (shl .u64 (IntKind.u64.wrap (Go.bits .and .u8 (rd s0_0 (ji9)) 127)) (ji12))) (wrap64 (x11_1 + 1)) s0_0 x1001_1 x1002_1) else (if x11_1 > 0 then (if (rd s0_0 (ji9)) = 0 then ((pack_Reader_fail.f s0_0 x1001_1 x1002_1 x1001_1 21).bind fun bt488 => (some (0,bt488.1,bt488.2))) else (if x11_1 = 9 then (if (rd s0_0 (ji9)) > 1 then ((pack_Reader_fail.f s0_0 x1001_1 x1002_1 x1001_1 21).bind fun bt490 => (some (0,bt490.1,bt490.2))) else (some (Go.bits .or .u64 x3_1 (shl .u64 (IntKind.u64.wrap (Go.bits .and .u8 (rd s0_0 (ji9)) 127)) (ji12)),wrap64 (x1001_1 + (wrap64 (x11_1 + 1))),x1002_1))) else (some (Go.bits .or .u64 x3_1 (shl .u64 (IntKind.u64.wrap (Go.bits .and .u8 (rd s0_0 (ji9)) 127)) (ji12)),wrap64 (x1001_1 + (wrap64 (x11_1 + 1))),x1002_1)))) else (if x11_1 = 9 then (if (rd s0_0 (ji9)) > 1 then ((pack_Reader_fail.f s0_0 x1001_1 x1002_1 x1001_1 21).bind fun bt492 => (some (0,bt492.1,bt492.2))) else (some (Go.bits .or .u64 x3_1 (shl .u64 (IntKind.u64.wrap (Go.bits .and .u8 (rd s0_0 (ji9)) 127)) (ji12)),wrap64 (x1001_1 + (wrap64 (x11_1 + 1))),x1002_1))) else (some (Go.bits .or .u64 x3_1 (shl .u64 (IntKind.u64.wrap (Go.bits .and .u8 (rd s0_0 (ji9)) 127)) (ji12)),wrap64 (x1001_1 + (wrap64 (x11_1 + 1))),x1002_1))))) else (none)) = some (r1,r2,r3):=by first|(rw [hji12] at H;exact H)|(simp only [hji12] at H ⊢;exact H)
   have hji12w : (IntKind.i64.wrap (7 * x11_1)) = ji12:=(i64_w _).trans hji12
   by_cases c13 : 0 ≤ (ji12)
   rotate_left
   ·rw [if_neg c13] at H
    exact absurd H (by simp)
   rw [if_pos c13] at H
   have c13b0:=eq_true c13
   have c13b1 : decide (0 ≤ (ji12)) = true:=decide_eq_true c13
   clear c13
   obtain ⟨ji14,hji14⟩ : ∃ j_ : Int,(shl .u64 (IntKind.u64.wrap (Go.bits .and .u8 (rd s0_0 (ji9)) 127)) (ji12)) = j_:=⟨_,rfl⟩
   replace H : (if (rd s0_0 (ji9)) ≥ 128 then (pack_Reader_Uint.l0 k1 (Go.bits .or .u64 x3_1 (ji14)) (wrap64 (x11_1 + 1)) s0_0 x1001_1 x1002_1) else (if x11_1 > 0 then (if (rd s0_0 (ji9)) = 0 then ((pack_Reader_fail.f s0_0 x1001_1 x1002_1 x1001_1 21).bind fun bt488 => (some (0,bt488.1,bt488.2))) else (if x11_1 = 9 then (if (rd s0_0 (ji9)) > 1 then ((pack_Reader_fail.f s0_0 x1001_1 x1002_1 x1001_1 21).bind fun bt490 => (some (0,bt490.1,bt490.2))) else (some (Go.bits .or .u64 x3_1 (ji14),wrap64 (x1001_1 + (wrap64 (x11_1 + 1))),x1002_1))) else (some (Go.bits .or .u64 x3_1 (ji14),wrap64 (x1001_1 + (wrap64 (x11_1 + 1))),x1002_1)))) else (if x11_1 = 9 then (if (rd s0_0 (ji9)) > 1 then ((pack_Reader_fail.f s0_0 x1001_1 x1002_1 x1001_1 21).bind fun bt492 => (some (0,bt492.1,bt492.2))) else (some (Go.bits .or .u64 x3_1 (ji14),wrap64 (x1001_1 + (wrap64 (x11_1 + 1))),x1002_1))) else (some (Go.bits .or .u64 x3_1 (ji14),wrap64 (x1001_1 + (wrap64 (x11_1 + 1))),x1002_1))))) = some (r1,r2,r3):=by first|(rw [hji14] at H;exact H)|(simp only [hji14] at H ⊢;exact H)
   have hji14_ : (IntKind.u64.wrap ((IntKind.u64.wrap (Go.bits .and .u8 (rd s0_0 (ji9)) 127)) * 2 ^ min (ji12).toNat 64)) = ji14:=hji14
   have hji14z : (ji12) ≤ 64 → (IntKind.u64.wrap ((IntKind.u64.wrap (Go.bits .and .u8 (rd s0_0 (ji9)) 127)) * 2 ^ (ji12).toNat)) = ji14:=shl_small hji14
   by_cases c15 : (rd s0_0 (ji9)) ≥ 128
   ·rw [if_pos c15] at H
    have c15b0 : decide (128 ≤ (rd s0_0 (ji9))) = true:=decide_eq_true c15
    clear c15
    have H':=Aside0.mk H
    clear H
    obtain ⟨ASz16_0,cSz16_0,HGz16,hgz16,HSz16_0⟩:=HI0.out
    have hcz16_0:=cellS107_0 HGz16
    have hcz16_1:=cellS107_1 HGz16
    have hcz16_2:=cellS107_2 HGz16
    have hfz16_1:=blk_frozen HGz16 1
    have hfz16_2:=blk_frozen HGz16 2
    clear HGz16 hgz16
    have p487 : 0 ≤ ((ji9) : Int):=of_decide_eq_true (by first|(with_reducible assumption)|assumption)
    have q487 : (ji9) < (s0_0.length : Int):=of_decide_eq_true (by first|(with_reducible assumption)|assumption)
    obtain ⟨ad487,e487,hx487_0⟩:=Kd.at_int HSz16_0 (ji9) p487 q487
    cases e487
    replace hx487_0:=pw_cell_below HB.out hx487_0
    replace p487:=eq_true p487
    replace q487:=eq_true q487
    go_wp2
    repeat (go_quiet (fail);try go_wp2)
    go_roundg k1
    case measure => have:=HK1.out;omega
    case rel => exact ⟨(Go.bits .or .u64 x3_1 (ji14)),(wrap64 (x11_1 + 1)),(x1001_1),(x1002_1),(by first|rfl|(simp;done)|(simp only [← hji14] <;> (first|rfl|simp))|(simp [*];done)),(by first|rfl|(simp;done)|(simp [*];done)|(simp;rw [Bool.eq_iff_iff];simp;done)|(rw [Bool.eq_iff_iff];simp;done)),H',⟨by have:=HK1.out;omega⟩,⟨by repeat (first|(with_reducible first|exact HI0.out|apply IsS107.alloc|apply IsS107.drewN|apply IsS107.drew|apply IsS107.set_1|apply IsS107.set_2)|exact HI0.out)⟩,⟨by repeat (first|(with_reducible first|exact HK.out|apply KeepBut.set_|apply keep_drewN|apply keep_drew|apply keep_alloc)|exact HK.out)⟩,⟨by repeat (first|(with_reducible first|exact HB.out|apply below_alloc|apply pw_below_drewN|apply below_drew1|refine below_set ?_ (IsS107.ge HI0.out))|exact HB.out)⟩⟩
   rw [if_neg c15] at H
   have c15b0 : decide (128 ≤ (rd s0_0 (ji9))) = false:=decide_eq_false c15
   clear c15
   by_cases c17 : x11_1 > 0
   rotate_left
   ·rw [if_neg c17] at H
    have c17b0 : decide (0 < x11_1) = false:=decide_eq_false c17
    clear c17
    by_cases c29 : x11_1 = 9
    rotate_left
    ·rw [if_neg c29] at H
     have c29b0 : (x11_1 == 9) = false:=beq_eq_false_iff_ne.mpr c29
     have c29b1 : (x11_1 != 9) = true:=bne_iff_ne.mpr c29
     simp only [Option.some.injEq,Prod.mk.injEq] at H
     obtain ⟨rfl,rfl,rfl⟩:=H
     obtain ⟨ASz35_0,cSz35_0,HGz35,hgz35,HSz35_0⟩:=HI0.out
     have hcz35_0:=cellS107_0 HGz35
     have hcz35_1:=cellS107_1 HGz35
     have hcz35_2:=cellS107_2 HGz35
     have hfz35_1:=blk_frozen HGz35 1
     have hfz35_2:=blk_frozen HGz35 2
     clear HGz35 hgz35
     have p487 : 0 ≤ ((ji9) : Int):=of_decide_eq_true (by first|(with_reducible assumption)|assumption)
     have q487 : (ji9) < (s0_0.length : Int):=of_decide_eq_true (by first|(with_reducible assumption)|assumption)
     obtain ⟨ad487,e487,hx487_0⟩:=Kd.at_int HSz35_0 (ji9) p487 q487
     cases e487
     replace hx487_0:=pw_cell_below HB.out hx487_0
     replace p487:=eq_true p487
     replace q487:=eq_true q487
     go_wp2
     repeat (go_quiet (fail);try go_wp2)
     go_ret
     exact ⟨by first|rfl|(simp [errW_none,errW_some] <;> rfl)|(simp only [← hji9,← hji12,← hji14];first|rfl|(simp [errW_none,errW_some] <;> rfl))|(simp [*,errW_none,errW_some] <;> rfl),by repeat (first|(with_reducible first|exact HI0.out|apply IsS107.alloc|apply IsS107.drewN|apply IsS107.drew|apply IsS107.set_1|apply IsS107.set_2)|exact HI0.out),by repeat (first|(with_reducible first|exact HB.out|apply below_alloc|apply pw_below_drewN|apply below_drew1|refine below_set ?_ (IsS107.ge HI0.out))|exact HB.out),by repeat (first|(with_reducible first|exact HK.out|apply KeepBut.set_|apply keep_drewN|apply keep_drew|apply keep_alloc)|exact HK.out)⟩
    rw [if_pos c29] at H
    have c29b0 : (x11_1 == 9) = true:=beq_iff_eq.mpr c29
    have c29b1 : (x11_1 != 9) = false:=bne_eq_false_iff_eq.mpr c29
    clear c29
    by_cases c30 : (rd s0_0 (ji9)) > 1
    rotate_left
    ·rw [if_neg c30] at H
     have c30b0 : decide (1 < (rd s0_0 (ji9))) = false:=decide_eq_false c30
     clear c30
     simp only [Option.some.injEq,Prod.mk.injEq] at H
     obtain ⟨rfl,rfl,rfl⟩:=H
     obtain ⟨ASz34_0,cSz34_0,HGz34,hgz34,HSz34_0⟩:=HI0.out
     have hcz34_0:=cellS107_0 HGz34
     have hcz34_1:=cellS107_1 HGz34
     have hcz34_2:=cellS107_2 HGz34
     have hfz34_1:=blk_frozen HGz34 1
     have hfz34_2:=blk_frozen HGz34 2
     clear HGz34 hgz34
     have p487 : 0 ≤ ((ji9) : Int):=of_decide_eq_true (by first|(with_reducible assumption)|assumption)
     have q487 : (ji9) < (s0_0.length : Int):=of_decide_eq_true (by first|(with_reducible assumption)|assumption)
     obtain ⟨ad487,e487,hx487_0⟩:=Kd.at_int HSz34_0 (ji9) p487 q487
     cases e487
     replace hx487_0:=pw_cell_below HB.out hx487_0
     replace p487:=eq_true p487
     replace q487:=eq_true q487
     go_wp2
     repeat (go_quiet (fail);try go_wp2)
     go_ret
     exact ⟨by first|rfl|(simp [errW_none,errW_some] <;> rfl)|(simp only [← hji9,← hji12,← hji14];first|rfl|(simp [errW_none,errW_some] <;> rfl))|(simp [*,errW_none,errW_some] <;> rfl),by repeat (first|(with_reducible first|exact HI0.out|apply IsS107.alloc|apply IsS107.drewN|apply IsS107.drew|apply IsS107.set_1|apply IsS107.set_2)|exact HI0.out),by repeat (first|(with_reducible first|exact HB.out|apply below_alloc|apply pw_below_drewN|apply below_drew1|refine below_set ?_ (IsS107.ge HI0.out))|exact HB.out),by repeat (first|(with_reducible first|exact HK.out|apply KeepBut.set_|apply keep_drewN|apply keep_drew|apply keep_alloc)|exact HK.out)⟩
    rw [if_pos c30] at H
    have c30b0 : decide (1 < (rd s0_0 (ji9))) = true:=decide_eq_true c30
    clear c30
    replace H:=Option.bind_eq_some_iff.mp H
    obtain ⟨⟨t492,t493⟩,A310,H⟩:=H
    replace H : (some (0,t492,t493)) = some (r1,r2,r3):=H
    have A31:=Aside0.mk A310
    clear A310
    simp only [Option.some.injEq,Prod.mk.injEq] at H
    obtain ⟨rfl,rfl,rfl⟩:=H
    obtain ⟨ASz32_0,cSz32_0,HGz32,hgz32,HSz32_0⟩:=HI0.out
    have hcz32_0:=cellS107_0 HGz32
    have hcz32_1:=cellS107_1 HGz32
    have hcz32_2:=cellS107_2 HGz32
    have hfz32_1:=blk_frozen HGz32 1
    have hfz32_2:=blk_frozen HGz32 2
    clear HGz32 hgz32
    have p487 : 0 ≤ ((ji9) : Int):=of_decide_eq_true (by first|(with_reducible assumption)|assumption)
    have q487 : (ji9) < (s0_0.length : Int):=of_decide_eq_true (by first|(with_reducible assumption)|assumption)
    obtain ⟨ad487,e487,hx487_0⟩:=Kd.at_int HSz32_0 (ji9) p487 q487
    cases e487
    replace hx487_0:=pw_cell_below HB.out hx487_0
    replace p487:=eq_true p487
    replace q487:=eq_true q487
    go_wp2_with (first|(go_at_call 63;(with_reducible refine (pack_Reader_fail.calls g s0_0 x1001_1 x1002_1 x1001_1 21 t492 t493 w0 _ ?side1 ?side2 A31.out).mono ?_);(case side1 => repeat (first|(with_reducible first|exact HI0.out|apply IsS107.alloc|apply IsS107.drewN|apply IsS107.drew|apply IsS107.set_1|apply IsS107.set_2)|exact HI0.out));(case side2 => repeat (first|(with_reducible first|exact HB.out|apply below_alloc|apply pw_below_drewN|apply below_drew1|refine below_set ?_ (IsS107.ge HI0.out))|exact HB.out));rintro e w33 ⟨rfl,hi,hb,hk⟩;have n0_:=Aside0.mk (KeepBut.trans (by repeat (first|(with_reducible first|exact HK.out|apply KeepBut.set_|apply keep_drewN|apply keep_drew|apply keep_alloc)|exact HK.out)) hk (.inl rfl));have n1_:=Aside0.mk (hb);have n2_:=Aside0.mk (hi);clear HK;clear HB;clear HI0;have HK:=n0_;have HB:=n1_;have HI0:=n2_;clear n0_ n1_ n2_;(try clear hb);(try clear hb2);(try clear hk);(try clear hi)))
    repeat (go_quiet (first|(go_at_call 63;(with_reducible refine (pack_Reader_fail.calls g s0_0 x1001_1 x1002_1 x1001_1 21 t492 t493 w0 _ ?side1 ?side2 A31.out).mono ?_);(case side1 => repeat (first|(with_reducible first|exact HI0.out|apply IsS107.alloc|apply IsS107.drewN|apply IsS107.drew|apply IsS107.set_1|apply IsS107.set_2)|exact HI0.out));(case side2 => repeat (first|(with_reducible first|exact HB.out|apply below_alloc|apply pw_below_drewN|apply below_drew1|refine below_set ?_ (IsS107.ge HI0.out))|exact HB.out));rintro e w33 ⟨rfl,hi,hb,hk⟩;have n0_:=Aside0.mk (KeepBut.trans (by repeat (first|(with_reducible first|exact HK.out|apply KeepBut.set_|apply keep_drewN|apply keep_drew|apply keep_alloc)|exact HK.out)) hk (.inl rfl));have n1_:=Aside0.mk (hb);have n2_:=Aside0.mk (hi);clear HK;clear HB;clear HI0;have HK:=n0_;have HB:=n1_;have HI0:=n2_;clear n0_ n1_ n2_;(try clear hb);(try clear hb2);(try clear hk);(try clear hi)));try go_wp2_with (first|(go_at_call 63;(with_reducible refine (pack_Reader_fail.calls g s0_0 x1001_1 x1002_1 x1001_1 21 t492 t493 w0 _ ?side1 ?side2 A31.out).mono ?_);(case side1 => repeat (first|(with_reducible first|exact HI0.out|apply IsS107.alloc|apply IsS107.drewN|apply IsS107.drew|apply IsS107.set_1|apply IsS107.set_2)|exact HI0.out));(case side2 => repeat (first|(with_reducible first|exact HB.out|apply below_alloc|apply pw_below_drewN|apply below_drew1|refine below_set ?_ (IsS107.ge HI0.out))|exact HB.out));rintro e w33 ⟨rfl,hi,hb,hk⟩;have n0_:=Aside0.mk (KeepBut.trans (by repeat (first|(with_reducible first|exact HK.out|apply KeepBut.set_|apply keep_drewN|apply keep_drew|apply keep_alloc)|exact HK.out)) hk (.inl rfl));have n1_:=Aside0.mk (hb);have n2_:=Aside0.mk (hi);clear HK;clear HB;clear HI0;have HK:=n0_;have HB:=n1_;have HI0:=n2_;clear n0_ n1_ n2_;(try clear hb);(try clear hb2);(try clear hk);(try clear hi))))
    go_ret
    exact ⟨by first|rfl|(simp [errW_none,errW_some] <;> rfl)|(simp only [← hji9,← hji12,← hji14];first|rfl|(simp [errW_none,errW_some] <;> rfl))|(simp [*,errW_none,errW_some] <;> rfl),by repeat (first|(with_reducible first|exact HI0.out|apply IsS107.alloc|apply IsS107.drewN|apply IsS107.drew|apply IsS107.set_1|apply IsS107.set_2)|exact HI0.out),by repeat (first|(with_reducible first|exact HB.out|apply below_alloc|apply pw_below_drewN|apply below_drew1|refine below_set ?_ (IsS107.ge HI0.out))|exact HB.out),by repeat (first|(with_reducible first|exact HK.out|apply KeepBut.set_|apply keep_drewN|apply keep_drew|apply keep_alloc)|exact HK.out)⟩
   rw [if_pos c17] at H
   have c17b0 : decide (0 < x11_1) = true:=decide_eq_true c17
   clear c17
   by_cases c18 : (rd s0_0 (ji9)) = 0
   ·rw [if_pos c18] at H
    have c18b0 : ((rd s0_0 (ji9)) == 0) = true:=beq_iff_eq.mpr c18
    have c18b1 : ((rd s0_0 (ji9)) != 0) = false:=bne_eq_false_iff_eq.mpr c18
    clear c18
    replace H:=Option.bind_eq_some_iff.mp H
    obtain ⟨⟨t488,t489⟩,A190,H⟩:=H
    replace H : (some (0,t488,t489)) = some (r1,r2,r3):=H
    have A19:=Aside0.mk A190
    clear A190
    simp only [Option.some.injEq,Prod.mk.injEq] at H
    obtain ⟨rfl,rfl,rfl⟩:=H
    obtain ⟨ASz20_0,cSz20_0,HGz20,hgz20,HSz20_0⟩:=HI0.out
    have hcz20_0:=cellS107_0 HGz20
    have hcz20_1:=cellS107_1 HGz20
    have hcz20_2:=cellS107_2 HGz20
    have hfz20_1:=blk_frozen HGz20 1
    have hfz20_2:=blk_frozen HGz20 2
    clear HGz20 hgz20
    have p487 : 0 ≤ ((ji9) : Int):=of_decide_eq_true (by first|(with_reducible assumption)|assumption)
    have q487 : (ji9) < (s0_0.length : Int):=of_decide_eq_true (by first|(with_reducible assumption)|assumption)
    obtain ⟨ad487,e487,hx487_0⟩:=Kd.at_int HSz20_0 (ji9) p487 q487
    cases e487
    replace hx487_0:=pw_cell_below HB.out hx487_0
    replace p487:=eq_true p487
    replace q487:=eq_true q487
    go_wp2_with (first|(go_at_call 63;(with_reducible refine (pack_Reader_fail.calls g s0_0 x1001_1 x1002_1 x1001_1 21 t488 t489 w0 _ ?side1 ?side2 A19.out).mono ?_);(case side1 => repeat (first|(with_reducible first|exact HI0.out|apply IsS107.alloc|apply IsS107.drewN|apply IsS107.drew|apply IsS107.set_1|apply IsS107.set_2)|exact HI0.out));(case side2 => repeat (first|(with_reducible first|exact HB.out|apply below_alloc|apply pw_below_drewN|apply below_drew1|refine below_set ?_ (IsS107.ge HI0.out))|exact HB.out));rintro e w21 ⟨rfl,hi,hb,hk⟩;have n0_:=Aside0.mk (KeepBut.trans (by repeat (first|(with_reducible first|exact HK.out|apply KeepBut.set_|apply keep_drewN|apply keep_drew|apply keep_alloc)|exact HK.out)) hk (.inl rfl));have n1_:=Aside0.mk (hb);have n2_:=Aside0.mk (hi);clear HK;clear HB;clear HI0;have HK:=n0_;have HB:=n1_;have HI0:=n2_;clear n0_ n1_ n2_;(try clear hb);(try clear hb2);(try clear hk);(try clear hi)))
    repeat (go_quiet (first|(go_at_call 63;(with_reducible refine (pack_Reader_fail.calls g s0_0 x1001_1 x1002_1 x1001_1 21 t488 t489 w0 _ ?side1 ?side2 A19.out).mono ?_);(case side1 => repeat (first|(with_reducible first|exact HI0.out|apply IsS107.alloc|apply IsS107.drewN|apply IsS107.drew|apply IsS107.set_1|apply IsS107.set_2)|exact HI0.out));(case side2 => repeat (first|(with_reducible first|exact HB.out|apply below_alloc|apply pw_below_drewN|apply below_drew1|refine below_set ?_ (IsS107.ge HI0.out))|exact HB.out));rintro e w21 ⟨rfl,hi,hb,hk⟩;have n0_:=Aside0.mk (KeepBut.trans (by repeat (first|(with_reducible first|exact HK.out|apply KeepBut.set_|apply keep_drewN|apply keep_drew|apply keep_alloc)|exact HK.out)) hk (.inl rfl));have n1_:=Aside0.mk (hb);have n2_:=Aside0.mk (hi);clear HK;clear HB;clear HI0;have HK:=n0_;have HB:=n1_;have HI0:=n2_;clear n0_ n1_ n2_;(try clear hb);(try clear hb2);(try clear hk);(try clear hi)));try go_wp2_with (first|(go_at_call 63;(with_reducible refine (pack_Reader_fail.calls g s0_0 x1001_1 x1002_1 x1001_1 21 t488 t489 w0 _ ?side1 ?side2 A19.out).mono ?_);(case side1 => repeat (first|(with_reducible first|exact HI0.out|apply IsS107.alloc|apply IsS107.drewN|apply IsS107.drew|apply IsS107.set_1|apply IsS107.set_2)|exact HI0.out));(case side2 => repeat (first|(with_reducible first|exact HB.out|apply below_alloc|apply pw_below_drewN|apply below_drew1|refine below_set ?_ (IsS107.ge HI0.out))|exact HB.out));rintro e w21 ⟨rfl,hi,hb,hk⟩;have n0_:=Aside0.mk (KeepBut.trans (by repeat (first|(with_reducible first|exact HK.out|apply KeepBut.set_|apply keep_drewN|apply keep_drew|apply keep_alloc)|exact HK.out)) hk (.inl rfl));have n1_:=Aside0.mk (hb);have n2_:=Aside0.mk (hi);clear HK;clear HB;clear HI0;have HK:=n0_;have HB:=n1_;have HI0:=n2_;clear n0_ n1_ n2_;(try clear hb);(try clear hb2);(try clear hk);(try clear hi))))
    go_ret
    exact ⟨by first|rfl|(simp [errW_none,errW_some] <;> rfl)|(simp only [← hji9,← hji12,← hji14];first|rfl|(simp [errW_none,errW_some] <;> rfl))|(simp [*,errW_none,errW_some] <;> rfl),by repeat (first|(with_reducible first|exact HI0.out|apply IsS107.alloc|apply IsS107.drewN|apply IsS107.drew|apply IsS107.set_1|apply IsS107.set_2)|exact HI0.out),by repeat (first|(with_reducible first|exact HB.out|apply below_alloc|apply pw_below_drewN|apply below_drew1|refine below_set ?_ (IsS107.ge HI0.out))|exact HB.out),by repeat (first|(with_reducible first|exact HK.out|apply KeepBut.set_|apply keep_drewN|apply keep_drew|apply keep_alloc)|exact HK.out)⟩
   rw [if_neg c18] at H
   have c18b0 : ((rd s0_0 (ji9)) == 0) = false:=beq_eq_false_iff_ne.mpr c18
   have c18b1 : ((rd s0_0 (ji9)) != 0) = true:=bne_iff_ne.mpr c18
   by_cases c22 : x11_1 = 9
   rotate_left
   ·rw [if_neg c22] at H
    have c22b0 : (x11_1 == 9) = false:=beq_eq_false_iff_ne.mpr c22
    have c22b1 : (x11_1 != 9) = true:=bne_iff_ne.mpr c22
    simp only [Option.some.injEq,Prod.mk.injEq] at H
    obtain ⟨rfl,rfl,rfl⟩:=H
    obtain ⟨ASz28_0,cSz28_0,HGz28,hgz28,HSz28_0⟩:=HI0.out
    have hcz28_0:=cellS107_0 HGz28
    have hcz28_1:=cellS107_1 HGz28
    have hcz28_2:=cellS107_2 HGz28
    have hfz28_1:=blk_frozen HGz28 1
    have hfz28_2:=blk_frozen HGz28 2
    clear HGz28 hgz28
    have p487 : 0 ≤ ((ji9) : Int):=of_decide_eq_true (by first|(with_reducible assumption)|assumption)
    have q487 : (ji9) < (s0_0.length : Int):=of_decide_eq_true (by first|(with_reducible assumption)|assumption)
    obtain ⟨ad487,e487,hx487_0⟩:=Kd.at_int HSz28_0 (ji9) p487 q487
    cases e487
    replace hx487_0:=pw_cell_below HB.out hx487_0
    replace p487:=eq_true p487
    replace q487:=eq_true q487
    go_wp2
    repeat (go_quiet (fail);try go_wp2)
    go_ret
    exact ⟨by first|rfl|(simp [errW_none,errW_some] <;> rfl)|(simp only [← hji9,← hji12,← hji14];first|rfl|(simp [errW_none,errW_some] <;> rfl))|(simp [*,errW_none,errW_some] <;> rfl),by repeat (first|(with_reducible first|exact HI0.out|apply IsS107.alloc|apply IsS107.drewN|apply IsS107.drew|apply IsS107.set_1|apply IsS107.set_2)|exact HI0.out),by repeat (first|(with_reducible first|exact HB.out|apply below_alloc|apply pw_below_drewN|apply below_drew1|refine below_set ?_ (IsS107.ge HI0.out))|exact HB.out),by repeat (first|(with_reducible first|exact HK.out|apply KeepBut.set_|apply keep_drewN|apply keep_drew|apply keep_alloc)|exact HK.out)⟩
   rw [if_pos c22] at H
   have c22b0 : (x11_1 == 9) = true:=beq_iff_eq.mpr c22
   have c22b1 : (x11_1 != 9) = false:=bne_eq_false_iff_eq.mpr c22
   clear c22
   by_cases c23 : (rd s0_0 (ji9)) > 1
   rotate_left
   ·rw [if_neg c23] at H
    have c23b0 : decide (1 < (rd s0_0 (ji9))) = false:=decide_eq_false c23
    clear c23
    simp only [Option.some.injEq,Prod.mk.injEq] at H
    obtain ⟨rfl,rfl,rfl⟩:=H
    obtain ⟨ASz27_0,cSz27_0,HGz27,hgz27,HSz27_0⟩:=HI0.out
    have hcz27_0:=cellS107_0 HGz27
    have hcz27_1:=cellS107_1 HGz27
    have hcz27_2:=cellS107_2 HGz27
    have hfz27_1:=blk_frozen HGz27 1
    have hfz27_2:=blk_frozen HGz27 2
    clear HGz27 hgz27
    have p487 : 0 ≤ ((ji9) : Int):=of_decide_eq_true (by first|(with_reducible assumption)|assumption)
    have q487 : (ji9) < (s0_0.length : Int):=of_decide_eq_true (by first|(with_reducible assumption)|assumption)
    obtain ⟨ad487,e487,hx487_0⟩:=Kd.at_int HSz27_0 (ji9) p487 q487
    cases e487
    replace hx487_0:=pw_cell_below HB.out hx487_0
    replace p487:=eq_true p487
    replace q487:=eq_true q487
    go_wp2
    repeat (go_quiet (fail);try go_wp2)
    go_ret
    exact ⟨by first|rfl|(simp [errW_none,errW_some] <;> rfl)|(simp only [← hji9,← hji12,← hji14];first|rfl|(simp [errW_none,errW_some] <;> rfl))|(simp [*,errW_none,errW_some] <;> rfl),by repeat (first|(with_reducible first|exact HI0.out|apply IsS107.alloc|apply IsS107.drewN|apply IsS107.drew|apply IsS107.set_1|apply IsS107.set_2)|exact HI0.out),by repeat (first|(with_reducible first|exact HB.out|apply below_alloc|apply pw_below_drewN|apply below_drew1|refine below_set ?_ (IsS107.ge HI0.out))|exact HB.out),by repeat (first|(with_reducible first|exact HK.out|apply KeepBut.set_|apply keep_drewN|apply keep_drew|apply keep_alloc)|exact HK.out)⟩
   rw [if_pos c23] at H
   have c23b0 : decide (1 < (rd s0_0 (ji9))) = true:=decide_eq_true c23
   clear c23
   replace H:=Option.bind_eq_some_iff.mp H
   obtain ⟨⟨t490,t491⟩,A240,H⟩:=H
   replace H : (some (0,t490,t491)) = some (r1,r2,r3):=H
   have A24:=Aside0.mk A240
   clear A240
   simp only [Option.some.injEq,Prod.mk.injEq] at H
   obtain ⟨rfl,rfl,rfl⟩:=H
   obtain ⟨ASz25_0,cSz25_0,HGz25,hgz25,HSz25_0⟩:=HI0.out
   have hcz25_0:=cellS107_0 HGz25
   have hcz25_1:=cellS107_1 HGz25
   have hcz25_2:=cellS107_2 HGz25
   have hfz25_1:=blk_frozen HGz25 1
   have hfz25_2:=blk_frozen HGz25 2
   clear HGz25 hgz25
   have p487 : 0 ≤ ((ji9) : Int):=of_decide_eq_true (by first|(with_reducible assumption)|assumption)
   have q487 : (ji9) < (s0_0.length : Int):=of_decide_eq_true (by first|(with_reducible assumption)|assumption)
   obtain ⟨ad487,e487,hx487_0⟩:=Kd.at_int HSz25_0 (ji9) p487 q487
   cases e487
   replace hx487_0:=pw_cell_below HB.out hx487_0
   replace p487:=eq_true p487
   replace q487:=eq_true q487
   go_wp2_with (first|(go_at_call 63;(with_reducible refine (pack_Reader_fail.calls g s0_0 x1001_1 x1002_1 x1001_1 21 t490 t491 w0 _ ?side1 ?side2 A24.out).mono ?_);(case side1 => repeat (first|(with_reducible first|exact HI0.out|apply IsS107.alloc|apply IsS107.drewN|apply IsS107.drew|apply IsS107.set_1|apply IsS107.set_2)|exact HI0.out));(case side2 => repeat (first|(with_reducible first|exact HB.out|apply below_alloc|apply pw_below_drewN|apply below_drew1|refine below_set ?_ (IsS107.ge HI0.out))|exact HB.out));rintro e w26 ⟨rfl,hi,hb,hk⟩;have n0_:=Aside0.mk (KeepBut.trans (by repeat (first|(with_reducible first|exact HK.out|apply KeepBut.set_|apply keep_drewN|apply keep_drew|apply keep_alloc)|exact HK.out)) hk (.inl rfl));have n1_:=Aside0.mk (hb);have n2_:=Aside0.mk (hi);clear HK;clear HB;clear HI0;have HK:=n0_;have HB:=n1_;have HI0:=n2_;clear n0_ n1_ n2_;(try clear hb);(try clear hb2);(try clear hk);(try clear hi)))
   repeat (go_quiet (first|(go_at_call 63;(with_reducible refine (pack_Reader_fail.calls g s0_0 x1001_1 x1002_1 x1001_1 21 t490 t491 w0 _ ?side1 ?side2 A24.out).mono ?_);(case side1 => repeat (first|(with_reducible first|exact HI0.out|apply IsS107.alloc|apply IsS107.drewN|apply IsS107.drew|apply IsS107.set_1|apply IsS107.set_2)|exact HI0.out));(case side2 => repeat (first|(with_reducible first|exact HB.out|apply below_alloc|apply pw_below_drewN|apply below_drew1|refine below_set ?_ (IsS107.ge HI0.out))|exact HB.out));rintro e w26 ⟨rfl,hi,hb,hk⟩;have n0_:=Aside0.mk (KeepBut.trans (by repeat (first|(with_reducible first|exact HK.out|apply KeepBut.set_|apply keep_drewN|apply keep_drew|apply keep_alloc)|exact HK.out)) hk (.inl rfl));have n1_:=Aside0.mk (hb);have n2_:=Aside0.mk (hi);clear HK;clear HB;clear HI0;have HK:=n0_;have HB:=n1_;have HI0:=n2_;clear n0_ n1_ n2_;(try clear hb);(try clear hb2);(try clear hk);(try clear hi)));try go_wp2_with (first|(go_at_call 63;(with_reducible refine (pack_Reader_fail.calls g s0_0 x1001_1 x1002_1 x1001_1 21 t490 t491 w0 _ ?side1 ?side2 A24.out).mono ?_);(case side1 => repeat (first|(with_reducible first|exact HI0.out|apply IsS107.alloc|apply IsS107.drewN|apply IsS107.drew|apply IsS107.set_1|apply IsS107.set_2)|exact HI0.out));(case side2 => repeat (first|(with_reducible first|exact HB.out|apply below_alloc|apply pw_below_drewN|apply below_drew1|refine below_set ?_ (IsS107.ge HI0.out))|exact HB.out));rintro e w26 ⟨rfl,hi,hb,hk⟩;have n0_:=Aside0.mk (KeepBut.trans (by repeat (first|(with_reducible first|exact HK.out|apply KeepBut.set_|apply keep_drewN|apply keep_drew|apply keep_alloc)|exact HK.out)) hk (.inl rfl));have n1_:=Aside0.mk (hb);have n2_:=Aside0.mk (hi);clear HK;clear HB;clear HI0;have HK:=n0_;have HB:=n1_;have HI0:=n2_;clear n0_ n1_ n2_;(try clear hb);(try clear hb2);(try clear hk);(try clear hi))))
   go_ret
   exact ⟨by first|rfl|(simp [errW_none,errW_some] <;> rfl)|(simp only [← hji9,← hji12,← hji14];first|rfl|(simp [errW_none,errW_some] <;> rfl))|(simp [*,errW_none,errW_some] <;> rfl),by repeat (first|(with_reducible first|exact HI0.out|apply IsS107.alloc|apply IsS107.drewN|apply IsS107.drew|apply IsS107.set_1|apply IsS107.set_2)|exact HI0.out),by repeat (first|(with_reducible first|exact HB.out|apply below_alloc|apply pw_below_drewN|apply below_drew1|refine below_set ?_ (IsS107.ge HI0.out))|exact HB.out),by repeat (first|(with_reducible first|exact HK.out|apply KeepBut.set_|apply keep_drewN|apply keep_drew|apply keep_alloc)|exact HK.out)⟩
end Go.Proofs.YtniolbolfclhkaaDoor.Q
namespace Go.Proofs.YtniolbolfclhkaaDoor.Pl
def numL (n : Nat) : List Int := if n < 128 then [(n : Int)] else ((n % 128 + 128 : Nat) : Int) :: numL (n / 128)
termination_by n
theorem numL_lt {n : Nat} (h : n < 128) : numL n = [(n : Int)] := by rw [numL, if_pos h]
theorem numL_ge {n : Nat} (h : ¬ n < 128) : numL n = ((n % 128 + 128 : Nat) : Int) :: numL (n / 128) := by rw [numL, if_neg h]
theorem numL_len : ∀ (k n : Nat), n < 128 ^ (k + 1) → (numL n).length ≤ k + 1
  | 0, n, h => by rw [numL_lt (by simpa using h)]; simp
  | k + 1, n, h => by
    by_cases hn : n < 128
    · rw [numL_lt hn]; simp
    · rw [numL_ge hn, List.length_cons]
      have : n / 128 < 128 ^ (k + 1) := by
        rw [Nat.div_lt_iff_lt_mul (by decide)]
        rw [Nat.pow_succ] at h
        exact h
      have := numL_len k (n / 128) this
      omega
theorem numL_pos (n : Nat) : 0 < (numL n).length := by
  by_cases hn : n < 128
  · rw [numL_lt hn]; simp
  · rw [numL_ge hn]; simp
def rdN : Nat → Bool → List Int → Option (Nat × List Int)
  | 0, _, _ => none
  | _ + 1, _, [] => none
  | f + 1, first, b :: r => if b ≥ 128 then (match rdN f false r with | none => none | some x => some ((b - 128).toNat + 128 * x.1, x.2))
    else if (first = false ∧ b = 0) ∨ (f = 0 ∧ b > 1) then none else some (b.toNat, r)
theorem rdN_of : ∀ (f n : Nat) (first : Bool) (rest : List Int), n < 2 ^ (7 * f + 1) → (first = true ∨ 0 < n) → rdN (f + 1) first (numL n ++ rest) = some (n, rest)
  | 0, n, first, rest, h, h0 => by
    have hn : n < 2 := by simpa using h
    rw [numL_lt (by omega)]
    simp only [List.cons_append, List.nil_append, rdN]
    rw [if_neg (by omega), if_neg (by rintro (⟨e, e2⟩ | e); (rcases h0 with h0 | h0; (rw [e] at h0; cases h0); omega); omega)]
    simp
  | f + 1, n, first, rest, h, h0 => by
    by_cases hn : n < 128
    · rw [numL_lt hn]
      simp only [List.cons_append, List.nil_append, rdN]
      rw [if_neg (by omega), if_neg (by rintro (⟨e, e2⟩ | e); (rcases h0 with h0 | h0; (rw [e] at h0; cases h0); omega); omega)]
      simp
    · rw [numL_ge hn, List.cons_append]
      have hq : n / 128 < 2 ^ (7 * f + 1) := by
        rw [Nat.div_lt_iff_lt_mul (by decide)]
        have e : 2 ^ (7 * (f + 1) + 1) = 2 ^ (7 * f + 1) * 128 := by rw [show 7 * (f + 1) + 1 = 7 * f + 1 + 7 by omega, Nat.pow_add]
        omega
      have := rdN_of f (n / 128) false rest hq (.inr (by omega))
      rw [rdN, if_pos (by omega), this]
      simp only [Option.some.injEq, Prod.mk.injEq, and_true]
      omega
abbrev RS := Option (List Int)
def rUint (st : RS) : Nat × RS := match st with
  | none => (0, none)
  | some l => match rdN 10 true l with | none => (0, none) | some x => (x.1, some x.2)
def rByte (st : RS) : Int × RS := match st with
  | none => (0, none)
  | some [] => (0, none)
  | some (b :: r) => (b, some r)
def rCount (most : Nat) (st : RS) : Nat × RS := match rUint st with
  | (_, none) => (0, none)
  | (n, some r) => if n ≤ most ∧ n ≤ 4096 then (n, some r) else (0, none)
def rTextL (most : Nat) (st : RS) : List Int × RS := match rUint st with
  | (_, none) => ([], none)
  | (n, some r) => if n ≤ most ∧ n ≤ r.length then (r.take n, some (r.drop n)) else ([], none)
theorem rUint_of {n : Nat} (h : n < 2 ^ 64) (rest : List Int) : rUint (some (numL n ++ rest)) = (n, some rest) := by
  have := rdN_of 9 n true rest h (.inl rfl)
  unfold rUint
  show (match rdN 10 true (numL n ++ rest) with | none => (0, none) | some x => (x.1, some x.2)) = _
  rw [this]
theorem rCount_of {n most : Nat} (h : n ≤ most) (h2 : n ≤ 4096) (rest : List Int) : rCount most (some (numL n ++ rest)) = (n, some rest) := by
  unfold rCount
  rw [rUint_of (by omega)]
  exact if_pos ⟨h, h2⟩
theorem rTextL_of {s : List Int} {most : Nat} (h : s.length ≤ most) (h2 : s.length < 2 ^ 64) (rest : List Int) : rTextL most (some (numL s.length ++ (s ++ rest))) = (s, some rest) := by
  unfold rTextL
  rw [rUint_of h2]
  simp only
  rw [if_pos ⟨h, by simp⟩]
  simp
end Go.Proofs.YtniolbolfclhkaaDoor.Pl
namespace Go.Proofs.YtniolbolfclhkaaDoor.Q
open Go.RowKit Go.Proofs.YtniolbolfclhkaaDoorW.PrintWords Go.Proofs.YtniolbolfclhkaaDoorW.PrintLast Go.Proofs.YtniolbolfclhkaaDoorW.PrintMore Go.Proofs.YtniolbolfclhkaaDoor.Pl
set_option linter.unusedVariables false
set_option linter.unusedSimpArgs false
theorem or128 : ∀ a : Nat, a < 256 → a ||| 128 = a % 128 + 128 := by decide +kernel
theorem and127 : ∀ a : Nat, a < 256 → a &&& 127 = a % 128 := by decide +kernel
theorem or_byte {n : Nat} : Go.bits .or .u8 ((n : Int) % 256) 128 = ((n % 128 + 128 : Nat) : Int) := by
  rw [u8_or _ _ (by omega) (by omega) (by decide) (by decide)]
  rw [show ((128 : Int).toNat) = 128 from rfl, or128 _ (by omega)]
  omega
theorem number_loop : ∀ (k n : Nat) (acc : List Int), n < 128 ^ (k + 1) → acc.length + k + 1 < 140737488355328 → pack_number.l0 (k + 1) (n : Int) acc = some (acc ++ numL n)
  | k, n, acc, h, ha => by
    by_cases hn : n < 128
    · simp only [pack_number.l0]
      rw [if_neg (by omega), if_pos (by omega), numL_lt hn, Int.emod_eq_of_lt (by omega) (by omega)]
    · cases k with
      | zero => simp at h; omega
      | succ k =>
        have hq : n / 128 < 128 ^ (k + 1) := by
          rw [Nat.div_lt_iff_lt_mul (by decide)]
          rw [Nat.pow_succ] at h
          exact h
        have ih := number_loop k (n / 128) (acc ++ [((n % 128 + 128 : Nat) : Int)]) hq (by rw [List.length_append, List.length_singleton]; omega)
        rw [pack_number.l0, if_pos (by omega), if_pos (by omega), or_byte, show (n : Int) / 128 = ((n / 128 : Nat) : Int) by omega, ih, numL_ge hn]
        simp
theorem number_f {n : Nat} (h : n < 2 ^ 64) : pack_number.f 10 (n : Int) = some (numL n) := by
  have := number_loop 9 n [] (Nat.lt_of_lt_of_le h (by decide)) (by simp)
  unfold pack_number.f
  rw [this]
  rfl
def RSt (inp : List Int) (pos err : Int) : RS → Prop
  | none => err ≠ 0 ∧ 0 ≤ pos ∧ pos ≤ inp.length
  | some l => err = 0 ∧ 0 ≤ pos ∧ pos ≤ inp.length ∧ inp.drop pos.toNat = l
def Bytes (l : List Int) : Prop := ∀ x ∈ l, 0 ≤ x ∧ x < 256
theorem Bytes.drop {l : List Int} (h : Bytes l) (n : Nat) : Bytes (l.drop n) := fun x hx => h x (List.mem_of_mem_drop hx)
theorem rd_drop (l : List Int) (n : Nat) (b : Int) (r : List Int) (h : l.drop n = b :: r) : n < l.length ∧ rd l (n : Int) = b ∧ l.drop (n + 1) = r := by
  have hl : n < l.length := by
    have := congrArg List.length h
    rw [List.length_drop, List.length_cons] at this
    omega
  rw [List.drop_eq_getElem_cons hl] at h
  injection h with h1 h2
  refine ⟨hl, ?_, h2⟩
  unfold rd
  rw [Int.toNat_natCast, List.getD_eq_getElem?_getD, List.getElem?_eq_getElem hl]
  exact h1
theorem and_byte {b : Int} (h0 : 0 ≤ b) (h1 : b < 256) : Go.bits .and .u8 b 127 = ((b.toNat % 128 : Nat) : Int) := by
  rw [u8_and _ _ h0 h1 (by decide) (by decide), show ((127 : Int).toNat) = 127 from rfl, and127 _ (by omega)]
theorem or_shift {v d i : Nat} (hv : v < 128 ^ i) (hs : v + d * 128 ^ i < 2 ^ 64) : Go.bits .or .u64 (v : Int) ((d * 128 ^ i : Nat) : Int) = ((v + d * 128 ^ i : Nat) : Int) := by
  rw [u64_or _ _ (by omega) (by omega) (by omega) (by omega), Int.toNat_natCast, Int.toNat_natCast]
  have e : (128 : Nat) ^ i = 2 ^ (7 * i) := by rw [Nat.pow_mul]
  rw [e] at hv ⊢
  rw [Nat.or_comm, Nat.mul_comm d, ← Nat.two_pow_add_eq_or_of_lt hv]
  congr 1
  omega
theorem shl_byte {b : Int} {i : Nat} (h0 : 0 ≤ b) (h1 : b < 256) (hi : i ≤ 9) (hs : b.toNat % 128 * 128 ^ i < 2 ^ 64) : shl .u64 (IntKind.u64.wrap (Go.bits .and .u8 b 127)) (7 * (i : Int)) = ((b.toNat % 128 * 128 ^ i : Nat) : Int) := by
  rw [and_byte h0 h1, IntKind.wrap_u64, Int.emod_eq_of_lt (by omega) (by omega)]
  unfold shl
  rw [show (7 * (i : Int)).toNat = 7 * i by omega, show min (7 * i) (IntKind.bits .u64) = 7 * i from Nat.min_eq_left (by show 7 * i ≤ 64; omega)]
  have e : ((b.toNat % 128 : Nat) : Int) * 2 ^ (7 * i) = ((b.toNat % 128 * 128 ^ i : Nat) : Int) := by
    rw [show (128 : Nat) ^ i = 2 ^ (7 * i) by rw [Nat.pow_mul]]
    push_cast
    rfl
  rw [e, IntKind.wrap_u64, Int.emod_eq_of_lt (by omega) (by omega)]
end Go.Proofs.YtniolbolfclhkaaDoor.Q
namespace Go.Proofs.YtniolbolfclhkaaDoor.Q
open Go.RowKit Go.Proofs.YtniolbolfclhkaaDoorW.PrintWords Go.Proofs.YtniolbolfclhkaaDoorW.PrintLast Go.Proofs.YtniolbolfclhkaaDoorW.PrintMore Go.Proofs.YtniolbolfclhkaaDoor.Pl
set_option linter.unusedVariables false
set_option linter.unusedSimpArgs false
theorem info_parts {P : Program} {t : TypeId} {z : Option Value} {s b : Nat} (h : (P.info? t).map (fun i => (i.zero, i.size, i.bytes)) = some (z, s, b)) : ∃ i, P.info? t = some i ∧ i.zero = z ∧ i.size = s ∧ i.bytes = b := by
  obtain ⟨i, hi, hz⟩ := Option.map_eq_some_iff.1 h
  simp only [Prod.mk.injEq] at hz
  exact ⟨i, hi, hz.1, hz.2.1, hz.2.2⟩
structure Kept5 (g : Nat) (w w' : World) : Prop where
  size : w.heap.size ≤ w'.heap.size
  keep : ∀ k o, w.heap[k]? = some o → k ≠ g → (∀ c f, o ≠ .cells c 5 f) → w'.heap[k]? = some o
theorem Kept5.refl (g : Nat) (w : World) : Kept5 g w w := ⟨Nat.le_refl _, fun _ _ h _ _ => h⟩
theorem Kept5.trans {g : Nat} {a b c : World} (h : Kept5 g a b) (k : Kept5 g b c) : Kept5 g a c := ⟨Nat.le_trans h.size k.size, fun i o hi hg hn => k.keep i o (h.keep i o hi hg hn) hg hn⟩
theorem Kept5.of_below {g : Nat} {w w' : World} (h : Below w.heap.size w w') : Kept5 g w w' := ⟨h.size, fun k o hk _ _ => (h.block k (blk_lt hk)).trans hk⟩
theorem Kept5.set {g : Nat} {w w' : World} (h : Kept5 g w w') (j : Nat) (u : Value) : Kept5 g w (w'.setCell ⟨g, j, none⟩ u) :=
  ⟨by have := h.size; simpa [World.setCell] using this, fun k o hk hg hn => (Below.heap_setCell w' ⟨g, j, none⟩ u k hg).trans (h.keep k o hk hg hn)⟩
theorem Kept5.grown {g : Nat} {w w1 w2 : World} {row : Option Nat} (h : Kept5 g w w1) (hg : w1.grownBy w2 row) (ht : ∀ k, row = some k → ∃ c, w1.heap[k]? = some (.cells c 5 (0, 0))) : Kept5 g w w2 :=
  ⟨Nat.le_trans h.size hg.size, fun k o hk hne hn => by
    have h1 := h.keep k o hk hne hn
    refine (hg.block k (blk_lt h1) (fun e => ?_)).trans h1
    obtain ⟨c, hc⟩ := ht k e.symm
    rw [h1] at hc
    exact hn c (0, 0) (Option.some.inj hc)⟩
structure WrIs (w : World) (base g : Nat) (lim : Int) (out : List Int) (err : Int) : Prop where
  ge : base ≤ g
  cells : ∃ A c, w.heap[g]? = some (.cells #[.int .i64 lim, .slice A out.length c, .int .i64 err] 89 (0, 0)) ∧ w.ownsRow base 5 1 (.slice A out.length c) out.length (nums .u8 out)
theorem drew_below (w : World) : Below w.heap.size w w.drew := below_drew1 (Below.refl _ _)
theorem WrIs.below {w w' : World} {base g : Nat} {lim err : Int} {out : List Int} (h : WrIs w base g lim out err) (hb : Below w.heap.size w w') : WrIs w' base g lim out err := by
  obtain ⟨A, c, h1, h2⟩ := h.cells
  exact ⟨h.ge, A, c, (hb.block g (blk_lt h1)).trans h1, own_move h2 (fun k hk => hb.block k (own_lt h2 k hk))⟩
structure WrTo (w : World) (base g : Nat) (lim : Int) (out : List Int) (w' : World) : Prop where
  is : WrIs w' base g lim out 0
  below : Below base w w'
  kept : Kept5 g w w'
theorem WrTo.start {w : World} {base g : Nat} {lim : Int} {out : List Int} (h : WrIs w base g lim out 0) : WrTo w base g lim out w := ⟨h, Below.refl _ _, Kept5.refl _ _⟩
theorem WrTo.trans {a b c : World} {base g : Nat} {lim : Int} {o1 o2 : List Int} (h : WrTo a base g lim o1 b) (k : WrTo b base g lim o2 c) : WrTo a base g lim o2 c := ⟨k.is, h.below.trans k.below, h.kept.trans k.kept⟩
theorem below_low {b c : Nat} {w W : World} (h : Below c w W) (hb : b ≤ c) : Below b w W := ⟨h.os, h.tape, h.output, h.size, fun k hk => h.block k (by omega)⟩
theorem WrTo.quiet {a b c : World} {base g : Nat} {lim : Int} {o1 : List Int} (h : WrTo a base g lim o1 b) (k : Below b.heap.size b c) (hb : base ≤ b.heap.size) : WrTo a base g lim o1 c := ⟨h.is.below k, h.below.trans (below_low k hb), h.kept.trans (Kept5.of_below k)⟩
theorem WrIs.base_le {w : World} {base g : Nat} {lim err : Int} {out : List Int} (h : WrIs w base g lim out err) : base ≤ w.heap.size := by
  obtain ⟨A, c, h1, h2⟩ := h.cells
  have := blk_lt h1
  have := h.ge
  omega
set_option maxHeartbeats 8000000 in
set_option maxRecDepth 100000 in
theorem lay_ok (w : World) (base g : Nat) (lim : Int) (out hd : List Int) (ad : Addr) (c : Nat) (text : ByteArray) (h : WrIs w base g lim out 0) (hh : ∀ j u, (nums .u8 hd)[j]? = some u → w.cell? (ad.add j) = some u)
    (hlim : lim ≤ 1048576) (hroom : ((out.length + hd.length + text.size : Nat) : Int) ≤ lim) :
    Calls Tryd.prog 51 #[.pointer (some ⟨g, 0, none⟩), .slice (some ad) hd.length c, .string text] w fun e w' => e = .returned (.tuple #[]) ∧ WrTo w base g lim (out ++ hd ++ bytesOf text) w' := by
  have hbase := h.base_le
  obtain ⟨A, co, hb, ho⟩ := h.cells
  have hu47 := Tryd.underlying51
  obtain ⟨i0, hi0, hz0, hz1, hz2⟩ := info_parts info5
  have HI := Lib.hid hi0
  have HZ := Lib.hid (And.intro hz0 (And.intro hz1 hz2))
  have hc0 := (blk_cell hb 0).trans rfl
  have hc1 := (blk_cell hb 1).trans rfl
  have hc2 := (blk_cell hb 2).trans rfl
  have hge := h.ge
  have d1 : decide (lim - (out.length : Int) < (hd.length : Int)) = false := decide_eq_false (by omega)
  have d2 : decide (lim - (out.length : Int) - (hd.length : Int) < (text.size : Int)) = false := decide_eq_false (by omega)
  have b1 : out.length + hd.length + text.size ≤ 1048576 := by omega
  have b0 : (0 : Int) ≤ lim := by omega
  have w1 : IntKind.i64.wrap (lim - (out.length : Int)) = lim - (out.length : Int) := by rw [IntKind.wrap_i64]; omega
  have w2 : IntKind.i64.wrap (lim - (out.length : Int) - (hd.length : Int)) = lim - (out.length : Int) - (hd.length : Int) := by rw [IntKind.wrap_i64]; omega
  have HW := Lib.hid h
  have HHH := Lib.hid hh
  have HB := Lib.hid hb
  have HO := Lib.hid ho
  have HRM := Lib.hid hroom
  have HB1 := Lib.hid b1
  have HBS := Lib.hid hbase
  clear h hh hb ho hi0 hz0 hz1 hz2 hroom b1 hbase
  go_enter Tryd.func51, Tryd.ntmps51
  go_upto_region 1 with fail
  refine start_ (n := 31) (S := fun w' => w'.cell? ⟨g, 0, none⟩ = some (.int .i64 lim) ∧ w'.cell? ⟨g, 1, none⟩ = some (.slice A out.length co)) (ds := []) (bl 0 31) (by kernel_rfl) rfl rfl ⟨hc0, hc1⟩ (fun hHeld => ?_)
  have hwd := drew_below w
  generalize w.drew = wd at hwd hHeld ⊢
  have HWD := Lib.hid hwd
  clear hwd hc0 hc1 hc2
  refine pure_ (i := 0) (N := some 11) (v := ?_) (a' := ?_) (bl 1 30) rfl rfl (by kernel_rfl) (fun _ _ _ h => h) (Or.inl ⟨by rfl, ?_⟩) ?_ ?_
  rotate_left
  · intro w'
    go_simp
    with_reducible rfl
  rotate_left
  · simp only [pu_]
    rfl
  refine pure_ (i := 1) (N := some 12) (v := ?_) (a' := ?_) (bl 2 29) rfl rfl (by kernel_rfl) (fun _ _ _ h => h) (Or.inl ⟨by rfl, ?_⟩) ?_ ?_
  rotate_left
  · intro w'
    go_simp
    with_reducible rfl
  rotate_left
  · simp only [pu_]
    rfl
  refine pure_ (i := 2) (N := some 13) (v := ?_) (a' := ?_) (bl 3 28) rfl rfl (by kernel_rfl) (fun _ _ _ h => h) (Or.inl ⟨by rfl, ?_⟩) ?_ ?_
  rotate_left
  · intro w'
    go_simp
    with_reducible rfl
  rotate_left
  · simp only [pu_]
    rfl
  refine pure_ (i := 3) (N := some 14) (v := ?_) (a' := ?_) (bl 4 27) rfl rfl (by kernel_rfl) (fun _ _ _ h => h) (Or.inl ⟨by rfl, ?_⟩) ?_ ?_
  rotate_left
  · intro w'
    go_simp
    with_reducible rfl
  rotate_left
  · simp only [pu_]
    rfl
  refine pure_ (i := 4) (N := some 15) (v := ?_) (a' := ?_) (bl 5 26) rfl rfl (by kernel_rfl) (fun _ _ _ h => h) (Or.inl ⟨by rfl, ?_⟩) ?_ ?_
  rotate_left
  · intro w'
    go_simp
    with_reducible rfl
  rotate_left
  · simp only [pu_]
    rfl
  refine take_ (i := 5) (N := some 16) (v := ?_) (a' := ?_) (bl 6 25) rfl rfl (by kernel_rfl) (fun _ _ _ h => h) (Or.inl ⟨by rfl, ?_⟩) hHeld ?_ ?_
  rotate_left
  · rintro w' ⟨s0, s1⟩
    go_simp
    with_reducible rfl
  rotate_left
  · simp only [pu_]
    rfl
  refine pure_ (i := 6) (N := some 17) (v := ?_) (a' := ?_) (bl 7 24) rfl rfl (by kernel_rfl) (fun _ _ _ h => h) (Or.inl ⟨by rfl, ?_⟩) ?_ ?_
  rotate_left
  · intro w'
    go_simp
    with_reducible rfl
  rotate_left
  · simp only [pu_]
    rfl
  refine pure_ (i := 7) (N := some 18) (v := ?_) (a' := ?_) (bl 8 23) rfl rfl (by kernel_rfl) (fun _ _ _ h => h) (Or.inl ⟨by rfl, ?_⟩) ?_ ?_
  rotate_left
  · intro w'
    go_simp
    with_reducible rfl
  rotate_left
  · simp only [pu_]
    rfl
  refine pure_ (i := 8) (N := some 19) (v := ?_) (a' := ?_) (bl 9 22) rfl rfl (by kernel_rfl) (fun _ _ _ h => h) (Or.inl ⟨by rfl, ?_⟩) ?_ ?_
  rotate_left
  · intro w'
    go_simp
    with_reducible rfl
  rotate_left
  · simp only [pu_]
    rfl
  refine take_ (i := 9) (N := some 20) (v := ?_) (a' := ?_) (bl 10 21) rfl rfl (by kernel_rfl) (fun _ _ _ h => h) (Or.inl ⟨by rfl, ?_⟩) hHeld ?_ ?_
  rotate_left
  · rintro w' ⟨s0, s1⟩
    go_simp
    with_reducible rfl
  rotate_left
  · simp only [pu_]
    rfl
  refine pure_ (i := 10) (N := some 21) (v := ?_) (a' := ?_) (bl 11 20) rfl rfl (by kernel_rfl) (fun _ _ _ h => h) (Or.inl ⟨by rfl, ?_⟩) ?_ ?_
  rotate_left
  · intro w'
    go_simp
    with_reducible rfl
  rotate_left
  · simp only [pu_]
    rfl
  refine pure_ (i := 11) (N := some 22) (v := ?_) (a' := ?_) (bl 12 19) rfl rfl (by kernel_rfl) (fun _ _ _ h => h) (Or.inl ⟨by rfl, ?_⟩) ?_ ?_
  rotate_left
  · intro w'
    go_simp
    with_reducible rfl
  rotate_left
  · simp only [pu_]
    rfl
  refine pure_ (i := 12) (N := some 23) (v := ?_) (a' := ?_) (bl 13 18) rfl rfl (by kernel_rfl) (fun _ _ _ h => h) (Or.inl ⟨by rfl, ?_⟩) ?_ ?_
  rotate_left
  · intro w'
    go_simp
    with_reducible rfl
  rotate_left
  · simp only [pu_]
    rfl
  refine pure_ (i := 13) (N := some 24) (v := ?_) (a' := ?_) (bl 14 17) rfl rfl (by kernel_rfl) (fun _ _ _ h => h) (Or.inl ⟨by rfl, ?_⟩) ?_ ?_
  rotate_left
  · intro w'
    go_simp
    with_reducible rfl
  rotate_left
  · simp only [pu_]
    rfl
  refine pure_ (i := 14) (N := some 25) (v := ?_) (a' := ?_) (bl 15 16) rfl rfl (by kernel_rfl) (fun _ _ _ h => h) (Or.inl ⟨by rfl, ?_⟩) ?_ ?_
  rotate_left
  · intro w'
    go_simp
    with_reducible rfl
  rotate_left
  · simp only [pu_]
    rfl
  refine pure_ (i := 15) (N := some 26) (v := ?_) (a' := ?_) (bl 16 15) rfl rfl (by kernel_rfl) (fun _ _ _ h => h) (Or.inl ⟨by rfl, ?_⟩) ?_ ?_
  rotate_left
  · intro w'
    go_simp
    with_reducible rfl
  rotate_left
  · simp only [pu_]
    rfl
  refine pure_ (i := 16) (N := some 27) (v := ?_) (a' := ?_) (bl 17 14) rfl rfl (by kernel_rfl) (fun _ _ _ h => h) (Or.inl ⟨by rfl, ?_⟩) ?_ ?_
  rotate_left
  · intro w'
    go_simp
    with_reducible rfl
  rotate_left
  · simp only [pu_]
    rfl
  refine pure_ (i := 17) (N := some 28) (v := ?_) (a' := ?_) (bl 18 13) rfl rfl (by kernel_rfl) (fun _ _ _ h => h) (Or.inl ⟨by rfl, ?_⟩) ?_ ?_
  rotate_left
  · intro w'
    go_simp
    with_reducible rfl
  rotate_left
  · simp only [pu_]
    rfl
  refine pure_ (i := 18) (N := some 29) (v := ?_) (a' := ?_) (bl 19 12) rfl rfl (by kernel_rfl) (fun _ _ _ h => h) (Or.inl ⟨by rfl, ?_⟩) ?_ ?_
  rotate_left
  · intro w'
    go_simp
    with_reducible rfl
  rotate_left
  · simp only [pu_]
    rfl
  refine take_ (i := 19) (N := some 30) (v := ?_) (a' := ?_) (bl 20 11) rfl rfl (by kernel_rfl) (fun _ _ _ h => h) (Or.inl ⟨by rfl, ?_⟩) hHeld ?_ ?_
  rotate_left
  · rintro w' ⟨s0, s1⟩
    go_simp
    with_reducible rfl
  rotate_left
  · simp only [pu_]
    rfl
  refine pure_ (i := 20) (N := some 31) (v := ?_) (a' := ?_) (bl 21 10) rfl rfl (by kernel_rfl) (fun _ _ _ h => h) (Or.inl ⟨by rfl, ?_⟩) ?_ ?_
  rotate_left
  · intro w'
    go_simp
    with_reducible rfl
  rotate_left
  · simp only [pu_]
    rfl
  refine pure_ (i := 21) (N := some 32) (v := ?_) (a' := ?_) (bl 22 9) rfl rfl (by kernel_rfl) (fun _ _ _ h => h) (Or.inl ⟨by rfl, ?_⟩) ?_ ?_
  rotate_left
  · intro w'
    go_simp
    with_reducible rfl
  rotate_left
  · simp only [pu_]
    rfl
  refine pure_ (i := 22) (N := some 33) (v := ?_) (a' := ?_) (bl 23 8) rfl rfl (by kernel_rfl) (fun _ _ _ h => h) (Or.inl ⟨by rfl, ?_⟩) ?_ ?_
  rotate_left
  · intro w'
    go_simp
    with_reducible rfl
  rotate_left
  · simp only [pu_]
    rfl
  refine take_ (i := 23) (N := some 34) (v := ?_) (a' := ?_) (bl 24 7) rfl rfl (by kernel_rfl) (fun _ _ _ h => h) (Or.inl ⟨by rfl, ?_⟩) hHeld ?_ ?_
  rotate_left
  · rintro w' ⟨s0, s1⟩
    go_simp
    with_reducible rfl
  rotate_left
  · simp only [pu_]
    rfl
  refine pure_ (i := 24) (N := some 35) (v := ?_) (a' := ?_) (bl 25 6) rfl rfl (by kernel_rfl) (fun _ _ _ h => h) (Or.inl ⟨by rfl, ?_⟩) ?_ ?_
  rotate_left
  · intro w'
    go_simp
    with_reducible rfl
  rotate_left
  · simp only [pu_]
    rfl
  refine pure_ (i := 25) (N := some 36) (v := ?_) (a' := ?_) (bl 26 5) rfl rfl (by kernel_rfl) (fun _ _ _ h => h) (Or.inl ⟨by rfl, ?_⟩) ?_ ?_
  rotate_left
  · intro w'
    go_simp
    with_reducible rfl
  rotate_left
  · simp only [pu_]
    rfl
  refine pure_ (i := 26) (N := some 37) (v := ?_) (a' := ?_) (bl 27 4) rfl rfl (by kernel_rfl) (fun _ _ _ h => h) (Or.inl ⟨by rfl, ?_⟩) ?_ ?_
  rotate_left
  · intro w'
    go_simp
    with_reducible rfl
  rotate_left
  · simp only [pu_]
    rfl
  refine pure_ (i := 27) (N := some 38) (v := ?_) (a' := ?_) (bl 28 3) rfl rfl (by kernel_rfl) (fun _ _ _ h => h) (Or.inl ⟨by rfl, ?_⟩) ?_ ?_
  rotate_left
  · intro w'
    go_simp
    with_reducible rfl
  rotate_left
  · simp only [pu_]
    rfl
  refine pure_ (i := 28) (N := some 39) (v := ?_) (a' := ?_) (bl 29 2) rfl rfl (by kernel_rfl) (fun _ _ _ h => h) (Or.inl ⟨by rfl, ?_⟩) ?_ ?_
  rotate_left
  · intro w'
    go_simp
    with_reducible rfl
  rotate_left
  · simp only [pu_]
    rfl
  refine pure_ (i := 29) (N := some 40) (v := ?_) (a' := ?_) (bl 30 1) rfl rfl (by kernel_rfl) (fun _ _ _ h => h) (Or.inl ⟨by rfl, ?_⟩) ?_ ?_
  rotate_left
  · intro w'
    go_simp
    with_reducible rfl
  rotate_left
  · simp only [pu_]
    rfl
  refine pure_ (i := 30) (N := some 41) (v := ?_) (a' := ?_) (bl 31 0) rfl rfl (by kernel_rfl) (fun _ _ _ h => h) (Or.inl ⟨by rfl, ?_⟩) ?_ ?_
  rotate_left
  · intro w'
    go_simp
    with_reducible rfl
  rotate_left
  · simp only [pu_]
    rfl
  refine done_ (by kernel_rfl) ?_
  clear w1 w2 d1 d2
  have HB2 := Lib.hid ((HWD.out.block g (blk_lt HB.out)).trans HB.out)
  have HO2 := Lib.hid (own_move HO.out (fun k hk => HWD.out.block k (own_lt HO.out k hk)))
  have hc1 := (blk_cell HB2.out 1).trans rfl
  have HBD := Lib.hid (below_low HWD.out HBS.out)
  have KD := Lib.hid (Kept5.of_below (g := g) HWD.out)
  go_wp2_with (first
    | ((with_reducible refine gate_builtin (b := .append) (xs := #[.tmp 49, .tmp 50]) rfl ?_); at_builtin; refine wpList_append_own_at _ rfl (.tmp 49) (.tmp 50) 51 rfl base 5 i0 (.int .u8 0) 1 1 hu47 HI.out HZ.out.1 HZ.out.2.1 HZ.out.2.2 rfl (by decide) (.slice A out.length co) out.length (nums .u8 out) rfl HO2.out ad hd.length c (nums .u8 hd) rfl (by simp [nums]) (fun j u hu => pw_cell_below HWD.out (HHH.out j u hu)) (by intro u hu; simp [nums] at hu; obtain ⟨x, _, rfl⟩ := hu; rfl) (by have := HB1.out; simp only [maxLen]; omega) (by have := HB1.out; omega) (Nat.le_trans HBS.out HWD.out.size) ?_; intro v1 w1 ho1 hg1 _ hat1; have HO3 := Lib.hid (show w1.ownsRow base 5 1 v1 (out ++ hd).length (nums .u8 (out ++ hd)) by rw [List.length_append, nums_append]; exact ho1); have HB3 := Lib.hid (HBD.out.grown hg1 (Nat.le_trans HBS.out HWD.out.size) (own_base HO2.out)); have HG3 := Lib.hid (blk_grown HB2.out hg1 (own_ne HO2.out HB2.out (by decide))); have K3 := Lib.hid (KD.out.grown hg1 (fun k hk => own_typed HO2.out k hk)); clear ho1 hg1 hat1)
    | ((with_reducible refine gate_builtin (b := .append) (xs := #[.tmp 51, .tmp 52]) rfl ?_); at_builtin; refine print_append_str (w0 := w) base rfl (.tmp 51) (.tmp 52) 51 9 5 rfl hu47 Tryd.underlying9 info5 v1 (out ++ hd) text rfl rfl HO3.out HB3.out (Nat.le_trans HBS.out HB3.out.size) (by have := HB1.out; rw [List.length_append]; omega) ?_; intro v2 w2 ho2 hb2 hg2; have HO4 := Lib.hid ho2; have HB4 := Lib.hid hb2; have HG4 := Lib.hid (blk_grown HG3.out hg2 (own_ne HO3.out HG3.out (by decide))); have K4 := Lib.hid (K3.out.grown hg2 (fun k hk => own_typed HO3.out k hk)); clear ho2 hb2 hg2; obtain ⟨A2, c2, rfl⟩ : ∃ A c, v2 = .slice A (out ++ hd ++ bytesOf text).length c := (by rcases HO4.out.2 with ⟨h1, h2⟩ | ⟨g', cap, cur, h1, _⟩; exact ⟨none, 0, by rw [h1, h2]⟩; exact ⟨_, cap, h1⟩); have hc1' := (blk_cell HG4.out 1).trans rfl; have hf1 := blk_frozen HG4.out 1))
  go_end0
  exact ⟨rfl, ⟨⟨hge, A2, c2, blk_put HG4.out 1 _ (by simp [List.length_append, Nat.add_assoc]), own_setCell HO4.out (own_ne HO4.out HG4.out (by decide)) _⟩, HB4.out.setCell (p := ⟨g, 1, none⟩) hge _, K4.out.set 1 _⟩⟩
def textL (s : ByteArray) : List Int := numL s.size ++ bytesOf s
theorem cells_of {w : World} {ad : Addr} {l : List Int} (h : Kd.C (Kd.int .u8) w (some ad) l.length l) : ∀ j u, (nums .u8 l)[j]? = some u → w.cell? (ad.add j) = some u := by
  obtain ⟨_, _, hc⟩ := h
  intro j u hu
  unfold nums at hu
  rw [List.getElem?_map, Option.map_eq_some_iff] at hu
  obtain ⟨x, hx, rfl⟩ := hu
  have hl := (List.getElem?_eq_some_iff.1 hx).1
  obtain ⟨ad', e, hf⟩ := hc (by omega)
  cases e
  obtain ⟨c, hcl, hK, hcell⟩ := hf j x hx
  have hc1 : c = [.int .u8 x] := hK
  rw [hc1] at hcell
  have h1 : (Kd.int .u8).sz = 1 := rfl
  have := hcell 0 _ rfl
  rw [h1, Nat.mul_one, Nat.add_zero] at this
  exact this
theorem bytes_emp : bytesOf (⟨#[]⟩ : ByteArray) = [] := rfl
set_option maxHeartbeats 4000000 in
theorem byte_ok (w : World) (base g : Nat) (lim : Int) (out : List Int) (v : Int) (h : WrIs w base g lim out 0) (hlim : lim ≤ 1048576) (hroom : ((out.length + 1 : Nat) : Int) ≤ lim) :
    Calls Tryd.prog 23 #[.pointer (some ⟨g, 0, none⟩), .int .u8 v] w fun e w' => e = .returned (.tuple #[]) ∧ WrTo w base g lim (out ++ [v]) w' := by
  have hu47 := Tryd.underlying51
  have hal := (Below.refl w.heap.size w).alloc (Nat.le_refl _) (.cells #[.int .u8 v] 5)
  have hnew := blk_new w (.cells #[.int .u8 v] 5)
  have key := lay_ok (w.alloc (.cells #[.int .u8 v] 5)) base g lim out [v] ⟨w.heap.size, 0, none⟩ 1 ⟨#[]⟩ (h.below hal) (fun j u hu => by
      cases j with
      | zero => simp [nums] at hu; subst hu; exact (blk_cell hnew 0).trans rfl
      | succ j => simp [nums] at hu) hlim (by show ((out.length + 1 + 0 : Nat) : Int) ≤ lim; omega)
  rw [bytes_emp, List.append_nil] at key
  have KEY := Lib.hid key
  have HAL := Lib.hid ((WrTo.start h).quiet hal h.base_le)
  clear key hal hnew h
  go_enter Tryd.func23, Tryd.ntmps23
  go_wp2_with (go_at_call 51; refine KEY.out.mono ?_; rintro e w2 ⟨rfl, hW⟩)
  go_end0
  exact ⟨rfl, HAL.out.trans hW⟩
theorem num_ok (n : Nat) (hn : n < 2 ^ 64) (w : World) : Calls Tryd.prog 52 #[.int .u64 (n : Int)] w fun e w' => ∃ ad c, e = .returned (.slice (some ad) (numL n).length c) ∧ (∀ j u, (nums .u8 (numL n))[j]? = some u → w'.cell? (ad.add j) = some u) ∧ Below w.heap.size w w' := by
  refine (pack_number.calls 10 (n : Int) (numL n) w (number_f hn)).mono ?_
  rintro e w' ⟨v0, rfl, hr, hb⟩
  obtain ⟨A, c, rfl, _, hC⟩ := Kd.R_reads hr
  obtain ⟨ad, e, _⟩ := hC.2.2 (numL_pos n)
  subst e
  exact ⟨ad, c, rfl, cells_of hC, hb⟩
set_option maxHeartbeats 4000000 in
theorem uint_ok (w : World) (base g : Nat) (lim : Int) (out : List Int) (n : Nat) (hn : n < 2 ^ 64) (h : WrIs w base g lim out 0) (hlim : lim ≤ 1048576) (hroom : ((out.length + (numL n).length : Nat) : Int) ≤ lim) :
    Calls Tryd.prog 24 #[.pointer (some ⟨g, 0, none⟩), .int .u64 (n : Int)] w fun e w' => e = .returned (.tuple #[]) ∧ WrTo w base g lim (out ++ numL n) w' := by
  have NK := Lib.hid (fun w => num_ok n hn w)
  have HH := Lib.hid (WrTo.start h)
  have HBS := Lib.hid h.base_le
  have HR := Lib.hid hroom
  clear h hroom
  go_enter Tryd.func24, Tryd.ntmps24
  go_wp2_with (first
    | (go_at_call 52; refine (NK.out _).mono ?_; rintro e w2 ⟨ad, c, rfl, hcs, hb⟩; have HB := Lib.hid (HH.out.quiet hb HBS.out); have HC := Lib.hid hcs; clear hcs hb)
    | (go_at_call 51; refine (lay_ok _ base g lim out _ ad c ⟨#[]⟩ HB.out.is HC.out hlim (by have := HR.out; show ((out.length + (numL n).length + 0 : Nat) : Int) ≤ lim; omega)).mono ?_; rintro e w3 ⟨rfl, hW⟩))
  go_end0
  exact ⟨rfl, HB.out.trans (by have := hW; rw [bytes_emp, List.append_nil] at this; exact this)⟩
set_option maxHeartbeats 4000000 in
theorem text_ok (w : World) (base g : Nat) (lim : Int) (out : List Int) (s : ByteArray) (hs : s.size < 2 ^ 63) (h : WrIs w base g lim out 0) (hlim : lim ≤ 1048576) (hroom : ((out.length + (textL s).length : Nat) : Int) ≤ lim) :
    Calls Tryd.prog 22 #[.pointer (some ⟨g, 0, none⟩), .string s] w fun e w' => e = .returned (.tuple #[]) ∧ WrTo w base g lim (out ++ textL s) w' := by
  have NK := Lib.hid (fun w => num_ok s.size (by omega) w)
  have hu : IntKind.u64.wrap ((s.size : Nat) : Int) = (s.size : Int) := by rw [IntKind.wrap_u64]; omega
  have HH := Lib.hid (WrTo.start h)
  have HBS := Lib.hid h.base_le
  have HR := Lib.hid hroom
  clear h hroom
  go_enter Tryd.func22, Tryd.ntmps22
  go_wp2_with (first
    | (go_at_call 52; refine (NK.out _).mono ?_; rintro e w2 ⟨ad, c, rfl, hcs, hb⟩; have HB := Lib.hid (HH.out.quiet hb HBS.out); have HC := Lib.hid hcs; clear hcs hb)
    | (go_at_call 51; refine (lay_ok _ base g lim out _ ad c s HB.out.is HC.out hlim (by have := HR.out; unfold textL at this; rw [List.length_append, bytesOf_length] at this; omega)).mono ?_; rintro e w3 ⟨rfl, hW⟩))
  go_end0
  exact ⟨rfl, HB.out.trans (by unfold textL; rw [← List.append_assoc]; exact hW)⟩
set_option maxHeartbeats 4000000 in
theorem count_ok (w : World) (base g : Nat) (lim : Int) (out : List Int) (n : Nat) (hn : n ≤ 4096) (h : WrIs w base g lim out 0) (hlim : lim ≤ 1048576) (hroom : ((out.length + (numL n).length : Nat) : Int) ≤ lim) :
    Calls Tryd.prog 21 #[.pointer (some ⟨g, 0, none⟩), .int .i64 (n : Int)] w fun e w' => e = .returned (.tuple #[]) ∧ WrTo w base g lim (out ++ numL n) w' := by
  have NK := Lib.hid (fun w => num_ok n (by omega) w)
  have hu : IntKind.u64.wrap ((n : Nat) : Int) = (n : Int) := by rw [IntKind.wrap_u64]; omega
  have q1 : decide ((n : Int) < 0) = false := decide_eq_false (by omega)
  have q2 : decide ((4096 : Int) < (n : Int)) = false := decide_eq_false (by omega)
  have q3 : decide (4096 < n) = false := decide_eq_false (by omega)
  obtain ⟨A_, c_, hb_, _⟩ := h.cells
  have hc2_ := (blk_cell hb_ 2).trans rfl
  clear hb_
  have HH := Lib.hid (WrTo.start h)
  have HBS := Lib.hid h.base_le
  have HR := Lib.hid hroom
  clear h hroom
  go_enter Tryd.func21, Tryd.ntmps21
  go_wp2_with (first
    | (go_at_call 52; refine (NK.out _).mono ?_; rintro e w2 ⟨ad, c, rfl, hcs, hb⟩; have HB := Lib.hid (HH.out.quiet hb HBS.out); have HC := Lib.hid hcs; clear hcs hb)
    | (go_at_call 51; refine (lay_ok _ base g lim out _ ad c ⟨#[]⟩ HB.out.is HC.out hlim (by have := HR.out; show ((out.length + (numL n).length + 0 : Nat) : Int) ≤ lim; omega)).mono ?_; rintro e w3 ⟨rfl, hW⟩))
  go_end0
  exact ⟨rfl, HB.out.trans (by have := hW; rw [bytes_emp, List.append_nil] at this; exact this)⟩
end Go.Proofs.YtniolbolfclhkaaDoor.Q
namespace Go.Proofs.YtniolbolfclhkaaDoor.Q
open Go.RowKit Go.Proofs.YtniolbolfclhkaaDoorW.PrintWords Go.Proofs.YtniolbolfclhkaaDoorW.PrintLast Go.Proofs.YtniolbolfclhkaaDoorW.PrintMore Go.Proofs.YtniolbolfclhkaaDoor.Pl
set_option linter.unusedVariables false
set_option linter.unusedSimpArgs false
def encAmt (a : Amt) : List Int := textL a.f0 ++ numL a.f1.toNat
def encAmts (l : List Amt) : List Int := numL l.length ++ l.flatMap encAmt
def encLab (x : Lab) : List Int := textL x.f0 ++ textL x.f1
def encPart (p : Prt) : List Int := textL p.f0 ++ (encAmts p.f1 ++ encAmts p.f2)
def headL (v : Int) (p n : ByteArray) : List Int := [v] ++ [1] ++ textL p ++ textL n
def encLabs (ls : List Lab) : List Int := numL ls.length ++ ls.flatMap encLab
def encParts (ps : List Prt) : List Int := numL ps.length ++ ps.flatMap encPart
def encO (p n : ByteArray) (ls : List Lab) (pr d : Int) (ps : List Prt) (v : Int) : List Int :=
  headL 79 p n ++ encLabs ls ++ [pr] ++ numL d.toNat ++ encParts ps ++ numL v.toNat
theorem numL_10 {n : Nat} (h : n < 2 ^ 64) : (numL n).length ≤ 10 := numL_len 9 n (Nat.lt_of_lt_of_le h (by decide))
theorem textL_len {s : ByteArray} (h : s.size < 2 ^ 64) : (textL s).length ≤ 10 + s.size := by
  unfold textL
  rw [List.length_append, bytesOf_length]
  have := numL_10 h
  omega
theorem flat_le {α : Type} (f : α → List Int) (c : Nat) : ∀ (l : List α), (∀ a ∈ l, (f a).length ≤ c) → (l.flatMap f).length ≤ c * l.length
  | [], _ => by simp
  | a :: l, h => by
    have := flat_le f c l (fun x hx => h x (List.mem_cons_of_mem _ hx))
    have h0 := h a List.mem_cons_self
    rw [List.flatMap_cons, List.length_append, List.length_cons, Nat.mul_succ]
    omega
theorem flat_take {α : Type} (f : α → List Int) (c m : Nat) (l : List α) (k : Nat) (h : ∀ a ∈ l, (f a).length ≤ c) (hl : l.length ≤ m) : ((l.take k).flatMap f).length ≤ c * m := by
  refine Nat.le_trans (flat_le f c (l.take k) (fun a ha => h a (List.mem_of_mem_take ha))) (Nat.mul_le_mul_left _ ?_)
  rw [List.length_take]
  omega
theorem flat_snoc {α : Type} (f : α → List Int) (l : List α) (k : Nat) (h : k < l.length) : (l.take (k + 1)).flatMap f = (l.take k).flatMap f ++ f l[k] := by
  rw [List.take_succ_eq_append_getElem h, List.flatMap_append]
  simp
theorem nameB_size {s : ByteArray} (h : nameB s = true) : s.size ≤ 32 := (name_size h).2
theorem pathS_size {s : ByteArray} (h : pathS s = 0) : s.size ≤ 64 := by
  rcases path_cases s with ⟨ns, hp, _⟩ | ⟨_, hb⟩
  · exact hp.size
  · unfold pathS at h
    rw [hb] at h
    cases h
structure AmtsFit (l : List Amt) : Prop where
  len : l.length ≤ 16
  each : ∀ a ∈ l, a.f0.size ≤ 48 ∧ 0 ≤ a.f1
theorem amts_fit {l : List Amt} (h : validP l = 0) : AmtsFit l := by
  obtain ⟨h1, _, h3⟩ := (valid_iff l).1 h
  exact ⟨h1, fun a ha => ⟨resP_size (h3 a ha).1, (h3 a ha).2⟩⟩
theorem encAmt_len {a : Amt} (h : a.f0.size ≤ 48) (hv : a.f1 < 9223372036854775808) : (encAmt a).length ≤ 68 := by
  unfold encAmt
  rw [List.length_append]
  have := textL_len (s := a.f0) (by omega)
  have := numL_10 (n := a.f1.toNat) (by omega)
  omega
structure LabsFit (l : List Lab) : Prop where
  len : l.length ≤ 16
  each : ∀ a ∈ l, a.f0.size ≤ 32 ∧ a.f1.size ≤ 32
theorem labs_fit {l : List Lab} (h : vR l = 0) : LabsFit l := by
  obtain ⟨h1, h2⟩ := vR_step h
  refine ⟨h1, fun a ha => ?_⟩
  obtain ⟨i, hi, rfl⟩ := List.getElem_of_mem ha
  have hs := h2 i hi
  unfold vstep vlB at hs
  simp only [Bool.and_eq_true, Bool.or_eq_true, decide_eq_true_eq] at hs
  have ek : keyN l i = l[i].f0 := by unfold keyN; rw [rd37_at l i hi]
  have ev : valN l i = l[i].f1 := by unfold valN; rw [rd37_at l i hi]
  rw [ek, ev] at hs
  refine ⟨nameB_size hs.1, ?_⟩
  rcases hs.2.1 with e | e
  · rw [e]; decide
  · exact nameB_size e
theorem encLab_len {a : Lab} (h : a.f0.size ≤ 32 ∧ a.f1.size ≤ 32) : (encLab a).length ≤ 84 := by
  unfold encLab
  rw [List.length_append]
  have := textL_len (s := a.f0) (by omega)
  have := textL_len (s := a.f1) (by omega)
  omega
structure ObFit (p n : ByteArray) (ls : List Lab) (pr d : Int) (ps : List Prt) (v : Int) : Prop where
  path : p.size ≤ 64
  name : n.size ≤ 32
  labs : LabsFit ls
  prio : 0 ≤ pr ∧ pr ≤ 9
  dead : 0 ≤ d ∧ d ≤ 1152921504606846976
  vers : 0 ≤ v ∧ v ≤ 1152921504606846976
  len : ps.length ≤ 8
  pos : 1 ≤ ps.length
  each : ∀ q ∈ ps, q.f0.size ≤ 32 ∧ AmtsFit q.f1 ∧ AmtsFit q.f2
theorem ob_fit {p n : ByteArray} {ls : List Lab} {pr d : Int} {ps : List Prt} {v : Int} (h : formB p n ls pr d ps v = true) : ObFit p n ls pr d ps v := by
  unfold formB headB midB stampB at h
  simp only [Bool.and_eq_true, decide_eq_true_eq] at h
  obtain ⟨⟨h1, h2, h3⟩, ⟨h4, h5, h6, h7, h8, h9⟩, h10, _⟩ := h
  refine ⟨pathS_size h1, nameB_size h2, labs_fit h3, ⟨h4, h5⟩, h6, h7, h9, h8, fun q hq => ?_⟩
  have := List.all_eq_true.1 h10 q hq
  unfold partB at this
  simp only [Bool.and_eq_true, decide_eq_true_eq] at this
  exact ⟨nameB_size this.1, amts_fit this.2.1, amts_fit this.2.2⟩
end Go.Proofs.YtniolbolfclhkaaDoor.Q
namespace Go.Proofs.YtniolbolfclhkaaDoor.Q
open Go.RowKit Go.Proofs.YtniolbolfclhkaaDoorW.PrintWords Go.Proofs.YtniolbolfclhkaaDoorW.PrintLast Go.Proofs.YtniolbolfclhkaaDoorW.PrintMore Go.Proofs.YtniolbolfclhkaaDoor.Pl
attribute [local go_sem] max2_int min2_int max_two min_two
set_option linter.unusedVariables false
set_option linter.unusedSimpArgs false
set_option maxHeartbeats 4000000 in
theorem new_ok (w : World) : Calls Tryd.prog 50 #[.int .i64 1048576] w fun e w' => ∃ g, e = .returned (.pointer (some ⟨g, 0, none⟩)) ∧ WrIs w' w.heap.size g 1048576 [] 0 ∧ Below w.heap.size w w' := by
  have hu89 := Tryd.underlying89
  go_enter Tryd.func50, Tryd.ntmps50
  go_wp2
  go_ret
  exact ⟨_, rfl, ⟨Nat.le_refl _, none, 0, blk_new w _, rfl, .inl ⟨rfl, rfl⟩⟩, (Below.refl w.heap.size w).alloc (Nat.le_refl _) _⟩
set_option maxHeartbeats 4000000 in
theorem begun_ok (w : World) (v : Int) (p n : ByteArray) (hp : p.size ≤ 4096) (hn : n.size ≤ 4096) : Calls Tryd.prog 20 #[.int .u8 v, .string p, .string n] w fun e w' => ∃ g, e = .returned (.pointer (some ⟨g, 0, none⟩)) ∧ WrIs w' w.heap.size g 1048576 (headL v p n) 0 ∧ Below w.heap.size w w' := by
  have hpl := textL_len (s := p) (by omega)
  have hnl := textL_len (s := n) (by omega)
  have sp : p.size < 2 ^ 63 := by omega
  have sn : n.size < 2 ^ 63 := by omega
  have r2 := Lib.hid (show (((([] ++ [v] : List Int)).length + 1 : Nat) : Int) ≤ 1048576 by simp)
  have r3 := Lib.hid (show (((([] ++ [v] ++ [1] : List Int)).length + (textL p).length : Nat) : Int) ≤ 1048576 by simp; omega)
  have r4 := Lib.hid (show (((([] ++ [v] ++ [1] ++ textL p : List Int)).length + (textL n).length : Nat) : Int) ≤ 1048576 by simp; omega)
  have rl := Lib.hid (show (1048576 : Int) ≤ 1048576 from Int.le_refl _)
  clear hpl hnl
  go_enter Tryd.func20, Tryd.ntmps20
  go_wp2_with (first
    | (go_at_call 50; refine (new_ok _).mono ?_; rintro e w1 ⟨g, rfl, h1, hb1⟩; have W1 := Lib.hid h1; have B1 := Lib.hid hb1; clear h1 hb1)
    | (go_at_call 23; (with_reducible refine (byte_ok _ w.heap.size g 1048576 [] v W1.out (by decide) (by decide)).mono ?_); rintro e w2 ⟨rfl, h2⟩; have W2 := Lib.hid h2; clear h2)
    | (go_at_call 23; (with_reducible refine (byte_ok _ w.heap.size g 1048576 ([] ++ [v]) 1 W2.out.is rl.out r2.out).mono ?_); rintro e w3 ⟨rfl, h3⟩; have W3 := Lib.hid (W2.out.trans h3); clear h3)
    | (go_at_call 22; (with_reducible refine (text_ok _ w.heap.size g 1048576 ([] ++ [v] ++ [1]) p sp W3.out.is rl.out r3.out).mono ?_); rintro e w4 ⟨rfl, h4⟩; have W4 := Lib.hid (W3.out.trans h4); clear h4)
    | (go_at_call 22; (with_reducible refine (text_ok _ w.heap.size g 1048576 ([] ++ [v] ++ [1] ++ textL p) n sn W4.out.is rl.out r4.out).mono ?_); rintro e w5 ⟨rfl, h5⟩; have W5 := Lib.hid (W4.out.trans h5); clear h5))
  go_ret
  exact ⟨g, rfl, W5.out.is, B1.out.trans W5.out.below⟩
set_option maxHeartbeats 8000000 in
set_option maxRecDepth 100000 in
theorem amts_lay (w0 w : World) (g : Nat) (out : List Int) (A : Option Addr) (c : Nat) (l : List Amt) (h : WrIs w w0.heap.size g 1048576 out 0) (hB : Below w0.heap.size w0 w) (hr : Kd.C k50 w0 A l.length l) (hl : l.length ≤ 4096) (hs : ∀ a ∈ l, a.f0.size ≤ 48 ∧ 0 ≤ a.f1 ∧ a.f1 < 9223372036854775808)
    (hroom : out.length + 10 + 68 * l.length ≤ 1048576) :
    Calls Tryd.prog 25 #[.pointer (some ⟨g, 0, none⟩), .slice A l.length c] w fun e w' => e = .returned (.tuple #[]) ∧ WrTo w w0.heap.size g 1048576 (out ++ encAmts l) w' := by
  have hu50 := Tryd.underlying50
  have HS := Lib.hid hs
  have HR := Lib.hid hr
  have HH := Lib.hid (WrTo.start h)
  have HW := Lib.hid h
  have HB := Lib.hid hB
  have HRM := Lib.hid hroom
  have hn10 := numL_10 (n := l.length) (by omega)
  have R1 := Lib.hid (show ((out.length + (numL l.length).length : Nat) : Int) ≤ 1048576 by omega)
  have RL := Lib.hid (show (1048576 : Int) ≤ 1048576 from Int.le_refl _)
  have HN := Lib.hid hn10
  clear hs hr h hB hroom hn10
  go_enter Tryd.func25, Tryd.ntmps25
  go_upto_region 1 with (go_at_call 21; (with_reducible refine (count_ok _ w0.heap.size g 1048576 out l.length hl HW.out RL.out R1.out).mono ?_); rintro e w1 ⟨rfl, h1⟩; have W1 := Lib.hid h1; clear h1)
  go_wp2
  go_loopg [12] l.length (fun gg v12 wr => ∃ k : Nat, v12 = .int .i64 (k : Int) ∧ Aside0 (k + gg = l.length) ∧ Aside0 (WrTo w w0.heap.size g 1048576 (out ++ numL l.length ++ (l.take k).flatMap encAmt) wr))
  case atStart => exact ⟨0, rfl, ⟨by omega⟩, ⟨by simpa using W1.out⟩⟩
  case round =>
    obtain ⟨k, rfl, HK, HWr⟩ := hrel
    have hkg := HK.out
    cases gk with
    | zero =>
      have b1 : decide ((k : Int) < (l.length : Int)) = false := decide_eq_false (by omega)
      have b2 : decide (k < l.length) = false := decide_eq_false (by omega)
      go_wp2
      go_end0
      refine ⟨rfl, ?_⟩
      have := HWr.out
      rw [List.take_of_length_le (by omega), List.append_assoc] at this
      exact this
    | succ gg =>
      have b1 : decide ((k : Int) < (l.length : Int)) = true := decide_eq_true (by omega)
      have b2 : decide (k < l.length) = true := decide_eq_true (by omega)
      have hk1 : k < l.length := by omega
      obtain ⟨ad, e1, x0, x1⟩ := at_T50 (Kd.C_below HR.out (HB.out.trans HWr.out.below)) (k : Int) (by omega) (by omega)
      cases e1
      rw [rd50_at l k hk1, Int.toNat_natCast] at x0 x1
      obtain ⟨s1, s2, s3⟩ := HS.out l[k] (List.getElem_mem hk1)
      have HF := Lib.hid (flat_snoc encAmt l k hk1)
      have hfl := flat_take encAmt 68 l.length l k (fun a ha => encAmt_len (HS.out a ha).1 (HS.out a ha).2.2) (Nat.le_refl _)
      have hel := encAmt_len s1 s3
      have HFL := Lib.hid (show ((l.take k).flatMap encAmt).length ≤ 68 * k by
        refine Nat.le_trans (flat_le encAmt 68 (l.take k) (fun a ha => encAmt_len (HS.out a (List.mem_of_mem_take ha)).1 (HS.out a (List.mem_of_mem_take ha)).2.2)) (Nat.mul_le_mul_left _ ?_)
        rw [List.length_take]; omega)
      clear hfl
      generalize l[k] = X at x0 x1 s1 s2 s3 HF hel
      have HEL := Lib.hid hel
      have p2' : ((k : Int) < (l.length : Int)) = True := eq_true (by omega)
      have hk63 : (k : Int) + 1 ≤ 9223372036854775807 := by omega
      obtain ⟨vn, hvn⟩ := Int.eq_ofNat_of_zero_le s2
      have HV := Lib.hid hvn
      have hwv : IntKind.u64.wrap X.f1 = (vn : Int) := by rw [IntKind.wrap_u64, hvn]; omega
      have HT := Lib.hid (show X.f1.toNat = vn by omega)
      have RT := Lib.hid (show (((out ++ numL l.length ++ (l.take k).flatMap encAmt).length + (textL X.f0).length : Nat) : Int) ≤ 1048576 by
        have h1 := HFL.out; have h2 := HRM.out; have h3 := HN.out; have h4 := textL_len (s := X.f0) (by omega)
        simp only [List.length_append]; omega)
      have RN := Lib.hid (show (((out ++ numL l.length ++ (l.take k).flatMap encAmt ++ textL X.f0).length + (numL vn).length : Nat) : Int) ≤ 1048576 by
        have h1 := HFL.out; have h2 := HRM.out; have h3 := HN.out; have h4 := textL_len (s := X.f0) (by omega); have h5 := numL_10 (n := vn) (by omega)
        simp only [List.length_append]; omega)
      have sx : X.f0.size < 2 ^ 63 := by omega
      have sv : vn < 2 ^ 64 := by omega
      clear hel hvn s1 s2 s3 hkg
      go_upto_region 4 with fail
      have BP := Aside0.mk (blk_new wr (.cells #[.string X.f0, .int .i64 X.f1] 50))
      have hb := (Below.refl wr.heap.size wr).alloc (Nat.le_refl _) (.cells #[.string X.f0, .int .i64 X.f1] 50)
      have HWq := Aside0.mk (HWr.out.quiet hb HWr.out.is.base_le)
      clear x0 x1 hb
      have hgn : wr.heap.size ≠ g := by
        obtain ⟨_, _, h1, _⟩ := HWr.out.is.cells
        have := blk_lt h1
        omega
      have HGN := Lib.hid hgn
      clear hgn
      generalize wr.alloc _ = wq at HWq BP ⊢
      have d0_ := (blk_cell BP.out 0).trans rfl
      go_wp2_with (first
        | (go_at_call 22; (with_reducible refine (text_ok _ w0.heap.size g 1048576 _ X.f0 sx HWq.out.is RL.out RT.out).mono ?_); rintro e w4 ⟨rfl, h4⟩; have W4 := Lib.hid (HWq.out.trans h4); have BP4 := Aside0.mk (h4.kept.keep _ _ BP.out HGN.out (by intro c f h; cases h)); have d1_ := (blk_cell BP4.out 1).trans rfl; clear h4)
        | (go_at_call 24; (with_reducible refine (uint_ok _ w0.heap.size g 1048576 _ vn sv W4.out.is RL.out RN.out).mono ?_); rintro e w5 ⟨rfl, h5⟩; have W5 := Lib.hid (W4.out.trans h5); clear h5))
      go_roundg gg
      case measure => omega
      case rel => exact ⟨k + 1, by go_num, ⟨by have := HK.out; omega⟩, ⟨by rw [HF.out, ← List.append_assoc]; unfold encAmt; rw [HT.out, ← List.append_assoc]; exact W5.out⟩⟩
end Go.Proofs.YtniolbolfclhkaaDoor.Q
namespace Go.Proofs.YtniolbolfclhkaaDoor.Q
open Go.RowKit Go.Proofs.YtniolbolfclhkaaDoorW.PrintWords Go.Proofs.YtniolbolfclhkaaDoorW.PrintLast Go.Proofs.YtniolbolfclhkaaDoorW.PrintMore Go.Proofs.YtniolbolfclhkaaDoor.Pl
set_option linter.unusedVariables false
set_option linter.unusedSimpArgs false
theorem reps_nums (w : World) (base : Nat) (ok : Nat → Prop) (l : List Int) : Reps ((Kd.int .u8).M w base ok) 1 l (nums .u8 l) := by
  refine ⟨by simp [nums], fun j p hj => ?_⟩
  obtain ⟨hl, rfl⟩ := List.getElem?_eq_some_iff.1 hj
  show ((nums .u8 l).drop (j * 1)).take 1 = [.int .u8 l[j]]
  have hl2 : j < (nums .u8 l).length := by simp [nums]; exact hl
  rw [Nat.mul_one, List.drop_eq_getElem_cons hl2, List.take_succ_cons, List.take_zero]
  simp [nums]
theorem WrIs.R {w : World} {base g : Nat} {lim err : Int} {out : List Int} (h : WrIs w base g lim out err) : ∃ A c, w.heap[g]? = some (.cells #[.int .i64 lim, .slice A out.length c, .int .i64 err] 89 (0, 0)) ∧ Kd.C (Kd.int .u8) w A out.length out := by
  obtain ⟨A, c, h1, h2⟩ := h.cells
  have hr : Kd.R (Kd.int .u8) 5 w base (fun _ => True) (.slice A out.length c) out := ⟨fun _ _ => trivial, _, h2, reps_nums _ _ _ _⟩
  exact ⟨A, c, h1, (Kd.R_reads' hr).2.2⟩
set_option maxHeartbeats 4000000 in
theorem out_ok (w : World) (base g : Nat) (lim : Int) (out : List Int) (h : WrIs w base g lim out 0) (hl : out.length ≤ 1048576) :
    Calls Tryd.prog 53 #[.pointer (some ⟨g, 0, none⟩)] w fun e w' => ∃ v, e = .returned (.tuple #[v, .int .i64 0]) ∧ Kd.R (Kd.int .u8) 5 w' w.heap.size (fun _ => True) v out ∧ Below w.heap.size w w' := by
  have hu47 := Tryd.underlying51
  obtain ⟨A, c, hb, hC⟩ := h.R
  have hc1 := (blk_cell hb 1).trans rfl
  have hc2 := (blk_cell hb 2).trans rfl
  have HR0 := Lib.hid hC
  have HL := Lib.hid hl
  clear hb hC h hl
  go_enter Tryd.func53, Tryd.ntmps53
  go_wp2_with ((with_reducible refine gate_builtin (b := .append) (xs := #[.const (.slice none 0 0), .tmp 16]) rfl ?_); at_builtin; refine Kd.R_append_rows (Kd.int .u8) (w0 := w) w.heap.size rfl (.const (.slice none 0 0)) (.tmp 16) 51 5 (.int .u8 0) 1 rfl Tryd.underlying51 info5 rfl (by decide) (by omega) (.slice none 0 0) ([] : List Int) out _ _ _ (fun _ => True) (fun _ => False) rfl rfl ?aO ?aR (fun _ _ h => h) (fun _ h => h.elim) ?aF ?aB ?aS ?aL ?_; (case aR => exact HR0.out); (case aB => exact Below.refl _ _); (case aF => exact (fun _ _ => trivial)); (case aO => exact (Kd.R_nil _ _ _ _ (fun _ => True))); (case aS => exact Nat.le_refl _); (case aL => have := HL.out; simp; omega); intro v1 w1 ho hb1 hg hat; rw [List.nil_append] at ho; have HO := Lib.hid ho; have HB := Lib.hid hb1; clear ho hb1 hg hat)
  go_ret2
  exact ⟨_, rfl, HO.out, HB.out⟩
def encS (out : List Int) : ByteArray := if out.length ≤ 8192 then strOfNums out else ⟨#[]⟩
def encE (out : List Int) : Int := if out.length ≤ 8192 then 0 else 23
set_option maxHeartbeats 4000000 in
theorem done_ok (w : World) (base g : Nat) (lim : Int) (out : List Int) (h : WrIs w base g lim out 0) (hl : out.length ≤ 1048576) :
    Calls Tryd.prog 26 #[.pointer (some ⟨g, 0, none⟩)] w fun e w' => e = .returned (.tuple #[.string (encS out), .int .i64 (encE out)]) ∧ Below w.heap.size w w' := by
  have KEY := Lib.hid (out_ok w base g lim out h hl)
  unfold encS encE
  by_cases h8 : out.length ≤ 8192
  · rw [if_pos h8, if_pos h8]
    have hd : decide ((8192 : Int) < (out.length : Int)) = false := decide_eq_false (by omega)
    have hd2 : decide (8192 < out.length) = false := decide_eq_false (by omega)
    clear h hl h8
    go_enter Tryd.func26, Tryd.ntmps26
    go_wp2_with (go_at_call 53; refine KEY.out.mono ?_; rintro e w1 ⟨v, rfl, hr, hb⟩; obtain ⟨A, c, rfl⟩ := Kd.R_slice hr; have hcv := Kd.C_string (c := c) (src := 51) (dst := 9) (e := 5) Tryd.underlying51 Tryd.underlying5 Tryd.underlying9 (Kd.R_reads' hr).2.2; have HB := Lib.hid hb; clear hr hb)
    go_ret2
    exact ⟨rfl, HB.out⟩
  · rw [if_neg h8, if_neg h8]
    have hd : decide ((8192 : Int) < (out.length : Int)) = true := decide_eq_true (by omega)
    have hd2 : decide (8192 < out.length) = true := decide_eq_true (by omega)
    clear h hl h8
    go_enter Tryd.func26, Tryd.ntmps26
    go_wp2_with (go_at_call 53; refine KEY.out.mono ?_; rintro e w1 ⟨v, rfl, hr, hb⟩; obtain ⟨A, c, rfl⟩ := Kd.R_slice hr; have HB := Lib.hid hb; clear hr hb)
    go_ret2
    exact ⟨rfl, HB.out⟩
def SmallA (l : List Amt) : Prop := ∀ a ∈ l, a.f1 < 9223372036854775808
def SmallP (ps : List Prt) : Prop := ∀ q ∈ ps, SmallA q.f1 ∧ SmallA q.f2
instance decSmallA (l : List Amt) : Decidable (SmallA l) := inferInstanceAs (Decidable (∀ a ∈ l, a.f1 < 9223372036854775808))
instance decSmallP (l : List Prt) : Decidable (SmallP l) := inferInstanceAs (Decidable (∀ q ∈ l, SmallA q.f1 ∧ SmallA q.f2))
def encR (p n : ByteArray) (ls : List Lab) (pr d : Int) (ps : List Prt) (v : Int) : ByteArray × Int :=
  if formB p n ls pr d ps v = true then (encS (encO p n ls pr d ps v), encE (encO p n ls pr d ps v)) else (⟨#[]⟩, 130)
def object_EncodeObject.f (p n : ByteArray) (ls : List Lab) (pr d : Int) (ps : List Prt) (v : Int) : Option (ByteArray × Int) := if SmallP ps then some (encR p n ls pr d ps v) else none
theorem encAmts_len {l : List Amt} (h : AmtsFit l) (hs : SmallA l) : (encAmts l).length ≤ 1098 := by
  unfold encAmts
  rw [List.length_append]
  have h1 := numL_10 (n := l.length) (by have := h.len; omega)
  have h2 := flat_le encAmt 68 l (fun a ha => encAmt_len (h.each a ha).1 (hs a ha))
  have := h.len
  omega
theorem encPart_len {q : Prt} (h : q.f0.size ≤ 32 ∧ AmtsFit q.f1 ∧ AmtsFit q.f2) (hs : SmallA q.f1 ∧ SmallA q.f2) : (encPart q).length ≤ 2238 := by
  unfold encPart
  rw [List.length_append, List.length_append]
  have h1 := textL_len (s := q.f0) (by omega)
  have h2 := encAmts_len h.2.1 hs.1
  have h3 := encAmts_len h.2.2 hs.2
  omega
theorem headL_len {v : Int} {p n : ByteArray} (hp : p.size ≤ 64) (hn : n.size ≤ 32) : (headL v p n).length ≤ 118 := by
  unfold headL
  simp only [List.length_append, List.length_cons, List.length_nil]
  have h1 := textL_len (s := p) (by omega)
  have h2 := textL_len (s := n) (by omega)
  omega
structure EnS (w2 : World) (g bo : Nat) (o : Obj) (out : List Int) (w : World) : Prop where
  is : WrIs w w2.heap.size g 1048576 out 0
  below : Below w2.heap.size w2 w
  box : w.heap[bo]? = some o
  old : bo < w2.heap.size
theorem EnS.to {w2 w w' : World} {g bo : Nat} {o : Obj} {out out' : List Int} (h : EnS w2 g bo o out w) (k : WrTo w w2.heap.size g 1048576 out' w') : EnS w2 g bo o out' w' :=
  ⟨k.is, h.below.trans k.below, (k.below.block bo h.old).trans h.box, h.old⟩
theorem EnS.quiet {w2 w w' : World} {g bo : Nat} {o : Obj} {out : List Int} (h : EnS w2 g bo o out w) (k : Below w.heap.size w w') : EnS w2 g bo o out w' :=
  ⟨h.is.below k, h.below.trans (below_low k h.below.size), (k.block bo (Nat.lt_of_lt_of_le h.old h.below.size)).trans h.box, h.old⟩
theorem EnS.ne {w2 w : World} {g bo : Nat} {o : Obj} {out : List Int} (h : EnS w2 g bo o out w) : w.heap.size ≠ g := by
  obtain ⟨_, _, h1, _⟩ := h.is.cells
  have := blk_lt h1
  omega
theorem outB {k : Nat} (h : k ≤ 1048576) : ((k : Nat) : Int) ≤ 1048576 := by omega
end Go.Proofs.YtniolbolfclhkaaDoor.Q
