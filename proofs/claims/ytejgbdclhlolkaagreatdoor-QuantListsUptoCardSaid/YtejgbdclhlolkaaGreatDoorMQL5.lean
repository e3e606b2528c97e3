/- What the statement QuantListsUptoCardSaid rests on, part 5 of 7: walks and plain laws; what of the printer's words it leans on. -/
import Derived.Test.YtejgbdclhlolkaaGreatDoorMQL3
import Derived.Test.YtejgbdclhlolkaaGreatDoorMQL4
import Derived.BigQuiet
namespace Go.Proofs.YtejgbdclhlolkaaGreatDoor.Q
open Go.RowKit Go.Proofs.YtejgbdclhlolkaaGreatDoorW.PrintWords Go.Proofs.YtejgbdclhlolkaaGreatDoorW.PrintLast Go.Proofs.YtejgbdclhlolkaaGreatDoorW.PrintMore
attribute [local go_sem] max2_int min2_int max_two min_two max_three min_three max_four min_four   -- for this text's walks alone
set_option linter.unusedVariables false
set_option linter.unusedSimpArgs false
def bursarref03_Long_less.l0 : Nat → Int → List Int → List Int → Option (Bool)
|0,_,_,_ => none
|k + 1,x5,x194000,x195000 => if x5 ≥ 0 then (if 0 ≤ x5 then (if x5 < (x194000.length : Int) then (if x5 < (x195000.length : Int) then (if (rd x194000 x5) = (rd x195000 x5) then (bursarref03_Long_less.l0 k (wrap64 (x5 - 1)) x194000 x195000) else (some (decide ((rd x194000 x5) < (rd x195000 x5))))) else (none)) else (none)) else (none)) else (some false)
def bursarref03_Long_less.f (k : Nat) (l0_0 : List Int) (l1_0 : List Int) : Option (Bool) := if (l0_0.length : Int) = (l1_0.length : Int) then (bursarref03_Long_less.l0 k (wrap64 ((l0_0.length : Int) - 1)) l0_0 l1_0) else (some (decide ((l0_0.length : Int) < (l1_0.length : Int))))
theorem bursarref03_Long_less.mono_l : ∀ k, (∀ y0 y1 y2, LeO (bursarref03_Long_less.l0 k y0 y1 y2) (bursarref03_Long_less.l0 (k + 1) y0 y1 y2))
|0 => fun _ _ _ r h => by simp [bursarref03_Long_less.l0] at h
|k + 1 => by
  have ih0:=bursarref03_Long_less.mono_l k
  ·intro y0 y1 y2
   unfold bursarref03_Long_less.l0
   repeat' first
  |(with_reducible exact ih0 _ _ _)
  |(with_reducible exact LeO.refl _)
  |(with_reducible exact LeO.none _)
  |(with_reducible refine LeO.ite ?_ ?_)
  |(with_reducible refine LeO.bind ?_ (fun _ => ?_))
  |exact ih0 _ _ _
  |exact LeO.none _
  |refine LeO.ite ?_ ?_
  |refine LeO.bind ?_ (fun _ => ?_)
theorem bursarref03_Long_less.mono : ∀ a0 a1 k, LeO (bursarref03_Long_less.f k a0 a1) (bursarref03_Long_less.f (k + 1) a0 a1) := by
 intro a0 a1 k
 have ih0:=bursarref03_Long_less.mono_l k
 unfold bursarref03_Long_less.f
 repeat' first
  |(with_reducible exact ih0 _ _ _)
  |(with_reducible exact LeO.refl _)
  |(with_reducible exact LeO.none _)
  |(with_reducible refine LeO.ite ?_ ?_)
  |(with_reducible refine LeO.bind ?_ (fun _ => ?_))
  |exact ih0 _ _ _
  |exact LeO.none _
  |refine LeO.ite ?_ ?_
  |refine LeO.bind ?_ (fun _ => ?_)
set_option maxHeartbeats 8000000 in
set_option maxRecDepth 100000 in
theorem bursarref03_Long_less.calls (k : Nat) (A0_0 : Option Addr) (c0_0 : Nat) (l0_0 : List Int) (A1_0 : Option Addr) (c1_0 : Nat) (l1_0 : List Int) (r : Bool) (w : World) (hr0_0 : Kd.C (Kd.int .i64) w A0_0 l0_0.length l0_0) (hc0_0 : l0_0.length ≤ c0_0) (hr1_0 : Kd.C (Kd.int .i64) w A1_0 l1_0.length l1_0) (hc1_0 : l1_0.length ≤ c1_0) (h : bursarref03_Long_less.f k l0_0 l1_0 = some r) :
  Calls Tryz.prog 85 #[.agg #[.slice A0_0 l0_0.length c0_0],.agg #[.slice A1_0 l1_0.length c1_0]] w fun e w' => e = .returned (.bool r) ∧ Below w.heap.size w w':=by
 have hu85:=Tryz.underlying85
 have HR0_0:=Aside0.mk hr0_0
 have HC0_0:=Aside0.mk hc0_0
 clear hr0_0 hc0_0
 have HR1_0:=Aside0.mk hr1_0
 have HC1_0:=Aside0.mk hc1_0
 clear hr1_0 hc1_0
 have HB:=Aside0.mk (Below.refl w.heap.size w)
 have H : (if (l0_0.length : Int) = (l1_0.length : Int) then (bursarref03_Long_less.l0 k (wrap64 ((l0_0.length : Int) - 1)) l0_0 l1_0) else (some (decide ((l0_0.length : Int) < (l1_0.length : Int))))) = some r:=h
 clear h
 by_cases c3 : (l0_0.length : Int) = (l1_0.length : Int)
 rotate_left
 ·rw [if_neg c3] at H
  have c3b0 : ((l0_0.length : Int) == (l1_0.length : Int)) = false:=beq_eq_false_iff_ne.mpr c3
  have c3b1 : ((l0_0.length : Int) != (l1_0.length : Int)) = true:=bne_iff_ne.mpr c3
  have c3b2 : (l0_0.length == l1_0.length) = false:=by first|simpa using c3|(simp at c3 ⊢;omega)
  obtain rfl:=Option.some.inj H
  go_enter Tryz.func85,Tryz.ntmps85
  go_wp2_with (first|((with_reducible refine gate_dst (N:=2) rfl ?_);refine box_event ?hg (N:=2) ?hd (cs:=#[.slice A0_0 l0_0.length c0_0]) (t:=85) ?hr ?_;(case hd => rfl);(case hg => rfl);(case hr => first|(go_simp;done)|(go_simp;rfl));intro gb193 hg w20 hbox hb;have n0_:=Aside0.mk (below_step (by repeat (first|(with_reducible first|exact HB.out|apply below_alloc|apply pw_below_drewN|apply below_drew1)|exact HB.out)) hb);have n1_:=Aside0.mk (hbox);have n2_:=Aside0.mk ((by rw [hg];exact (below_size (by repeat (first|(with_reducible first|exact HB.out|apply below_alloc|apply pw_below_drewN|apply below_drew1)|exact HB.out))) : w.heap.size ≤ gb193));have n3_:=Aside0.mk ((by rw [hg];exact (below_size (by repeat (first|(with_reducible first|exact HB.out|apply below_alloc|apply pw_below_drewN|apply below_drew1)|exact HB.out))) : w.heap.size ≤ gb193));clear HB;have HB:=n0_;have BK193:=n1_;have GW193:=n2_;have GE193:=n3_;clear n0_ n1_ n2_ n3_;clear hb hbox hg)|((with_reducible refine gate_dst (N:=3) rfl ?_);refine box_event ?hg (N:=3) ?hd (cs:=#[.slice A1_0 l1_0.length c1_0]) (t:=85) ?hr ?_;(case hd => rfl);(case hg => rfl);(case hr => first|(go_simp;done)|(go_simp;rfl));intro gb194 hg w21 hbox hb;have n0_:=Aside0.mk (blk_below (g:=gb193) (o:=.cells #[.slice A0_0 l0_0.length c0_0] 85 (0,0)) (by (with_reducible repeat (first|refine blk_drewN ?_ _|refine blk_drew ?_|refine blk_alloc ?_ _));exact BK193.out) hb);have n1_:=Aside0.mk (below_step (by repeat (first|(with_reducible first|exact HB.out|apply below_alloc|apply pw_below_drewN|apply below_drew1|refine below_set ?_ GE193.out)|exact HB.out)) hb);have n2_:=Aside0.mk (hbox);have n3_:=Aside0.mk ((by rw [hg];exact (below_size (by repeat (first|(with_reducible first|exact HB.out|apply below_alloc|apply pw_below_drewN|apply below_drew1|refine below_set ?_ GE193.out)|exact HB.out))) : w.heap.size ≤ gb194));have n4_:=Aside0.mk ((by rw [hg];exact (below_size (by repeat (first|(with_reducible first|exact HB.out|apply below_alloc|apply pw_below_drewN|apply below_drew1|refine below_set ?_ GE193.out)|exact HB.out))) : w.heap.size ≤ gb194));have n5_:=Aside0.mk ((by rw [hg];exact Nat.ne_of_lt (blk_lt (g:=gb193) (o:=.cells #[.slice A0_0 l0_0.length c0_0] 85 (0,0)) (by (with_reducible repeat (first|refine blk_drewN ?_ _|refine blk_drew ?_|refine blk_alloc ?_ _));exact BK193.out)) : gb193 ≠ gb194));have n6_:=Aside0.mk ((by rw [hg];exact Nat.ne_of_gt (blk_lt (g:=gb193) (o:=.cells #[.slice A0_0 l0_0.length c0_0] 85 (0,0)) (by (with_reducible repeat (first|refine blk_drewN ?_ _|refine blk_drew ?_|refine blk_alloc ?_ _));exact BK193.out)) : gb194 ≠ gb193));clear BK193;clear HB;have BK193:=n0_;have HB:=n1_;have BK194:=n2_;have GW194:=n3_;have GE194:=n4_;have NB193_194:=n5_;have NB194_193:=n6_;clear n0_ n1_ n2_ n3_ n4_ n5_ n6_;clear hb hbox hg;have hnb22:=NB193_194.out;have hnc22:=NB194_193.out;have hcz23_0 : w21.cell? ⟨gb193,0,none⟩ = some (.slice A0_0 l0_0.length c0_0):=(blk_cell BK193.out 0).trans rfl;have hfz23_0:=blk_frozen BK193.out 0;have hcz24_0 : w21.cell? ⟨gb194,0,none⟩ = some (.slice A1_0 l1_0.length c1_0):=(blk_cell BK194.out 0).trans rfl;have hfz24_0:=blk_frozen BK194.out 0))
  repeat (go_quiet (first|((with_reducible refine gate_dst (N:=2) rfl ?_);refine box_event ?hg (N:=2) ?hd (cs:=#[.slice A0_0 l0_0.length c0_0]) (t:=85) ?hr ?_;(case hd => rfl);(case hg => rfl);(case hr => first|(go_simp;done)|(go_simp;rfl));intro gb193 hg w20 hbox hb;have n0_:=Aside0.mk (below_step (by repeat (first|(with_reducible first|exact HB.out|apply below_alloc|apply pw_below_drewN|apply below_drew1)|exact HB.out)) hb);have n1_:=Aside0.mk (hbox);have n2_:=Aside0.mk ((by rw [hg];exact (below_size (by repeat (first|(with_reducible first|exact HB.out|apply below_alloc|apply pw_below_drewN|apply below_drew1)|exact HB.out))) : w.heap.size ≤ gb193));have n3_:=Aside0.mk ((by rw [hg];exact (below_size (by repeat (first|(with_reducible first|exact HB.out|apply below_alloc|apply pw_below_drewN|apply below_drew1)|exact HB.out))) : w.heap.size ≤ gb193));clear HB;have HB:=n0_;have BK193:=n1_;have GW193:=n2_;have GE193:=n3_;clear n0_ n1_ n2_ n3_;clear hb hbox hg)|((with_reducible refine gate_dst (N:=3) rfl ?_);refine box_event ?hg (N:=3) ?hd (cs:=#[.slice A1_0 l1_0.length c1_0]) (t:=85) ?hr ?_;(case hd => rfl);(case hg => rfl);(case hr => first|(go_simp;done)|(go_simp;rfl));intro gb194 hg w21 hbox hb;have n0_:=Aside0.mk (blk_below (g:=gb193) (o:=.cells #[.slice A0_0 l0_0.length c0_0] 85 (0,0)) (by (with_reducible repeat (first|refine blk_drewN ?_ _|refine blk_drew ?_|refine blk_alloc ?_ _));exact BK193.out) hb);have n1_:=Aside0.mk (below_step (by repeat (first|(with_reducible first|exact HB.out|apply below_alloc|apply pw_below_drewN|apply below_drew1|refine below_set ?_ GE193.out)|exact HB.out)) hb);have n2_:=Aside0.mk (hbox);have n3_:=Aside0.mk ((by rw [hg];exact (below_size (by repeat (first|(with_reducible first|exact HB.out|apply below_alloc|apply pw_below_drewN|apply below_drew1|refine below_set ?_ GE193.out)|exact HB.out))) : w.heap.size ≤ gb194));have n4_:=Aside0.mk ((by rw [hg];exact (below_size (by repeat (first|(with_reducible first|exact HB.out|apply below_alloc|apply pw_below_drewN|apply below_drew1|refine below_set ?_ GE193.out)|exact HB.out))) : w.heap.size ≤ gb194));have n5_:=Aside0.mk ((by rw [hg];exact Nat.ne_of_lt (blk_lt (g:=gb193) (o:=.cells #[.slice A0_0 l0_0.length c0_0] 85 (0,0)) (by (with_reducible repeat (first|refine blk_drewN ?_ _|refine blk_drew ?_|refine blk_alloc ?_ _));exact BK193.out)) : gb193 ≠ gb194));have n6_:=Aside0.mk ((by rw [hg];exact Nat.ne_of_gt (blk_lt (g:=gb193) (o:=.cells #[.slice A0_0 l0_0.length c0_0] 85 (0,0)) (by (with_reducible repeat (first|refine blk_drewN ?_ _|refine blk_drew ?_|refine blk_alloc ?_ _));exact BK193.out)) : gb194 ≠ gb193));clear BK193;clear HB;have BK193:=n0_;have HB:=n1_;have BK194:=n2_;have GW194:=n3_;have GE194:=n4_;have NB193_194:=n5_;have NB194_193:=n6_;clear n0_ n1_ n2_ n3_ n4_ n5_ n6_;clear hb hbox hg;have hnb22:=NB193_194.out;have hnc22:=NB194_193.out;have hcz23_0 : w21.cell? ⟨gb193,0,none⟩ = some (.slice A0_0 l0_0.length c0_0):=(blk_cell BK193.out 0).trans rfl;have hfz23_0:=blk_frozen BK193.out 0;have hcz24_0 : w21.cell? ⟨gb194,0,none⟩ = some (.slice A1_0 l1_0.length c1_0):=(blk_cell BK194.out 0).trans rfl;have hfz24_0:=blk_frozen BK194.out 0));try go_wp2_with (first|((with_reducible refine gate_dst (N:=2) rfl ?_);refine box_event ?hg (N:=2) ?hd (cs:=#[.slice A0_0 l0_0.length c0_0]) (t:=85) ?hr ?_;(case hd => rfl);(case hg => rfl);(case hr => first|(go_simp;done)|(go_simp;rfl));intro gb193 hg w20 hbox hb;have n0_:=Aside0.mk (below_step (by repeat (first|(with_reducible first|exact HB.out|apply below_alloc|apply pw_below_drewN|apply below_drew1)|exact HB.out)) hb);have n1_:=Aside0.mk (hbox);have n2_:=Aside0.mk ((by rw [hg];exact (below_size (by repeat (first|(with_reducible first|exact HB.out|apply below_alloc|apply pw_below_drewN|apply below_drew1)|exact HB.out))) : w.heap.size ≤ gb193));have n3_:=Aside0.mk ((by rw [hg];exact (below_size (by repeat (first|(with_reducible first|exact HB.out|apply below_alloc|apply pw_below_drewN|apply below_drew1)|exact HB.out))) : w.heap.size ≤ gb193));clear HB;have HB:=n0_;have BK193:=n1_;have GW193:=n2_;have GE193:=n3_;clear n0_ n1_ n2_ n3_;clear hb hbox hg)|((with_reducible refine gate_dst (N:=3) rfl ?_);refine box_event ?hg (N:=3) ?hd (cs:=#[.slice A1_0 l1_0.length c1_0]) (t:=85) ?hr ?_;(case hd => rfl);(case hg => rfl);(case hr => first|(go_simp;done)|(go_simp;rfl));intro gb194 hg w21 hbox hb;have n0_:=Aside0.mk (blk_below (g:=gb193) (o:=.cells #[.slice A0_0 l0_0.length c0_0] 85 (0,0)) (by (with_reducible repeat (first|refine blk_drewN ?_ _|refine blk_drew ?_|refine blk_alloc ?_ _));exact BK193.out) hb);have n1_:=Aside0.mk (below_step (by repeat (first|(with_reducible first|exact HB.out|apply below_alloc|apply pw_below_drewN|apply below_drew1|refine below_set ?_ GE193.out)|exact HB.out)) hb);have n2_:=Aside0.mk (hbox);have n3_:=Aside0.mk ((by rw [hg];exact (below_size (by repeat (first|(with_reducible first|exact HB.out|apply below_alloc|apply pw_below_drewN|apply below_drew1|refine below_set ?_ GE193.out)|exact HB.out))) : w.heap.size ≤ gb194));have n4_:=Aside0.mk ((by rw [hg];exact (below_size (by repeat (first|(with_reducible first|exact HB.out|apply below_alloc|apply pw_below_drewN|apply below_drew1|refine below_set ?_ GE193.out)|exact HB.out))) : w.heap.size ≤ gb194));have n5_:=Aside0.mk ((by rw [hg];exact Nat.ne_of_lt (blk_lt (g:=gb193) (o:=.cells #[.slice A0_0 l0_0.length c0_0] 85 (0,0)) (by (with_reducible repeat (first|refine blk_drewN ?_ _|refine blk_drew ?_|refine blk_alloc ?_ _));exact BK193.out)) : gb193 ≠ gb194));have n6_:=Aside0.mk ((by rw [hg];exact Nat.ne_of_gt (blk_lt (g:=gb193) (o:=.cells #[.slice A0_0 l0_0.length c0_0] 85 (0,0)) (by (with_reducible repeat (first|refine blk_drewN ?_ _|refine blk_drew ?_|refine blk_alloc ?_ _));exact BK193.out)) : gb194 ≠ gb193));clear BK193;clear HB;have BK193:=n0_;have HB:=n1_;have BK194:=n2_;have GW194:=n3_;have GE194:=n4_;have NB193_194:=n5_;have NB194_193:=n6_;clear n0_ n1_ n2_ n3_ n4_ n5_ n6_;clear hb hbox hg;have hnb22:=NB193_194.out;have hnc22:=NB194_193.out;have hcz23_0 : w21.cell? ⟨gb193,0,none⟩ = some (.slice A0_0 l0_0.length c0_0):=(blk_cell BK193.out 0).trans rfl;have hfz23_0:=blk_frozen BK193.out 0;have hcz24_0 : w21.cell? ⟨gb194,0,none⟩ = some (.slice A1_0 l1_0.length c1_0):=(blk_cell BK194.out 0).trans rfl;have hfz24_0:=blk_frozen BK194.out 0)))
  go_ret
  exact ⟨by first|rfl|(simp [errW_none,errW_some] <;> rfl)|(simp [*,errW_none,errW_some] <;> rfl),by repeat (first|(with_reducible first|exact HB.out|apply below_alloc|apply pw_below_drewN|apply below_drew1|refine below_set ?_ GE193.out|refine below_set ?_ GE194.out)|exact HB.out)⟩
 rw [if_pos c3] at H
 have c3b0 : ((l0_0.length : Int) == (l1_0.length : Int)) = true:=beq_iff_eq.mpr c3
 have c3b1 : ((l0_0.length : Int) != (l1_0.length : Int)) = false:=bne_eq_false_iff_eq.mpr c3
 have c3b2 : (l0_0.length == l1_0.length) = true:=by first|simpa using c3|(simp at c3 ⊢;omega)
 clear c3
 have H':=Aside0.mk H
 clear H
 go_enter Tryz.func85,Tryz.ntmps85
 go_wp2_with (first|((with_reducible refine gate_dst (N:=2) rfl ?_);refine box_event ?hg (N:=2) ?hd (cs:=#[.slice A0_0 l0_0.length c0_0]) (t:=85) ?hr ?_;(case hd => rfl);(case hg => rfl);(case hr => first|(go_simp;done)|(go_simp;rfl));intro gb193 hg w4 hbox hb;have n0_:=Aside0.mk (below_step (by repeat (first|(with_reducible first|exact HB.out|apply below_alloc|apply pw_below_drewN|apply below_drew1)|exact HB.out)) hb);have n1_:=Aside0.mk (hbox);have n2_:=Aside0.mk ((by rw [hg];exact (below_size (by repeat (first|(with_reducible first|exact HB.out|apply below_alloc|apply pw_below_drewN|apply below_drew1)|exact HB.out))) : w.heap.size ≤ gb193));have n3_:=Aside0.mk ((by rw [hg];exact (below_size (by repeat (first|(with_reducible first|exact HB.out|apply below_alloc|apply pw_below_drewN|apply below_drew1)|exact HB.out))) : w.heap.size ≤ gb193));clear HB;have HB:=n0_;have BK193:=n1_;have GW193:=n2_;have GE193:=n3_;clear n0_ n1_ n2_ n3_;clear hb hbox hg)|((with_reducible refine gate_dst (N:=3) rfl ?_);refine box_event ?hg (N:=3) ?hd (cs:=#[.slice A1_0 l1_0.length c1_0]) (t:=85) ?hr ?_;(case hd => rfl);(case hg => rfl);(case hr => first|(go_simp;done)|(go_simp;rfl));intro gb194 hg w5 hbox hb;have n0_:=Aside0.mk (blk_below (g:=gb193) (o:=.cells #[.slice A0_0 l0_0.length c0_0] 85 (0,0)) (by (with_reducible repeat (first|refine blk_drewN ?_ _|refine blk_drew ?_|refine blk_alloc ?_ _));exact BK193.out) hb);have n1_:=Aside0.mk (below_step (by repeat (first|(with_reducible first|exact HB.out|apply below_alloc|apply pw_below_drewN|apply below_drew1|refine below_set ?_ GE193.out)|exact HB.out)) hb);have n2_:=Aside0.mk (hbox);have n3_:=Aside0.mk ((by rw [hg];exact (below_size (by repeat (first|(with_reducible first|exact HB.out|apply below_alloc|apply pw_below_drewN|apply below_drew1|refine below_set ?_ GE193.out)|exact HB.out))) : w.heap.size ≤ gb194));have n4_:=Aside0.mk ((by rw [hg];exact (below_size (by repeat (first|(with_reducible first|exact HB.out|apply below_alloc|apply pw_below_drewN|apply below_drew1|refine below_set ?_ GE193.out)|exact HB.out))) : w.heap.size ≤ gb194));have n5_:=Aside0.mk ((by rw [hg];exact Nat.ne_of_lt (blk_lt (g:=gb193) (o:=.cells #[.slice A0_0 l0_0.length c0_0] 85 (0,0)) (by (with_reducible repeat (first|refine blk_drewN ?_ _|refine blk_drew ?_|refine blk_alloc ?_ _));exact BK193.out)) : gb193 ≠ gb194));have n6_:=Aside0.mk ((by rw [hg];exact Nat.ne_of_gt (blk_lt (g:=gb193) (o:=.cells #[.slice A0_0 l0_0.length c0_0] 85 (0,0)) (by (with_reducible repeat (first|refine blk_drewN ?_ _|refine blk_drew ?_|refine blk_alloc ?_ _));exact BK193.out)) : gb194 ≠ gb193));clear BK193;clear HB;have BK193:=n0_;have HB:=n1_;have BK194:=n2_;have GW194:=n3_;have GE194:=n4_;have NB193_194:=n5_;have NB194_193:=n6_;clear n0_ n1_ n2_ n3_ n4_ n5_ n6_;clear hb hbox hg;have hnb6:=NB193_194.out;have hnc6:=NB194_193.out;have hcz7_0 : w5.cell? ⟨gb193,0,none⟩ = some (.slice A0_0 l0_0.length c0_0):=(blk_cell BK193.out 0).trans rfl;have hfz7_0:=blk_frozen BK193.out 0;have hcz8_0 : w5.cell? ⟨gb194,0,none⟩ = some (.slice A1_0 l1_0.length c1_0):=(blk_cell BK194.out 0).trans rfl;have hfz8_0:=blk_frozen BK194.out 0))
 repeat (go_quiet (first|((with_reducible refine gate_dst (N:=2) rfl ?_);refine box_event ?hg (N:=2) ?hd (cs:=#[.slice A0_0 l0_0.length c0_0]) (t:=85) ?hr ?_;(case hd => rfl);(case hg => rfl);(case hr => first|(go_simp;done)|(go_simp;rfl));intro gb193 hg w4 hbox hb;have n0_:=Aside0.mk (below_step (by repeat (first|(with_reducible first|exact HB.out|apply below_alloc|apply pw_below_drewN|apply below_drew1)|exact HB.out)) hb);have n1_:=Aside0.mk (hbox);have n2_:=Aside0.mk ((by rw [hg];exact (below_size (by repeat (first|(with_reducible first|exact HB.out|apply below_alloc|apply pw_below_drewN|apply below_drew1)|exact HB.out))) : w.heap.size ≤ gb193));have n3_:=Aside0.mk ((by rw [hg];exact (below_size (by repeat (first|(with_reducible first|exact HB.out|apply below_alloc|apply pw_below_drewN|apply below_drew1)|exact HB.out))) : w.heap.size ≤ gb193));clear HB;have HB:=n0_;have BK193:=n1_;have GW193:=n2_;have GE193:=n3_;clear n0_ n1_ n2_ n3_;clear hb hbox hg)|((with_reducible refine gate_dst (N:=3) rfl ?_);refine box_event ?hg (N:=3) ?hd (cs:=#[.slice A1_0 l1_0.length c1_0]) (t:=85) ?hr ?_;(case hd => rfl);(case hg => rfl);(case hr => first|(go_simp;done)|(go_simp;rfl));intro gb194 hg w5 hbox hb;have n0_:=Aside0.mk (blk_below (g:=gb193) (o:=.cells #[.slice A0_0 l0_0.length c0_0] 85 (0,0)) (by (with_reducible repeat (first|refine blk_drewN ?_ _|refine blk_drew ?_|refine blk_alloc ?_ _));exact BK193.out) hb);have n1_:=Aside0.mk (below_step (by repeat (first|(with_reducible first|exact HB.out|apply below_alloc|apply pw_below_drewN|apply below_drew1|refine below_set ?_ GE193.out)|exact HB.out)) hb);have n2_:=Aside0.mk (hbox);have n3_:=Aside0.mk ((by rw [hg];exact (below_size (by repeat (first|(with_reducible first|exact HB.out|apply below_alloc|apply pw_below_drewN|apply below_drew1|refine below_set ?_ GE193.out)|exact HB.out))) : w.heap.size ≤ gb194));have n4_:=Aside0.mk ((by rw [hg];exact (below_size (by repeat (first|(with_reducible first|exact HB.out|apply below_alloc|apply pw_below_drewN|apply below_drew1|refine below_set ?_ GE193.out)|exact HB.out))) : w.heap.size ≤ gb194));have n5_:=Aside0.mk ((by rw [hg];exact Nat.ne_of_lt (blk_lt (g:=gb193) (o:=.cells #[.slice A0_0 l0_0.length c0_0] 85 (0,0)) (by (with_reducible repeat (first|refine blk_drewN ?_ _|refine blk_drew ?_|refine blk_alloc ?_ _));exact BK193.out)) : gb193 ≠ gb194));have n6_:=Aside0.mk ((by rw [hg];exact Nat.ne_of_gt (blk_lt (g:=gb193) (o:=.cells #[.slice A0_0 l0_0.length c0_0] 85 (0,0)) (by (with_reducible repeat (first|refine blk_drewN ?_ _|refine blk_drew ?_|refine blk_alloc ?_ _));exact BK193.out)) : gb194 ≠ gb193));clear BK193;clear HB;have BK193:=n0_;have HB:=n1_;have BK194:=n2_;have GW194:=n3_;have GE194:=n4_;have NB193_194:=n5_;have NB194_193:=n6_;clear n0_ n1_ n2_ n3_ n4_ n5_ n6_;clear hb hbox hg;have hnb6:=NB193_194.out;have hnc6:=NB194_193.out;have hcz7_0 : w5.cell? ⟨gb193,0,none⟩ = some (.slice A0_0 l0_0.length c0_0):=(blk_cell BK193.out 0).trans rfl;have hfz7_0:=blk_frozen BK193.out 0;have hcz8_0 : w5.cell? ⟨gb194,0,none⟩ = some (.slice A1_0 l1_0.length c1_0):=(blk_cell BK194.out 0).trans rfl;have hfz8_0:=blk_frozen BK194.out 0));try go_wp2_with (first|((with_reducible refine gate_dst (N:=2) rfl ?_);refine box_event ?hg (N:=2) ?hd (cs:=#[.slice A0_0 l0_0.length c0_0]) (t:=85) ?hr ?_;(case hd => rfl);(case hg => rfl);(case hr => first|(go_simp;done)|(go_simp;rfl));intro gb193 hg w4 hbox hb;have n0_:=Aside0.mk (below_step (by repeat (first|(with_reducible first|exact HB.out|apply below_alloc|apply pw_below_drewN|apply below_drew1)|exact HB.out)) hb);have n1_:=Aside0.mk (hbox);have n2_:=Aside0.mk ((by rw [hg];exact (below_size (by repeat (first|(with_reducible first|exact HB.out|apply below_alloc|apply pw_below_drewN|apply below_drew1)|exact HB.out))) : w.heap.size ≤ gb193));have n3_:=Aside0.mk ((by rw [hg];exact (below_size (by repeat (first|(with_reducible first|exact HB.out|apply below_alloc|apply pw_below_drewN|apply below_drew1)|exact HB.out))) : w.heap.size ≤ gb193));clear HB;have HB:=n0_;have BK193:=n1_;have GW193:=n2_;have GE193:=n3_;clear n0_ n1_ n2_ n3_;clear hb hbox hg)|((with_reducible refine gate_dst (N:=3) rfl ?_);refine box_event ?hg (N:=3) ?hd (cs:=#[.slice A1_0 l1_0.length c1_0]) (t:=85) ?hr ?_;(case hd => rfl);(case hg => rfl);(case hr => first|(go_simp;done)|(go_simp;rfl));intro gb194 hg w5 hbox hb;have n0_:=Aside0.mk (blk_below (g:=gb193) (o:=.cells #[.slice A0_0 l0_0.length c0_0] 85 (0,0)) (by (with_reducible repeat (first|refine blk_drewN ?_ _|refine blk_drew ?_|refine blk_alloc ?_ _));exact BK193.out) hb);have n1_:=Aside0.mk (below_step (by repeat (first|(with_reducible first|exact HB.out|apply below_alloc|apply pw_below_drewN|apply below_drew1|refine below_set ?_ GE193.out)|exact HB.out)) hb);have n2_:=Aside0.mk (hbox);have n3_:=Aside0.mk ((by rw [hg];exact (below_size (by repeat (first|(with_reducible first|exact HB.out|apply below_alloc|apply pw_below_drewN|apply below_drew1|refine below_set ?_ GE193.out)|exact HB.out))) : w.heap.size ≤ gb194));have n4_:=Aside0.mk ((by rw [hg];exact (below_size (by repeat (first|(with_reducible first|exact HB.out|apply below_alloc|apply pw_below_drewN|apply below_drew1|refine below_set ?_ GE193.out)|exact HB.out))) : w.heap.size ≤ gb194));have n5_:=Aside0.mk ((by rw [hg];exact Nat.ne_of_lt (blk_lt (g:=gb193) (o:=.cells #[.slice A0_0 l0_0.length c0_0] 85 (0,0)) (by (with_reducible repeat (first|refine blk_drewN ?_ _|refine blk_drew ?_|refine blk_alloc ?_ _));exact BK193.out)) : gb193 ≠ gb194));have n6_:=Aside0.mk ((by rw [hg];exact Nat.ne_of_gt (blk_lt (g:=gb193) (o:=.cells #[.slice A0_0 l0_0.length c0_0] 85 (0,0)) (by (with_reducible repeat (first|refine blk_drewN ?_ _|refine blk_drew ?_|refine blk_alloc ?_ _));exact BK193.out)) : gb194 ≠ gb193));clear BK193;clear HB;have BK193:=n0_;have HB:=n1_;have BK194:=n2_;have GW194:=n3_;have GE194:=n4_;have NB193_194:=n5_;have NB194_193:=n6_;clear n0_ n1_ n2_ n3_ n4_ n5_ n6_;clear hb hbox hg;have hnb6:=NB193_194.out;have hnc6:=NB194_193.out;have hcz7_0 : w5.cell? ⟨gb193,0,none⟩ = some (.slice A0_0 l0_0.length c0_0):=(blk_cell BK193.out 0).trans rfl;have hfz7_0:=blk_frozen BK193.out 0;have hcz8_0 : w5.cell? ⟨gb194,0,none⟩ = some (.slice A1_0 l1_0.length c1_0):=(blk_cell BK194.out 0).trans rfl;have hfz8_0:=blk_frozen BK194.out 0)))
 go_loopg [5] k (fun kq v5 w' => ∃ (x5_1 : Int),v5 = .int .i64 x5_1 ∧ Aside0 (bursarref03_Long_less.l0 kq x5_1 l0_0 l1_0 = some r) ∧ Aside0 (kq ≤ k) ∧ Aside0 (w'.heap[gb193]? = some (.cells #[(.slice A0_0 l0_0.length c0_0)] 85 (0,0))) ∧ Aside0 (w'.heap[gb194]? = some (.cells #[(.slice A1_0 l1_0.length c1_0)] 85 (0,0))) ∧ Aside0 (Below w.heap.size w w'))
 case atStart => exact ⟨(wrap64 ((l0_0.length : Int) - 1)),(by first|rfl|(simp;done)|(simp [*];done)|(simp;rw [Bool.eq_iff_iff];simp;done)|(rw [Bool.eq_iff_iff];simp;done)),H',⟨Nat.le_refl _⟩,⟨by (with_reducible repeat (first|refine blk_drewN ?_ _|refine blk_drew ?_|refine blk_alloc ?_ _));exact BK193.out⟩,⟨by (with_reducible repeat (first|refine blk_drewN ?_ _|refine blk_drew ?_|refine blk_alloc ?_ _));exact BK194.out⟩,⟨by repeat (first|(with_reducible first|exact HB.out|apply below_alloc|apply pw_below_drewN|apply below_drew1|refine below_set ?_ GE193.out|refine below_set ?_ GE194.out)|exact HB.out)⟩⟩
 case round =>
  clear H';(try clear c1);(try clear p2);(try clear c3);(try clear c3b0);(try clear c3b1);(try clear c3b2);(try clear c6);(try clear p6);(try clear c8);(try clear hcz7_0);(try clear hcz8_0);(try clear hfz7_0);(try clear hfz8_0)
  obtain ⟨x5_1,rfl,HA,HK1,BK193,BK194,HB⟩:=hrel
  cases gk with
 |zero => exact absurd HA.out (by simp [bursarref03_Long_less.l0])
 |succ k1 =>
   have H:=HA.out
   clear HA
   simp only [bursarref03_Long_less.l0] at H
   by_cases c9 : x5_1 ≥ 0
   rotate_left
   ·rw [if_neg c9] at H
    have c9b0 : decide (0 ≤ x5_1) = false:=decide_eq_false c9
    clear c9
    obtain rfl:=Option.some.inj H
    go_wp2
    repeat (go_quiet (fail);try go_wp2)
    go_ret
    exact ⟨by first|rfl|(simp [errW_none,errW_some] <;> rfl)|(simp [*,errW_none,errW_some] <;> rfl),by repeat (first|(with_reducible first|exact HB.out|apply below_alloc|apply pw_below_drewN|apply below_drew1|refine below_set ?_ GE193.out|refine below_set ?_ GE194.out)|exact HB.out)⟩
   rw [if_pos c9] at H
   have c9b0 : decide (0 ≤ x5_1) = true:=decide_eq_true c9
   clear c9
   by_cases c10 : 0 ≤ x5_1
   rotate_left
   ·rw [if_neg c10] at H
    exact absurd H (by simp)
   rw [if_pos c10] at H
   have c10b0 : decide (0 ≤ x5_1) = true:=decide_eq_true c10
   clear c10
   by_cases c11 : x5_1 < (l0_0.length : Int)
   rotate_left
   ·rw [if_neg c11] at H
    exact absurd H (by simp)
   rw [if_pos c11] at H
   have c11b0 : decide (x5_1 < (l0_0.length : Int)) = true:=decide_eq_true c11
   clear c11
   by_cases c12 : x5_1 < (l1_0.length : Int)
   rotate_left
   ·rw [if_neg c12] at H
    exact absurd H (by simp)
   rw [if_pos c12] at H
   have c12b0 : decide (x5_1 < (l1_0.length : Int)) = true:=decide_eq_true c12
   clear c12
   by_cases c13 : (rd l0_0 x5_1) = (rd l1_0 x5_1)
   ·rw [if_pos c13] at H
    have c13b0 : ((rd l0_0 x5_1) == (rd l1_0 x5_1)) = true:=beq_iff_eq.mpr c13
    have c13b1 : ((rd l0_0 x5_1) != (rd l1_0 x5_1)) = false:=bne_eq_false_iff_eq.mpr c13
    clear c13
    have H':=Aside0.mk H
    clear H
    have hnb14:=NB193_194.out
    have hnc14:=NB194_193.out
    have hcz15_0 : wr.cell? ⟨gb193,0,none⟩ = some (.slice A0_0 l0_0.length c0_0):=(blk_cell BK193.out 0).trans rfl
    have hfz15_0:=blk_frozen BK193.out 0
    have p195 : 0 ≤ (x5_1 : Int):=of_decide_eq_true (by first|(with_reducible assumption)|assumption)
    have q195 : x5_1 < (l0_0.length : Int):=of_decide_eq_true (by first|(with_reducible assumption)|assumption)
    obtain ⟨ad195,e195,hx195_0⟩:=Kd.at_int HR0_0.out x5_1 p195 q195
    cases e195
    replace hx195_0:=(HB.out.cell (World.block_lt_of_cell? w _ hx195_0)).trans hx195_0
    replace p195:=eq_true p195
    replace q195:=eq_true q195
    have hcz16_0 : wr.cell? ⟨gb194,0,none⟩ = some (.slice A1_0 l1_0.length c1_0):=(blk_cell BK194.out 0).trans rfl
    have hfz16_0:=blk_frozen BK194.out 0
    have p196 : 0 ≤ (x5_1 : Int):=of_decide_eq_true (by first|(with_reducible assumption)|assumption)
    have q196 : x5_1 < (l1_0.length : Int):=of_decide_eq_true (by first|(with_reducible assumption)|assumption)
    obtain ⟨ad196,e196,hx196_0⟩:=Kd.at_int HR1_0.out x5_1 p196 q196
    cases e196
    replace hx196_0:=(HB.out.cell (World.block_lt_of_cell? w _ hx196_0)).trans hx196_0
    replace p196:=eq_true p196
    replace q196:=eq_true q196
    go_wp2
    repeat (go_quiet (fail);try go_wp2)
    go_roundg k1
    case measure => have:=HK1.out;omega
    case rel => exact ⟨(wrap64 (x5_1 - 1)),(by first|rfl|(simp;done)|(simp [*];done)|(simp;rw [Bool.eq_iff_iff];simp;done)|(rw [Bool.eq_iff_iff];simp;done)),H',⟨by have:=HK1.out;omega⟩,⟨by (with_reducible repeat (first|refine blk_drewN ?_ _|refine blk_drew ?_|refine blk_alloc ?_ _));exact BK193.out⟩,⟨by (with_reducible repeat (first|refine blk_drewN ?_ _|refine blk_drew ?_|refine blk_alloc ?_ _));exact BK194.out⟩,⟨by repeat (first|(with_reducible first|exact HB.out|apply below_alloc|apply pw_below_drewN|apply below_drew1|refine below_set ?_ GE193.out|refine below_set ?_ GE194.out)|exact HB.out)⟩⟩
   rw [if_neg c13] at H
   have c13b0 : ((rd l0_0 x5_1) == (rd l1_0 x5_1)) = false:=beq_eq_false_iff_ne.mpr c13
   have c13b1 : ((rd l0_0 x5_1) != (rd l1_0 x5_1)) = true:=bne_iff_ne.mpr c13
   obtain rfl:=Option.some.inj H
   have hnb17:=NB193_194.out
   have hnc17:=NB194_193.out
   have hcz18_0 : wr.cell? ⟨gb193,0,none⟩ = some (.slice A0_0 l0_0.length c0_0):=(blk_cell BK193.out 0).trans rfl
   have hfz18_0:=blk_frozen BK193.out 0
   have p195 : 0 ≤ (x5_1 : Int):=of_decide_eq_true (by first|(with_reducible assumption)|assumption)
   have q195 : x5_1 < (l0_0.length : Int):=of_decide_eq_true (by first|(with_reducible assumption)|assumption)
   obtain ⟨ad195,e195,hx195_0⟩:=Kd.at_int HR0_0.out x5_1 p195 q195
   cases e195
   replace hx195_0:=(HB.out.cell (World.block_lt_of_cell? w _ hx195_0)).trans hx195_0
   replace p195:=eq_true p195
   replace q195:=eq_true q195
   have hcz19_0 : wr.cell? ⟨gb194,0,none⟩ = some (.slice A1_0 l1_0.length c1_0):=(blk_cell BK194.out 0).trans rfl
   have hfz19_0:=blk_frozen BK194.out 0
   have p196 : 0 ≤ (x5_1 : Int):=of_decide_eq_true (by first|(with_reducible assumption)|assumption)
   have q196 : x5_1 < (l1_0.length : Int):=of_decide_eq_true (by first|(with_reducible assumption)|assumption)
   obtain ⟨ad196,e196,hx196_0⟩:=Kd.at_int HR1_0.out x5_1 p196 q196
   cases e196
   replace hx196_0:=(HB.out.cell (World.block_lt_of_cell? w _ hx196_0)).trans hx196_0
   replace p196:=eq_true p196
   replace q196:=eq_true q196
   have p197 : 0 ≤ (x5_1 : Int):=of_decide_eq_true (by first|(with_reducible assumption)|assumption)
   have q197 : x5_1 < (l0_0.length : Int):=of_decide_eq_true (by first|(with_reducible assumption)|assumption)
   obtain ⟨ad197,e197,hx197_0⟩:=Kd.at_int HR0_0.out x5_1 p197 q197
   obtain rfl : ad195 = ad197:=(by injection e197)
   replace hx197_0:=(HB.out.cell (World.block_lt_of_cell? w _ hx197_0)).trans hx197_0
   replace p197:=eq_true p197
   replace q197:=eq_true q197
   have p198 : 0 ≤ (x5_1 : Int):=of_decide_eq_true (by first|(with_reducible assumption)|assumption)
   have q198 : x5_1 < (l1_0.length : Int):=of_decide_eq_true (by first|(with_reducible assumption)|assumption)
   obtain ⟨ad198,e198,hx198_0⟩:=Kd.at_int HR1_0.out x5_1 p198 q198
   obtain rfl : ad196 = ad198:=(by injection e198)
   replace hx198_0:=(HB.out.cell (World.block_lt_of_cell? w _ hx198_0)).trans hx198_0
   replace p198:=eq_true p198
   replace q198:=eq_true q198
   go_wp2
   repeat (go_quiet (fail);try go_wp2)
   go_ret
   exact ⟨by first|rfl|(simp [errW_none,errW_some] <;> rfl)|(simp [*,errW_none,errW_some] <;> rfl),by repeat (first|(with_reducible first|exact HB.out|apply below_alloc|apply pw_below_drewN|apply below_drew1|refine below_set ?_ GE193.out|refine below_set ?_ GE194.out)|exact HB.out)⟩
end Go.Proofs.YtejgbdclhlolkaaGreatDoor.Q
namespace Go.Proofs.YtejgbdclhlolkaaGreatDoor.Q
open Go.RowKit Go.Proofs.YtejgbdclhlolkaaGreatDoorW.PrintWords Go.Proofs.YtejgbdclhlolkaaGreatDoorW.PrintLast Go.Proofs.YtejgbdclhlolkaaGreatDoorW.PrintMore
attribute [local go_sem] max2_int min2_int max_two min_two max_three min_three max_four min_four   -- for this text's walks alone
set_option linter.unusedVariables false
set_option linter.unusedSimpArgs false
def bursarref03_Long_value.l0 : Nat → Int → Int → List Int → Option (Int × Bool)
|0,_,_,_ => none
|k + 1,x4,x5,x252000 => if x5 ≥ 0 then (if 0 ≤ x5 then (if x5 < (x252000.length : Int) then (bursarref03_Long_value.l0 k (wrap64 ((wrap64 (x4 * 10)) + (rd x252000 x5))) (wrap64 (x5 - 1)) x252000) else (none)) else (none)) else (some (x4,true))
def bursarref03_Long_value.f (k : Nat) (l0_0 : List Int) : Option (Int × Bool) := (bursarref03_long.f k 9223372036854775807).bind fun t252 => ((bursarref03_Long_less.f k t252 l0_0).bind fun t255 => (if t255 = true then (some (0, false)) else (bursarref03_Long_value.l0 k 0 (wrap64 ((l0_0.length : Int) - 1)) l0_0)))
theorem bursarref03_Long_value.mono_l : ∀ k, (∀ y0 y1 y2, LeO (bursarref03_Long_value.l0 k y0 y1 y2) (bursarref03_Long_value.l0 (k + 1) y0 y1 y2))
|0 => fun _ _ _ r h => by simp [bursarref03_Long_value.l0] at h
|k + 1 => by
  have ih0:=bursarref03_Long_value.mono_l k
  ·intro y0 y1 y2
   unfold bursarref03_Long_value.l0
   repeat' first
  |(with_reducible exact ih0 _ _ _)
  |(with_reducible exact bursarref03_Long_less.mono _ _ _)
  |(with_reducible exact bursarref03_long.mono _ _)
  |(with_reducible exact LeO.refl _)
  |(with_reducible exact LeO.none _)
  |(with_reducible refine LeO.ite ?_ ?_)
  |(with_reducible refine LeO.bind ?_ (fun _ => ?_))
  |exact ih0 _ _ _
  |exact bursarref03_Long_less.mono _ _ _
  |exact bursarref03_long.mono _ _
  |exact LeO.none _
  |refine LeO.ite ?_ ?_
  |refine LeO.bind ?_ (fun _ => ?_)
theorem bursarref03_Long_value.mono : ∀ a0 k, LeO (bursarref03_Long_value.f k a0) (bursarref03_Long_value.f (k + 1) a0) := by
 intro a0 k
 have ih0:=bursarref03_Long_value.mono_l k
 unfold bursarref03_Long_value.f
 repeat' first
  |(with_reducible exact ih0 _ _ _)
  |(with_reducible exact bursarref03_Long_less.mono _ _ _)
  |(with_reducible exact bursarref03_long.mono _ _)
  |(with_reducible exact LeO.refl _)
  |(with_reducible exact LeO.none _)
  |(with_reducible refine LeO.ite ?_ ?_)
  |(with_reducible refine LeO.bind ?_ (fun _ => ?_))
  |exact ih0 _ _ _
  |exact bursarref03_Long_less.mono _ _ _
  |exact bursarref03_long.mono _ _
  |exact LeO.none _
  |refine LeO.ite ?_ ?_
  |refine LeO.bind ?_ (fun _ => ?_)
set_option maxHeartbeats 8000000 in
set_option maxRecDepth 100000 in
theorem bursarref03_Long_value.calls (k : Nat) (A0_0 : Option Addr) (c0_0 : Nat) (l0_0 : List Int) (r1 : Int) (r2 : Bool) (w : World) (hr0_0 : Kd.C (Kd.int .i64) w A0_0 l0_0.length l0_0) (hc0_0 : l0_0.length ≤ c0_0) (h : bursarref03_Long_value.f k l0_0 = some (r1, r2)) :
  Calls Tryz.prog 69 #[.agg #[.slice A0_0 l0_0.length c0_0]] w fun e w' => e = .returned (.tuple #[.int .i64 r1,.bool r2]) ∧ Below w.heap.size w w':=by
 have hu85:=Tryz.underlying85
 have HR0_0:=Aside0.mk hr0_0
 have HC0_0:=Aside0.mk hc0_0
 clear hr0_0 hc0_0
 have HB:=Aside0.mk (Below.refl w.heap.size w)
 have H : ((bursarref03_long.f k 9223372036854775807).bind fun t252 => ((bursarref03_Long_less.f k t252 l0_0).bind fun t255 => (if t255 = true then (some (0,false)) else (bursarref03_Long_value.l0 k 0 (wrap64 ((l0_0.length : Int) - 1)) l0_0)))) = some (r1,r2):=h
 clear h
 replace H:=Option.bind_eq_some_iff.mp H
 obtain ⟨t252,A20,H⟩:=H
 replace H : ((bursarref03_Long_less.f k t252 l0_0).bind fun t255 => (if t255 = true then (some (0,false)) else (bursarref03_Long_value.l0 k 0 (wrap64 ((l0_0.length : Int) - 1)) l0_0))) = some (r1,r2):=H
 have A2:=Aside0.mk A20
 clear A20
 replace H:=Option.bind_eq_some_iff.mp H
 obtain ⟨t255,A30,H⟩:=H
 replace H : (if t255 = true then (some (0,false)) else (bursarref03_Long_value.l0 k 0 (wrap64 ((l0_0.length : Int) - 1)) l0_0)) = some (r1,r2):=H
 have A3:=Aside0.mk A30
 clear A30
 by_cases c4 : t255 = true
 ·subst c4
  have H1 : (some (0,false)) = some (r1,r2):=by rw [if_pos rfl] at H;exact H
  clear H;have H:=H1;clear H1
  simp only [Option.some.injEq,Prod.mk.injEq] at H
  obtain ⟨rfl,rfl⟩:=H
  go_enter Tryz.func69,Tryz.ntmps69
  try go_wp2_with (first|((with_reducible refine gate_dst (N:=1) rfl ?_);refine box_event ?hg (N:=1) ?hd (cs:=#[.slice A0_0 l0_0.length c0_0]) (t:=85) ?hr ?_;(case hd => rfl);(case hg => rfl);(case hr => first|(go_simp;done)|(go_simp;rfl));intro gb251 hg w5 hbox hb;have n0_:=Aside0.mk (below_step (by repeat (first|(with_reducible first|exact HB.out|apply below_alloc|apply pw_below_drewN|apply below_drew1)|exact HB.out)) hb);have n1_:=Aside0.mk (hbox);have n2_:=Aside0.mk ((by rw [hg];exact (below_size (by repeat (first|(with_reducible first|exact HB.out|apply below_alloc|apply pw_below_drewN|apply below_drew1)|exact HB.out))) : w.heap.size ≤ gb251));have n3_:=Aside0.mk ((by rw [hg];exact (below_size (by repeat (first|(with_reducible first|exact HB.out|apply below_alloc|apply pw_below_drewN|apply below_drew1)|exact HB.out))) : w.heap.size ≤ gb251));clear HB;have HB:=n0_;have BK251:=n1_;have GW251:=n2_;have GE251:=n3_;clear n0_ n1_ n2_ n3_;clear hb hbox hg))
  have n0_:=Aside0.mk (blk_drew BK251.out)
  have n1_:=Aside0.mk (below_drew1 HB.out)
  clear BK251;clear HB;have BK251:=n0_;have HB:=n1_;clear n0_ n1_
  refine start_ (n:=3) (S:=fun w' => w'.cell? ⟨gb251,0,none⟩ = some (.slice A0_0 l0_0.length c0_0)) (ds:=[]) #[false,false,false] (by kernel_rfl) rfl rfl ((blk_cell BK251.out 0).trans rfl) (fun hHeld => ?_)
  generalize w5.drew = w6 at BK251 HB hHeld ⊢
  refine take_ (i:=1) (N:=some 7) (v:=?_) (a':=?_) #[false,true,false] rfl rfl (by kernel_rfl) (fun _ _ _ h => h) (Or.inl ⟨by rfl,?_⟩) hHeld ?_ ?_
  rotate_left
  ·intro w' s0
   go_simp
   with_reducible rfl
  rotate_left
  ·simp only [pu_]
   rfl
  refine one_ (i:=0) (N:=some 6) #[true,true,false] rfl rfl (by kernel_rfl) (by decide) (fun K hK => ?_)
  refine goes_ Tryz.func62 (by kernel_rfl) rfl #[.int .i64 9223372036854775807] (by rfl) rfl rfl (by (try simp only [List.map_toArray,List.map_cons,List.map_nil]);first|done|rfl|(simp only [List.length_drop,List.length_take];rfl)) ?_
  with_reducible refine (bursarref03_long.calls k 9223372036854775807 t252 _ A2.out).mono ?_
  rintro e w7 ⟨v253,rfl,ho0,hb⟩
  refine ⟨_,rfl,?_⟩
  have n0_:=Aside0.mk (Kd.R_lower ho0 (below_size (by repeat (first|(with_reducible first|exact HB.out|apply below_alloc|apply pw_below_drewN|apply below_drew1|refine below_set ?_ GE251.out)|exact HB.out))))
  have n1_:=Aside0.mk (blk_below (g:=gb251) (o:=.cells #[.slice A0_0 l0_0.length c0_0] 85 (0,0)) (by (with_reducible repeat (first|refine blk_drewN ?_ _|refine blk_drew ?_|refine blk_alloc ?_ _));exact BK251.out) hb)
  have n2_:=Aside0.mk (below_step (by repeat (first|(with_reducible first|exact HB.out|apply below_alloc|apply pw_below_drewN|apply below_drew1|refine below_set ?_ GE251.out)|exact HB.out)) hb)
  clear BK251;clear HB;have HO254:=n0_;have BK251:=n1_;have HB:=n2_;clear n0_ n1_ n2_;(try clear hb);(try clear hb2);(try clear hk);(try clear hi);(try clear ho0)
  obtain ⟨Ao8,co8,eo8⟩:=Kd.R_slice HO254.out
  (first|subst eo8|(injection eo8 with f1_ f2_ f3_;have f4_:=f1_.symm;have f5_:=f3_.symm;clear f1_ f2_ f3_;subst f4_;subst f5_))
  refine hK.out _ _ ((blk_cell BK251.out 0).trans rfl) (fun hHeld => ?_)
  clear hK K
  refine norm_ (a':=?_) ?_ ?_
  rotate_left
  ·show Act.put _ (some 6) _ = _
   simp only [pu_]
   rfl
  refine one_ (i:=2) (N:=some 8) #[true,true,true] rfl rfl (by kernel_rfl) (by decide) (fun K hK => ?_)
  refine goes_ Tryz.func85 (by kernel_rfl) rfl #[.agg #[.slice Ao8 t252.length co8],.agg #[.slice A0_0 l0_0.length c0_0]] (by rfl) rfl rfl (by (try simp only [List.map_toArray,List.map_cons,List.map_nil]);first|done|rfl|(simp only [List.length_drop,List.length_take];rfl)) ?_
  with_reducible refine (bursarref03_Long_less.calls k _ _ t252 _ _ l0_0 true _ ?side1 ?side2 ?side3 ?side4 A3.out).mono ?_
  (case side1 => repeat (first|exact (Kd.R_reads' HO254.out).2.2|(with_reducible refine Kd.C_alloc ?_ _)|(with_reducible refine Kd.C_drewN ?_ _)|(with_reducible refine Kd.C_drew ?_)))
  (case side2 => exact (Kd.R_reads' HO254.out).2.1)
  (case side3 => repeat (first|exact (Kd.C_below HR0_0.out HB.out)|(with_reducible refine Kd.C_alloc ?_ _)|(with_reducible refine Kd.C_drewN ?_ _)|(with_reducible refine Kd.C_drew ?_)))
  (case side4 => exact HC0_0.out)
  rintro e w9 ⟨rfl,hb⟩
  refine ⟨_,rfl,?_⟩
  have n0_:=Aside0.mk (Kd.R_below (by (with_reducible repeat (first|apply Kd.R_alloc|apply Kd.R_drewN|apply Kd.R_drew));exact HO254.out) hb)
  have n1_:=Aside0.mk (blk_below (g:=gb251) (o:=.cells #[.slice A0_0 l0_0.length c0_0] 85 (0,0)) (by (with_reducible repeat (first|refine blk_drewN ?_ _|refine blk_drew ?_|refine blk_alloc ?_ _));exact BK251.out) hb)
  have n2_:=Aside0.mk (below_step (by repeat (first|(with_reducible first|exact HB.out|apply below_alloc|apply pw_below_drewN|apply below_drew1|refine below_set ?_ GE251.out)|exact HB.out)) hb)
  clear HO254;clear BK251;clear HB;have HO254:=n0_;have BK251:=n1_;have HB:=n2_;clear n0_ n1_ n2_;(try clear hb);(try clear hb2);(try clear hk);(try clear hi)
  refine hK.out _ _ ((blk_cell BK251.out 0).trans rfl) (fun hHeld => ?_)
  clear hK K
  refine norm_ (a':=?_) ?_ ?_
  rotate_left
  ·show Act.put _ (some 8) _ = _
   simp only [pu_]
   rfl
  refine done_ (by kernel_rfl) ?_
  try go_wp2
  go_ret2
  exact ⟨by first|rfl|(simp [errW_none,errW_some] <;> rfl)|(simp [*,errW_none,errW_some] <;> rfl),by repeat (first|(with_reducible first|exact HB.out|apply below_alloc|apply pw_below_drewN|apply below_drew1|refine below_set ?_ GE251.out)|exact HB.out)⟩
 replace c4:=Bool.eq_false_iff.mpr c4
 subst c4
 have H1 : (bursarref03_Long_value.l0 k 0 (wrap64 ((l0_0.length : Int) - 1)) l0_0) = some (r1,r2):=by rw [if_neg (show ¬ (false = true) by decide)] at H;exact H
 clear H;have H:=H1;clear H1
 have H':=Aside0.mk H
 clear H
 go_enter Tryz.func69,Tryz.ntmps69
 try go_wp2_with (first|((with_reducible refine gate_dst (N:=1) rfl ?_);refine box_event ?hg (N:=1) ?hd (cs:=#[.slice A0_0 l0_0.length c0_0]) (t:=85) ?hr ?_;(case hd => rfl);(case hg => rfl);(case hr => first|(go_simp;done)|(go_simp;rfl));intro gb251 hg w10 hbox hb;have n0_:=Aside0.mk (below_step (by repeat (first|(with_reducible first|exact HB.out|apply below_alloc|apply pw_below_drewN|apply below_drew1)|exact HB.out)) hb);have n1_:=Aside0.mk (hbox);have n2_:=Aside0.mk ((by rw [hg];exact (below_size (by repeat (first|(with_reducible first|exact HB.out|apply below_alloc|apply pw_below_drewN|apply below_drew1)|exact HB.out))) : w.heap.size ≤ gb251));have n3_:=Aside0.mk ((by rw [hg];exact (below_size (by repeat (first|(with_reducible first|exact HB.out|apply below_alloc|apply pw_below_drewN|apply below_drew1)|exact HB.out))) : w.heap.size ≤ gb251));clear HB;have HB:=n0_;have BK251:=n1_;have GW251:=n2_;have GE251:=n3_;clear n0_ n1_ n2_ n3_;clear hb hbox hg))
 have n0_:=Aside0.mk (blk_drew BK251.out)
 have n1_:=Aside0.mk (below_drew1 HB.out)
 clear BK251;clear HB;have BK251:=n0_;have HB:=n1_;clear n0_ n1_
 refine start_ (n:=3) (S:=fun w' => w'.cell? ⟨gb251,0,none⟩ = some (.slice A0_0 l0_0.length c0_0)) (ds:=[]) #[false,false,false] (by kernel_rfl) rfl rfl ((blk_cell BK251.out 0).trans rfl) (fun hHeld => ?_)
 generalize w10.drew = w11 at BK251 HB hHeld ⊢
 refine take_ (i:=1) (N:=some 7) (v:=?_) (a':=?_) #[false,true,false] rfl rfl (by kernel_rfl) (fun _ _ _ h => h) (Or.inl ⟨by rfl,?_⟩) hHeld ?_ ?_
 rotate_left
 ·intro w' s0
  go_simp
  with_reducible rfl
 rotate_left
 ·simp only [pu_]
  rfl
 refine one_ (i:=0) (N:=some 6) #[true,true,false] rfl rfl (by kernel_rfl) (by decide) (fun K hK => ?_)
 refine goes_ Tryz.func62 (by kernel_rfl) rfl #[.int .i64 9223372036854775807] (by rfl) rfl rfl (by (try simp only [List.map_toArray,List.map_cons,List.map_nil]);first|done|rfl|(simp only [List.length_drop,List.length_take];rfl)) ?_
 with_reducible refine (bursarref03_long.calls k 9223372036854775807 t252 _ A2.out).mono ?_
 rintro e w12 ⟨v253,rfl,ho0,hb⟩
 refine ⟨_,rfl,?_⟩
 have n0_:=Aside0.mk (Kd.R_lower ho0 (below_size (by repeat (first|(with_reducible first|exact HB.out|apply below_alloc|apply pw_below_drewN|apply below_drew1|refine below_set ?_ GE251.out)|exact HB.out))))
 have n1_:=Aside0.mk (blk_below (g:=gb251) (o:=.cells #[.slice A0_0 l0_0.length c0_0] 85 (0,0)) (by (with_reducible repeat (first|refine blk_drewN ?_ _|refine blk_drew ?_|refine blk_alloc ?_ _));exact BK251.out) hb)
 have n2_:=Aside0.mk (below_step (by repeat (first|(with_reducible first|exact HB.out|apply below_alloc|apply pw_below_drewN|apply below_drew1|refine below_set ?_ GE251.out)|exact HB.out)) hb)
 clear BK251;clear HB;have HO254:=n0_;have BK251:=n1_;have HB:=n2_;clear n0_ n1_ n2_;(try clear hb);(try clear hb2);(try clear hk);(try clear hi);(try clear ho0)
 obtain ⟨Ao13,co13,eo13⟩:=Kd.R_slice HO254.out
 (first|subst eo13|(injection eo13 with f1_ f2_ f3_;have f4_:=f1_.symm;have f5_:=f3_.symm;clear f1_ f2_ f3_;subst f4_;subst f5_))
 refine hK.out _ _ ((blk_cell BK251.out 0).trans rfl) (fun hHeld => ?_)
 clear hK K
 refine norm_ (a':=?_) ?_ ?_
 rotate_left
 ·show Act.put _ (some 6) _ = _
  simp only [pu_]
  rfl
 refine one_ (i:=2) (N:=some 8) #[true,true,true] rfl rfl (by kernel_rfl) (by decide) (fun K hK => ?_)
 refine goes_ Tryz.func85 (by kernel_rfl) rfl #[.agg #[.slice Ao13 t252.length co13],.agg #[.slice A0_0 l0_0.length c0_0]] (by rfl) rfl rfl (by (try simp only [List.map_toArray,List.map_cons,List.map_nil]);first|done|rfl|(simp only [List.length_drop,List.length_take];rfl)) ?_
 with_reducible refine (bursarref03_Long_less.calls k _ _ t252 _ _ l0_0 false _ ?side1 ?side2 ?side3 ?side4 A3.out).mono ?_
 (case side1 => repeat (first|exact (Kd.R_reads' HO254.out).2.2|(with_reducible refine Kd.C_alloc ?_ _)|(with_reducible refine Kd.C_drewN ?_ _)|(with_reducible refine Kd.C_drew ?_)))
 (case side2 => exact (Kd.R_reads' HO254.out).2.1)
 (case side3 => repeat (first|exact (Kd.C_below HR0_0.out HB.out)|(with_reducible refine Kd.C_alloc ?_ _)|(with_reducible refine Kd.C_drewN ?_ _)|(with_reducible refine Kd.C_drew ?_)))
 (case side4 => exact HC0_0.out)
 rintro e w14 ⟨rfl,hb⟩
 refine ⟨_,rfl,?_⟩
 have n0_:=Aside0.mk (Kd.R_below (by (with_reducible repeat (first|apply Kd.R_alloc|apply Kd.R_drewN|apply Kd.R_drew));exact HO254.out) hb)
 have n1_:=Aside0.mk (blk_below (g:=gb251) (o:=.cells #[.slice A0_0 l0_0.length c0_0] 85 (0,0)) (by (with_reducible repeat (first|refine blk_drewN ?_ _|refine blk_drew ?_|refine blk_alloc ?_ _));exact BK251.out) hb)
 have n2_:=Aside0.mk (below_step (by repeat (first|(with_reducible first|exact HB.out|apply below_alloc|apply pw_below_drewN|apply below_drew1|refine below_set ?_ GE251.out)|exact HB.out)) hb)
 clear HO254;clear BK251;clear HB;have HO254:=n0_;have BK251:=n1_;have HB:=n2_;clear n0_ n1_ n2_;(try clear hb);(try clear hb2);(try clear hk);(try clear hi)
 refine hK.out _ _ ((blk_cell BK251.out 0).trans rfl) (fun hHeld => ?_)
 clear hK K
 refine norm_ (a':=?_) ?_ ?_
 rotate_left
 ·show Act.put _ (some 8) _ = _
  simp only [pu_]
  rfl
 refine done_ (by kernel_rfl) ?_
 have hcz15_0 : w14.cell? ⟨gb251,0,none⟩ = some (.slice A0_0 l0_0.length c0_0):=(blk_cell BK251.out 0).trans rfl
 have hfz15_0:=blk_frozen BK251.out 0
 try go_wp2
 go_loopg [4,5] k (fun kq v4 v5 w' => ∃ (x4_1 : Int) (x5_1 : Int),v4 = .int .i64 x4_1 ∧ v5 = .int .i64 x5_1 ∧ Aside0 (bursarref03_Long_value.l0 kq x4_1 x5_1 l0_0 = some (r1,r2)) ∧ Aside0 (kq ≤ k) ∧ Aside0 (w'.heap[gb251]? = some (.cells #[(.slice A0_0 l0_0.length c0_0)] 85 (0,0))) ∧ Aside0 (Below w.heap.size w w'))
 case atStart => exact ⟨(0),(wrap64 ((l0_0.length : Int) - 1)),(by first|rfl|(simp;done)|(simp [*];done)|(simp;rw [Bool.eq_iff_iff];simp;done)|(rw [Bool.eq_iff_iff];simp;done)),(by first|rfl|(simp;done)|(simp [*];done)|(simp;rw [Bool.eq_iff_iff];simp;done)|(rw [Bool.eq_iff_iff];simp;done)),H',⟨Nat.le_refl _⟩,⟨by (with_reducible repeat (first|refine blk_drewN ?_ _|refine blk_drew ?_|refine blk_alloc ?_ _));exact BK251.out⟩,⟨by repeat (first|(with_reducible first|exact HB.out|apply below_alloc|apply pw_below_drewN|apply below_drew1|refine below_set ?_ GE251.out)|exact HB.out)⟩⟩
 case round =>
  clear H';(try clear p2);(try clear c4);(try clear c6);(try clear p6);(try clear c8);(try clear hcz15_0);(try clear hfz15_0)
  obtain ⟨x4_1,x5_1,rfl,rfl,HA,HK1,BK251,HB⟩:=hrel
  cases gk with
 |zero => exact absurd HA.out (by simp [bursarref03_Long_value.l0])
 |succ k1 =>
   have H:=HA.out
   clear HA
   simp only [bursarref03_Long_value.l0] at H
   by_cases c16 : x5_1 ≥ 0
   rotate_left
   ·rw [if_neg c16] at H
    have c16b0 : decide (0 ≤ x5_1) = false:=decide_eq_false c16
    clear c16
    simp only [Option.some.injEq,Prod.mk.injEq] at H
    obtain ⟨rfl,rfl⟩:=H
    go_wp2
    go_ret2
    exact ⟨by first|rfl|(simp [errW_none,errW_some] <;> rfl)|(simp [*,errW_none,errW_some] <;> rfl),by repeat (first|(with_reducible first|exact HB.out|apply below_alloc|apply pw_below_drewN|apply below_drew1|refine below_set ?_ GE251.out)|exact HB.out)⟩
   rw [if_pos c16] at H
   have c16b0 : decide (0 ≤ x5_1) = true:=decide_eq_true c16
   clear c16
   by_cases c17 : 0 ≤ x5_1
   rotate_left
   ·rw [if_neg c17] at H
    exact absurd H (by simp)
   rw [if_pos c17] at H
   have c17b0 : decide (0 ≤ x5_1) = true:=decide_eq_true c17
   clear c17
   by_cases c18 : x5_1 < (l0_0.length : Int)
   rotate_left
   ·rw [if_neg c18] at H
    exact absurd H (by simp)
   rw [if_pos c18] at H
   have c18b0 : decide (x5_1 < (l0_0.length : Int)) = true:=decide_eq_true c18
   clear c18
   have H':=Aside0.mk H
   clear H
   have hcz19_0 : wr.cell? ⟨gb251,0,none⟩ = some (.slice A0_0 l0_0.length c0_0):=(blk_cell BK251.out 0).trans rfl
   have hfz19_0:=blk_frozen BK251.out 0
   have p256 : 0 ≤ (x5_1 : Int):=of_decide_eq_true (by first|(with_reducible assumption)|assumption)
   have q256 : x5_1 < (l0_0.length : Int):=of_decide_eq_true (by first|(with_reducible assumption)|assumption)
   obtain ⟨ad256,e256,hx256_0⟩:=Kd.at_int HR0_0.out x5_1 p256 q256
   cases e256
   replace hx256_0:=(HB.out.cell (World.block_lt_of_cell? w _ hx256_0)).trans hx256_0
   replace p256:=eq_true p256
   replace q256:=eq_true q256
   go_wp2
   go_roundg k1
   case measure => have:=HK1.out;omega
   case rel => exact ⟨(wrap64 ((wrap64 (x4_1 * 10)) + (rd l0_0 x5_1))),(wrap64 (x5_1 - 1)),(by first|rfl|(simp;done)|(simp [*];done)|(simp;rw [Bool.eq_iff_iff];simp;done)|(rw [Bool.eq_iff_iff];simp;done)),(by first|rfl|(simp;done)|(simp [*];done)|(simp;rw [Bool.eq_iff_iff];simp;done)|(rw [Bool.eq_iff_iff];simp;done)),H',⟨by have:=HK1.out;omega⟩,⟨by (with_reducible repeat (first|refine blk_drewN ?_ _|refine blk_drew ?_|refine blk_alloc ?_ _));exact BK251.out⟩,⟨by repeat (first|(with_reducible first|exact HB.out|apply below_alloc|apply pw_below_drewN|apply below_drew1|refine below_set ?_ GE251.out)|exact HB.out)⟩⟩
end Go.Proofs.YtejgbdclhlolkaaGreatDoor.Q
namespace Go.Proofs.YtejgbdclhlolkaaGreatDoor.Q
open Go.RowKit Go.Proofs.YtejgbdclhlolkaaGreatDoorW.PrintWords Go.Proofs.YtejgbdclhlolkaaGreatDoorW.PrintLast Go.Proofs.YtejgbdclhlolkaaGreatDoorW.PrintMore
attribute [local go_sem] binOp_leq_ binOp_gtr_ binOp_geq_ max2_int min2_int max_two min_two max_three min_three max_four min_four   -- for this text's walks alone
set_option linter.unusedVariables false
set_option linter.unusedSimpArgs false
def bursarref03_placed.l0 : Nat → List (S57) → List (S57) → Bool → Int → ByteArray → Int → Option ((List (S57)))
|0,_,_,_,_,_,_ => none
|k + 1,x0,x5,x6,x7,x720000,x720001 => if x7 < (x0.length : Int) then (if x6 = true then (if 0 ≤ x7 then (if x5.length < 5864062014805 then (bursarref03_placed.l0 k x0 (x5 ++ [(⟨(rd_T57 x0 x7).f0,(rd_T57 x0 x7).f1⟩ : S57)]) x6 (wrap64 (x7 + 1)) x720000 x720001) else (none)) else (none)) else (if 0 ≤ x7 then (if (Op.bytesLess x720000.toList (((rd_T57 x0 x7).f0).toList)) = true then (if x5.length < 5864062014805 then ((some (x5 ++ [(⟨x720000,x720001⟩ : S57)] : List (S57))).bind fun y725 => (if y725.length < 5864062014805 then (bursarref03_placed.l0 k x0 (y725 ++ [(⟨(rd_T57 x0 x7).f0,(rd_T57 x0 x7).f1⟩ : S57)]) true (wrap64 (x7 + 1)) x720000 x720001) else (none))) else (none)) else (if x5.length < 5864062014805 then (bursarref03_placed.l0 k x0 (x5 ++ [(⟨(rd_T57 x0 x7).f0,(rd_T57 x0 x7).f1⟩ : S57)]) x6 (wrap64 (x7 + 1)) x720000 x720001) else (none))) else (none))) else (if x6 = true then (some x5) else (if x5.length < 5864062014805 then (some (x5 ++ [(⟨x720000,x720001⟩ : S57)])) else (none)))
def bursarref03_placed.f (k : Nat) (l0 : List (S57)) (a1_0 : ByteArray) (a1_1 : Int) : Option ((List (S57))) := bursarref03_placed.l0 k l0 ([] : List (S57)) false 0 a1_0 a1_1
theorem bursarref03_placed.mono_l : ∀ k, (∀ y0 y1 y2 y3 y4 y5, LeO (bursarref03_placed.l0 k y0 y1 y2 y3 y4 y5) (bursarref03_placed.l0 (k + 1) y0 y1 y2 y3 y4 y5))
|0 => fun _ _ _ _ _ _ r h => by simp [bursarref03_placed.l0] at h
|k + 1 => by
  have ih0:=bursarref03_placed.mono_l k
  ·intro y0 y1 y2 y3 y4 y5
   unfold bursarref03_placed.l0
   repeat' first
  |(with_reducible exact ih0 _ _ _ _ _ _)
  |(with_reducible exact LeO.refl _)
  |(with_reducible exact LeO.none _)
  |(with_reducible refine LeO.ite ?_ ?_)
  |(with_reducible refine LeO.bind ?_ (fun _ => ?_))
  |exact ih0 _ _ _ _ _ _
  |exact LeO.none _
  |refine LeO.ite ?_ ?_
  |refine LeO.bind ?_ (fun _ => ?_)
theorem bursarref03_placed.mono : ∀ a0 a1 a2 k, LeO (bursarref03_placed.f k a0 a1 a2) (bursarref03_placed.f (k + 1) a0 a1 a2) := by
 intro a0 a1 a2 k
 have ih0:=bursarref03_placed.mono_l k
 unfold bursarref03_placed.f
 repeat' first
  |(with_reducible exact ih0 _ _ _ _ _ _)
  |(with_reducible exact LeO.refl _)
  |(with_reducible exact LeO.none _)
  |(with_reducible refine LeO.ite ?_ ?_)
  |(with_reducible refine LeO.bind ?_ (fun _ => ?_))
  |exact ih0 _ _ _ _ _ _
  |exact LeO.none _
  |refine LeO.ite ?_ ?_
  |refine LeO.bind ?_ (fun _ => ?_)
set_option maxHeartbeats 8000000 in
set_option maxRecDepth 100000 in
theorem bursarref03_placed.calls (k : Nat) (A0 : Option Addr) (c0 : Nat) (l0 : List (S57)) (a1_0 : ByteArray) (a1_1 : Int) (r : List (S57)) (w : World) (hr0 : Kd.C k57 w A0 l0.length l0) (hc0 : l0.length ≤ c0) (h : bursarref03_placed.f k l0 a1_0 a1_1 = some r) :
  Calls Tryz.prog 76 #[.slice A0 l0.length c0,.agg #[.string a1_0,.int .i64 a1_1]] w fun e w' => ∃ v0_ : Value,e = .returned (v0_) ∧ Kd.R k57 57 w' w.heap.size (fun _ => True) v0_ r ∧ Below w.heap.size w w':=by
 have hu57:=Tryz.underlying57
 have HR0:=Aside0.mk hr0
 have HC0:=Aside0.mk hc0
 clear hr0 hc0
 have HB:=Aside0.mk (Below.refl w.heap.size w)
 have H : (bursarref03_placed.l0 k l0 ([] : List (S57)) false 0 a1_0 a1_1) = some r:=h
 clear h
 have H':=Aside0.mk H
 clear H
 go_enter Tryz.func76,Tryz.ntmps76
 go_wp2_with (first|((with_reducible refine gate_dst (N:=3) rfl ?_);refine box_event ?hg (N:=3) ?hd (cs:=#[.string a1_0,.int .i64 a1_1]) (t:=57) ?hr ?_;(case hd => rfl);(case hg => rfl);(case hr => first|(go_simp;done)|(go_simp;rfl));intro gb719 hg w3 hbox hb;have n0_:=Aside0.mk (below_step (by repeat (first|(with_reducible first|exact HB.out|apply below_alloc|apply pw_below_drewN|apply below_drew1)|exact HB.out)) hb);have n1_:=Aside0.mk (hbox);have n2_:=Aside0.mk ((by rw [hg];exact (below_size (by repeat (first|(with_reducible first|exact HB.out|apply below_alloc|apply pw_below_drewN|apply below_drew1)|exact HB.out))) : w.heap.size ≤ gb719));have n3_:=Aside0.mk ((by rw [hg];exact (below_size (by repeat (first|(with_reducible first|exact HB.out|apply below_alloc|apply pw_below_drewN|apply below_drew1)|exact HB.out))) : w.heap.size ≤ gb719));clear HB;have HB:=n0_;have BK719:=n1_;have GW719:=n2_;have GE719:=n3_;clear n0_ n1_ n2_ n3_;clear hb hbox hg))
 repeat (go_quiet (first|((with_reducible refine gate_dst (N:=3) rfl ?_);refine box_event ?hg (N:=3) ?hd (cs:=#[.string a1_0,.int .i64 a1_1]) (t:=57) ?hr ?_;(case hd => rfl);(case hg => rfl);(case hr => first|(go_simp;done)|(go_simp;rfl));intro gb719 hg w3 hbox hb;have n0_:=Aside0.mk (below_step (by repeat (first|(with_reducible first|exact HB.out|apply below_alloc|apply pw_below_drewN|apply below_drew1)|exact HB.out)) hb);have n1_:=Aside0.mk (hbox);have n2_:=Aside0.mk ((by rw [hg];exact (below_size (by repeat (first|(with_reducible first|exact HB.out|apply below_alloc|apply pw_below_drewN|apply below_drew1)|exact HB.out))) : w.heap.size ≤ gb719));have n3_:=Aside0.mk ((by rw [hg];exact (below_size (by repeat (first|(with_reducible first|exact HB.out|apply below_alloc|apply pw_below_drewN|apply below_drew1)|exact HB.out))) : w.heap.size ≤ gb719));clear HB;have HB:=n0_;have BK719:=n1_;have GW719:=n2_;have GE719:=n3_;clear n0_ n1_ n2_ n3_;clear hb hbox hg));try go_wp2_with (first|((with_reducible refine gate_dst (N:=3) rfl ?_);refine box_event ?hg (N:=3) ?hd (cs:=#[.string a1_0,.int .i64 a1_1]) (t:=57) ?hr ?_;(case hd => rfl);(case hg => rfl);(case hr => first|(go_simp;done)|(go_simp;rfl));intro gb719 hg w3 hbox hb;have n0_:=Aside0.mk (below_step (by repeat (first|(with_reducible first|exact HB.out|apply below_alloc|apply pw_below_drewN|apply below_drew1)|exact HB.out)) hb);have n1_:=Aside0.mk (hbox);have n2_:=Aside0.mk ((by rw [hg];exact (below_size (by repeat (first|(with_reducible first|exact HB.out|apply below_alloc|apply pw_below_drewN|apply below_drew1)|exact HB.out))) : w.heap.size ≤ gb719));have n3_:=Aside0.mk ((by rw [hg];exact (below_size (by repeat (first|(with_reducible first|exact HB.out|apply below_alloc|apply pw_below_drewN|apply below_drew1)|exact HB.out))) : w.heap.size ≤ gb719));clear HB;have HB:=n0_;have BK719:=n1_;have GW719:=n2_;have GE719:=n3_;clear n0_ n1_ n2_ n3_;clear hb hbox hg)))
 go_loopg [5,6,7] k (fun kq v5 v6 v7 w' => ∃ (x5_1 : List (S57)) (x6_1 : Bool) (x7_1 : Int),v6 = .bool x6_1 ∧ v7 = .int .i64 x7_1 ∧ Aside0 (bursarref03_placed.l0 kq l0 x5_1 x6_1 x7_1 a1_0 a1_1 = some r) ∧ Aside0 (kq ≤ k) ∧ Aside0 (Kd.R k57 57 w' w.heap.size (fun k_ => k_ ≠ gb719) v5 x5_1) ∧ Aside0 (w'.heap[gb719]? = some (.cells #[.string a1_0,.int .i64 a1_1] 57 (0,0))) ∧ Aside0 (Below w.heap.size w w'))
 case atStart => exact ⟨(([] : List (S57))),(false),(0),(by first|rfl|(simp;done)|(simp [*];done)|(simp;rw [Bool.eq_iff_iff];simp;done)|(rw [Bool.eq_iff_iff];simp;done)),(by first|rfl|(simp;done)|(simp [*];done)|(simp;rw [Bool.eq_iff_iff];simp;done)|(rw [Bool.eq_iff_iff];simp;done)),H',⟨Nat.le_refl _⟩,⟨by first|exact Kd.R_nil _ _ _ _ _|exact Kd.N_nil _ _ _ _ _|exact Kd.V_nil _ _ _ _ _|exact Kd.Q_nil _ _ _ _ _|exact Kd.S_nil _ _ _ _ _⟩,⟨by (with_reducible repeat (first|refine blk_drewN ?_ _|refine blk_drew ?_|refine blk_alloc ?_ _));exact BK719.out⟩,⟨by repeat (first|(with_reducible first|exact HB.out|apply below_alloc|apply pw_below_drewN|apply below_drew1|refine below_set ?_ GE719.out)|exact HB.out)⟩⟩
 case round =>
  clear H';(try clear p2)
  obtain ⟨x5_1,x6_1,x7_1,rfl,rfl,HA,HK1,HO_5,BK719,HB⟩:=hrel
  cases gk with
 |zero => exact absurd HA.out (by simp [bursarref03_placed.l0])
 |succ k1 =>
   have H:=HA.out
   clear HA
   simp only [bursarref03_placed.l0] at H
   by_cases c4 : x7_1 < (l0.length : Int)
   rotate_left
   ·rw [if_neg c4] at H
    have c4b0 : decide (x7_1 < (l0.length : Int)) = false:=decide_eq_false c4
    clear c4
    by_cases c19 : x6_1 = true
    ·subst c19
     have H1 : (some x5_1) = some r:=by rw [if_pos rfl] at H;exact H
     clear H;have H:=H1;clear H1
     obtain rfl:=Option.some.inj H
     go_wp2
     repeat (go_quiet (fail);try go_wp2)
     go_ret
     exact ⟨_,by first|rfl|(simp [errW_none,errW_some] <;> rfl)|(simp [*,errW_none,errW_some] <;> rfl),by (with_reducible repeat (first|apply Kd.R_alloc|apply Kd.R_drewN|apply Kd.R_drew));exact Kd.R_mono HO_5.out (fun _ hk => trivial),by repeat (first|(with_reducible first|exact HB.out|apply below_alloc|apply pw_below_drewN|apply below_drew1|refine below_set ?_ GE719.out)|exact HB.out)⟩
    replace c19:=Bool.eq_false_iff.mpr c19
    subst c19
    have H1 : (if x5_1.length < 5864062014805 then (some (x5_1 ++ [(⟨a1_0,a1_1⟩ : S57)])) else (none)) = some r:=by rw [if_neg (show ¬ (false = true) by decide)] at H;exact H
    clear H;have H:=H1;clear H1
    by_cases c20 : x5_1.length < 5864062014805
    rotate_left
    ·rw [if_neg c20] at H
     exact absurd H (by simp)
    rw [if_pos c20] at H
    have LMc20:=Aside0.mk c20
    clear c20
    obtain ⟨y736,hy736⟩ : ∃ y_ : List (S57),y_ = (x5_1 ++ [(⟨a1_0,a1_1⟩ : S57)]):=⟨_,rfl⟩
    replace H : (some y736) = some r:=by first|(rw [hy736];with_reducible exact H)|(have H2_:=(Option.bind_some _ _).symm.trans H;rw [hy736];with_reducible exact H2_)|(have H2_:=(Option.bind_some _ _).symm.trans H;with_reducible exact H2_)|with_reducible exact H|(rw [hy736];exact H)|exact H
    have Ny736:=Aside0.mk hy736
    clear hy736
    obtain rfl:=Option.some.inj H
    have hcz21_0 : wr.cell? ⟨gb719,0,none⟩ = some (.string a1_0):=(blk_cell BK719.out 0).trans rfl
    have hcz21_1 : wr.cell? ⟨gb719,1,none⟩ = some (.int .i64 a1_1):=(blk_cell BK719.out 1).trans rfl
    have hfz21_0:=blk_frozen BK719.out 0
    have hfz21_1:=blk_frozen BK719.out 1
    go_wp2_with (first|((with_reducible refine gate_builtin (b:=.append) (xs:=#[.tmp 39,.tmp 41]) rfl ?_);at_builtin;refine Kd.R_append k57 (w0:=w) w.heap.size rfl (.tmp 39) (.tmp 41) 46 57 (.agg #[(.string ⟨#[]⟩),(.int .i64 0)]) 24 rfl Tryz.underlying46 info57 rfl (by decide) (by omega) u5 x5_1 (⟨a1_0,a1_1⟩ : S57) [.string a1_0,.int .i64 a1_1] (fun k_ => k_ ≠ gb719) (fun _ => False) rfl rfl ?aP (fun _ hk => hk.elim) ?aF ?aO ?aB ?aS ?aL ?_;(case aP => exact k57_mkM _ _ _ (⟨a1_0,a1_1⟩ : S57));(case aB => exact (by repeat (first|(with_reducible first|exact HB.out|apply below_alloc|apply pw_below_drewN|apply below_drew1|refine below_set ?_ GE719.out)|exact HB.out)));(case aF => exact (fun k_ hk => Kd.freshB (g:=gb719) (o:=.cells #[.string a1_0,.int .i64 a1_1] 57 (0,0)) (by (with_reducible repeat (first|refine blk_drewN ?_ _|refine blk_drew ?_|refine blk_alloc ?_ _));exact BK719.out) k_ hk));(case aO => exact (by (with_reducible repeat (first|apply Kd.R_alloc|apply Kd.R_drewN|apply Kd.R_drew));exact HO_5.out));(case aS => exact (below_size (by repeat (first|(with_reducible first|exact HB.out|apply below_alloc|apply pw_below_drewN|apply below_drew1|refine below_set ?_ GE719.out)|exact HB.out))));(case aL => have:=LMc20.out;omega);intro v737 w22 ho hb hg hat;rw [← Ny736.out] at ho;have n0_:=Aside0.mk (blk_grown (g:=gb719) (o:=.cells #[.string a1_0,.int .i64 a1_1] 57 (0,0)) (by (with_reducible repeat (first|refine blk_drewN ?_ _|refine blk_drew ?_|refine blk_alloc ?_ _));exact BK719.out) hg (Kd.R_away HO_5.out (fun _ hk => hk)));have n1_:=Aside0.mk (hb);have n2_:=Aside0.mk (ho);clear BK719;clear HB;clear HO_5;have BK719:=n0_;have HB:=n1_;have HO738:=n2_;clear n0_ n1_ n2_;clear ho hb hg hat))
    repeat (go_quiet (first|((with_reducible refine gate_builtin (b:=.append) (xs:=#[.tmp 39,.tmp 41]) rfl ?_);at_builtin;refine Kd.R_append k57 (w0:=w) w.heap.size rfl (.tmp 39) (.tmp 41) 46 57 (.agg #[(.string ⟨#[]⟩),(.int .i64 0)]) 24 rfl Tryz.underlying46 info57 rfl (by decide) (by omega) u5 x5_1 (⟨a1_0,a1_1⟩ : S57) [.string a1_0,.int .i64 a1_1] (fun k_ => k_ ≠ gb719) (fun _ => False) rfl rfl ?aP (fun _ hk => hk.elim) ?aF ?aO ?aB ?aS ?aL ?_;(case aP => exact k57_mkM _ _ _ (⟨a1_0,a1_1⟩ : S57));(case aB => exact (by repeat (first|(with_reducible first|exact HB.out|apply below_alloc|apply pw_below_drewN|apply below_drew1|refine below_set ?_ GE719.out)|exact HB.out)));(case aF => exact (fun k_ hk => Kd.freshB (g:=gb719) (o:=.cells #[.string a1_0,.int .i64 a1_1] 57 (0,0)) (by (with_reducible repeat (first|refine blk_drewN ?_ _|refine blk_drew ?_|refine blk_alloc ?_ _));exact BK719.out) k_ hk));(case aO => exact (by (with_reducible repeat (first|apply Kd.R_alloc|apply Kd.R_drewN|apply Kd.R_drew));exact HO_5.out));(case aS => exact (below_size (by repeat (first|(with_reducible first|exact HB.out|apply below_alloc|apply pw_below_drewN|apply below_drew1|refine below_set ?_ GE719.out)|exact HB.out))));(case aL => have:=LMc20.out;omega);intro v737 w22 ho hb hg hat;rw [← Ny736.out] at ho;have n0_:=Aside0.mk (blk_grown (g:=gb719) (o:=.cells #[.string a1_0,.int .i64 a1_1] 57 (0,0)) (by (with_reducible repeat (first|refine blk_drewN ?_ _|refine blk_drew ?_|refine blk_alloc ?_ _));exact BK719.out) hg (Kd.R_away HO_5.out (fun _ hk => hk)));have n1_:=Aside0.mk (hb);have n2_:=Aside0.mk (ho);clear BK719;clear HB;clear HO_5;have BK719:=n0_;have HB:=n1_;have HO738:=n2_;clear n0_ n1_ n2_;clear ho hb hg hat));try go_wp2_with (first|((with_reducible refine gate_builtin (b:=.append) (xs:=#[.tmp 39,.tmp 41]) rfl ?_);at_builtin;refine Kd.R_append k57 (w0:=w) w.heap.size rfl (.tmp 39) (.tmp 41) 46 57 (.agg #[(.string ⟨#[]⟩),(.int .i64 0)]) 24 rfl Tryz.underlying46 info57 rfl (by decide) (by omega) u5 x5_1 (⟨a1_0,a1_1⟩ : S57) [.string a1_0,.int .i64 a1_1] (fun k_ => k_ ≠ gb719) (fun _ => False) rfl rfl ?aP (fun _ hk => hk.elim) ?aF ?aO ?aB ?aS ?aL ?_;(case aP => exact k57_mkM _ _ _ (⟨a1_0,a1_1⟩ : S57));(case aB => exact (by repeat (first|(with_reducible first|exact HB.out|apply below_alloc|apply pw_below_drewN|apply below_drew1|refine below_set ?_ GE719.out)|exact HB.out)));(case aF => exact (fun k_ hk => Kd.freshB (g:=gb719) (o:=.cells #[.string a1_0,.int .i64 a1_1] 57 (0,0)) (by (with_reducible repeat (first|refine blk_drewN ?_ _|refine blk_drew ?_|refine blk_alloc ?_ _));exact BK719.out) k_ hk));(case aO => exact (by (with_reducible repeat (first|apply Kd.R_alloc|apply Kd.R_drewN|apply Kd.R_drew));exact HO_5.out));(case aS => exact (below_size (by repeat (first|(with_reducible first|exact HB.out|apply below_alloc|apply pw_below_drewN|apply below_drew1|refine below_set ?_ GE719.out)|exact HB.out))));(case aL => have:=LMc20.out;omega);intro v737 w22 ho hb hg hat;rw [← Ny736.out] at ho;have n0_:=Aside0.mk (blk_grown (g:=gb719) (o:=.cells #[.string a1_0,.int .i64 a1_1] 57 (0,0)) (by (with_reducible repeat (first|refine blk_drewN ?_ _|refine blk_drew ?_|refine blk_alloc ?_ _));exact BK719.out) hg (Kd.R_away HO_5.out (fun _ hk => hk)));have n1_:=Aside0.mk (hb);have n2_:=Aside0.mk (ho);clear BK719;clear HB;clear HO_5;have BK719:=n0_;have HB:=n1_;have HO738:=n2_;clear n0_ n1_ n2_;clear ho hb hg hat)))
    go_ret
    exact ⟨_,by first|rfl|(simp [errW_none,errW_some] <;> rfl)|(simp [*,errW_none,errW_some] <;> rfl),by (with_reducible repeat (first|apply Kd.R_alloc|apply Kd.R_drewN|apply Kd.R_drew));exact Kd.R_mono HO738.out (fun _ hk => trivial),by repeat (first|(with_reducible first|exact HB.out|apply below_alloc|apply pw_below_drewN|apply below_drew1|refine below_set ?_ GE719.out)|exact HB.out)⟩
   rw [if_pos c4] at H
   have c4b0 : decide (x7_1 < (l0.length : Int)) = true:=decide_eq_true c4
   clear c4
   by_cases c5 : x6_1 = true
   ·subst c5
    have H1 : (if 0 ≤ x7_1 then (if x5_1.length < 5864062014805 then (bursarref03_placed.l0 k1 l0 (x5_1 ++ [(⟨(rd_T57 l0 x7_1).f0,(rd_T57 l0 x7_1).f1⟩ : S57)]) true (wrap64 (x7_1 + 1)) a1_0 a1_1) else (none)) else (none)) = some r:=by rw [if_pos rfl] at H;exact H
    clear H;have H:=H1;clear H1
    by_cases c6 : 0 ≤ x7_1
    rotate_left
    ·rw [if_neg c6] at H
     exact absurd H (by simp)
    rw [if_pos c6] at H
    have c6b0 : decide (0 ≤ x7_1) = true:=decide_eq_true c6
    clear c6
    by_cases c7 : x5_1.length < 5864062014805
    rotate_left
    ·rw [if_neg c7] at H
     exact absurd H (by simp)
    rw [if_pos c7] at H
    have LMc7:=Aside0.mk c7
    clear c7
    obtain ⟨y721,hy721⟩ : ∃ y_ : List (S57),y_ = (x5_1 ++ [(⟨(rd_T57 l0 x7_1).f0,(rd_T57 l0 x7_1).f1⟩ : S57)]):=⟨_,rfl⟩
    replace H : (bursarref03_placed.l0 k1 l0 y721 true (wrap64 (x7_1 + 1)) a1_0 a1_1) = some r:=by first|(rw [hy721];with_reducible exact H)|(have H2_:=(Option.bind_some _ _).symm.trans H;rw [hy721];with_reducible exact H2_)|(have H2_:=(Option.bind_some _ _).symm.trans H;with_reducible exact H2_)|with_reducible exact H|(rw [hy721];exact H)|exact H
    have Ny721:=Aside0.mk hy721
    clear hy721
    have H':=Aside0.mk H
    clear H
    have p720 : 0 ≤ (x7_1 : Int):=of_decide_eq_true (by first|(with_reducible assumption)|assumption)
    have q720 : x7_1 < (l0.length : Int):=of_decide_eq_true (by first|(with_reducible assumption)|assumption)
    obtain ⟨ad720,e720,hx720_0,hx720_1⟩:=at_T57 HR0.out x7_1 p720 q720
    cases e720
    replace hx720_0:=(HB.out.cell (World.block_lt_of_cell? w _ hx720_0)).trans hx720_0
    replace hx720_1:=(HB.out.cell (World.block_lt_of_cell? w _ hx720_1)).trans hx720_1
    replace p720:=eq_true p720
    replace q720:=eq_true q720
    go_wp2_with (first|((with_reducible refine gate_builtin (b:=.append) (xs:=#[.tmp 30,.tmp 35]) rfl ?_);at_builtin;refine Kd.R_append k57 (w0:=w) w.heap.size rfl (.tmp 30) (.tmp 35) 46 57 (.agg #[(.string ⟨#[]⟩),(.int .i64 0)]) 24 rfl Tryz.underlying46 info57 rfl (by decide) (by omega) u5 x5_1 (⟨(rd_T57 l0 x7_1).f0,(rd_T57 l0 x7_1).f1⟩ : S57) [.string ((rd_T57 l0 x7_1).f0),.int .i64 ((rd_T57 l0 x7_1).f1)] (fun k_ => k_ ≠ gb719) (fun _ => False) rfl rfl ?aP (fun _ hk => hk.elim) ?aF ?aO ?aB ?aS ?aL ?_;(case aP => exact k57_mkM _ _ _ (⟨(rd_T57 l0 x7_1).f0,(rd_T57 l0 x7_1).f1⟩ : S57));(case aB => exact (by repeat (first|(with_reducible first|exact HB.out|apply below_alloc|apply pw_below_drewN|apply below_drew1|refine below_set ?_ GE719.out)|exact HB.out)));(case aF => exact (fun k_ hk => Kd.freshB (g:=gb719) (o:=.cells #[.string a1_0,.int .i64 a1_1] 57 (0,0)) (by (with_reducible repeat (first|refine blk_drewN ?_ _|refine blk_drew ?_|refine blk_alloc ?_ _));exact BK719.out) k_ hk));(case aO => exact (by (with_reducible repeat (first|apply Kd.R_alloc|apply Kd.R_drewN|apply Kd.R_drew));exact HO_5.out));(case aS => exact (below_size (by repeat (first|(with_reducible first|exact HB.out|apply below_alloc|apply pw_below_drewN|apply below_drew1|refine below_set ?_ GE719.out)|exact HB.out))));(case aL => have:=LMc7.out;omega);intro v722 w8 ho hb hg hat;rw [← Ny721.out] at ho;have n0_:=Aside0.mk (blk_grown (g:=gb719) (o:=.cells #[.string a1_0,.int .i64 a1_1] 57 (0,0)) (by (with_reducible repeat (first|refine blk_drewN ?_ _|refine blk_drew ?_|refine blk_alloc ?_ _));exact BK719.out) hg (Kd.R_away HO_5.out (fun _ hk => hk)));have n1_:=Aside0.mk (hb);have n2_:=Aside0.mk (ho);clear BK719;clear HB;clear HO_5;have BK719:=n0_;have HB:=n1_;have HO723:=n2_;clear n0_ n1_ n2_;clear ho hb hg hat))
    repeat (go_quiet (first|((with_reducible refine gate_builtin (b:=.append) (xs:=#[.tmp 30,.tmp 35]) rfl ?_);at_builtin;refine Kd.R_append k57 (w0:=w) w.heap.size rfl (.tmp 30) (.tmp 35) 46 57 (.agg #[(.string ⟨#[]⟩),(.int .i64 0)]) 24 rfl Tryz.underlying46 info57 rfl (by decide) (by omega) u5 x5_1 (⟨(rd_T57 l0 x7_1).f0,(rd_T57 l0 x7_1).f1⟩ : S57) [.string ((rd_T57 l0 x7_1).f0),.int .i64 ((rd_T57 l0 x7_1).f1)] (fun k_ => k_ ≠ gb719) (fun _ => False) rfl rfl ?aP (fun _ hk => hk.elim) ?aF ?aO ?aB ?aS ?aL ?_;(case aP => exact k57_mkM _ _ _ (⟨(rd_T57 l0 x7_1).f0,(rd_T57 l0 x7_1).f1⟩ : S57));(case aB => exact (by repeat (first|(with_reducible first|exact HB.out|apply below_alloc|apply pw_below_drewN|apply below_drew1|refine below_set ?_ GE719.out)|exact HB.out)));(case aF => exact (fun k_ hk => Kd.freshB (g:=gb719) (o:=.cells #[.string a1_0,.int .i64 a1_1] 57 (0,0)) (by (with_reducible repeat (first|refine blk_drewN ?_ _|refine blk_drew ?_|refine blk_alloc ?_ _));exact BK719.out) k_ hk));(case aO => exact (by (with_reducible repeat (first|apply Kd.R_alloc|apply Kd.R_drewN|apply Kd.R_drew));exact HO_5.out));(case aS => exact (below_size (by repeat (first|(with_reducible first|exact HB.out|apply below_alloc|apply pw_below_drewN|apply below_drew1|refine below_set ?_ GE719.out)|exact HB.out))));(case aL => have:=LMc7.out;omega);intro v722 w8 ho hb hg hat;rw [← Ny721.out] at ho;have n0_:=Aside0.mk (blk_grown (g:=gb719) (o:=.cells #[.string a1_0,.int .i64 a1_1] 57 (0,0)) (by (with_reducible repeat (first|refine blk_drewN ?_ _|refine blk_drew ?_|refine blk_alloc ?_ _));exact BK719.out) hg (Kd.R_away HO_5.out (fun _ hk => hk)));have n1_:=Aside0.mk (hb);have n2_:=Aside0.mk (ho);clear BK719;clear HB;clear HO_5;have BK719:=n0_;have HB:=n1_;have HO723:=n2_;clear n0_ n1_ n2_;clear ho hb hg hat));try go_wp2_with (first|((with_reducible refine gate_builtin (b:=.append) (xs:=#[.tmp 30,.tmp 35]) rfl ?_);at_builtin;refine Kd.R_append k57 (w0:=w) w.heap.size rfl (.tmp 30) (.tmp 35) 46 57 (.agg #[(.string ⟨#[]⟩),(.int .i64 0)]) 24 rfl Tryz.underlying46 info57 rfl (by decide) (by omega) u5 x5_1 (⟨(rd_T57 l0 x7_1).f0,(rd_T57 l0 x7_1).f1⟩ : S57) [.string ((rd_T57 l0 x7_1).f0),.int .i64 ((rd_T57 l0 x7_1).f1)] (fun k_ => k_ ≠ gb719) (fun _ => False) rfl rfl ?aP (fun _ hk => hk.elim) ?aF ?aO ?aB ?aS ?aL ?_;(case aP => exact k57_mkM _ _ _ (⟨(rd_T57 l0 x7_1).f0,(rd_T57 l0 x7_1).f1⟩ : S57));(case aB => exact (by repeat (first|(with_reducible first|exact HB.out|apply below_alloc|apply pw_below_drewN|apply below_drew1|refine below_set ?_ GE719.out)|exact HB.out)));(case aF => exact (fun k_ hk => Kd.freshB (g:=gb719) (o:=.cells #[.string a1_0,.int .i64 a1_1] 57 (0,0)) (by (with_reducible repeat (first|refine blk_drewN ?_ _|refine blk_drew ?_|refine blk_alloc ?_ _));exact BK719.out) k_ hk));(case aO => exact (by (with_reducible repeat (first|apply Kd.R_alloc|apply Kd.R_drewN|apply Kd.R_drew));exact HO_5.out));(case aS => exact (below_size (by repeat (first|(with_reducible first|exact HB.out|apply below_alloc|apply pw_below_drewN|apply below_drew1|refine below_set ?_ GE719.out)|exact HB.out))));(case aL => have:=LMc7.out;omega);intro v722 w8 ho hb hg hat;rw [← Ny721.out] at ho;have n0_:=Aside0.mk (blk_grown (g:=gb719) (o:=.cells #[.string a1_0,.int .i64 a1_1] 57 (0,0)) (by (with_reducible repeat (first|refine blk_drewN ?_ _|refine blk_drew ?_|refine blk_alloc ?_ _));exact BK719.out) hg (Kd.R_away HO_5.out (fun _ hk => hk)));have n1_:=Aside0.mk (hb);have n2_:=Aside0.mk (ho);clear BK719;clear HB;clear HO_5;have BK719:=n0_;have HB:=n1_;have HO723:=n2_;clear n0_ n1_ n2_;clear ho hb hg hat)))
    go_roundg k1
    case measure => have:=HK1.out;omega
    case rel => exact ⟨(y721),(true),(wrap64 (x7_1 + 1)),(by first|rfl|(simp;done)|(simp [*];done)|(simp;rw [Bool.eq_iff_iff];simp;done)|(rw [Bool.eq_iff_iff];simp;done)),(by first|rfl|(simp;done)|(simp [*];done)|(simp;rw [Bool.eq_iff_iff];simp;done)|(rw [Bool.eq_iff_iff];simp;done)),H',⟨by have:=HK1.out;omega⟩,⟨by (with_reducible repeat (first|apply Kd.R_alloc|apply Kd.R_drewN|apply Kd.R_drew));exact HO723.out⟩,⟨by (with_reducible repeat (first|refine blk_drewN ?_ _|refine blk_drew ?_|refine blk_alloc ?_ _));exact BK719.out⟩,⟨by repeat (first|(with_reducible first|exact HB.out|apply below_alloc|apply pw_below_drewN|apply below_drew1|refine below_set ?_ GE719.out)|exact HB.out)⟩⟩
   replace c5:=Bool.eq_false_iff.mpr c5
   subst c5
   have H1 : (if 0 ≤ x7_1 then (if (Op.bytesLess a1_0.toList (((rd_T57 l0 x7_1).f0).toList)) = true then (if x5_1.length < 5864062014805 then ((some (x5_1 ++ [(⟨a1_0,a1_1⟩ : S57)] : List (S57))).bind fun y725 => (if y725.length < 5864062014805 then (bursarref03_placed.l0 k1 l0 (y725 ++ [(⟨(rd_T57 l0 x7_1).f0,(rd_T57 l0 x7_1).f1⟩ : S57)]) true (wrap64 (x7_1 + 1)) a1_0 a1_1) else (none))) else (none)) else (if x5_1.length < 5864062014805 then (bursarref03_placed.l0 k1 l0 (x5_1 ++ [(⟨(rd_T57 l0 x7_1).f0,(rd_T57 l0 x7_1).f1⟩ : S57)]) false (wrap64 (x7_1 + 1)) a1_0 a1_1) else (none))) else (none)) = some r:=by rw [if_neg (show ¬ (false = true) by decide)] at H;exact H
   clear H;have H:=H1;clear H1
   by_cases c9 : 0 ≤ x7_1
   rotate_left
   ·rw [if_neg c9] at H
    exact absurd H (by simp)
   rw [if_pos c9] at H
   have c9b0 : decide (0 ≤ x7_1) = true:=decide_eq_true c9
   clear c9
   by_cases c10 : (Op.bytesLess a1_0.toList (((rd_T57 l0 x7_1).f0).toList)) = true
   rotate_left
   ·rw [if_neg c10] at H
    have c10b0 : (Op.bytesLess a1_0.toList (((rd_T57 l0 x7_1).f0).toList)) = false:=by simpa using c10
    clear c10
    by_cases c16 : x5_1.length < 5864062014805
    rotate_left
    ·rw [if_neg c16] at H
     exact absurd H (by simp)
    rw [if_pos c16] at H
    have LMc16:=Aside0.mk c16
    clear c16
    obtain ⟨y733,hy733⟩ : ∃ y_ : List (S57),y_ = (x5_1 ++ [(⟨(rd_T57 l0 x7_1).f0,(rd_T57 l0 x7_1).f1⟩ : S57)]):=⟨_,rfl⟩
    replace H : (bursarref03_placed.l0 k1 l0 y733 false (wrap64 (x7_1 + 1)) a1_0 a1_1) = some r:=by first|(rw [hy733];with_reducible exact H)|(have H2_:=(Option.bind_some _ _).symm.trans H;rw [hy733];with_reducible exact H2_)|(have H2_:=(Option.bind_some _ _).symm.trans H;with_reducible exact H2_)|with_reducible exact H|(rw [hy733];exact H)|exact H
    have Ny733:=Aside0.mk hy733
    clear hy733
    have H':=Aside0.mk H
    clear H
    have hcz17_0 : wr.cell? ⟨gb719,0,none⟩ = some (.string a1_0):=(blk_cell BK719.out 0).trans rfl
    have hcz17_1 : wr.cell? ⟨gb719,1,none⟩ = some (.int .i64 a1_1):=(blk_cell BK719.out 1).trans rfl
    have hfz17_0:=blk_frozen BK719.out 0
    have hfz17_1:=blk_frozen BK719.out 1
    have p724 : 0 ≤ (x7_1 : Int):=of_decide_eq_true (by first|(with_reducible assumption)|assumption)
    have q724 : x7_1 < (l0.length : Int):=of_decide_eq_true (by first|(with_reducible assumption)|assumption)
    obtain ⟨ad724,e724,hx724_0,hx724_1⟩:=at_T57 HR0.out x7_1 p724 q724
    cases e724
    replace hx724_0:=(HB.out.cell (World.block_lt_of_cell? w _ hx724_0)).trans hx724_0
    replace hx724_1:=(HB.out.cell (World.block_lt_of_cell? w _ hx724_1)).trans hx724_1
    replace p724:=eq_true p724
    replace q724:=eq_true q724
    have p732 : 0 ≤ (x7_1 : Int):=of_decide_eq_true (by first|(with_reducible assumption)|assumption)
    have q732 : x7_1 < (l0.length : Int):=of_decide_eq_true (by first|(with_reducible assumption)|assumption)
    obtain ⟨ad732,e732,hx732_0,hx732_1⟩:=at_T57 HR0.out x7_1 p732 q732
    obtain rfl : ad724 = ad732:=(by injection e732)
    replace hx732_0:=(HB.out.cell (World.block_lt_of_cell? w _ hx732_0)).trans hx732_0
    replace hx732_1:=(HB.out.cell (World.block_lt_of_cell? w _ hx732_1)).trans hx732_1
    replace p732:=eq_true p732
    replace q732:=eq_true q732
    go_wp2_with (first|((with_reducible refine gate_builtin (b:=.append) (xs:=#[.tmp 30,.tmp 35]) rfl ?_);at_builtin;refine Kd.R_append k57 (w0:=w) w.heap.size rfl (.tmp 30) (.tmp 35) 46 57 (.agg #[(.string ⟨#[]⟩),(.int .i64 0)]) 24 rfl Tryz.underlying46 info57 rfl (by decide) (by omega) u5 x5_1 (⟨(rd_T57 l0 x7_1).f0,(rd_T57 l0 x7_1).f1⟩ : S57) [.string ((rd_T57 l0 x7_1).f0),.int .i64 ((rd_T57 l0 x7_1).f1)] (fun k_ => k_ ≠ gb719) (fun _ => False) rfl rfl ?aP (fun _ hk => hk.elim) ?aF ?aO ?aB ?aS ?aL ?_;(case aP => exact k57_mkM _ _ _ (⟨(rd_T57 l0 x7_1).f0,(rd_T57 l0 x7_1).f1⟩ : S57));(case aB => exact (by repeat (first|(with_reducible first|exact HB.out|apply below_alloc|apply pw_below_drewN|apply below_drew1|refine below_set ?_ GE719.out)|exact HB.out)));(case aF => exact (fun k_ hk => Kd.freshB (g:=gb719) (o:=.cells #[.string a1_0,.int .i64 a1_1] 57 (0,0)) (by (with_reducible repeat (first|refine blk_drewN ?_ _|refine blk_drew ?_|refine blk_alloc ?_ _));exact BK719.out) k_ hk));(case aO => exact (by (with_reducible repeat (first|apply Kd.R_alloc|apply Kd.R_drewN|apply Kd.R_drew));exact HO_5.out));(case aS => exact (below_size (by repeat (first|(with_reducible first|exact HB.out|apply below_alloc|apply pw_below_drewN|apply below_drew1|refine below_set ?_ GE719.out)|exact HB.out))));(case aL => have:=LMc16.out;omega);intro v734 w18 ho hb hg hat;rw [← Ny733.out] at ho;have n0_:=Aside0.mk (blk_grown (g:=gb719) (o:=.cells #[.string a1_0,.int .i64 a1_1] 57 (0,0)) (by (with_reducible repeat (first|refine blk_drewN ?_ _|refine blk_drew ?_|refine blk_alloc ?_ _));exact BK719.out) hg (Kd.R_away HO_5.out (fun _ hk => hk)));have n1_:=Aside0.mk (hb);have n2_:=Aside0.mk (ho);clear BK719;clear HB;clear HO_5;have BK719:=n0_;have HB:=n1_;have HO735:=n2_;clear n0_ n1_ n2_;clear ho hb hg hat))
    repeat (go_quiet (first|((with_reducible refine gate_builtin (b:=.append) (xs:=#[.tmp 30,.tmp 35]) rfl ?_);at_builtin;refine Kd.R_append k57 (w0:=w) w.heap.size rfl (.tmp 30) (.tmp 35) 46 57 (.agg #[(.string ⟨#[]⟩),(.int .i64 0)]) 24 rfl Tryz.underlying46 info57 rfl (by decide) (by omega) u5 x5_1 (⟨(rd_T57 l0 x7_1).f0,(rd_T57 l0 x7_1).f1⟩ : S57) [.string ((rd_T57 l0 x7_1).f0),.int .i64 ((rd_T57 l0 x7_1).f1)] (fun k_ => k_ ≠ gb719) (fun _ => False) rfl rfl ?aP (fun _ hk => hk.elim) ?aF ?aO ?aB ?aS ?aL ?_;(case aP => exact k57_mkM _ _ _ (⟨(rd_T57 l0 x7_1).f0,(rd_T57 l0 x7_1).f1⟩ : S57));(case aB => exact (by repeat (first|(with_reducible first|exact HB.out|apply below_alloc|apply pw_below_drewN|apply below_drew1|refine below_set ?_ GE719.out)|exact HB.out)));(case aF => exact (fun k_ hk => Kd.freshB (g:=gb719) (o:=.cells #[.string a1_0,.int .i64 a1_1] 57 (0,0)) (by (with_reducible repeat (first|refine blk_drewN ?_ _|refine blk_drew ?_|refine blk_alloc ?_ _));exact BK719.out) k_ hk));(case aO => exact (by (with_reducible repeat (first|apply Kd.R_alloc|apply Kd.R_drewN|apply Kd.R_drew));exact HO_5.out));(case aS => exact (below_size (by repeat (first|(with_reducible first|exact HB.out|apply below_alloc|apply pw_below_drewN|apply below_drew1|refine below_set ?_ GE719.out)|exact HB.out))));(case aL => have:=LMc16.out;omega);intro v734 w18 ho hb hg hat;rw [← Ny733.out] at ho;have n0_:=Aside0.mk (blk_grown (g:=gb719) (o:=.cells #[.string a1_0,.int .i64 a1_1] 57 (0,0)) (by (with_reducible repeat (first|refine blk_drewN ?_ _|refine blk_drew ?_|refine blk_alloc ?_ _));exact BK719.out) hg (Kd.R_away HO_5.out (fun _ hk => hk)));have n1_:=Aside0.mk (hb);have n2_:=Aside0.mk (ho);clear BK719;clear HB;clear HO_5;have BK719:=n0_;have HB:=n1_;have HO735:=n2_;clear n0_ n1_ n2_;clear ho hb hg hat));try go_wp2_with (first|((with_reducible refine gate_builtin (b:=.append) (xs:=#[.tmp 30,.tmp 35]) rfl ?_);at_builtin;refine Kd.R_append k57 (w0:=w) w.heap.size rfl (.tmp 30) (.tmp 35) 46 57 (.agg #[(.string ⟨#[]⟩),(.int .i64 0)]) 24 rfl Tryz.underlying46 info57 rfl (by decide) (by omega) u5 x5_1 (⟨(rd_T57 l0 x7_1).f0,(rd_T57 l0 x7_1).f1⟩ : S57) [.string ((rd_T57 l0 x7_1).f0),.int .i64 ((rd_T57 l0 x7_1).f1)] (fun k_ => k_ ≠ gb719) (fun _ => False) rfl rfl ?aP (fun _ hk => hk.elim) ?aF ?aO ?aB ?aS ?aL ?_;(case aP => exact k57_mkM _ _ _ (⟨(rd_T57 l0 x7_1).f0,(rd_T57 l0 x7_1).f1⟩ : S57));(case aB => exact (by repeat (first|(with_reducible first|exact HB.out|apply below_alloc|apply pw_below_drewN|apply below_drew1|refine below_set ?_ GE719.out)|exact HB.out)));(case aF => exact (fun k_ hk => Kd.freshB (g:=gb719) (o:=.cells #[.string a1_0,.int .i64 a1_1] 57 (0,0)) (by (with_reducible repeat (first|refine blk_drewN ?_ _|refine blk_drew ?_|refine blk_alloc ?_ _));exact BK719.out) k_ hk));(case aO => exact (by (with_reducible repeat (first|apply Kd.R_alloc|apply Kd.R_drewN|apply Kd.R_drew));exact HO_5.out));(case aS => exact (below_size (by repeat (first|(with_reducible first|exact HB.out|apply below_alloc|apply pw_below_drewN|apply below_drew1|refine below_set ?_ GE719.out)|exact HB.out))));(case aL => have:=LMc16.out;omega);intro v734 w18 ho hb hg hat;rw [← Ny733.out] at ho;have n0_:=Aside0.mk (blk_grown (g:=gb719) (o:=.cells #[.string a1_0,.int .i64 a1_1] 57 (0,0)) (by (with_reducible repeat (first|refine blk_drewN ?_ _|refine blk_drew ?_|refine blk_alloc ?_ _));exact BK719.out) hg (Kd.R_away HO_5.out (fun _ hk => hk)));have n1_:=Aside0.mk (hb);have n2_:=Aside0.mk (ho);clear BK719;clear HB;clear HO_5;have BK719:=n0_;have HB:=n1_;have HO735:=n2_;clear n0_ n1_ n2_;clear ho hb hg hat)))
    go_roundg k1
    case measure => have:=HK1.out;omega
    case rel => exact ⟨(y733),(false),(wrap64 (x7_1 + 1)),(by first|rfl|(simp;done)|(simp [*];done)|(simp;rw [Bool.eq_iff_iff];simp;done)|(rw [Bool.eq_iff_iff];simp;done)),(by first|rfl|(simp;done)|(simp [*];done)|(simp;rw [Bool.eq_iff_iff];simp;done)|(rw [Bool.eq_iff_iff];simp;done)),H',⟨by have:=HK1.out;omega⟩,⟨by (with_reducible repeat (first|apply Kd.R_alloc|apply Kd.R_drewN|apply Kd.R_drew));exact HO735.out⟩,⟨by (with_reducible repeat (first|refine blk_drewN ?_ _|refine blk_drew ?_|refine blk_alloc ?_ _));exact BK719.out⟩,⟨by repeat (first|(with_reducible first|exact HB.out|apply below_alloc|apply pw_below_drewN|apply below_drew1|refine below_set ?_ GE719.out)|exact HB.out)⟩⟩
   rw [if_pos c10] at H
   have c10b0 : (Op.bytesLess a1_0.toList (((rd_T57 l0 x7_1).f0).toList)) = true:=c10
   clear c10
   by_cases c11 : x5_1.length < 5864062014805
   rotate_left
   ·rw [if_neg c11] at H
    exact absurd H (by simp)
   rw [if_pos c11] at H
   have LMc11:=Aside0.mk c11
   clear c11
   obtain ⟨y725,hy725⟩ : ∃ y_ : List (S57),y_ = (x5_1 ++ [(⟨a1_0,a1_1⟩ : S57)]):=⟨_,rfl⟩
   replace H : (if y725.length < 5864062014805 then (bursarref03_placed.l0 k1 l0 (y725 ++ [(⟨(rd_T57 l0 x7_1).f0,(rd_T57 l0 x7_1).f1⟩ : S57)]) true (wrap64 (x7_1 + 1)) a1_0 a1_1) else (none)) = some r:=by first|(rw [hy725];with_reducible exact H)|(have H2_:=(Option.bind_some _ _).symm.trans H;rw [hy725];with_reducible exact H2_)|(have H2_:=(Option.bind_some _ _).symm.trans H;with_reducible exact H2_)|with_reducible exact H|(rw [hy725];exact H)|exact H
   have Ny725:=Aside0.mk hy725
   clear hy725
   by_cases c12 : y725.length < 5864062014805
   rotate_left
   ·rw [if_neg c12] at H
    exact absurd H (by simp)
   rw [if_pos c12] at H
   have LMc12:=Aside0.mk c12
   clear c12
   obtain ⟨y729,hy729⟩ : ∃ y_ : List (S57),y_ = (y725 ++ [(⟨(rd_T57 l0 x7_1).f0,(rd_T57 l0 x7_1).f1⟩ : S57)]):=⟨_,rfl⟩
   replace H : (bursarref03_placed.l0 k1 l0 y729 true (wrap64 (x7_1 + 1)) a1_0 a1_1) = some r:=by first|(rw [hy729];with_reducible exact H)|(have H2_:=(Option.bind_some _ _).symm.trans H;rw [hy729];with_reducible exact H2_)|(have H2_:=(Option.bind_some _ _).symm.trans H;with_reducible exact H2_)|with_reducible exact H|(rw [hy729];exact H)|exact H
   have Ny729:=Aside0.mk hy729
   clear hy729
   have H':=Aside0.mk H
   clear H
   have hcz13_0 : wr.cell? ⟨gb719,0,none⟩ = some (.string a1_0):=(blk_cell BK719.out 0).trans rfl
   have hcz13_1 : wr.cell? ⟨gb719,1,none⟩ = some (.int .i64 a1_1):=(blk_cell BK719.out 1).trans rfl
   have hfz13_0:=blk_frozen BK719.out 0
   have hfz13_1:=blk_frozen BK719.out 1
   have p724 : 0 ≤ (x7_1 : Int):=of_decide_eq_true (by first|(with_reducible assumption)|assumption)
   have q724 : x7_1 < (l0.length : Int):=of_decide_eq_true (by first|(with_reducible assumption)|assumption)
   obtain ⟨ad724,e724,hx724_0,hx724_1⟩:=at_T57 HR0.out x7_1 p724 q724
   cases e724
   replace hx724_0:=(HB.out.cell (World.block_lt_of_cell? w _ hx724_0)).trans hx724_0
   replace hx724_1:=(HB.out.cell (World.block_lt_of_cell? w _ hx724_1)).trans hx724_1
   replace p724:=eq_true p724
   replace q724:=eq_true q724
   go_wp2_with (first|((with_reducible refine gate_builtin (b:=.append) (xs:=#[.tmp 26,.tmp 28]) rfl ?_);at_builtin;refine Kd.R_append k57 (w0:=w) w.heap.size rfl (.tmp 26) (.tmp 28) 46 57 (.agg #[(.string ⟨#[]⟩),(.int .i64 0)]) 24 rfl Tryz.underlying46 info57 rfl (by decide) (by omega) u5 x5_1 (⟨a1_0,a1_1⟩ : S57) [.string a1_0,.int .i64 a1_1] (fun k_ => k_ ≠ gb719) (fun _ => False) rfl rfl ?aP (fun _ hk => hk.elim) ?aF ?aO ?aB ?aS ?aL ?_;(case aP => exact k57_mkM _ _ _ (⟨a1_0,a1_1⟩ : S57));(case aB => exact (by repeat (first|(with_reducible first|exact HB.out|apply below_alloc|apply pw_below_drewN|apply below_drew1|refine below_set ?_ GE719.out)|exact HB.out)));(case aF => exact (fun k_ hk => Kd.freshB (g:=gb719) (o:=.cells #[.string a1_0,.int .i64 a1_1] 57 (0,0)) (by (with_reducible repeat (first|refine blk_drewN ?_ _|refine blk_drew ?_|refine blk_alloc ?_ _));exact BK719.out) k_ hk));(case aO => exact (by (with_reducible repeat (first|apply Kd.R_alloc|apply Kd.R_drewN|apply Kd.R_drew));exact HO_5.out));(case aS => exact (below_size (by repeat (first|(with_reducible first|exact HB.out|apply below_alloc|apply pw_below_drewN|apply below_drew1|refine below_set ?_ GE719.out)|exact HB.out))));(case aL => have:=LMc11.out;omega);intro v726 w14 ho hb hg hat;rw [← Ny725.out] at ho;have n0_:=Aside0.mk (blk_grown (g:=gb719) (o:=.cells #[.string a1_0,.int .i64 a1_1] 57 (0,0)) (by (with_reducible repeat (first|refine blk_drewN ?_ _|refine blk_drew ?_|refine blk_alloc ?_ _));exact BK719.out) hg (Kd.R_away HO_5.out (fun _ hk => hk)));have n1_:=Aside0.mk (hb);have n2_:=Aside0.mk (ho);clear BK719;clear HB;clear HO_5;have BK719:=n0_;have HB:=n1_;have HO727:=n2_;clear n0_ n1_ n2_;clear ho hb hg hat;have p728 : 0 ≤ (x7_1 : Int):=of_decide_eq_true (by first|(with_reducible assumption)|assumption);have q728 : x7_1 < (l0.length : Int):=of_decide_eq_true (by first|(with_reducible assumption)|assumption);obtain ⟨ad728,e728,hx728_0,hx728_1⟩:=at_T57 HR0.out x7_1 p728 q728;obtain rfl : ad724 = ad728:=(by injection e728);replace hx728_0:=(HB.out.cell (World.block_lt_of_cell? w _ hx728_0)).trans hx728_0;replace hx728_1:=(HB.out.cell (World.block_lt_of_cell? w _ hx728_1)).trans hx728_1;replace p728:=eq_true p728;replace q728:=eq_true q728)|((with_reducible refine gate_builtin (b:=.append) (xs:=#[.tmp 30,.tmp 35]) rfl ?_);at_builtin;refine Kd.R_append k57 (w0:=w) w.heap.size rfl (.tmp 30) (.tmp 35) 46 57 (.agg #[(.string ⟨#[]⟩),(.int .i64 0)]) 24 rfl Tryz.underlying46 info57 rfl (by decide) (by omega) v726 y725 (⟨(rd_T57 l0 x7_1).f0,(rd_T57 l0 x7_1).f1⟩ : S57) [.string ((rd_T57 l0 x7_1).f0),.int .i64 ((rd_T57 l0 x7_1).f1)] (fun k_ => k_ ≠ gb719) (fun _ => False) rfl rfl ?aP (fun _ hk => hk.elim) ?aF ?aO ?aB ?aS ?aL ?_;(case aP => exact k57_mkM _ _ _ (⟨(rd_T57 l0 x7_1).f0,(rd_T57 l0 x7_1).f1⟩ : S57));(case aB => exact (by repeat (first|(with_reducible first|exact HB.out|apply below_alloc|apply pw_below_drewN|apply below_drew1|refine below_set ?_ GE719.out)|exact HB.out)));(case aF => exact (fun k_ hk => Kd.freshB (g:=gb719) (o:=.cells #[.string a1_0,.int .i64 a1_1] 57 (0,0)) (by (with_reducible repeat (first|refine blk_drewN ?_ _|refine blk_drew ?_|refine blk_alloc ?_ _));exact BK719.out) k_ hk));(case aO => exact (by (with_reducible repeat (first|apply Kd.R_alloc|apply Kd.R_drewN|apply Kd.R_drew));exact HO727.out));(case aS => exact (below_size (by repeat (first|(with_reducible first|exact HB.out|apply below_alloc|apply pw_below_drewN|apply below_drew1|refine below_set ?_ GE719.out)|exact HB.out))));(case aL => have:=LMc12.out;omega);intro v730 w15 ho hb hg hat;rw [← Ny729.out] at ho;have n0_:=Aside0.mk (blk_grown (g:=gb719) (o:=.cells #[.string a1_0,.int .i64 a1_1] 57 (0,0)) (by (with_reducible repeat (first|refine blk_drewN ?_ _|refine blk_drew ?_|refine blk_alloc ?_ _));exact BK719.out) hg (Kd.R_away HO727.out (fun _ hk => hk)));have n1_:=Aside0.mk (hb);have n2_:=Aside0.mk (ho);clear BK719;clear HB;clear HO727;have BK719:=n0_;have HB:=n1_;have HO731:=n2_;clear n0_ n1_ n2_;clear ho hb hg hat))
   repeat (go_quiet (first|((with_reducible refine gate_builtin (b:=.append) (xs:=#[.tmp 26,.tmp 28]) rfl ?_);at_builtin;refine Kd.R_append k57 (w0:=w) w.heap.size rfl (.tmp 26) (.tmp 28) 46 57 (.agg #[(.string ⟨#[]⟩),(.int .i64 0)]) 24 rfl Tryz.underlying46 info57 rfl (by decide) (by omega) u5 x5_1 (⟨a1_0,a1_1⟩ : S57) [.string a1_0,.int .i64 a1_1] (fun k_ => k_ ≠ gb719) (fun _ => False) rfl rfl ?aP (fun _ hk => hk.elim) ?aF ?aO ?aB ?aS ?aL ?_;(case aP => exact k57_mkM _ _ _ (⟨a1_0,a1_1⟩ : S57));(case aB => exact (by repeat (first|(with_reducible first|exact HB.out|apply below_alloc|apply pw_below_drewN|apply below_drew1|refine below_set ?_ GE719.out)|exact HB.out)));(case aF => exact (fun k_ hk => Kd.freshB (g:=gb719) (o:=.cells #[.string a1_0,.int .i64 a1_1] 57 (0,0)) (by (with_reducible repeat (first|refine blk_drewN ?_ _|refine blk_drew ?_|refine blk_alloc ?_ _));exact BK719.out) k_ hk));(case aO => exact (by (with_reducible repeat (first|apply Kd.R_alloc|apply Kd.R_drewN|apply Kd.R_drew));exact HO_5.out));(case aS => exact (below_size (by repeat (first|(with_reducible first|exact HB.out|apply below_alloc|apply pw_below_drewN|apply below_drew1|refine below_set ?_ GE719.out)|exact HB.out))));(case aL => have:=LMc11.out;omega);intro v726 w14 ho hb hg hat;rw [← Ny725.out] at ho;have n0_:=Aside0.mk (blk_grown (g:=gb719) (o:=.cells #[.string a1_0,.int .i64 a1_1] 57 (0,0)) (by (with_reducible repeat (first|refine blk_drewN ?_ _|refine blk_drew ?_|refine blk_alloc ?_ _));exact BK719.out) hg (Kd.R_away HO_5.out (fun _ hk => hk)));have n1_:=Aside0.mk (hb);have n2_:=Aside0.mk (ho);clear BK719;clear HB;clear HO_5;have BK719:=n0_;have HB:=n1_;have HO727:=n2_;clear n0_ n1_ n2_;clear ho hb hg hat;have p728 : 0 ≤ (x7_1 : Int):=of_decide_eq_true (by first|(with_reducible assumption)|assumption);have q728 : x7_1 < (l0.length : Int):=of_decide_eq_true (by first|(with_reducible assumption)|assumption);obtain ⟨ad728,e728,hx728_0,hx728_1⟩:=at_T57 HR0.out x7_1 p728 q728;obtain rfl : ad724 = ad728:=(by injection e728);replace hx728_0:=(HB.out.cell (World.block_lt_of_cell? w _ hx728_0)).trans hx728_0;replace hx728_1:=(HB.out.cell (World.block_lt_of_cell? w _ hx728_1)).trans hx728_1;replace p728:=eq_true p728;replace q728:=eq_true q728)|((with_reducible refine gate_builtin (b:=.append) (xs:=#[.tmp 30,.tmp 35]) rfl ?_);at_builtin;refine Kd.R_append k57 (w0:=w) w.heap.size rfl (.tmp 30) (.tmp 35) 46 57 (.agg #[(.string ⟨#[]⟩),(.int .i64 0)]) 24 rfl Tryz.underlying46 info57 rfl (by decide) (by omega) v726 y725 (⟨(rd_T57 l0 x7_1).f0,(rd_T57 l0 x7_1).f1⟩ : S57) [.string ((rd_T57 l0 x7_1).f0),.int .i64 ((rd_T57 l0 x7_1).f1)] (fun k_ => k_ ≠ gb719) (fun _ => False) rfl rfl ?aP (fun _ hk => hk.elim) ?aF ?aO ?aB ?aS ?aL ?_;(case aP => exact k57_mkM _ _ _ (⟨(rd_T57 l0 x7_1).f0,(rd_T57 l0 x7_1).f1⟩ : S57));(case aB => exact (by repeat (first|(with_reducible first|exact HB.out|apply below_alloc|apply pw_below_drewN|apply below_drew1|refine below_set ?_ GE719.out)|exact HB.out)));(case aF => exact (fun k_ hk => Kd.freshB (g:=gb719) (o:=.cells #[.string a1_0,.int .i64 a1_1] 57 (0,0)) (by (with_reducible repeat (first|refine blk_drewN ?_ _|refine blk_drew ?_|refine blk_alloc ?_ _));exact BK719.out) k_ hk));(case aO => exact (by (with_reducible repeat (first|apply Kd.R_alloc|apply Kd.R_drewN|apply Kd.R_drew));exact HO727.out));(case aS => exact (below_size (by repeat (first|(with_reducible first|exact HB.out|apply below_alloc|apply pw_below_drewN|apply below_drew1|refine below_set ?_ GE719.out)|exact HB.out))));(case aL => have:=LMc12.out;omega);intro v730 w15 ho hb hg hat;rw [← Ny729.out] at ho;have n0_:=Aside0.mk (blk_grown (g:=gb719) (o:=.cells #[.string a1_0,.int .i64 a1_1] 57 (0,0)) (by (with_reducible repeat (first|refine blk_drewN ?_ _|refine blk_drew ?_|refine blk_alloc ?_ _));exact BK719.out) hg (Kd.R_away HO727.out (fun _ hk => hk)));have n1_:=Aside0.mk (hb);have n2_:=Aside0.mk (ho);clear BK719;clear HB;clear HO727;have BK719:=n0_;have HB:=n1_;have HO731:=n2_;clear n0_ n1_ n2_;clear ho hb hg hat));try go_wp2_with (first|((with_reducible refine gate_builtin (b:=.append) (xs:=#[.tmp 26,.tmp 28]) rfl ?_);at_builtin;refine Kd.R_append k57 (w0:=w) w.heap.size rfl (.tmp 26) (.tmp 28) 46 57 (.agg #[(.string ⟨#[]⟩),(.int .i64 0)]) 24 rfl Tryz.underlying46 info57 rfl (by decide) (by omega) u5 x5_1 (⟨a1_0,a1_1⟩ : S57) [.string a1_0,.int .i64 a1_1] (fun k_ => k_ ≠ gb719) (fun _ => False) rfl rfl ?aP (fun _ hk => hk.elim) ?aF ?aO ?aB ?aS ?aL ?_;(case aP => exact k57_mkM _ _ _ (⟨a1_0,a1_1⟩ : S57));(case aB => exact (by repeat (first|(with_reducible first|exact HB.out|apply below_alloc|apply pw_below_drewN|apply below_drew1|refine below_set ?_ GE719.out)|exact HB.out)));(case aF => exact (fun k_ hk => Kd.freshB (g:=gb719) (o:=.cells #[.string a1_0,.int .i64 a1_1] 57 (0,0)) (by (with_reducible repeat (first|refine blk_drewN ?_ _|refine blk_drew ?_|refine blk_alloc ?_ _));exact BK719.out) k_ hk));(case aO => exact (by (with_reducible repeat (first|apply Kd.R_alloc|apply Kd.R_drewN|apply Kd.R_drew));exact HO_5.out));(case aS => exact (below_size (by repeat (first|(with_reducible first|exact HB.out|apply below_alloc|apply pw_below_drewN|apply below_drew1|refine below_set ?_ GE719.out)|exact HB.out))));(case aL => have:=LMc11.out;omega);intro v726 w14 ho hb hg hat;rw [← Ny725.out] at ho;have n0_:=Aside0.mk (blk_grown (g:=gb719) (o:=.cells #[.string a1_0,.int .i64 a1_1] 57 (0,0)) (by (with_reducible repeat (first|refine blk_drewN ?_ _|refine blk_drew ?_|refine blk_alloc ?_ _));exact BK719.out) hg (Kd.R_away HO_5.out (fun _ hk => hk)));have n1_:=Aside0.mk (hb);have n2_:=Aside0.mk (ho);clear BK719;clear HB;clear HO_5;have BK719:=n0_;have HB:=n1_;have HO727:=n2_;clear n0_ n1_ n2_;clear ho hb hg hat;have p728 : 0 ≤ (x7_1 : Int):=of_decide_eq_true (by first|(with_reducible assumption)|assumption);have q728 : x7_1 < (l0.length : Int):=of_decide_eq_true (by first|(with_reducible assumption)|assumption);obtain ⟨ad728,e728,hx728_0,hx728_1⟩:=at_T57 HR0.out x7_1 p728 q728;obtain rfl : ad724 = ad728:=(by injection e728);replace hx728_0:=(HB.out.cell (World.block_lt_of_cell? w _ hx728_0)).trans hx728_0;replace hx728_1:=(HB.out.cell (World.block_lt_of_cell? w _ hx728_1)).trans hx728_1;replace p728:=eq_true p728;replace q728:=eq_true q728)|((with_reducible refine gate_builtin (b:=.append) (xs:=#[.tmp 30,.tmp 35]) rfl ?_);at_builtin;refine Kd.R_append k57 (w0:=w) w.heap.size rfl (.tmp 30) (.tmp 35) 46 57 (.agg #[(.string ⟨#[]⟩),(.int .i64 0)]) 24 rfl Tryz.underlying46 info57 rfl (by decide) (by omega) v726 y725 (⟨(rd_T57 l0 x7_1).f0,(rd_T57 l0 x7_1).f1⟩ : S57) [.string ((rd_T57 l0 x7_1).f0),.int .i64 ((rd_T57 l0 x7_1).f1)] (fun k_ => k_ ≠ gb719) (fun _ => False) rfl rfl ?aP (fun _ hk => hk.elim) ?aF ?aO ?aB ?aS ?aL ?_;(case aP => exact k57_mkM _ _ _ (⟨(rd_T57 l0 x7_1).f0,(rd_T57 l0 x7_1).f1⟩ : S57));(case aB => exact (by repeat (first|(with_reducible first|exact HB.out|apply below_alloc|apply pw_below_drewN|apply below_drew1|refine below_set ?_ GE719.out)|exact HB.out)));(case aF => exact (fun k_ hk => Kd.freshB (g:=gb719) (o:=.cells #[.string a1_0,.int .i64 a1_1] 57 (0,0)) (by (with_reducible repeat (first|refine blk_drewN ?_ _|refine blk_drew ?_|refine blk_alloc ?_ _));exact BK719.out) k_ hk));(case aO => exact (by (with_reducible repeat (first|apply Kd.R_alloc|apply Kd.R_drewN|apply Kd.R_drew));exact HO727.out));(case aS => exact (below_size (by repeat (first|(with_reducible first|exact HB.out|apply below_alloc|apply pw_below_drewN|apply below_drew1|refine below_set ?_ GE719.out)|exact HB.out))));(case aL => have:=LMc12.out;omega);intro v730 w15 ho hb hg hat;rw [← Ny729.out] at ho;have n0_:=Aside0.mk (blk_grown (g:=gb719) (o:=.cells #[.string a1_0,.int .i64 a1_1] 57 (0,0)) (by (with_reducible repeat (first|refine blk_drewN ?_ _|refine blk_drew ?_|refine blk_alloc ?_ _));exact BK719.out) hg (Kd.R_away HO727.out (fun _ hk => hk)));have n1_:=Aside0.mk (hb);have n2_:=Aside0.mk (ho);clear BK719;clear HB;clear HO727;have BK719:=n0_;have HB:=n1_;have HO731:=n2_;clear n0_ n1_ n2_;clear ho hb hg hat)))
   go_roundg k1
   case measure => have:=HK1.out;omega
   case rel => exact ⟨(y729),(true),(wrap64 (x7_1 + 1)),(by first|rfl|(simp;done)|(simp [*];done)|(simp;rw [Bool.eq_iff_iff];simp;done)|(rw [Bool.eq_iff_iff];simp;done)),(by first|rfl|(simp;done)|(simp [*];done)|(simp;rw [Bool.eq_iff_iff];simp;done)|(rw [Bool.eq_iff_iff];simp;done)),H',⟨by have:=HK1.out;omega⟩,⟨by (with_reducible repeat (first|apply Kd.R_alloc|apply Kd.R_drewN|apply Kd.R_drew));exact HO731.out⟩,⟨by (with_reducible repeat (first|refine blk_drewN ?_ _|refine blk_drew ?_|refine blk_alloc ?_ _));exact BK719.out⟩,⟨by repeat (first|(with_reducible first|exact HB.out|apply below_alloc|apply pw_below_drewN|apply below_drew1|refine below_set ?_ GE719.out)|exact HB.out)⟩⟩
end Go.Proofs.YtejgbdclhlolkaaGreatDoor.Q
namespace Go.Proofs.YtejgbdclhlolkaaGreatDoor.Q
open Go.RowKit Go.Proofs.YtejgbdclhlolkaaGreatDoorW.PrintWords Go.Proofs.YtejgbdclhlolkaaGreatDoorW.PrintLast Go.Proofs.YtejgbdclhlolkaaGreatDoorW.PrintMore
attribute [local go_sem] max2_int min2_int max_two min_two max_three min_three max_four min_four   -- for this text's walks alone
set_option linter.unusedVariables false
set_option linter.unusedSimpArgs false
mutual
def bursarref03_Normal.l0 : Nat → List (S57) → Int → Option ((List (S57)) × Int)
|0,_,_ => none
|k + 1,x0,x5 => if x5 < (x0.length : Int) then (if 0 ≤ x5 then ((bursarref03_Resource.f k ((rd_T57 x0 x5).f0)).bind fun t740 => (if t740 = true then (if ((rd_T57 x0 x5).f1) < 0 then (some (([] : List (S57)),31)) else (bursarref03_Normal.l0 k x0 (wrap64 (x5 + 1)))) else (some (([] : List (S57)),31)))) else (none)) else (bursarref03_Normal.l1 k x0 ([] : List (S57)) 0)
def bursarref03_Normal.l1 : Nat → List (S57) → List (S57) → Int → Option ((List (S57)) × Int)
|0,_,_,_ => none
|k + 1,x0,x4,x6 => if x6 < (x0.length : Int) then (bursarref03_Normal.l2 k x0 x4 x6 false 0 ([] : List Int)) else (if (x4.length : Int) > 16 then (some (([] : List (S57)),23)) else (some (x4,0)))
def bursarref03_Normal.l2 : Nat → List (S57) → List (S57) → Int → Bool → Int → List Int → Option ((List (S57)) × Int)
|0,_,_,_,_,_,_ => none
|k + 1,x0,x4,x6,x8,x9,x743000 => if x9 < (x0.length : Int) then (if 0 ≤ x9 then (if 0 ≤ x6 then (if x6 < (x0.length : Int) then (if ((rd_T57 x0 x9).f0).toList = ((rd_T57 x0 x6).f0).toList then ((bursarref03_long.f k ((rd_T57 x0 x9).f1)).bind fun t746 => ((bursarref03_Long_plus.f k x743000 t746).bind fun t749 => (if x8 = true then (bursarref03_Normal.l2 k x0 x4 x6 true (wrap64 (x9 + 1)) t749) else (bursarref03_Normal.l2 k x0 x4 x6 (decide (x9 < x6)) (wrap64 (x9 + 1)) t749)))) else (bursarref03_Normal.l2 k x0 x4 x6 x8 (wrap64 (x9 + 1)) x743000)) else (none)) else (none)) else (none)) else ((bursarref03_Long_value.f k x743000).bind fun bt752 => (if bt752.2 = true then (if x8 = true then (bursarref03_Normal.l1 k x0 x4 (wrap64 (x6 + 1))) else (if 0 ≤ x6 then (if x6 < (x0.length : Int) then ((bursarref03_placed.f k x4 ((rd_T57 x0 x6).f0) bt752.1).bind fun t755 => (bursarref03_Normal.l1 k x0 t755 (wrap64 (x6 + 1)))) else (none)) else (none))) else (some (([] : List (S57)),7))))
end
def bursarref03_Normal.f (k : Nat) (l0 : List (S57)) : Option ((List (S57)) × Int) := bursarref03_Normal.l0 k l0 0
theorem bursarref03_Normal.mono_l : ∀ k, (∀ y0 y1, LeO (bursarref03_Normal.l0 k y0 y1) (bursarref03_Normal.l0 (k + 1) y0 y1)) ∧ (∀ y0 y1 y2, LeO (bursarref03_Normal.l1 k y0 y1 y2) (bursarref03_Normal.l1 (k + 1) y0 y1 y2)) ∧ (∀ y0 y1 y2 y3 y4 y5, LeO (bursarref03_Normal.l2 k y0 y1 y2 y3 y4 y5) (bursarref03_Normal.l2 (k + 1) y0 y1 y2 y3 y4 y5))
|0 => ⟨fun _ _ r h => by simp [bursarref03_Normal.l0] at h,fun _ _ _ r h => by simp [bursarref03_Normal.l1] at h,fun _ _ _ _ _ _ r h => by simp [bursarref03_Normal.l2] at h⟩
|k + 1 => by
  obtain ⟨ih0,ih1,ih2⟩:=bursarref03_Normal.mono_l k
  refine ⟨?_,?_,?_⟩
  ·intro y0 y1
   unfold bursarref03_Normal.l0
   repeat' first
  |(with_reducible exact ih0 _ _)
  |(with_reducible exact ih1 _ _ _)
  |(with_reducible exact ih2 _ _ _ _ _ _)
  |(with_reducible exact bursarref03_Long_plus.mono _ _ _)
  |(with_reducible exact bursarref03_Long_value.mono _ _)
  |(with_reducible exact bursarref03_Resource.mono _ _)
  |(with_reducible exact bursarref03_long.mono _ _)
  |(with_reducible exact bursarref03_placed.mono _ _ _ _)
  |(with_reducible exact LeO.refl _)
  |(with_reducible exact LeO.none _)
  |(with_reducible refine LeO.ite ?_ ?_)
  |(with_reducible refine LeO.bind ?_ (fun _ => ?_))
  |exact ih0 _ _
  |exact ih1 _ _ _
  |exact ih2 _ _ _ _ _ _
  |exact bursarref03_Long_plus.mono _ _ _
  |exact bursarref03_Long_value.mono _ _
  |exact bursarref03_Resource.mono _ _
  |exact bursarref03_long.mono _ _
  |exact bursarref03_placed.mono _ _ _ _
  |exact LeO.none _
  |refine LeO.ite ?_ ?_
  |refine LeO.bind ?_ (fun _ => ?_)
  ·intro y0 y1 y2
   unfold bursarref03_Normal.l1
   repeat' first
  |(with_reducible exact ih0 _ _)
  |(with_reducible exact ih1 _ _ _)
  |(with_reducible exact ih2 _ _ _ _ _ _)
  |(with_reducible exact bursarref03_Long_plus.mono _ _ _)
  |(with_reducible exact bursarref03_Long_value.mono _ _)
  |(with_reducible exact bursarref03_Resource.mono _ _)
  |(with_reducible exact bursarref03_long.mono _ _)
  |(with_reducible exact bursarref03_placed.mono _ _ _ _)
  |(with_reducible exact LeO.refl _)
  |(with_reducible exact LeO.none _)
  |(with_reducible refine LeO.ite ?_ ?_)
  |(with_reducible refine LeO.bind ?_ (fun _ => ?_))
  |exact ih0 _ _
  |exact ih1 _ _ _
  |exact ih2 _ _ _ _ _ _
  |exact bursarref03_Long_plus.mono _ _ _
  |exact bursarref03_Long_value.mono _ _
  |exact bursarref03_Resource.mono _ _
  |exact bursarref03_long.mono _ _
  |exact bursarref03_placed.mono _ _ _ _
  |exact LeO.none _
  |refine LeO.ite ?_ ?_
  |refine LeO.bind ?_ (fun _ => ?_)
  ·intro y0 y1 y2 y3 y4 y5
   unfold bursarref03_Normal.l2
   repeat' first
  |(with_reducible exact ih0 _ _)
  |(with_reducible exact ih1 _ _ _)
  |(with_reducible exact ih2 _ _ _ _ _ _)
  |(with_reducible exact bursarref03_Long_plus.mono _ _ _)
  |(with_reducible exact bursarref03_Long_value.mono _ _)
  |(with_reducible exact bursarref03_Resource.mono _ _)
  |(with_reducible exact bursarref03_long.mono _ _)
  |(with_reducible exact bursarref03_placed.mono _ _ _ _)
  |(with_reducible exact LeO.refl _)
  |(with_reducible exact LeO.none _)
  |(with_reducible refine LeO.ite ?_ ?_)
  |(with_reducible refine LeO.bind ?_ (fun _ => ?_))
  |exact ih0 _ _
  |exact ih1 _ _ _
  |exact ih2 _ _ _ _ _ _
  |exact bursarref03_Long_plus.mono _ _ _
  |exact bursarref03_Long_value.mono _ _
  |exact bursarref03_Resource.mono _ _
  |exact bursarref03_long.mono _ _
  |exact bursarref03_placed.mono _ _ _ _
  |exact LeO.none _
  |refine LeO.ite ?_ ?_
  |refine LeO.bind ?_ (fun _ => ?_)
theorem bursarref03_Normal.mono : ∀ a0 k, LeO (bursarref03_Normal.f k a0) (bursarref03_Normal.f (k + 1) a0) := by
 intro a0 k
 obtain ⟨ih0,ih1,ih2⟩:=bursarref03_Normal.mono_l k
 unfold bursarref03_Normal.f
 repeat' first
  |(with_reducible exact ih0 _ _)
  |(with_reducible exact ih1 _ _ _)
  |(with_reducible exact ih2 _ _ _ _ _ _)
  |(with_reducible exact bursarref03_Long_plus.mono _ _ _)
  |(with_reducible exact bursarref03_Long_value.mono _ _)
  |(with_reducible exact bursarref03_Resource.mono _ _)
  |(with_reducible exact bursarref03_long.mono _ _)
  |(with_reducible exact bursarref03_placed.mono _ _ _ _)
  |(with_reducible exact LeO.refl _)
  |(with_reducible exact LeO.none _)
  |(with_reducible refine LeO.ite ?_ ?_)
  |(with_reducible refine LeO.bind ?_ (fun _ => ?_))
  |exact ih0 _ _
  |exact ih1 _ _ _
  |exact ih2 _ _ _ _ _ _
  |exact bursarref03_Long_plus.mono _ _ _
  |exact bursarref03_Long_value.mono _ _
  |exact bursarref03_Resource.mono _ _
  |exact bursarref03_long.mono _ _
  |exact bursarref03_placed.mono _ _ _ _
  |exact LeO.none _
  |refine LeO.ite ?_ ?_
  |refine LeO.bind ?_ (fun _ => ?_)
def bursarref03_Normal.T15 : Bool × List (List Nat × List Nat) := (true, [([], []), ([], []), ([0, 1], [0, 1]), ([2], [2]), ([3], [3]), ([], []), ([], []), ([5, 6], [5, 6]), ([7], [7]), ([8], [8]), ([4, 9], [4, 9])])
def bursarref03_Normal.B15 : List Nat := [0, 0, 3, 7, 15, 0, 0, 96, 224, 480, 1023]
theorem bursarref03_Normal.tab15 : rtab .any (opsOf Tryz.f46 15) = bursarref03_Normal.T15 := by kernel_rfl
theorem bursarref03_Normal.bits15 : waitsOk bursarref03_Normal.T15.2 bursarref03_Normal.B15 = true := by kernel_rfl
def bursarref03_Normal.T16 : Bool × List (List Nat × List Nat) := (true, [([], []), ([], []), ([], []), ([1, 2], [1, 2]), ([3], [3]), ([4], [4]), ([5], [5]), ([0, 6, 6], [0, 6]), ([7, 7, 0, 1, 2, 3, 4, 5, 6, 7], [7])])
def bursarref03_Normal.B16 : List Nat := [0, 0, 0, 6, 14, 30, 62, 127, 255]
theorem bursarref03_Normal.tab16 : rtab .any (opsOf Tryz.f46 16) = bursarref03_Normal.T16 := by kernel_rfl
theorem bursarref03_Normal.bits16 : waitsOk bursarref03_Normal.T16.2 bursarref03_Normal.B16 = true := by kernel_rfl
set_option maxHeartbeats 8000000 in
set_option maxRecDepth 100000 in
theorem bursarref03_Normal.calls (k : Nat) (A0 : Option Addr) (c0 : Nat) (l0 : List (S57)) (r1 : List (S57)) (r2 : Int) (w : World) (hr0 : Kd.C k57 w A0 l0.length l0) (hc0 : l0.length ≤ c0) (h : bursarref03_Normal.f k l0 = some (r1, r2)) :
  Calls Tryz.prog 46 #[.slice A0 l0.length c0] w fun e w' => ∃ v0_ : Value,e = .returned (.tuple #[v0_,.int .i64 r2]) ∧ Kd.R k57 57 w' w.heap.size (fun _ => True) v0_ r1 ∧ Below w.heap.size w w':=by
 have hu85:=Tryz.underlying85
 have hu57:=Tryz.underlying57
 have HR0:=Aside0.mk hr0
 have HC0:=Aside0.mk hc0
 clear hr0 hc0
 have HB:=Aside0.mk (Below.refl w.heap.size w)
 have H : (bursarref03_Normal.l0 k l0 0) = some (r1,r2):=h
 clear h
 have H':=Aside0.mk H
 clear H
 go_enter Tryz.func46,Tryz.ntmps46
 go_wp2
 go_loopg [5] k (fun kq v5 w' => ∃ (x5_1 : Int),v5 = .int .i64 x5_1 ∧ Aside0 (bursarref03_Normal.l0 kq l0 x5_1 = some (r1,r2)) ∧ Aside0 (kq ≤ k) ∧ Aside0 (Below w.heap.size w w'))
 case atStart => exact ⟨(0),(by first|rfl|(simp;done)|(simp [*];done)|(simp;rw [Bool.eq_iff_iff];simp;done)|(rw [Bool.eq_iff_iff];simp;done)),H',⟨Nat.le_refl _⟩,⟨by repeat (first|(with_reducible first|exact HB.out|apply below_alloc|apply pw_below_drewN|apply below_drew1)|exact HB.out)⟩⟩
 case round =>
  clear H'
  obtain ⟨x5_1,rfl,HA,HK1,HB⟩:=hrel
  cases gk with
 |zero => exact absurd HA.out (by simp [bursarref03_Normal.l0])
 |succ k1 =>
   have H:=HA.out
   clear HA
   simp only [bursarref03_Normal.l0] at H
   by_cases c2 : x5_1 < (l0.length : Int)
   ·rw [if_pos c2] at H
    have c2b0 : decide (x5_1 < (l0.length : Int)) = true:=decide_eq_true c2
    clear c2
    by_cases c3 : 0 ≤ x5_1
    rotate_left
    ·rw [if_neg c3] at H
     exact absurd H (by simp)
    rw [if_pos c3] at H
    have c3b0 : decide (0 ≤ x5_1) = true:=decide_eq_true c3
    clear c3
    replace H:=Option.bind_eq_some_iff.mp H
    obtain ⟨t740,A40,H⟩:=H
    replace H : (if t740 = true then (if ((rd_T57 l0 x5_1).f1) < 0 then (some (([] : List (S57)),31)) else (bursarref03_Normal.l0 k1 l0 (wrap64 (x5_1 + 1)))) else (some (([] : List (S57)),31))) = some (r1,r2):=H
    have A4:=Aside0.mk A40
    clear A40
    by_cases c5 : t740 = true
    rotate_left
    ·replace c5:=Bool.eq_false_iff.mpr c5
     subst c5
     have H1 : (some (([] : List (S57)),31)) = some (r1,r2):=by rw [if_neg (show ¬ (false = true) by decide)] at H;exact H
     clear H;have H:=H1;clear H1
     simp only [Option.some.injEq,Prod.mk.injEq] at H
     obtain ⟨rfl,rfl⟩:=H
     have p739 : 0 ≤ (x5_1 : Int):=of_decide_eq_true (by first|(with_reducible assumption)|assumption)
     have q739 : x5_1 < (l0.length : Int):=of_decide_eq_true (by first|(with_reducible assumption)|assumption)
     obtain ⟨ad739,e739,hx739_0,hx739_1⟩:=at_T57 HR0.out x5_1 p739 q739
     cases e739
     replace hx739_0:=(HB.out.cell (World.block_lt_of_cell? w _ hx739_0)).trans hx739_0
     replace hx739_1:=(HB.out.cell (World.block_lt_of_cell? w _ hx739_1)).trans hx739_1
     replace p739:=eq_true p739
     replace q739:=eq_true q739
     go_wp2_with (first|((with_reducible refine gate_callee (f:=75) rfl ?_);refine goesL_ (some 23) rfl rfl Tryz.func75 (by kernel_rfl) rfl #[.string ((rd_T57 l0 x5_1).f0)] rfl (by (try simp only [List.map_toArray,List.map_cons,List.map_nil]);first|done|rfl|(simp only [List.length_drop,List.length_take];rfl)) ?_;(with_reducible refine (bursarref03_Resource.calls k1 ((rd_T57 l0 x5_1).f0) false _ A4.out).mono ?_);rintro e w' ⟨rfl,⟨nd,rfl⟩⟩;refine ⟨_,rfl,?_⟩))
     go_ret2
     exact ⟨_,by first|rfl|(simp [errW_none,errW_some] <;> rfl)|(simp [*,errW_none,errW_some] <;> rfl),by first|exact Kd.R_nil _ _ _ _ _|exact Kd.N_nil _ _ _ _ _|exact Kd.V_nil _ _ _ _ _|exact Kd.Q_nil _ _ _ _ _|exact Kd.S_nil _ _ _ _ _,by repeat (first|(with_reducible first|exact HB.out|apply below_alloc|apply pw_below_drewN|apply below_drew1)|exact HB.out)⟩
    subst c5
    have H1 : (if ((rd_T57 l0 x5_1).f1) < 0 then (some (([] : List (S57)),31)) else (bursarref03_Normal.l0 k1 l0 (wrap64 (x5_1 + 1)))) = some (r1,r2):=by rw [if_pos rfl] at H;exact H
    clear H;have H:=H1;clear H1
    by_cases c6 : ((rd_T57 l0 x5_1).f1) < 0
    rotate_left
    ·rw [if_neg c6] at H
     have c6b0 : decide (((rd_T57 l0 x5_1).f1) < 0) = false:=decide_eq_false c6
     clear c6
     have H':=Aside0.mk H
     clear H
     have p739 : 0 ≤ (x5_1 : Int):=of_decide_eq_true (by first|(with_reducible assumption)|assumption)
     have q739 : x5_1 < (l0.length : Int):=of_decide_eq_true (by first|(with_reducible assumption)|assumption)
     obtain ⟨ad739,e739,hx739_0,hx739_1⟩:=at_T57 HR0.out x5_1 p739 q739
     cases e739
     replace hx739_0:=(HB.out.cell (World.block_lt_of_cell? w _ hx739_0)).trans hx739_0
     replace hx739_1:=(HB.out.cell (World.block_lt_of_cell? w _ hx739_1)).trans hx739_1
     replace p739:=eq_true p739
     replace q739:=eq_true q739
     go_wp2_with (first|((with_reducible refine gate_callee (f:=75) rfl ?_);refine goesL_ (some 23) rfl rfl Tryz.func75 (by kernel_rfl) rfl #[.string ((rd_T57 l0 x5_1).f0)] rfl (by (try simp only [List.map_toArray,List.map_cons,List.map_nil]);first|done|rfl|(simp only [List.length_drop,List.length_take];rfl)) ?_;(with_reducible refine (bursarref03_Resource.calls k1 ((rd_T57 l0 x5_1).f0) true _ A4.out).mono ?_);rintro e w' ⟨rfl,⟨nd,rfl⟩⟩;refine ⟨_,rfl,?_⟩;have p741 : 0 ≤ (x5_1 : Int):=of_decide_eq_true (by first|(with_reducible assumption)|assumption);have q741 : x5_1 < (l0.length : Int):=of_decide_eq_true (by first|(with_reducible assumption)|assumption);obtain ⟨ad741,e741,hx741_0,hx741_1⟩:=at_T57 HR0.out x5_1 p741 q741;obtain rfl : ad739 = ad741:=(by injection e741);replace hx741_0:=(HB.out.cell (World.block_lt_of_cell? w _ hx741_0)).trans hx741_0;replace hx741_1:=(HB.out.cell (World.block_lt_of_cell? w _ hx741_1)).trans hx741_1;replace p741:=eq_true p741;replace q741:=eq_true q741))
     go_roundg k1
     case measure => have:=HK1.out;omega
     case rel => exact ⟨(wrap64 (x5_1 + 1)),(by first|rfl|(simp;done)|(simp [*];done)|(simp;rw [Bool.eq_iff_iff];simp;done)|(rw [Bool.eq_iff_iff];simp;done)),H',⟨by have:=HK1.out;omega⟩,⟨by repeat (first|(with_reducible first|exact HB.out|apply below_alloc|apply pw_below_drewN|apply below_drew1)|exact HB.out)⟩⟩
    rw [if_pos c6] at H
    have c6b0 : decide (((rd_T57 l0 x5_1).f1) < 0) = true:=decide_eq_true c6
    clear c6
    simp only [Option.some.injEq,Prod.mk.injEq] at H
    obtain ⟨rfl,rfl⟩:=H
    have p739 : 0 ≤ (x5_1 : Int):=of_decide_eq_true (by first|(with_reducible assumption)|assumption)
    have q739 : x5_1 < (l0.length : Int):=of_decide_eq_true (by first|(with_reducible assumption)|assumption)
    obtain ⟨ad739,e739,hx739_0,hx739_1⟩:=at_T57 HR0.out x5_1 p739 q739
    cases e739
    replace hx739_0:=(HB.out.cell (World.block_lt_of_cell? w _ hx739_0)).trans hx739_0
    replace hx739_1:=(HB.out.cell (World.block_lt_of_cell? w _ hx739_1)).trans hx739_1
    replace p739:=eq_true p739
    replace q739:=eq_true q739
    go_wp2_with (first|((with_reducible refine gate_callee (f:=75) rfl ?_);refine goesL_ (some 23) rfl rfl Tryz.func75 (by kernel_rfl) rfl #[.string ((rd_T57 l0 x5_1).f0)] rfl (by (try simp only [List.map_toArray,List.map_cons,List.map_nil]);first|done|rfl|(simp only [List.length_drop,List.length_take];rfl)) ?_;(with_reducible refine (bursarref03_Resource.calls k1 ((rd_T57 l0 x5_1).f0) true _ A4.out).mono ?_);rintro e w' ⟨rfl,⟨nd,rfl⟩⟩;refine ⟨_,rfl,?_⟩;have p741 : 0 ≤ (x5_1 : Int):=of_decide_eq_true (by first|(with_reducible assumption)|assumption);have q741 : x5_1 < (l0.length : Int):=of_decide_eq_true (by first|(with_reducible assumption)|assumption);obtain ⟨ad741,e741,hx741_0,hx741_1⟩:=at_T57 HR0.out x5_1 p741 q741;obtain rfl : ad739 = ad741:=(by injection e741);replace hx741_0:=(HB.out.cell (World.block_lt_of_cell? w _ hx741_0)).trans hx741_0;replace hx741_1:=(HB.out.cell (World.block_lt_of_cell? w _ hx741_1)).trans hx741_1;replace p741:=eq_true p741;replace q741:=eq_true q741))
    go_ret2
    exact ⟨_,by first|rfl|(simp [errW_none,errW_some] <;> rfl)|(simp [*,errW_none,errW_some] <;> rfl),by first|exact Kd.R_nil _ _ _ _ _|exact Kd.N_nil _ _ _ _ _|exact Kd.V_nil _ _ _ _ _|exact Kd.Q_nil _ _ _ _ _|exact Kd.S_nil _ _ _ _ _,by repeat (first|(with_reducible first|exact HB.out|apply below_alloc|apply pw_below_drewN|apply below_drew1)|exact HB.out)⟩
   rw [if_neg c2] at H
   have c2b0 : decide (x5_1 < (l0.length : Int)) = false:=decide_eq_false c2
   clear c2
   have H':=Aside0.mk H
   clear H
   go_wp2
   go_loopg [4,6] k1 (fun kq v4 v6 w' => ∃ (x4_2 : List (S57)) (x6_2 : Int),v6 = .int .i64 x6_2 ∧ Aside0 (bursarref03_Normal.l1 kq l0 x4_2 x6_2 = some (r1,r2)) ∧ Aside0 (kq ≤ k1) ∧ Aside0 (Kd.R k57 57 w' w.heap.size (fun _ => True) v4 x4_2) ∧ Aside0 (Below w.heap.size w w'))
   case atStart => exact ⟨(([] : List (S57))),(0),(by first|rfl|(simp;done)|(simp [*];done)|(simp;rw [Bool.eq_iff_iff];simp;done)|(rw [Bool.eq_iff_iff];simp;done)),H',⟨Nat.le_refl _⟩,⟨by first|exact Kd.R_nil _ _ _ _ _|exact Kd.N_nil _ _ _ _ _|exact Kd.V_nil _ _ _ _ _|exact Kd.Q_nil _ _ _ _ _|exact Kd.S_nil _ _ _ _ _⟩,⟨by repeat (first|(with_reducible first|exact HB.out|apply below_alloc|apply pw_below_drewN|apply below_drew1)|exact HB.out)⟩⟩
   case round =>
    clear H';(try clear c2);(try clear c2b0);(try clear p2);(try clear c3);(try clear c3b0);(try clear c4);(try clear c5);(try clear c6);(try clear c6b0);(try clear p6);(try clear hx739_0);(try clear hx739_1);(try clear hx741_0);(try clear hx741_1);(try clear p739);(try clear p741);(try clear q739);(try clear q741)
    obtain ⟨x4_2,x6_2,rfl,HA,HK2,HO_4,HB⟩:=hrel
    cases gk with
   |zero => exact absurd HA.out (by simp [bursarref03_Normal.l1])
   |succ k2 =>
     have H:=HA.out
     clear HA
     simp only [bursarref03_Normal.l1] at H
     by_cases c7 : x6_2 < (l0.length : Int)
     rotate_left
     ·rw [if_neg c7] at H
      have c7b0 : decide (x6_2 < (l0.length : Int)) = false:=decide_eq_false c7
      clear c7
      by_cases c52 : (x4_2.length : Int) > 16
      rotate_left
      ·rw [if_neg c52] at H
       have c52b0 : decide (16 < (x4_2.length : Int)) = false:=decide_eq_false c52
       have c52b1 : decide (16 < x4_2.length) = false:=decide_eq_false (by omega)
       clear c52
       simp only [Option.some.injEq,Prod.mk.injEq] at H
       obtain ⟨rfl,rfl⟩:=H
       obtain ⟨Ao54,co54,eo54⟩:=Kd.R_slice HO_4.out
       subst eo54
       go_wp2
       go_ret2
       exact ⟨_,by first|rfl|(simp [errW_none,errW_some] <;> rfl)|(simp [*,errW_none,errW_some] <;> rfl),by (with_reducible repeat (first|apply Kd.R_alloc|apply Kd.R_drewN|apply Kd.R_drew));exact HO_4.out,by repeat (first|(with_reducible first|exact HB.out|apply below_alloc|apply pw_below_drewN|apply below_drew1)|exact HB.out)⟩
      rw [if_pos c52] at H
      have c52b0 : decide (16 < (x4_2.length : Int)) = true:=decide_eq_true c52
      have c52b1 : decide (16 < x4_2.length) = true:=decide_eq_true (by omega)
      clear c52
      simp only [Option.some.injEq,Prod.mk.injEq] at H
      obtain ⟨rfl,rfl⟩:=H
      obtain ⟨Ao53,co53,eo53⟩:=Kd.R_slice HO_4.out
      subst eo53
      go_wp2
      go_ret2
      exact ⟨_,by first|rfl|(simp [errW_none,errW_some] <;> rfl)|(simp [*,errW_none,errW_some] <;> rfl),by first|exact Kd.R_nil _ _ _ _ _|exact Kd.N_nil _ _ _ _ _|exact Kd.V_nil _ _ _ _ _|exact Kd.Q_nil _ _ _ _ _|exact Kd.S_nil _ _ _ _ _,by repeat (first|(with_reducible first|exact HB.out|apply below_alloc|apply pw_below_drewN|apply below_drew1)|exact HB.out)⟩
     rw [if_pos c7] at H
     have c7b0 : decide (x6_2 < (l0.length : Int)) = true:=decide_eq_true c7
     clear c7
     have H':=Aside0.mk H
     clear H
     go_wp2_with (first|((with_reducible refine gate_dst (N:=7) rfl ?_);refine box_event ?hg (N:=7) ?hd (cs:=#[.slice none 0 0]) (t:=85) ?hr ?_;(case hd => rfl);(case hg => rfl);(case hr => first|(go_simp;done)|(go_simp;rfl));intro gb742 hg w8 hbox hb;have n0_:=Aside0.mk (Kd.R_below (by (with_reducible repeat (first|apply Kd.R_alloc|apply Kd.R_drewN|apply Kd.R_drew));exact HO_4.out) hb);have n1_:=Aside0.mk (below_step (by repeat (first|(with_reducible first|exact HB.out|apply below_alloc|apply pw_below_drewN|apply below_drew1)|exact HB.out)) hb);have n2_:=Aside0.mk (hbox);have n3_:=Aside0.mk ((by rw [hg];exact (below_size (by repeat (first|(with_reducible first|exact HB.out|apply below_alloc|apply pw_below_drewN|apply below_drew1)|exact HB.out))) : w.heap.size ≤ gb742));have n4_:=Aside0.mk ((by rw [hg];exact (below_size (by repeat (first|(with_reducible first|exact HB.out|apply below_alloc|apply pw_below_drewN|apply below_drew1)|exact HB.out))) : w.heap.size ≤ gb742));clear HO_4;clear HB;have HO_4:=n0_;have HB:=n1_;have BK742:=n2_;have GW742:=n3_;have GE742:=n4_;clear n0_ n1_ n2_ n3_ n4_;clear hb hbox hg;have hcz9_0 : w8.cell? ⟨gb742,0,none⟩ = some (.slice none 0 0):=(blk_cell BK742.out 0).trans rfl;have hfz9_0:=blk_frozen BK742.out 0))
     go_loopg [8,9] k2 (fun kq v8 v9 w' => ∃ (x8_3 : Bool) (x9_3 : Int) (x743000_3 : List Int) (u743000 : Value),v8 = .bool x8_3 ∧ v9 = .int .i64 x9_3 ∧ Aside0 (bursarref03_Normal.l2 kq l0 x4_2 x6_2 x8_3 x9_3 x743000_3 = some (r1,r2)) ∧ Aside0 (kq ≤ k2) ∧ Aside0 (Kd.R k57 57 w' w.heap.size (fun _ => True) u4 x4_2) ∧ Aside0 (Kd.V (Kd.int .i64) 3 w' w.heap.size (fun k_ => some k_ ≠ (u4 : Value).ownBlock ∧ k_ ≠ gb742) u743000 x743000_3) ∧ Aside0 (w'.heap[gb742]? = some (.cells #[u743000] 85 (0,0))) ∧ Aside0 (Below w.heap.size w w'))
     case atStart => exact ⟨(false),(0),(([] : List Int)),(.slice none 0 0),(by first|rfl|(simp;done)|(simp [*];done)|(simp;rw [Bool.eq_iff_iff];simp;done)|(rw [Bool.eq_iff_iff];simp;done)),(by first|rfl|(simp;done)|(simp [*];done)|(simp;rw [Bool.eq_iff_iff];simp;done)|(rw [Bool.eq_iff_iff];simp;done)),H',⟨Nat.le_refl _⟩,⟨by (with_reducible repeat (first|apply Kd.R_alloc|apply Kd.R_drewN|apply Kd.R_drew));exact Kd.R_mono (Kd.R_far (p:=⟨gb742,0,none⟩) (Kd.R_types HO_4.out BK742.out (by decide)) (fun _ hk => hk.2) (.slice none 0 0)) (fun _ hk => trivial)⟩,⟨Kd.V_nil _ _ _ _ _⟩,⟨by (with_reducible repeat (first|refine blk_drewN ?_ _|refine blk_drew ?_|refine blk_alloc ?_ _));refine blk_put (cs:=#[.slice none 0 0]) ?_ 0 _ rfl;(with_reducible repeat (first|refine blk_drewN ?_ _|refine blk_drew ?_|refine blk_alloc ?_ _));exact BK742.out⟩,⟨by repeat (first|(with_reducible first|exact HB.out|apply below_alloc|apply pw_below_drewN|apply below_drew1|refine below_set ?_ GE742.out)|exact HB.out)⟩⟩
     case round =>
      clear H';(try clear c2);(try clear c2b0);(try clear p2);(try clear c3);(try clear c3b0);(try clear c4);(try clear c5);(try clear c6);(try clear c6b0);(try clear p6);(try clear c7);(try clear c7b0);(try clear p7);(try clear q7);(try clear hx7);(try clear hcz9_0);(try clear hfz9_0);(try clear hx739_0);(try clear hx739_1);(try clear hx741_0);(try clear hx741_1);(try clear p2);(try clear p6);(try clear p739);(try clear p741);(try clear q739);(try clear q741)
      obtain ⟨x8_3,x9_3,x743000_3,u743000,rfl,rfl,HA,HK3,HO_4,HO_743000,BK742,HB⟩:=hrel
      cases gk with
     |zero => exact absurd HA.out (by simp [bursarref03_Normal.l2])
     |succ k3 =>
       have H:=HA.out
       clear HA
       simp only [bursarref03_Normal.l2] at H
       by_cases c10 : x9_3 < (l0.length : Int)
       rotate_left
       ·rw [if_neg c10] at H
        have c10b0 : decide (x9_3 < (l0.length : Int)) = false:=decide_eq_false c10
        clear c10
        replace H:=Option.bind_eq_some_iff.mp H
        obtain ⟨⟨t752,t753⟩,A350,H⟩:=H
        replace H : (if t753 = true then (if x8_3 = true then (bursarref03_Normal.l1 k3 l0 x4_2 (wrap64 (x6_2 + 1))) else (if 0 ≤ x6_2 then (if x6_2 < (l0.length : Int) then ((bursarref03_placed.f k3 x4_2 ((rd_T57 l0 x6_2).f0) t752).bind fun t755 => (bursarref03_Normal.l1 k3 l0 t755 (wrap64 (x6_2 + 1)))) else (none)) else (none))) else (some (([] : List (S57)),7))) = some (r1,r2):=H
        have A35:=Aside0.mk A350
        clear A350
        by_cases c36 : t753 = true
        rotate_left
        ·replace c36:=Bool.eq_false_iff.mpr c36
         subst c36
         have H1 : (some (([] : List (S57)),7)) = some (r1,r2):=by rw [if_neg (show ¬ (false = true) by decide)] at H;exact H
         clear H;have H:=H1;clear H1
         simp only [Option.some.injEq,Prod.mk.injEq] at H
         obtain ⟨rfl,rfl⟩:=H
         have hcz49_0 : wr.cell? ⟨gb742,0,none⟩ = some (u743000):=(blk_cell BK742.out 0).trans rfl
         have hfz49_0:=blk_frozen BK742.out 0
         obtain ⟨Ao50,co50,eo50⟩:=Kd.V_slice HO_743000.out
         subst eo50
         go_wp2_with (first|((with_reducible refine gate_callee (f:=69) rfl ?_);refine goesL_ (some 73) rfl rfl Tryz.func69 (by kernel_rfl) rfl #[.agg #[.slice Ao50 x743000_3.length co50]] rfl (by (try simp only [List.map_toArray,List.map_cons,List.map_nil]);first|done|rfl|(simp only [List.length_drop,List.length_take];rfl)) ?_;(with_reducible refine (bursarref03_Long_value.calls k3 _ _ x743000_3 t752 false _ ?side1 ?side2 A35.out).mono ?_);(case side1 => repeat (first|exact (Kd.V_reads' HO_743000.out).2.2|(with_reducible refine Kd.C_alloc ?_ _)|(with_reducible refine Kd.C_drewN ?_ _)|(with_reducible refine Kd.C_drew ?_)));(case side2 => exact (Kd.V_reads' HO_743000.out).2.1);rintro e w51 ⟨rfl,hb⟩;refine ⟨_,rfl,?_⟩;have n0_:=Aside0.mk (Kd.R_below (by (with_reducible repeat (first|apply Kd.R_alloc|apply Kd.R_drewN|apply Kd.R_drew));exact HO_4.out) hb);have n1_:=Aside0.mk (Kd.V_below (by (with_reducible repeat (first|apply Kd.V_alloc|apply Kd.V_drewN|apply Kd.V_drew));exact HO_743000.out) hb);have n2_:=Aside0.mk (blk_below (g:=gb742) (o:=.cells #[.slice Ao50 x743000_3.length co50] 85 (0,0)) (by (with_reducible repeat (first|refine blk_drewN ?_ _|refine blk_drew ?_|refine blk_alloc ?_ _));exact BK742.out) hb);have n3_:=Aside0.mk (below_step (by repeat (first|(with_reducible first|exact HB.out|apply below_alloc|apply pw_below_drewN|apply below_drew1|refine below_set ?_ GE742.out)|exact HB.out)) hb);clear HO_4;clear HO_743000;clear BK742;clear HB;have HO_4:=n0_;have HO_743000:=n1_;have BK742:=n2_;have HB:=n3_;clear n0_ n1_ n2_ n3_;(try clear hb);(try clear hb2);(try clear hk);(try clear hi)))
         go_ret2
         exact ⟨_,by first|rfl|(simp [errW_none,errW_some] <;> rfl)|(simp [*,errW_none,errW_some] <;> rfl),by first|exact Kd.R_nil _ _ _ _ _|exact Kd.N_nil _ _ _ _ _|exact Kd.V_nil _ _ _ _ _|exact Kd.Q_nil _ _ _ _ _|exact Kd.S_nil _ _ _ _ _,by repeat (first|(with_reducible first|exact HB.out|apply below_alloc|apply pw_below_drewN|apply below_drew1|refine below_set ?_ GE742.out)|exact HB.out)⟩
        subst c36
        have H1 : (if x8_3 = true then (bursarref03_Normal.l1 k3 l0 x4_2 (wrap64 (x6_2 + 1))) else (if 0 ≤ x6_2 then (if x6_2 < (l0.length : Int) then ((bursarref03_placed.f k3 x4_2 ((rd_T57 l0 x6_2).f0) t752).bind fun t755 => (bursarref03_Normal.l1 k3 l0 t755 (wrap64 (x6_2 + 1)))) else (none)) else (none))) = some (r1,r2):=by rw [if_pos rfl] at H;exact H
        clear H;have H:=H1;clear H1
        by_cases c37 : x8_3 = true
        ·subst c37
         have H1 : (bursarref03_Normal.l1 k3 l0 x4_2 (wrap64 (x6_2 + 1))) = some (r1,r2):=by rw [if_pos rfl] at H;exact H
         clear H;have H:=H1;clear H1
         have H':=Aside0.mk H
         clear H
         have hcz38_0 : wr.cell? ⟨gb742,0,none⟩ = some (u743000):=(blk_cell BK742.out 0).trans rfl
         have hfz38_0:=blk_frozen BK742.out 0
         obtain ⟨Ao39,co39,eo39⟩:=Kd.V_slice HO_743000.out
         subst eo39
         go_wp2_with (first|((with_reducible refine gate_callee (f:=69) rfl ?_);refine goesL_ (some 73) rfl rfl Tryz.func69 (by kernel_rfl) rfl #[.agg #[.slice Ao39 x743000_3.length co39]] rfl (by (try simp only [List.map_toArray,List.map_cons,List.map_nil]);first|done|rfl|(simp only [List.length_drop,List.length_take];rfl)) ?_;(with_reducible refine (bursarref03_Long_value.calls k3 _ _ x743000_3 t752 true _ ?side1 ?side2 A35.out).mono ?_);(case side1 => repeat (first|exact (Kd.V_reads' HO_743000.out).2.2|(with_reducible refine Kd.C_alloc ?_ _)|(with_reducible refine Kd.C_drewN ?_ _)|(with_reducible refine Kd.C_drew ?_)));(case side2 => exact (Kd.V_reads' HO_743000.out).2.1);rintro e w40 ⟨rfl,hb⟩;refine ⟨_,rfl,?_⟩;have n0_:=Aside0.mk (Kd.R_below (by (with_reducible repeat (first|apply Kd.R_alloc|apply Kd.R_drewN|apply Kd.R_drew));exact HO_4.out) hb);have n1_:=Aside0.mk (Kd.V_below (by (with_reducible repeat (first|apply Kd.V_alloc|apply Kd.V_drewN|apply Kd.V_drew));exact HO_743000.out) hb);have n2_:=Aside0.mk (blk_below (g:=gb742) (o:=.cells #[.slice Ao39 x743000_3.length co39] 85 (0,0)) (by (with_reducible repeat (first|refine blk_drewN ?_ _|refine blk_drew ?_|refine blk_alloc ?_ _));exact BK742.out) hb);have n3_:=Aside0.mk (below_step (by repeat (first|(with_reducible first|exact HB.out|apply below_alloc|apply pw_below_drewN|apply below_drew1|refine below_set ?_ GE742.out)|exact HB.out)) hb);clear HO_4;clear HO_743000;clear BK742;clear HB;have HO_4:=n0_;have HO_743000:=n1_;have BK742:=n2_;have HB:=n3_;clear n0_ n1_ n2_ n3_;(try clear hb);(try clear hb2);(try clear hk);(try clear hi)))
         go_roundg k3
         case measure => have:=HK1.out;have:=HK2.out;have:=HK3.out;omega
         case rel => exact ⟨(x4_2),(wrap64 (x6_2 + 1)),(by first|rfl|(simp;done)|(simp [*];done)|(simp;rw [Bool.eq_iff_iff];simp;done)|(rw [Bool.eq_iff_iff];simp;done)),H',⟨by have:=HK1.out;have:=HK2.out;have:=HK3.out;omega⟩,⟨by (with_reducible repeat (first|apply Kd.R_alloc|apply Kd.R_drewN|apply Kd.R_drew));exact HO_4.out⟩,⟨by repeat (first|(with_reducible first|exact HB.out|apply below_alloc|apply pw_below_drewN|apply below_drew1|refine below_set ?_ GE742.out)|exact HB.out)⟩⟩
        replace c37:=Bool.eq_false_iff.mpr c37
        subst c37
        have H1 : (if 0 ≤ x6_2 then (if x6_2 < (l0.length : Int) then ((bursarref03_placed.f k3 x4_2 ((rd_T57 l0 x6_2).f0) t752).bind fun t755 => (bursarref03_Normal.l1 k3 l0 t755 (wrap64 (x6_2 + 1)))) else (none)) else (none)) = some (r1,r2):=by rw [if_neg (show ¬ (false = true) by decide)] at H;exact H
        clear H;have H:=H1;clear H1
        by_cases c41 : 0 ≤ x6_2
        rotate_left
        ·rw [if_neg c41] at H
         exact absurd H (by simp)
        rw [if_pos c41] at H
        have c41b0 : decide (0 ≤ x6_2) = true:=decide_eq_true c41
        clear c41
        by_cases c42 : x6_2 < (l0.length : Int)
        rotate_left
        ·rw [if_neg c42] at H
         exact absurd H (by simp)
        rw [if_pos c42] at H
        have c42b0 : decide (x6_2 < (l0.length : Int)) = true:=decide_eq_true c42
        clear c42
        replace H:=Option.bind_eq_some_iff.mp H
        obtain ⟨t755,A430,H⟩:=H
        replace H : (bursarref03_Normal.l1 k3 l0 t755 (wrap64 (x6_2 + 1))) = some (r1,r2):=H
        have A43:=Aside0.mk A430
        clear A430
        have H':=Aside0.mk H
        clear H
        have hcz44_0 : wr.cell? ⟨gb742,0,none⟩ = some (u743000):=(blk_cell BK742.out 0).trans rfl
        have hfz44_0:=blk_frozen BK742.out 0
        obtain ⟨Ao45,co45,eo45⟩:=Kd.V_slice HO_743000.out
        subst eo45
        go_wp2_with (first|((with_reducible refine gate_callee (f:=69) rfl ?_);refine goesL_ (some 73) rfl rfl Tryz.func69 (by kernel_rfl) rfl #[.agg #[.slice Ao45 x743000_3.length co45]] rfl (by (try simp only [List.map_toArray,List.map_cons,List.map_nil]);first|done|rfl|(simp only [List.length_drop,List.length_take];rfl)) ?_;(with_reducible refine (bursarref03_Long_value.calls k3 _ _ x743000_3 t752 true _ ?side1 ?side2 A35.out).mono ?_);(case side1 => repeat (first|exact (Kd.V_reads' HO_743000.out).2.2|(with_reducible refine Kd.C_alloc ?_ _)|(with_reducible refine Kd.C_drewN ?_ _)|(with_reducible refine Kd.C_drew ?_)));(case side2 => exact (Kd.V_reads' HO_743000.out).2.1);rintro e w46 ⟨rfl,hb⟩;refine ⟨_,rfl,?_⟩;have n0_:=Aside0.mk (Kd.R_below (by (with_reducible repeat (first|apply Kd.R_alloc|apply Kd.R_drewN|apply Kd.R_drew));exact HO_4.out) hb);have n1_:=Aside0.mk (Kd.V_below (by (with_reducible repeat (first|apply Kd.V_alloc|apply Kd.V_drewN|apply Kd.V_drew));exact HO_743000.out) hb);have n2_:=Aside0.mk (blk_below (g:=gb742) (o:=.cells #[.slice Ao45 x743000_3.length co45] 85 (0,0)) (by (with_reducible repeat (first|refine blk_drewN ?_ _|refine blk_drew ?_|refine blk_alloc ?_ _));exact BK742.out) hb);have n3_:=Aside0.mk (below_step (by repeat (first|(with_reducible first|exact HB.out|apply below_alloc|apply pw_below_drewN|apply below_drew1|refine below_set ?_ GE742.out)|exact HB.out)) hb);clear HO_4;clear HO_743000;clear BK742;clear HB;have HO_4:=n0_;have HO_743000:=n1_;have BK742:=n2_;have HB:=n3_;clear n0_ n1_ n2_ n3_;(try clear hb);(try clear hb2);(try clear hk);(try clear hi);have p754 : 0 ≤ (x6_2 : Int):=of_decide_eq_true (by first|(with_reducible assumption)|assumption);have q754 : x6_2 < (l0.length : Int):=of_decide_eq_true (by first|(with_reducible assumption)|assumption);obtain ⟨ad754,e754,hx754_0,hx754_1⟩:=at_T57 HR0.out x6_2 p754 q754;cases e754;replace hx754_0:=(HB.out.cell (World.block_lt_of_cell? w _ hx754_0)).trans hx754_0;replace hx754_1:=(HB.out.cell (World.block_lt_of_cell? w _ hx754_1)).trans hx754_1;replace p754:=eq_true p754;replace q754:=eq_true q754;obtain ⟨Ao47,co47,eo47⟩:=Kd.R_slice HO_4.out;subst eo47)|((with_reducible refine gate_callee (f:=76) rfl ?_);refine goesL_ (some 88) rfl rfl Tryz.func76 (by kernel_rfl) rfl #[.slice Ao47 x4_2.length co47,.agg #[.string ((rd_T57 l0 x6_2).f0),.int .i64 t752]] rfl (by (try simp only [List.map_toArray,List.map_cons,List.map_nil]);first|done|rfl|(simp only [List.length_drop,List.length_take];rfl)) ?_;(with_reducible refine (bursarref03_placed.calls k3 _ _ x4_2 ((rd_T57 l0 x6_2).f0) t752 t755 _ ?side1 ?side2 A43.out).mono ?_);(case side1 => repeat (first|exact (Kd.R_reads' HO_4.out).2.2|(with_reducible refine Kd.C_alloc ?_ _)|(with_reducible refine Kd.C_drewN ?_ _)|(with_reducible refine Kd.C_drew ?_)));(case side2 => exact (Kd.R_reads' HO_4.out).2.1);rintro e w48 ⟨v756,rfl,ho0,hb⟩;refine ⟨_,rfl,?_⟩;have n0_:=Aside0.mk (Kd.R_elder' (by (with_reducible repeat (first|apply Kd.R_alloc|apply Kd.R_drewN|apply Kd.R_drew));exact HO_4.out) (Kd.R_base ho0) hb);have n1_:=Aside0.mk (Kd.V_elder' (by (with_reducible repeat (first|apply Kd.V_alloc|apply Kd.V_drewN|apply Kd.V_drew));exact HO_743000.out) (Kd.R_base ho0) hb);have n2_:=Aside0.mk (Kd.R_lower (Kd.R_new' ho0 (Kd.R_lt (by (with_reducible repeat (first|apply Kd.R_alloc|apply Kd.R_drewN|apply Kd.R_drew));exact HO_4.out))) (below_size (by repeat (first|(with_reducible first|exact HB.out|apply below_alloc|apply pw_below_drewN|apply below_drew1|refine below_set ?_ GE742.out)|exact HB.out))));have n3_:=Aside0.mk (blk_below (g:=gb742) (o:=.cells #[.slice Ao45 x743000_3.length co45] 85 (0,0)) (by (with_reducible repeat (first|refine blk_drewN ?_ _|refine blk_drew ?_|refine blk_alloc ?_ _));exact BK742.out) hb);have n4_:=Aside0.mk (below_step (by repeat (first|(with_reducible first|exact HB.out|apply below_alloc|apply pw_below_drewN|apply below_drew1|refine below_set ?_ GE742.out)|exact HB.out)) hb);clear HO_4;clear HO_743000;clear BK742;clear HB;have HO_4:=n0_;have HO_743000:=n1_;have HO757:=n2_;have BK742:=n3_;have HB:=n4_;clear n0_ n1_ n2_ n3_ n4_;(try clear hb);(try clear hb2);(try clear hk);(try clear hi);(try clear ho0)))
        go_roundg k3
        case measure => have:=HK1.out;have:=HK2.out;have:=HK3.out;omega
        case rel => exact ⟨(t755),(wrap64 (x6_2 + 1)),(by first|rfl|(simp;done)|(simp [*];done)|(simp;rw [Bool.eq_iff_iff];simp;done)|(rw [Bool.eq_iff_iff];simp;done)),H',⟨by have:=HK1.out;have:=HK2.out;have:=HK3.out;omega⟩,⟨by (with_reducible repeat (first|apply Kd.R_alloc|apply Kd.R_drewN|apply Kd.R_drew));exact Kd.R_mono HO757.out (fun _ hk => trivial)⟩,⟨by repeat (first|(with_reducible first|exact HB.out|apply below_alloc|apply pw_below_drewN|apply below_drew1|refine below_set ?_ GE742.out)|exact HB.out)⟩⟩
       rw [if_pos c10] at H
       have c10b0 : decide (x9_3 < (l0.length : Int)) = true:=decide_eq_true c10
       clear c10
       by_cases c11 : 0 ≤ x9_3
       rotate_left
       ·rw [if_neg c11] at H
        exact absurd H (by simp)
       rw [if_pos c11] at H
       have c11b0 : decide (0 ≤ x9_3) = true:=decide_eq_true c11
       clear c11
       by_cases c12 : 0 ≤ x6_2
       rotate_left
       ·rw [if_neg c12] at H
        exact absurd H (by simp)
       rw [if_pos c12] at H
       have c12b0 : decide (0 ≤ x6_2) = true:=decide_eq_true c12
       clear c12
       by_cases c13 : x6_2 < (l0.length : Int)
       rotate_left
       ·rw [if_neg c13] at H
        exact absurd H (by simp)
       rw [if_pos c13] at H
       have c13b0 : decide (x6_2 < (l0.length : Int)) = true:=decide_eq_true c13
       clear c13
       by_cases c14 : ((rd_T57 l0 x9_3).f0).toList = ((rd_T57 l0 x6_2).f0).toList
       rotate_left
       ·rw [if_neg c14] at H
        have c14b0 : (((rd_T57 l0 x9_3).f0).toList == ((rd_T57 l0 x6_2).f0).toList) = false:=beq_eq_false_iff_ne.mpr c14
        have c14b1 : (((rd_T57 l0 x9_3).f0).toList != ((rd_T57 l0 x6_2).f0).toList) = true:=bne_iff_ne.mpr c14
        have H':=Aside0.mk H
        clear H
        try go_wp2
        have n0_:=Aside0.mk (Kd.R_drew HO_4.out)
        have n1_:=Aside0.mk (Kd.V_drew HO_743000.out)
        have n2_:=Aside0.mk (blk_drew BK742.out)
        have n3_:=Aside0.mk (below_drew1 HB.out)
        clear HO_4;clear HO_743000;clear BK742;clear HB;have HO_4:=n0_;have HO_743000:=n1_;have BK742:=n2_;have HB:=n3_;clear n0_ n1_ n2_ n3_
        have p743 : 0 ≤ (x9_3 : Int):=of_decide_eq_true (by first|(with_reducible assumption)|assumption)
        have q743 : x9_3 < (l0.length : Int):=of_decide_eq_true (by first|(with_reducible assumption)|assumption)
        obtain ⟨ad743,e743,hx743_0,hx743_1⟩:=at_T57 HR0.out x9_3 p743 q743
        have hw743_1:=hx743_1;have hw743_0:=hx743_0
        cases e743
        replace hx743_0:=(HB.out.cell (World.block_lt_of_cell? w _ hx743_0)).trans hx743_0
        replace hx743_1:=(HB.out.cell (World.block_lt_of_cell? w _ hx743_1)).trans hx743_1
        replace p743:=eq_true p743
        replace q743:=eq_true q743
        have p744 : 0 ≤ (x6_2 : Int):=of_decide_eq_true (by first|(with_reducible assumption)|assumption)
        have q744 : x6_2 < (l0.length : Int):=of_decide_eq_true (by first|(with_reducible assumption)|assumption)
        obtain ⟨ad744,e744,hx744_0,hx744_1⟩:=at_T57 HR0.out x6_2 p744 q744
        have hw744_1:=hx744_1;have hw744_0:=hx744_0
        obtain rfl : ad743 = ad744:=(by injection e744)
        replace hx744_0:=(HB.out.cell (World.block_lt_of_cell? w _ hx744_0)).trans hx744_0
        replace hx744_1:=(HB.out.cell (World.block_lt_of_cell? w _ hx744_1)).trans hx744_1
        replace p744:=eq_true p744
        replace q744:=eq_true q744
        refine start_ (n:=11) (S:=fun w' => w'.cell? (ad743.add ((x9_3).toNat * 2)) = some (.string ((rd_T57 l0 x9_3).f0)) ∧ w'.cell? ⟨(ad743.add ((x9_3).toNat * 2)).block,(ad743.add ((x9_3).toNat * 2)).off + 1,none⟩ = some (.int .i64 ((rd_T57 l0 x9_3).f1)) ∧ w'.cell? (ad743.add ((x6_2).toNat * 2)) = some (.string ((rd_T57 l0 x6_2).f0)) ∧ w'.cell? ⟨(ad743.add ((x6_2).toNat * 2)).block,(ad743.add ((x6_2).toNat * 2)).off + 1,none⟩ = some (.int .i64 ((rd_T57 l0 x6_2).f1))) (ds:=[]) #[false,false,false,false,false,false,false,false,false,false,false] (by kernel_rfl) rfl rfl ⟨((HB.out.cell (World.block_lt_of_cell? w _ hw743_0)).trans hw743_0),((HB.out.cell (World.block_lt_of_cell? w _ hw743_1)).trans hw743_1),((HB.out.cell (World.block_lt_of_cell? w _ hw744_0)).trans hw744_0),((HB.out.cell (World.block_lt_of_cell? w _ hw744_1)).trans hw744_1)⟩ (fun hHeld => ?_);refine with_tabW bursarref03_Normal.tab15 bursarref03_Normal.bits15 (fun HT_ HW_ => ?_)
        generalize wr.drew = w34 at HO_4 HO_743000 BK742 HB hx743_0 hx743_1 hx744_0 hx744_1 hHeld ⊢
        refine pure_ (i:=0) (N:=some 46) (v:=?_) (a':=?_) #[true,false,false,false,false,false,false,false,false,false,false] rfl rfl (any_of HT_.out (by kernel_rfl)) (fun _ _ _ h => h) (Or.inl ⟨by rfl,?_⟩) ?_ ?_
        rotate_left;·intro w';go_simp;with_reducible rfl
        rotate_left;·simp only [pu_];rfl
        refine pure_ (i:=1) (N:=some 47) (v:=?_) (a':=?_) #[true,true,false,false,false,false,false,false,false,false,false] rfl rfl (any_of HT_.out (by kernel_rfl)) (fun _ _ _ h => h) (Or.inl ⟨by rfl,?_⟩) ?_ ?_
        rotate_left;·intro w';go_simp;with_reducible rfl
        rotate_left;·simp only [pu_];rfl
        refine pure_ (i:=2) (N:=some 48) (v:=?_) (a':=?_) #[true,true,true,false,false,false,false,false,false,false,false] rfl rfl (any_of HT_.out (by kernel_rfl)) (fun _ _ _ h => h) (Or.inl ⟨by rfl,?_⟩) ?_ ?_
        rotate_left;·intro w';go_simp;with_reducible rfl
        rotate_left;·simp only [pu_];rfl
        refine pure_ (i:=3) (N:=some 49) (v:=?_) (a':=?_) #[true,true,true,true,false,false,false,false,false,false,false] rfl rfl (any_of HT_.out (by kernel_rfl)) (fun _ _ _ h => h) (Or.inl ⟨by rfl,?_⟩) ?_ ?_
        rotate_left;·intro w';go_simp;with_reducible rfl
        rotate_left;·simp only [pu_];rfl
        refine pure_ (i:=5) (N:=some 51) (v:=?_) (a':=?_) #[true,true,true,true,false,true,false,false,false,false,false] rfl rfl (any_of HT_.out (by kernel_rfl)) (fun _ _ _ h => h) (Or.inl ⟨by rfl,?_⟩) ?_ ?_
        rotate_left;·intro w';go_simp;with_reducible rfl
        rotate_left;·simp only [pu_];rfl
        refine pure_ (i:=6) (N:=some 52) (v:=?_) (a':=?_) #[true,true,true,true,false,true,true,false,false,false,false] rfl rfl (any_of HT_.out (by kernel_rfl)) (fun _ _ _ h => h) (Or.inl ⟨by rfl,?_⟩) ?_ ?_
        rotate_left;·intro w';go_simp;with_reducible rfl
        rotate_left;·simp only [pu_];rfl
        refine pure_ (i:=7) (N:=some 53) (v:=?_) (a':=?_) #[true,true,true,true,false,true,true,true,false,false,false] rfl rfl (any_of HT_.out (by kernel_rfl)) (fun _ _ _ h => h) (Or.inl ⟨by rfl,?_⟩) ?_ ?_
        rotate_left;·intro w';go_simp;with_reducible rfl
        rotate_left;·simp only [pu_];rfl
        refine pure_ (i:=8) (N:=some 54) (v:=?_) (a':=?_) #[true,true,true,true,false,true,true,true,true,false,false] rfl rfl (any_of HT_.out (by kernel_rfl)) (fun _ _ _ h => h) (Or.inl ⟨by rfl,?_⟩) ?_ ?_
        rotate_left;·intro w';go_simp;with_reducible rfl
        rotate_left;·simp only [pu_];rfl
        refine take_ (i:=4) (N:=some 50) (v:=?_) (a':=?_) #[true,true,true,true,true,true,true,true,true,false,false] rfl rfl (take_ofW HT_.out HW_.out (by kernel_rfl)) (fun _ _ _ h => h) (Or.inl ⟨by rfl,?_⟩) hHeld ?_ ?_
        rotate_left
        ·rintro w' ⟨s0,s1,s2,s3⟩
         go_simp
         with_reducible rfl
        rotate_left
        ·simp only [pu_]
         rfl
        refine take_ (i:=9) (N:=some 55) (v:=?_) (a':=?_) #[true,true,true,true,true,true,true,true,true,true,false] rfl rfl (take_ofW HT_.out HW_.out (by kernel_rfl)) (fun _ _ _ h => h) (Or.inl ⟨by rfl,?_⟩) hHeld ?_ ?_
        rotate_left
        ·rintro w' ⟨s0,s1,s2,s3⟩
         go_simp
         with_reducible rfl
        rotate_left
        ·simp only [pu_]
         rfl
        refine pure_ (i:=10) (N:=some 56) (v:=?_) (a':=?_) #[true,true,true,true,true,true,true,true,true,true,true] rfl rfl (any_of HT_.out (by kernel_rfl)) (fun _ _ _ h => h) (Or.inl ⟨by rfl,?_⟩) ?_ ?_
        rotate_left;·intro w';go_simp;with_reducible rfl
        rotate_left;·simp only [pu_];rfl
        refine done_ (done_of HT_.out (by kernel_rfl)) ?_
        try go_wp2
        go_roundg k3
        case measure => have:=HK1.out;have:=HK2.out;have:=HK3.out;omega
        case rel => exact ⟨(x8_3),(wrap64 (x9_3 + 1)),(x743000_3),(u743000),(by first|rfl|(simp;done)|(simp [*];done)|(simp;rw [Bool.eq_iff_iff];simp;done)|(rw [Bool.eq_iff_iff];simp;done)),(by first|rfl|(simp;done)|(simp [*];done)|(simp;rw [Bool.eq_iff_iff];simp;done)|(rw [Bool.eq_iff_iff];simp;done)),H',⟨by have:=HK1.out;have:=HK2.out;have:=HK3.out;omega⟩,⟨by (with_reducible repeat (first|apply Kd.R_alloc|apply Kd.R_drewN|apply Kd.R_drew));exact HO_4.out⟩,⟨by (with_reducible repeat (first|apply Kd.V_alloc|apply Kd.V_drewN|apply Kd.V_drew));exact HO_743000.out⟩,⟨by (with_reducible repeat (first|refine blk_drewN ?_ _|refine blk_drew ?_|refine blk_alloc ?_ _));exact BK742.out⟩,⟨by repeat (first|(with_reducible first|exact HB.out|apply below_alloc|apply pw_below_drewN|apply below_drew1|refine below_set ?_ GE742.out)|exact HB.out)⟩⟩
       rw [if_pos c14] at H
       have c14b0 : (((rd_T57 l0 x9_3).f0).toList == ((rd_T57 l0 x6_2).f0).toList) = true:=beq_iff_eq.mpr c14
       have c14b1 : (((rd_T57 l0 x9_3).f0).toList != ((rd_T57 l0 x6_2).f0).toList) = false:=bne_eq_false_iff_eq.mpr c14
       clear c14
       replace H:=Option.bind_eq_some_iff.mp H
       obtain ⟨t746,A150,H⟩:=H
       replace H : ((bursarref03_Long_plus.f k3 x743000_3 t746).bind fun t749 => (if x8_3 = true then (bursarref03_Normal.l2 k3 l0 x4_2 x6_2 true (wrap64 (x9_3 + 1)) t749) else (bursarref03_Normal.l2 k3 l0 x4_2 x6_2 (decide (x9_3 < x6_2)) (wrap64 (x9_3 + 1)) t749))) = some (r1,r2):=H
       have A15:=Aside0.mk A150
       clear A150
       replace H:=Option.bind_eq_some_iff.mp H
       obtain ⟨t749,A160,H⟩:=H
       replace H : (if x8_3 = true then (bursarref03_Normal.l2 k3 l0 x4_2 x6_2 true (wrap64 (x9_3 + 1)) t749) else (bursarref03_Normal.l2 k3 l0 x4_2 x6_2 (decide (x9_3 < x6_2)) (wrap64 (x9_3 + 1)) t749)) = some (r1,r2):=H
       have A16:=Aside0.mk A160
       clear A160
       by_cases c17 : x8_3 = true
       ·subst c17
        have H1 : (bursarref03_Normal.l2 k3 l0 x4_2 x6_2 true (wrap64 (x9_3 + 1)) t749) = some (r1,r2):=by rw [if_pos rfl] at H;exact H
        clear H;have H:=H1;clear H1
        have H':=Aside0.mk H
        clear H
        try go_wp2
        have n0_:=Aside0.mk (Kd.R_drew HO_4.out)
        have n1_:=Aside0.mk (Kd.V_drew HO_743000.out)
        have n2_:=Aside0.mk (blk_drew BK742.out)
        have n3_:=Aside0.mk (below_drew1 HB.out)
        clear HO_4;clear HO_743000;clear BK742;clear HB;have HO_4:=n0_;have HO_743000:=n1_;have BK742:=n2_;have HB:=n3_;clear n0_ n1_ n2_ n3_
        have p743 : 0 ≤ (x9_3 : Int):=of_decide_eq_true (by first|(with_reducible assumption)|assumption)
        have q743 : x9_3 < (l0.length : Int):=of_decide_eq_true (by first|(with_reducible assumption)|assumption)
        obtain ⟨ad743,e743,hx743_0,hx743_1⟩:=at_T57 HR0.out x9_3 p743 q743
        have hw743_1:=hx743_1;have hw743_0:=hx743_0
        cases e743
        replace hx743_0:=(HB.out.cell (World.block_lt_of_cell? w _ hx743_0)).trans hx743_0
        replace hx743_1:=(HB.out.cell (World.block_lt_of_cell? w _ hx743_1)).trans hx743_1
        replace p743:=eq_true p743
        replace q743:=eq_true q743
        have p744 : 0 ≤ (x6_2 : Int):=of_decide_eq_true (by first|(with_reducible assumption)|assumption)
        have q744 : x6_2 < (l0.length : Int):=of_decide_eq_true (by first|(with_reducible assumption)|assumption)
        obtain ⟨ad744,e744,hx744_0,hx744_1⟩:=at_T57 HR0.out x6_2 p744 q744
        have hw744_1:=hx744_1;have hw744_0:=hx744_0
        obtain rfl : ad743 = ad744:=(by injection e744)
        replace hx744_0:=(HB.out.cell (World.block_lt_of_cell? w _ hx744_0)).trans hx744_0
        replace hx744_1:=(HB.out.cell (World.block_lt_of_cell? w _ hx744_1)).trans hx744_1
        replace p744:=eq_true p744
        replace q744:=eq_true q744
        refine start_ (n:=11) (S:=fun w' => w'.cell? (ad743.add ((x9_3).toNat * 2)) = some (.string ((rd_T57 l0 x9_3).f0)) ∧ w'.cell? ⟨(ad743.add ((x9_3).toNat * 2)).block,(ad743.add ((x9_3).toNat * 2)).off + 1,none⟩ = some (.int .i64 ((rd_T57 l0 x9_3).f1)) ∧ w'.cell? (ad743.add ((x6_2).toNat * 2)) = some (.string ((rd_T57 l0 x6_2).f0)) ∧ w'.cell? ⟨(ad743.add ((x6_2).toNat * 2)).block,(ad743.add ((x6_2).toNat * 2)).off + 1,none⟩ = some (.int .i64 ((rd_T57 l0 x6_2).f1))) (ds:=[]) #[false,false,false,false,false,false,false,false,false,false,false] (by kernel_rfl) rfl rfl ⟨((HB.out.cell (World.block_lt_of_cell? w _ hw743_0)).trans hw743_0),((HB.out.cell (World.block_lt_of_cell? w _ hw743_1)).trans hw743_1),((HB.out.cell (World.block_lt_of_cell? w _ hw744_0)).trans hw744_0),((HB.out.cell (World.block_lt_of_cell? w _ hw744_1)).trans hw744_1)⟩ (fun hHeld => ?_);refine with_tabW bursarref03_Normal.tab15 bursarref03_Normal.bits15 (fun HT_ HW_ => ?_)
        generalize wr.drew = w18 at HO_4 HO_743000 BK742 HB hx743_0 hx743_1 hx744_0 hx744_1 hHeld ⊢
        refine pure_ (i:=0) (N:=some 46) (v:=?_) (a':=?_) #[true,false,false,false,false,false,false,false,false,false,false] rfl rfl (any_of HT_.out (by kernel_rfl)) (fun _ _ _ h => h) (Or.inl ⟨by rfl,?_⟩) ?_ ?_
        rotate_left;·intro w';go_simp;with_reducible rfl
        rotate_left;·simp only [pu_];rfl
        refine pure_ (i:=1) (N:=some 47) (v:=?_) (a':=?_) #[true,true,false,false,false,false,false,false,false,false,false] rfl rfl (any_of HT_.out (by kernel_rfl)) (fun _ _ _ h => h) (Or.inl ⟨by rfl,?_⟩) ?_ ?_
        rotate_left;·intro w';go_simp;with_reducible rfl
        rotate_left;·simp only [pu_];rfl
        refine pure_ (i:=2) (N:=some 48) (v:=?_) (a':=?_) #[true,true,true,false,false,false,false,false,false,false,false] rfl rfl (any_of HT_.out (by kernel_rfl)) (fun _ _ _ h => h) (Or.inl ⟨by rfl,?_⟩) ?_ ?_
        rotate_left;·intro w';go_simp;with_reducible rfl
        rotate_left;·simp only [pu_];rfl
        refine pure_ (i:=3) (N:=some 49) (v:=?_) (a':=?_) #[true,true,true,true,false,false,false,false,false,false,false] rfl rfl (any_of HT_.out (by kernel_rfl)) (fun _ _ _ h => h) (Or.inl ⟨by rfl,?_⟩) ?_ ?_
        rotate_left;·intro w';go_simp;with_reducible rfl
        rotate_left;·simp only [pu_];rfl
        refine pure_ (i:=5) (N:=some 51) (v:=?_) (a':=?_) #[true,true,true,true,false,true,false,false,false,false,false] rfl rfl (any_of HT_.out (by kernel_rfl)) (fun _ _ _ h => h) (Or.inl ⟨by rfl,?_⟩) ?_ ?_
        rotate_left;·intro w';go_simp;with_reducible rfl
        rotate_left;·simp only [pu_];rfl
        refine pure_ (i:=6) (N:=some 52) (v:=?_) (a':=?_) #[true,true,true,true,false,true,true,false,false,false,false] rfl rfl (any_of HT_.out (by kernel_rfl)) (fun _ _ _ h => h) (Or.inl ⟨by rfl,?_⟩) ?_ ?_
        rotate_left;·intro w';go_simp;with_reducible rfl
        rotate_left;·simp only [pu_];rfl
        refine pure_ (i:=7) (N:=some 53) (v:=?_) (a':=?_) #[true,true,true,true,false,true,true,true,false,false,false] rfl rfl (any_of HT_.out (by kernel_rfl)) (fun _ _ _ h => h) (Or.inl ⟨by rfl,?_⟩) ?_ ?_
        rotate_left;·intro w';go_simp;with_reducible rfl
        rotate_left;·simp only [pu_];rfl
        refine pure_ (i:=8) (N:=some 54) (v:=?_) (a':=?_) #[true,true,true,true,false,true,true,true,true,false,false] rfl rfl (any_of HT_.out (by kernel_rfl)) (fun _ _ _ h => h) (Or.inl ⟨by rfl,?_⟩) ?_ ?_
        rotate_left;·intro w';go_simp;with_reducible rfl
        rotate_left;·simp only [pu_];rfl
        refine take_ (i:=4) (N:=some 50) (v:=?_) (a':=?_) #[true,true,true,true,true,true,true,true,true,false,false] rfl rfl (take_ofW HT_.out HW_.out (by kernel_rfl)) (fun _ _ _ h => h) (Or.inl ⟨by rfl,?_⟩) hHeld ?_ ?_
        rotate_left
        ·rintro w' ⟨s0,s1,s2,s3⟩
         go_simp
         with_reducible rfl
        rotate_left
        ·simp only [pu_]
         rfl
        refine take_ (i:=9) (N:=some 55) (v:=?_) (a':=?_) #[true,true,true,true,true,true,true,true,true,true,false] rfl rfl (take_ofW HT_.out HW_.out (by kernel_rfl)) (fun _ _ _ h => h) (Or.inl ⟨by rfl,?_⟩) hHeld ?_ ?_
        rotate_left
        ·rintro w' ⟨s0,s1,s2,s3⟩
         go_simp
         with_reducible rfl
        rotate_left
        ·simp only [pu_]
         rfl
        refine pure_ (i:=10) (N:=some 56) (v:=?_) (a':=?_) #[true,true,true,true,true,true,true,true,true,true,true] rfl rfl (any_of HT_.out (by kernel_rfl)) (fun _ _ _ h => h) (Or.inl ⟨by rfl,?_⟩) ?_ ?_
        rotate_left;·intro w';go_simp;with_reducible rfl
        rotate_left;·simp only [pu_];rfl
        refine done_ (done_of HT_.out (by kernel_rfl)) ?_
        try go_wp2
        have n0_:=Aside0.mk (Kd.R_drew HO_4.out)
        have n1_:=Aside0.mk (Kd.V_drew HO_743000.out)
        have n2_:=Aside0.mk (blk_drew BK742.out)
        have n3_:=Aside0.mk (below_drew1 HB.out)
        clear HO_4;clear HO_743000;clear BK742;clear HB;have HO_4:=n0_;have HO_743000:=n1_;have BK742:=n2_;have HB:=n3_;clear n0_ n1_ n2_ n3_
        have p745 : 0 ≤ (x9_3 : Int):=of_decide_eq_true (by first|(with_reducible assumption)|assumption)
        have q745 : x9_3 < (l0.length : Int):=of_decide_eq_true (by first|(with_reducible assumption)|assumption)
        obtain ⟨ad745,e745,hx745_0,hx745_1⟩:=at_T57 HR0.out x9_3 p745 q745
        have hw745_1:=hx745_1;have hw745_0:=hx745_0
        obtain rfl : ad743 = ad745:=(by injection e745)
        replace hx745_0:=(HB.out.cell (World.block_lt_of_cell? w _ hx745_0)).trans hx745_0
        replace hx745_1:=(HB.out.cell (World.block_lt_of_cell? w _ hx745_1)).trans hx745_1
        replace p745:=eq_true p745
        replace q745:=eq_true q745
        refine start_ (n:=9) (S:=fun w' => w'.cell? ⟨gb742,0,none⟩ = some (u743000) ∧ w'.cell? (ad743.add ((x9_3).toNat * 2)) = some (.string ((rd_T57 l0 x9_3).f0)) ∧ w'.cell? ⟨(ad743.add ((x9_3).toNat * 2)).block,(ad743.add ((x9_3).toNat * 2)).off + 1,none⟩ = some (.int .i64 ((rd_T57 l0 x9_3).f1))) (ds:=[8]) #[false,false,false,false,false,false,false,false,false] (by kernel_rfl) rfl rfl ⟨(blk_cell BK742.out 0).trans rfl,((HB.out.cell (World.block_lt_of_cell? w _ hw745_0)).trans hw745_0),((HB.out.cell (World.block_lt_of_cell? w _ hw745_1)).trans hw745_1)⟩ (fun hHeld => ?_);refine with_tabW bursarref03_Normal.tab16 bursarref03_Normal.bits16 (fun HT_ HW_ => ?_)
        generalize w18.drew = w19 at HO_4 HO_743000 BK742 HB hx745_0 hx745_1 hHeld ⊢
        refine pure_ (i:=1) (N:=some 58) (v:=?_) (a':=?_) #[false,true,false,false,false,false,false,false,false] rfl rfl (any_of HT_.out (by kernel_rfl)) (fun _ _ _ h => h) (Or.inl ⟨by rfl,?_⟩) ?_ ?_
        rotate_left;·intro w';go_simp;with_reducible rfl
        rotate_left;·simp only [pu_];rfl
        refine pure_ (i:=2) (N:=some 59) (v:=?_) (a':=?_) #[false,true,true,false,false,false,false,false,false] rfl rfl (any_of HT_.out (by kernel_rfl)) (fun _ _ _ h => h) (Or.inl ⟨by rfl,?_⟩) ?_ ?_
        rotate_left;·intro w';go_simp;with_reducible rfl
        rotate_left;·simp only [pu_];rfl
        refine pure_ (i:=3) (N:=some 60) (v:=?_) (a':=?_) #[false,true,true,true,false,false,false,false,false] rfl rfl (any_of HT_.out (by kernel_rfl)) (fun _ _ _ h => h) (Or.inl ⟨by rfl,?_⟩) ?_ ?_
        rotate_left;·intro w';go_simp;with_reducible rfl
        rotate_left;·simp only [pu_];rfl
        refine pure_ (i:=4) (N:=some 61) (v:=?_) (a':=?_) #[false,true,true,true,true,false,false,false,false] rfl rfl (any_of HT_.out (by kernel_rfl)) (fun _ _ _ h => h) (Or.inl ⟨by rfl,?_⟩) ?_ ?_
        rotate_left;·intro w';go_simp;with_reducible rfl
        rotate_left;·simp only [pu_];rfl
        refine take_ (i:=0) (N:=some 57) (v:=?_) (a':=?_) #[true,true,true,true,true,false,false,false,false] rfl rfl (take_ofW HT_.out HW_.out (by kernel_rfl)) (fun _ _ _ h => h) (Or.inl ⟨by rfl,?_⟩) hHeld ?_ ?_
        rotate_left
        ·rintro w' ⟨s0,s1,s2⟩
         go_simp
         with_reducible rfl
        rotate_left
        ·simp only [pu_]
         rfl
        refine take_ (i:=5) (N:=some 62) (v:=?_) (a':=?_) #[true,true,true,true,true,true,false,false,false] rfl rfl (take_ofW HT_.out HW_.out (by kernel_rfl)) (fun _ _ _ h => h) (Or.inl ⟨by rfl,?_⟩) hHeld ?_ ?_
        rotate_left
        ·rintro w' ⟨s0,s1,s2⟩
         go_simp
         with_reducible rfl
        rotate_left
        ·simp only [pu_]
         rfl
        refine one_ (i:=6) (N:=some 63) #[true,true,true,true,true,true,true,false,false] rfl rfl (one_of HT_.out (by kernel_rfl)) (by decide) (fun K hK => ?_)
        refine goes_ Tryz.func62 (by kernel_rfl) rfl #[.int .i64 ((rd_T57 l0 x9_3).f1)] (by rfl) rfl rfl (by (try simp only [List.map_toArray,List.map_cons,List.map_nil]);first|done|rfl|(simp only [List.length_drop,List.length_take];rfl)) ?_
        with_reducible refine (bursarref03_long.calls k3 ((rd_T57 l0 x9_3).f1) t746 _ A15.out).mono ?_
        rintro e w20 ⟨v747,rfl,ho0,hb⟩
        refine ⟨_,rfl,?_⟩
        have n0_:=Aside0.mk (Kd.R_below (by (with_reducible repeat (first|apply Kd.R_alloc|apply Kd.R_drewN|apply Kd.R_drew));exact HO_4.out) hb)
        have n1_:=Aside0.mk (Kd.V_elder' (by (with_reducible repeat (first|apply Kd.V_alloc|apply Kd.V_drewN|apply Kd.V_drew));exact HO_743000.out) (Kd.R_base ho0) hb)
        have n2_:=Aside0.mk (Kd.R_lower ho0 (below_size (by repeat (first|(with_reducible first|exact HB.out|apply below_alloc|apply pw_below_drewN|apply below_drew1|refine below_set ?_ GE742.out)|exact HB.out))))
        have n3_:=Aside0.mk (blk_below (g:=gb742) (o:=.cells #[u743000] 85 (0,0)) (by (with_reducible repeat (first|refine blk_drewN ?_ _|refine blk_drew ?_|refine blk_alloc ?_ _));exact BK742.out) hb)
        have n4_:=Aside0.mk (below_step (by repeat (first|(with_reducible first|exact HB.out|apply below_alloc|apply pw_below_drewN|apply below_drew1|refine below_set ?_ GE742.out)|exact HB.out)) hb)
        clear HO_4;clear HO_743000;clear BK742;clear HB;have HO_4:=n0_;have HO_743000:=n1_;have HO748:=n2_;have BK742:=n3_;have HB:=n4_;clear n0_ n1_ n2_ n3_ n4_;(try clear hb);(try clear hb2);(try clear hk);(try clear hi);(try clear ho0)
        obtain ⟨Ao21,co21,eo21⟩:=Kd.V_slice HO_743000.out
        (first|subst eo21|(injection eo21 with f1_ f2_ f3_;have f4_:=f1_.symm;have f5_:=f3_.symm;clear f1_ f2_ f3_;subst f4_;subst f5_))
        obtain ⟨Ao22,co22,eo22⟩:=Kd.R_slice HO748.out
        (first|subst eo22|(injection eo22 with f1_ f2_ f3_;have f4_:=f1_.symm;have f5_:=f3_.symm;clear f1_ f2_ f3_;subst f4_;subst f5_))
        refine hK.out _ _ ⟨(blk_cell BK742.out 0).trans rfl,((HB.out.cell (World.block_lt_of_cell? w _ hw745_0)).trans hw745_0),((HB.out.cell (World.block_lt_of_cell? w _ hw745_1)).trans hw745_1)⟩ (fun hHeld => ?_)
        clear hK K
        refine norm_ (a':=?_) ?_ ?_
        rotate_left
        ·show Act.put _ (some 63) _ = _
         simp only [pu_]
         rfl
        refine one_ (i:=7) (N:=some 64) #[true,true,true,true,true,true,true,true,false] rfl rfl (one_of HT_.out (by kernel_rfl)) (by decide) (fun K hK => ?_)
        refine goes_ Tryz.func68 (by kernel_rfl) rfl #[.agg #[.slice Ao21 x743000_3.length co21],.agg #[.slice Ao22 t746.length co22]] (by rfl) rfl rfl (by (try simp only [List.map_toArray,List.map_cons,List.map_nil]);first|done|rfl|(simp only [List.length_drop,List.length_take];rfl)) ?_
        with_reducible refine (bursarref03_Long_plus.calls k3 _ _ x743000_3 _ _ t746 t749 _ ?side1 ?side2 ?side3 ?side4 A16.out).mono ?_
        (case side1 => repeat (first|exact (Kd.V_reads' HO_743000.out).2.2|(with_reducible refine Kd.C_alloc ?_ _)|(with_reducible refine Kd.C_drewN ?_ _)|(with_reducible refine Kd.C_drew ?_)))
        (case side2 => exact (Kd.V_reads' HO_743000.out).2.1)
        (case side3 => repeat (first|exact (Kd.R_reads' HO748.out).2.2|(with_reducible refine Kd.C_alloc ?_ _)|(with_reducible refine Kd.C_drewN ?_ _)|(with_reducible refine Kd.C_drew ?_)))
        (case side4 => exact (Kd.R_reads' HO748.out).2.1)
        rintro e w23 ⟨v750,rfl,ho0,hb⟩
        refine ⟨_,rfl,?_⟩
        have n0_:=Aside0.mk (Kd.R_below (by (with_reducible repeat (first|apply Kd.R_alloc|apply Kd.R_drewN|apply Kd.R_drew));exact HO_4.out) hb)
        have n1_:=Aside0.mk (Kd.V_below (by (with_reducible repeat (first|apply Kd.V_alloc|apply Kd.V_drewN|apply Kd.V_drew));exact HO_743000.out) hb)
        have n2_:=Aside0.mk (Kd.R_below (by (with_reducible repeat (first|apply Kd.R_alloc|apply Kd.R_drewN|apply Kd.R_drew));exact HO748.out) hb)
        have n3_:=Aside0.mk (Kd.V_lower (Kd.V_mono (ok':=fun k_ => some k_ ≠ (u4 : Value).ownBlock ∧ some k_ ≠ (.slice Ao22 t746.length co22 : Value).ownBlock ∧ k_ ≠ gb742) ho0 (fun k_ hk_ => ⟨(Kd.fresh' (Kd.R_lt (by (with_reducible repeat (first|apply Kd.R_alloc|apply Kd.R_drewN|apply Kd.R_drew));exact HO_4.out)) k_ hk_),(Kd.fresh' (Kd.R_lt (by (with_reducible repeat (first|apply Kd.R_alloc|apply Kd.R_drewN|apply Kd.R_drew));exact HO748.out)) k_ hk_),(Kd.freshB (g:=gb742) (o:=.cells #[.slice Ao21 x743000_3.length co21] 85 (0,0)) (by (with_reducible repeat (first|refine blk_drewN ?_ _|refine blk_drew ?_|refine blk_alloc ?_ _));exact BK742.out) k_ hk_)⟩)) (below_size (by repeat (first|(with_reducible first|exact HB.out|apply below_alloc|apply pw_below_drewN|apply below_drew1|refine below_set ?_ GE742.out)|exact HB.out))))
        have n4_:=Aside0.mk (blk_below (g:=gb742) (o:=.cells #[.slice Ao21 x743000_3.length co21] 85 (0,0)) (by (with_reducible repeat (first|refine blk_drewN ?_ _|refine blk_drew ?_|refine blk_alloc ?_ _));exact BK742.out) hb)
        have n5_:=Aside0.mk (below_step (by repeat (first|(with_reducible first|exact HB.out|apply below_alloc|apply pw_below_drewN|apply below_drew1|refine below_set ?_ GE742.out)|exact HB.out)) hb)
        clear HO_4;clear HO_743000;clear HO748;clear BK742;clear HB;have HO_4:=n0_;have HO_743000:=n1_;have HO748:=n2_;have HO751:=n3_;have BK742:=n4_;have HB:=n5_;clear n0_ n1_ n2_ n3_ n4_ n5_;(try clear hb);(try clear hb2);(try clear hk);(try clear hi);(try clear ho0)
        obtain ⟨Ao24,co24,eo24⟩:=Kd.V_slice HO751.out
        (first|subst eo24|(injection eo24 with f1_ f2_ f3_;have f4_:=f1_.symm;have f5_:=f3_.symm;clear f1_ f2_ f3_;subst f4_;subst f5_))
        refine hK.out _ _ ⟨(blk_cell BK742.out 0).trans rfl,((HB.out.cell (World.block_lt_of_cell? w _ hw745_0)).trans hw745_0),((HB.out.cell (World.block_lt_of_cell? w _ hw745_1)).trans hw745_1)⟩ (fun hHeld => ?_)
        clear hK K
        refine norm_ (a':=?_) ?_ ?_
        rotate_left
        ·show Act.put _ (some 64) _ = _
         simp only [pu_]
         rfl
        refine last_ (i:=8) (N:=none) #[true,true,true,true,true,true,true,true,true] rfl rfl (one_of HT_.out (by kernel_rfl)) (by decide) (fun K hK => ?_)
        have hs25 : w23.cell? ⟨gb742,0,none⟩ = some (.slice Ao21 x743000_3.length co21):=(blk_cell BK742.out 0).trans rfl
        have hfs25:=blk_frozen BK742.out 0
        refine skip_ (w1:=?_) (by rfl) rfl ?_ ?_
        rotate_left
        ·go_simp
         rfl
        refine hK.out _ _ ?_
        clear hK K
        refine done_ (done_of HT_.out (by kernel_rfl)) ?_
        try go_wp2
        go_roundg k3
        case measure => have:=HK1.out;have:=HK2.out;have:=HK3.out;omega
        case rel => exact ⟨(true),(wrap64 (x9_3 + 1)),(t749),(.slice Ao24 t749.length co24),(by first|rfl|(simp;done)|(simp [*];done)|(simp;rw [Bool.eq_iff_iff];simp;done)|(rw [Bool.eq_iff_iff];simp;done)),(by first|rfl|(simp;done)|(simp [*];done)|(simp;rw [Bool.eq_iff_iff];simp;done)|(rw [Bool.eq_iff_iff];simp;done)),H',⟨by have:=HK1.out;have:=HK2.out;have:=HK3.out;omega⟩,⟨by (with_reducible repeat (first|apply Kd.R_alloc|apply Kd.R_drewN|apply Kd.R_drew));exact Kd.R_mono (Kd.R_far (p:=⟨gb742,0,none⟩) (Kd.R_types HO_4.out BK742.out (by decide)) (fun _ hk => hk.2) (.slice Ao24 t749.length co24)) (fun _ hk => trivial)⟩,⟨by (with_reducible repeat (first|apply Kd.V_alloc|apply Kd.V_drewN|apply Kd.V_drew));exact Kd.V_mono (Kd.V_far (p:=⟨gb742,0,none⟩) (Kd.V_mono HO751.out (fun k_ hk => (⟨hk,hk.2.2⟩ : _ ∧ k_ ≠ gb742))) (fun _ hk => hk.2) (.slice Ao24 t749.length co24)) (fun _ hk => ⟨hk.1.1,hk.1.2.2⟩)⟩,⟨by (with_reducible repeat (first|refine blk_drewN ?_ _|refine blk_drew ?_|refine blk_alloc ?_ _));refine blk_put (cs:=#[.slice Ao21 x743000_3.length co21]) ?_ 0 _ rfl;(with_reducible repeat (first|refine blk_drewN ?_ _|refine blk_drew ?_|refine blk_alloc ?_ _));exact BK742.out⟩,⟨by repeat (first|(with_reducible first|exact HB.out|apply below_alloc|apply pw_below_drewN|apply below_drew1|refine below_set ?_ GE742.out)|exact HB.out)⟩⟩
       replace c17:=Bool.eq_false_iff.mpr c17
       subst c17
       have H1 : (bursarref03_Normal.l2 k3 l0 x4_2 x6_2 (decide (x9_3 < x6_2)) (wrap64 (x9_3 + 1)) t749) = some (r1,r2):=by rw [if_neg (show ¬ (false = true) by decide)] at H;exact H
       clear H;have H:=H1;clear H1
       have H':=Aside0.mk H
       clear H
       try go_wp2
       have n0_:=Aside0.mk (Kd.R_drew HO_4.out)
       have n1_:=Aside0.mk (Kd.V_drew HO_743000.out)
       have n2_:=Aside0.mk (blk_drew BK742.out)
       have n3_:=Aside0.mk (below_drew1 HB.out)
       clear HO_4;clear HO_743000;clear BK742;clear HB;have HO_4:=n0_;have HO_743000:=n1_;have BK742:=n2_;have HB:=n3_;clear n0_ n1_ n2_ n3_
       have p743 : 0 ≤ (x9_3 : Int):=of_decide_eq_true (by first|(with_reducible assumption)|assumption)
       have q743 : x9_3 < (l0.length : Int):=of_decide_eq_true (by first|(with_reducible assumption)|assumption)
       obtain ⟨ad743,e743,hx743_0,hx743_1⟩:=at_T57 HR0.out x9_3 p743 q743
       have hw743_1:=hx743_1;have hw743_0:=hx743_0
       cases e743
       replace hx743_0:=(HB.out.cell (World.block_lt_of_cell? w _ hx743_0)).trans hx743_0
       replace hx743_1:=(HB.out.cell (World.block_lt_of_cell? w _ hx743_1)).trans hx743_1
       replace p743:=eq_true p743
       replace q743:=eq_true q743
       have p744 : 0 ≤ (x6_2 : Int):=of_decide_eq_true (by first|(with_reducible assumption)|assumption)
       have q744 : x6_2 < (l0.length : Int):=of_decide_eq_true (by first|(with_reducible assumption)|assumption)
       obtain ⟨ad744,e744,hx744_0,hx744_1⟩:=at_T57 HR0.out x6_2 p744 q744
       have hw744_1:=hx744_1;have hw744_0:=hx744_0
       obtain rfl : ad743 = ad744:=(by injection e744)
       replace hx744_0:=(HB.out.cell (World.block_lt_of_cell? w _ hx744_0)).trans hx744_0
       replace hx744_1:=(HB.out.cell (World.block_lt_of_cell? w _ hx744_1)).trans hx744_1
       replace p744:=eq_true p744
       replace q744:=eq_true q744
       refine start_ (n:=11) (S:=fun w' => w'.cell? (ad743.add ((x9_3).toNat * 2)) = some (.string ((rd_T57 l0 x9_3).f0)) ∧ w'.cell? ⟨(ad743.add ((x9_3).toNat * 2)).block,(ad743.add ((x9_3).toNat * 2)).off + 1,none⟩ = some (.int .i64 ((rd_T57 l0 x9_3).f1)) ∧ w'.cell? (ad743.add ((x6_2).toNat * 2)) = some (.string ((rd_T57 l0 x6_2).f0)) ∧ w'.cell? ⟨(ad743.add ((x6_2).toNat * 2)).block,(ad743.add ((x6_2).toNat * 2)).off + 1,none⟩ = some (.int .i64 ((rd_T57 l0 x6_2).f1))) (ds:=[]) #[false,false,false,false,false,false,false,false,false,false,false] (by kernel_rfl) rfl rfl ⟨((HB.out.cell (World.block_lt_of_cell? w _ hw743_0)).trans hw743_0),((HB.out.cell (World.block_lt_of_cell? w _ hw743_1)).trans hw743_1),((HB.out.cell (World.block_lt_of_cell? w _ hw744_0)).trans hw744_0),((HB.out.cell (World.block_lt_of_cell? w _ hw744_1)).trans hw744_1)⟩ (fun hHeld => ?_);refine with_tabW bursarref03_Normal.tab15 bursarref03_Normal.bits15 (fun HT_ HW_ => ?_)
       generalize wr.drew = w26 at HO_4 HO_743000 BK742 HB hx743_0 hx743_1 hx744_0 hx744_1 hHeld ⊢
       refine pure_ (i:=0) (N:=some 46) (v:=?_) (a':=?_) #[true,false,false,false,false,false,false,false,false,false,false] rfl rfl (any_of HT_.out (by kernel_rfl)) (fun _ _ _ h => h) (Or.inl ⟨by rfl,?_⟩) ?_ ?_
       rotate_left;·intro w';go_simp;with_reducible rfl
       rotate_left;·simp only [pu_];rfl
       refine pure_ (i:=1) (N:=some 47) (v:=?_) (a':=?_) #[true,true,false,false,false,false,false,false,false,false,false] rfl rfl (any_of HT_.out (by kernel_rfl)) (fun _ _ _ h => h) (Or.inl ⟨by rfl,?_⟩) ?_ ?_
       rotate_left;·intro w';go_simp;with_reducible rfl
       rotate_left;·simp only [pu_];rfl
       refine pure_ (i:=2) (N:=some 48) (v:=?_) (a':=?_) #[true,true,true,false,false,false,false,false,false,false,false] rfl rfl (any_of HT_.out (by kernel_rfl)) (fun _ _ _ h => h) (Or.inl ⟨by rfl,?_⟩) ?_ ?_
       rotate_left;·intro w';go_simp;with_reducible rfl
       rotate_left;·simp only [pu_];rfl
       refine pure_ (i:=3) (N:=some 49) (v:=?_) (a':=?_) #[true,true,true,true,false,false,false,false,false,false,false] rfl rfl (any_of HT_.out (by kernel_rfl)) (fun _ _ _ h => h) (Or.inl ⟨by rfl,?_⟩) ?_ ?_
       rotate_left;·intro w';go_simp;with_reducible rfl
       rotate_left;·simp only [pu_];rfl
       refine pure_ (i:=5) (N:=some 51) (v:=?_) (a':=?_) #[true,true,true,true,false,true,false,false,false,false,false] rfl rfl (any_of HT_.out (by kernel_rfl)) (fun _ _ _ h => h) (Or.inl ⟨by rfl,?_⟩) ?_ ?_
       rotate_left;·intro w';go_simp;with_reducible rfl
       rotate_left;·simp only [pu_];rfl
       refine pure_ (i:=6) (N:=some 52) (v:=?_) (a':=?_) #[true,true,true,true,false,true,true,false,false,false,false] rfl rfl (any_of HT_.out (by kernel_rfl)) (fun _ _ _ h => h) (Or.inl ⟨by rfl,?_⟩) ?_ ?_
       rotate_left;·intro w';go_simp;with_reducible rfl
       rotate_left;·simp only [pu_];rfl
       refine pure_ (i:=7) (N:=some 53) (v:=?_) (a':=?_) #[true,true,true,true,false,true,true,true,false,false,false] rfl rfl (any_of HT_.out (by kernel_rfl)) (fun _ _ _ h => h) (Or.inl ⟨by rfl,?_⟩) ?_ ?_
       rotate_left;·intro w';go_simp;with_reducible rfl
       rotate_left;·simp only [pu_];rfl
       refine pure_ (i:=8) (N:=some 54) (v:=?_) (a':=?_) #[true,true,true,true,false,true,true,true,true,false,false] rfl rfl (any_of HT_.out (by kernel_rfl)) (fun _ _ _ h => h) (Or.inl ⟨by rfl,?_⟩) ?_ ?_
       rotate_left;·intro w';go_simp;with_reducible rfl
       rotate_left;·simp only [pu_];rfl
       refine take_ (i:=4) (N:=some 50) (v:=?_) (a':=?_) #[true,true,true,true,true,true,true,true,true,false,false] rfl rfl (take_ofW HT_.out HW_.out (by kernel_rfl)) (fun _ _ _ h => h) (Or.inl ⟨by rfl,?_⟩) hHeld ?_ ?_
       rotate_left
       ·rintro w' ⟨s0,s1,s2,s3⟩
        go_simp
        with_reducible rfl
       rotate_left
       ·simp only [pu_]
        rfl
       refine take_ (i:=9) (N:=some 55) (v:=?_) (a':=?_) #[true,true,true,true,true,true,true,true,true,true,false] rfl rfl (take_ofW HT_.out HW_.out (by kernel_rfl)) (fun _ _ _ h => h) (Or.inl ⟨by rfl,?_⟩) hHeld ?_ ?_
       rotate_left
       ·rintro w' ⟨s0,s1,s2,s3⟩
        go_simp
        with_reducible rfl
       rotate_left
       ·simp only [pu_]
        rfl
       refine pure_ (i:=10) (N:=some 56) (v:=?_) (a':=?_) #[true,true,true,true,true,true,true,true,true,true,true] rfl rfl (any_of HT_.out (by kernel_rfl)) (fun _ _ _ h => h) (Or.inl ⟨by rfl,?_⟩) ?_ ?_
       rotate_left;·intro w';go_simp;with_reducible rfl
       rotate_left;·simp only [pu_];rfl
       refine done_ (done_of HT_.out (by kernel_rfl)) ?_
       try go_wp2
       have n0_:=Aside0.mk (Kd.R_drew HO_4.out)
       have n1_:=Aside0.mk (Kd.V_drew HO_743000.out)
       have n2_:=Aside0.mk (blk_drew BK742.out)
       have n3_:=Aside0.mk (below_drew1 HB.out)
       clear HO_4;clear HO_743000;clear BK742;clear HB;have HO_4:=n0_;have HO_743000:=n1_;have BK742:=n2_;have HB:=n3_;clear n0_ n1_ n2_ n3_
       have p745 : 0 ≤ (x9_3 : Int):=of_decide_eq_true (by first|(with_reducible assumption)|assumption)
       have q745 : x9_3 < (l0.length : Int):=of_decide_eq_true (by first|(with_reducible assumption)|assumption)
       obtain ⟨ad745,e745,hx745_0,hx745_1⟩:=at_T57 HR0.out x9_3 p745 q745
       have hw745_1:=hx745_1;have hw745_0:=hx745_0
       obtain rfl : ad743 = ad745:=(by injection e745)
       replace hx745_0:=(HB.out.cell (World.block_lt_of_cell? w _ hx745_0)).trans hx745_0
       replace hx745_1:=(HB.out.cell (World.block_lt_of_cell? w _ hx745_1)).trans hx745_1
       replace p745:=eq_true p745
       replace q745:=eq_true q745
       refine start_ (n:=9) (S:=fun w' => w'.cell? ⟨gb742,0,none⟩ = some (u743000) ∧ w'.cell? (ad743.add ((x9_3).toNat * 2)) = some (.string ((rd_T57 l0 x9_3).f0)) ∧ w'.cell? ⟨(ad743.add ((x9_3).toNat * 2)).block,(ad743.add ((x9_3).toNat * 2)).off + 1,none⟩ = some (.int .i64 ((rd_T57 l0 x9_3).f1))) (ds:=[8]) #[false,false,false,false,false,false,false,false,false] (by kernel_rfl) rfl rfl ⟨(blk_cell BK742.out 0).trans rfl,((HB.out.cell (World.block_lt_of_cell? w _ hw745_0)).trans hw745_0),((HB.out.cell (World.block_lt_of_cell? w _ hw745_1)).trans hw745_1)⟩ (fun hHeld => ?_);refine with_tabW bursarref03_Normal.tab16 bursarref03_Normal.bits16 (fun HT_ HW_ => ?_)
       generalize w26.drew = w27 at HO_4 HO_743000 BK742 HB hx745_0 hx745_1 hHeld ⊢
       refine pure_ (i:=1) (N:=some 58) (v:=?_) (a':=?_) #[false,true,false,false,false,false,false,false,false] rfl rfl (any_of HT_.out (by kernel_rfl)) (fun _ _ _ h => h) (Or.inl ⟨by rfl,?_⟩) ?_ ?_
       rotate_left;·intro w';go_simp;with_reducible rfl
       rotate_left;·simp only [pu_];rfl
       refine pure_ (i:=2) (N:=some 59) (v:=?_) (a':=?_) #[false,true,true,false,false,false,false,false,false] rfl rfl (any_of HT_.out (by kernel_rfl)) (fun _ _ _ h => h) (Or.inl ⟨by rfl,?_⟩) ?_ ?_
       rotate_left;·intro w';go_simp;with_reducible rfl
       rotate_left;·simp only [pu_];rfl
       refine pure_ (i:=3) (N:=some 60) (v:=?_) (a':=?_) #[false,true,true,true,false,false,false,false,false] rfl rfl (any_of HT_.out (by kernel_rfl)) (fun _ _ _ h => h) (Or.inl ⟨by rfl,?_⟩) ?_ ?_
       rotate_left;·intro w';go_simp;with_reducible rfl
       rotate_left;·simp only [pu_];rfl
       refine pure_ (i:=4) (N:=some 61) (v:=?_) (a':=?_) #[false,true,true,true,true,false,false,false,false] rfl rfl (any_of HT_.out (by kernel_rfl)) (fun _ _ _ h => h) (Or.inl ⟨by rfl,?_⟩) ?_ ?_
       rotate_left;·intro w';go_simp;with_reducible rfl
       rotate_left;·simp only [pu_];rfl
       refine take_ (i:=0) (N:=some 57) (v:=?_) (a':=?_) #[true,true,true,true,true,false,false,false,false] rfl rfl (take_ofW HT_.out HW_.out (by kernel_rfl)) (fun _ _ _ h => h) (Or.inl ⟨by rfl,?_⟩) hHeld ?_ ?_
       rotate_left
       ·rintro w' ⟨s0,s1,s2⟩
        go_simp
        with_reducible rfl
       rotate_left
       ·simp only [pu_]
        rfl
       refine take_ (i:=5) (N:=some 62) (v:=?_) (a':=?_) #[true,true,true,true,true,true,false,false,false] rfl rfl (take_ofW HT_.out HW_.out (by kernel_rfl)) (fun _ _ _ h => h) (Or.inl ⟨by rfl,?_⟩) hHeld ?_ ?_
       rotate_left
       ·rintro w' ⟨s0,s1,s2⟩
        go_simp
        with_reducible rfl
       rotate_left
       ·simp only [pu_]
        rfl
       refine one_ (i:=6) (N:=some 63) #[true,true,true,true,true,true,true,false,false] rfl rfl (one_of HT_.out (by kernel_rfl)) (by decide) (fun K hK => ?_)
       refine goes_ Tryz.func62 (by kernel_rfl) rfl #[.int .i64 ((rd_T57 l0 x9_3).f1)] (by rfl) rfl rfl (by (try simp only [List.map_toArray,List.map_cons,List.map_nil]);first|done|rfl|(simp only [List.length_drop,List.length_take];rfl)) ?_
       with_reducible refine (bursarref03_long.calls k3 ((rd_T57 l0 x9_3).f1) t746 _ A15.out).mono ?_
       rintro e w28 ⟨v747,rfl,ho0,hb⟩
       refine ⟨_,rfl,?_⟩
       have n0_:=Aside0.mk (Kd.R_below (by (with_reducible repeat (first|apply Kd.R_alloc|apply Kd.R_drewN|apply Kd.R_drew));exact HO_4.out) hb)
       have n1_:=Aside0.mk (Kd.V_elder' (by (with_reducible repeat (first|apply Kd.V_alloc|apply Kd.V_drewN|apply Kd.V_drew));exact HO_743000.out) (Kd.R_base ho0) hb)
       have n2_:=Aside0.mk (Kd.R_lower ho0 (below_size (by repeat (first|(with_reducible first|exact HB.out|apply below_alloc|apply pw_below_drewN|apply below_drew1|refine below_set ?_ GE742.out)|exact HB.out))))
       have n3_:=Aside0.mk (blk_below (g:=gb742) (o:=.cells #[u743000] 85 (0,0)) (by (with_reducible repeat (first|refine blk_drewN ?_ _|refine blk_drew ?_|refine blk_alloc ?_ _));exact BK742.out) hb)
       have n4_:=Aside0.mk (below_step (by repeat (first|(with_reducible first|exact HB.out|apply below_alloc|apply pw_below_drewN|apply below_drew1|refine below_set ?_ GE742.out)|exact HB.out)) hb)
       clear HO_4;clear HO_743000;clear BK742;clear HB;have HO_4:=n0_;have HO_743000:=n1_;have HO748:=n2_;have BK742:=n3_;have HB:=n4_;clear n0_ n1_ n2_ n3_ n4_;(try clear hb);(try clear hb2);(try clear hk);(try clear hi);(try clear ho0)
       obtain ⟨Ao29,co29,eo29⟩:=Kd.V_slice HO_743000.out
       (first|subst eo29|(injection eo29 with f1_ f2_ f3_;have f4_:=f1_.symm;have f5_:=f3_.symm;clear f1_ f2_ f3_;subst f4_;subst f5_))
       obtain ⟨Ao30,co30,eo30⟩:=Kd.R_slice HO748.out
       (first|subst eo30|(injection eo30 with f1_ f2_ f3_;have f4_:=f1_.symm;have f5_:=f3_.symm;clear f1_ f2_ f3_;subst f4_;subst f5_))
       refine hK.out _ _ ⟨(blk_cell BK742.out 0).trans rfl,((HB.out.cell (World.block_lt_of_cell? w _ hw745_0)).trans hw745_0),((HB.out.cell (World.block_lt_of_cell? w _ hw745_1)).trans hw745_1)⟩ (fun hHeld => ?_)
       clear hK K
       refine norm_ (a':=?_) ?_ ?_
       rotate_left
       ·show Act.put _ (some 63) _ = _
        simp only [pu_]
        rfl
       refine one_ (i:=7) (N:=some 64) #[true,true,true,true,true,true,true,true,false] rfl rfl (one_of HT_.out (by kernel_rfl)) (by decide) (fun K hK => ?_)
       refine goes_ Tryz.func68 (by kernel_rfl) rfl #[.agg #[.slice Ao29 x743000_3.length co29],.agg #[.slice Ao30 t746.length co30]] (by rfl) rfl rfl (by (try simp only [List.map_toArray,List.map_cons,List.map_nil]);first|done|rfl|(simp only [List.length_drop,List.length_take];rfl)) ?_
       with_reducible refine (bursarref03_Long_plus.calls k3 _ _ x743000_3 _ _ t746 t749 _ ?side1 ?side2 ?side3 ?side4 A16.out).mono ?_
       (case side1 => repeat (first|exact (Kd.V_reads' HO_743000.out).2.2|(with_reducible refine Kd.C_alloc ?_ _)|(with_reducible refine Kd.C_drewN ?_ _)|(with_reducible refine Kd.C_drew ?_)))
       (case side2 => exact (Kd.V_reads' HO_743000.out).2.1)
       (case side3 => repeat (first|exact (Kd.R_reads' HO748.out).2.2|(with_reducible refine Kd.C_alloc ?_ _)|(with_reducible refine Kd.C_drewN ?_ _)|(with_reducible refine Kd.C_drew ?_)))
       (case side4 => exact (Kd.R_reads' HO748.out).2.1)
       rintro e w31 ⟨v750,rfl,ho0,hb⟩
       refine ⟨_,rfl,?_⟩
       have n0_:=Aside0.mk (Kd.R_below (by (with_reducible repeat (first|apply Kd.R_alloc|apply Kd.R_drewN|apply Kd.R_drew));exact HO_4.out) hb)
       have n1_:=Aside0.mk (Kd.V_below (by (with_reducible repeat (first|apply Kd.V_alloc|apply Kd.V_drewN|apply Kd.V_drew));exact HO_743000.out) hb)
       have n2_:=Aside0.mk (Kd.R_below (by (with_reducible repeat (first|apply Kd.R_alloc|apply Kd.R_drewN|apply Kd.R_drew));exact HO748.out) hb)
       have n3_:=Aside0.mk (Kd.V_lower (Kd.V_mono (ok':=fun k_ => some k_ ≠ (u4 : Value).ownBlock ∧ some k_ ≠ (.slice Ao30 t746.length co30 : Value).ownBlock ∧ k_ ≠ gb742) ho0 (fun k_ hk_ => ⟨(Kd.fresh' (Kd.R_lt (by (with_reducible repeat (first|apply Kd.R_alloc|apply Kd.R_drewN|apply Kd.R_drew));exact HO_4.out)) k_ hk_),(Kd.fresh' (Kd.R_lt (by (with_reducible repeat (first|apply Kd.R_alloc|apply Kd.R_drewN|apply Kd.R_drew));exact HO748.out)) k_ hk_),(Kd.freshB (g:=gb742) (o:=.cells #[.slice Ao29 x743000_3.length co29] 85 (0,0)) (by (with_reducible repeat (first|refine blk_drewN ?_ _|refine blk_drew ?_|refine blk_alloc ?_ _));exact BK742.out) k_ hk_)⟩)) (below_size (by repeat (first|(with_reducible first|exact HB.out|apply below_alloc|apply pw_below_drewN|apply below_drew1|refine below_set ?_ GE742.out)|exact HB.out))))
       have n4_:=Aside0.mk (blk_below (g:=gb742) (o:=.cells #[.slice Ao29 x743000_3.length co29] 85 (0,0)) (by (with_reducible repeat (first|refine blk_drewN ?_ _|refine blk_drew ?_|refine blk_alloc ?_ _));exact BK742.out) hb)
       have n5_:=Aside0.mk (below_step (by repeat (first|(with_reducible first|exact HB.out|apply below_alloc|apply pw_below_drewN|apply below_drew1|refine below_set ?_ GE742.out)|exact HB.out)) hb)
       clear HO_4;clear HO_743000;clear HO748;clear BK742;clear HB;have HO_4:=n0_;have HO_743000:=n1_;have HO748:=n2_;have HO751:=n3_;have BK742:=n4_;have HB:=n5_;clear n0_ n1_ n2_ n3_ n4_ n5_;(try clear hb);(try clear hb2);(try clear hk);(try clear hi);(try clear ho0)
       obtain ⟨Ao32,co32,eo32⟩:=Kd.V_slice HO751.out
       (first|subst eo32|(injection eo32 with f1_ f2_ f3_;have f4_:=f1_.symm;have f5_:=f3_.symm;clear f1_ f2_ f3_;subst f4_;subst f5_))
       refine hK.out _ _ ⟨(blk_cell BK742.out 0).trans rfl,((HB.out.cell (World.block_lt_of_cell? w _ hw745_0)).trans hw745_0),((HB.out.cell (World.block_lt_of_cell? w _ hw745_1)).trans hw745_1)⟩ (fun hHeld => ?_)
       clear hK K
       refine norm_ (a':=?_) ?_ ?_
       rotate_left
       ·show Act.put _ (some 64) _ = _
        simp only [pu_]
        rfl
       refine last_ (i:=8) (N:=none) #[true,true,true,true,true,true,true,true,true] rfl rfl (one_of HT_.out (by kernel_rfl)) (by decide) (fun K hK => ?_)
       have hs33 : w31.cell? ⟨gb742,0,none⟩ = some (.slice Ao29 x743000_3.length co29):=(blk_cell BK742.out 0).trans rfl
       have hfs33:=blk_frozen BK742.out 0
       refine skip_ (w1:=?_) (by rfl) rfl ?_ ?_
       rotate_left
       ·go_simp
        rfl
       refine hK.out _ _ ?_
       clear hK K
       refine done_ (done_of HT_.out (by kernel_rfl)) ?_
       try go_wp2
       go_roundg k3
       case measure => have:=HK1.out;have:=HK2.out;have:=HK3.out;omega
       case rel => exact ⟨(decide (x9_3 < x6_2)),(wrap64 (x9_3 + 1)),(t749),(.slice Ao32 t749.length co32),(by first|rfl|(simp;done)|(simp [*];done)|(simp;rw [Bool.eq_iff_iff];simp;done)|(rw [Bool.eq_iff_iff];simp;done)),(by first|rfl|(simp;done)|(simp [*];done)|(simp;rw [Bool.eq_iff_iff];simp;done)|(rw [Bool.eq_iff_iff];simp;done)),H',⟨by have:=HK1.out;have:=HK2.out;have:=HK3.out;omega⟩,⟨by (with_reducible repeat (first|apply Kd.R_alloc|apply Kd.R_drewN|apply Kd.R_drew));exact Kd.R_mono (Kd.R_far (p:=⟨gb742,0,none⟩) (Kd.R_types HO_4.out BK742.out (by decide)) (fun _ hk => hk.2) (.slice Ao32 t749.length co32)) (fun _ hk => trivial)⟩,⟨by (with_reducible repeat (first|apply Kd.V_alloc|apply Kd.V_drewN|apply Kd.V_drew));exact Kd.V_mono (Kd.V_far (p:=⟨gb742,0,none⟩) (Kd.V_mono HO751.out (fun k_ hk => (⟨hk,hk.2.2⟩ : _ ∧ k_ ≠ gb742))) (fun _ hk => hk.2) (.slice Ao32 t749.length co32)) (fun _ hk => ⟨hk.1.1,hk.1.2.2⟩)⟩,⟨by (with_reducible repeat (first|refine blk_drewN ?_ _|refine blk_drew ?_|refine blk_alloc ?_ _));refine blk_put (cs:=#[.slice Ao29 x743000_3.length co29]) ?_ 0 _ rfl;(with_reducible repeat (first|refine blk_drewN ?_ _|refine blk_drew ?_|refine blk_alloc ?_ _));exact BK742.out⟩,⟨by repeat (first|(with_reducible first|exact HB.out|apply below_alloc|apply pw_below_drewN|apply below_drew1|refine below_set ?_ GE742.out)|exact HB.out)⟩⟩
end Go.Proofs.YtejgbdclhlolkaaGreatDoor.Q
namespace Go.Proofs.YtejgbdclhlolkaaGreatDoor.Q
open Go.RowKit Go.Proofs.YtejgbdclhlolkaaGreatDoorW.PrintWords Go.Proofs.YtejgbdclhlolkaaGreatDoorW.PrintLast Go.Proofs.YtejgbdclhlolkaaGreatDoorW.PrintMore
attribute [local go_sem] max2_int min2_int max_two min_two max_three min_three max_four min_four   -- for this text's walks alone
set_option linter.unusedVariables false
set_option linter.unusedSimpArgs false
def bursarref03_Plus.f (k : Nat) (l0 : List (S57)) (l1 : List (S57)) : Option ((List (S57)) × Int) := (bursarref03_Valid.f k l0).bind fun t758 => (if t758 = 0 then ((bursarref03_Valid.f k l1).bind fun t759 => (if t759 = 0 then (if ([] : List (S57)).length + l0.length < 5864062014805 then ((some (([] : List (S57)) ++ l0 : List (S57))).bind fun y760 => (if y760.length + l1.length < 5864062014805 then ((bursarref03_Normal.f k (y760 ++ l1)).bind fun bt766 => (some (bt766.1, bt766.2))) else (none))) else (none)) else (some (([] : List (S57)), 31)))) else (some (([] : List (S57)), 31)))
theorem bursarref03_Plus.mono : ∀ a0 a1 k, LeO (bursarref03_Plus.f k a0 a1) (bursarref03_Plus.f (k + 1) a0 a1) := by
 intro a0 a1 k
 unfold bursarref03_Plus.f
 repeat' first
  |(with_reducible exact bursarref03_Normal.mono _ _)
  |(with_reducible exact bursarref03_Valid.mono _ _)
  |(with_reducible exact LeO.refl _)
  |(with_reducible exact LeO.none _)
  |(with_reducible refine LeO.ite ?_ ?_)
  |(with_reducible refine LeO.bind ?_ (fun _ => ?_))
  |exact bursarref03_Normal.mono _ _
  |exact bursarref03_Valid.mono _ _
  |exact LeO.none _
  |refine LeO.ite ?_ ?_
  |refine LeO.bind ?_ (fun _ => ?_)
set_option maxHeartbeats 8000000 in
set_option maxRecDepth 100000 in
theorem bursarref03_Plus.calls (k : Nat) (A0 : Option Addr) (c0 : Nat) (l0 : List (S57)) (A1 : Option Addr) (c1 : Nat) (l1 : List (S57)) (r1 : List (S57)) (r2 : Int) (w : World) (hr0 : Kd.C k57 w A0 l0.length l0) (hc0 : l0.length ≤ c0) (hr1 : Kd.C k57 w A1 l1.length l1) (hc1 : l1.length ≤ c1) (h : bursarref03_Plus.f k l0 l1 = some (r1, r2)) :
  Calls Tryz.prog 47 #[.slice A0 l0.length c0,.slice A1 l1.length c1] w fun e w' => ∃ v0_ : Value,e = .returned (.tuple #[v0_,.int .i64 r2]) ∧ Kd.R k57 57 w' w.heap.size (fun _ => True) v0_ r1 ∧ Below w.heap.size w w':=by
 have HR0:=Aside0.mk hr0
 have HC0:=Aside0.mk hc0
 clear hr0 hc0
 have HR1:=Aside0.mk hr1
 have HC1:=Aside0.mk hc1
 clear hr1 hc1
 have HB:=Aside0.mk (Below.refl w.heap.size w)
 have H : ((bursarref03_Valid.f k l0).bind fun t758 => (if t758 = 0 then ((bursarref03_Valid.f k l1).bind fun t759 => (if t759 = 0 then (if ([] : List (S57)).length + l0.length < 5864062014805 then ((some (([] : List (S57)) ++ l0 : List (S57))).bind fun y760 => (if y760.length + l1.length < 5864062014805 then ((bursarref03_Normal.f k (y760 ++ l1)).bind fun bt766 => (some (bt766.1,bt766.2))) else (none))) else (none)) else (some (([] : List (S57)),31)))) else (some (([] : List (S57)),31)))) = some (r1,r2):=h
 clear h
 replace H:=Option.bind_eq_some_iff.mp H
 obtain ⟨t758,A30,H⟩:=H
 replace H : (if t758 = 0 then ((bursarref03_Valid.f k l1).bind fun t759 => (if t759 = 0 then (if ([] : List (S57)).length + l0.length < 5864062014805 then ((some (([] : List (S57)) ++ l0 : List (S57))).bind fun y760 => (if y760.length + l1.length < 5864062014805 then ((bursarref03_Normal.f k (y760 ++ l1)).bind fun bt766 => (some (bt766.1,bt766.2))) else (none))) else (none)) else (some (([] : List (S57)),31)))) else (some (([] : List (S57)),31))) = some (r1,r2):=H
 have A3:=Aside0.mk A30
 clear A30
 by_cases c4 : t758 = 0
 rotate_left
 ·rw [if_neg c4] at H
  have c4b0 : (t758 == 0) = false:=beq_eq_false_iff_ne.mpr c4
  have c4b1 : (t758 != 0) = true:=bne_iff_ne.mpr c4
  simp only [Option.some.injEq,Prod.mk.injEq] at H
  obtain ⟨rfl,rfl⟩:=H
  go_enter Tryz.func47,Tryz.ntmps47
  go_wp2_with (first|((with_reducible refine gate_callee (f:=45) rfl ?_);refine goesL_ (some 8) rfl rfl Tryz.func45 (by kernel_rfl) rfl #[.slice A0 l0.length c0] rfl (by (try simp only [List.map_toArray,List.map_cons,List.map_nil]);first|done|rfl|(simp only [List.length_drop,List.length_take];rfl)) ?_;(with_reducible refine (bursarref03_Valid.calls k _ _ l0 t758 _ ?side1 ?side2 A3.out).mono ?_);(case side1 => repeat (first|exact HR0.out|(with_reducible refine Kd.C_alloc ?_ _)|(with_reducible refine Kd.C_drewN ?_ _)|(with_reducible refine Kd.C_drew ?_)));(case side2 => exact HC0.out);rintro e w18 ⟨rfl,hb⟩;refine ⟨_,rfl,?_⟩;have n0_:=Aside0.mk (below_step (by repeat (first|(with_reducible first|exact HB.out|apply below_alloc|apply pw_below_drewN|apply below_drew1)|exact HB.out)) hb);clear HB;have HB:=n0_;clear n0_;(try clear hb);(try clear hb2);(try clear hk);(try clear hi)))
  go_ret2
  exact ⟨_,by first|rfl|(simp [errW_none,errW_some] <;> rfl)|(simp [*,errW_none,errW_some] <;> rfl),by first|exact Kd.R_nil _ _ _ _ _|exact Kd.N_nil _ _ _ _ _|exact Kd.V_nil _ _ _ _ _|exact Kd.Q_nil _ _ _ _ _|exact Kd.S_nil _ _ _ _ _,by repeat (first|(with_reducible first|exact HB.out|apply below_alloc|apply pw_below_drewN|apply below_drew1)|exact HB.out)⟩
 rw [if_pos c4] at H
 have c4b0 : (t758 == 0) = true:=beq_iff_eq.mpr c4
 have c4b1 : (t758 != 0) = false:=bne_eq_false_iff_eq.mpr c4
 clear c4
 replace H:=Option.bind_eq_some_iff.mp H
 obtain ⟨t759,A50,H⟩:=H
 replace H : (if t759 = 0 then (if ([] : List (S57)).length + l0.length < 5864062014805 then ((some (([] : List (S57)) ++ l0 : List (S57))).bind fun y760 => (if y760.length + l1.length < 5864062014805 then ((bursarref03_Normal.f k (y760 ++ l1)).bind fun bt766 => (some (bt766.1,bt766.2))) else (none))) else (none)) else (some (([] : List (S57)),31))) = some (r1,r2):=H
 have A5:=Aside0.mk A50
 clear A50
 by_cases c6 : t759 = 0
 rotate_left
 ·rw [if_neg c6] at H
  have c6b0 : (t759 == 0) = false:=beq_eq_false_iff_ne.mpr c6
  have c6b1 : (t759 != 0) = true:=bne_iff_ne.mpr c6
  simp only [Option.some.injEq,Prod.mk.injEq] at H
  obtain ⟨rfl,rfl⟩:=H
  go_enter Tryz.func47,Tryz.ntmps47
  go_wp2_with (first|((with_reducible refine gate_callee (f:=45) rfl ?_);refine goesL_ (some 8) rfl rfl Tryz.func45 (by kernel_rfl) rfl #[.slice A0 l0.length c0] rfl (by (try simp only [List.map_toArray,List.map_cons,List.map_nil]);first|done|rfl|(simp only [List.length_drop,List.length_take];rfl)) ?_;(with_reducible refine (bursarref03_Valid.calls k _ _ l0 t758 _ ?side1 ?side2 A3.out).mono ?_);(case side1 => repeat (first|exact HR0.out|(with_reducible refine Kd.C_alloc ?_ _)|(with_reducible refine Kd.C_drewN ?_ _)|(with_reducible refine Kd.C_drew ?_)));(case side2 => exact HC0.out);rintro e w16 ⟨rfl,hb⟩;refine ⟨_,rfl,?_⟩;have n0_:=Aside0.mk (below_step (by repeat (first|(with_reducible first|exact HB.out|apply below_alloc|apply pw_below_drewN|apply below_drew1)|exact HB.out)) hb);clear HB;have HB:=n0_;clear n0_;(try clear hb);(try clear hb2);(try clear hk);(try clear hi))|(go_at_call 45;(with_reducible refine (bursarref03_Valid.calls k _ _ l1 t759 _ ?side1 ?side2 A5.out).mono ?_);(case side1 => repeat (first|exact (Kd.C_below HR1.out HB.out)|(with_reducible refine Kd.C_alloc ?_ _)|(with_reducible refine Kd.C_drewN ?_ _)|(with_reducible refine Kd.C_drew ?_)));(case side2 => exact HC1.out);rintro e w17 ⟨rfl,hb⟩;have n0_:=Aside0.mk (below_step (by repeat (first|(with_reducible first|exact HB.out|apply below_alloc|apply pw_below_drewN|apply below_drew1)|exact HB.out)) hb);clear HB;have HB:=n0_;clear n0_;(try clear hb);(try clear hb2);(try clear hk);(try clear hi)))
  go_ret2
  exact ⟨_,by first|rfl|(simp [errW_none,errW_some] <;> rfl)|(simp [*,errW_none,errW_some] <;> rfl),by first|exact Kd.R_nil _ _ _ _ _|exact Kd.N_nil _ _ _ _ _|exact Kd.V_nil _ _ _ _ _|exact Kd.Q_nil _ _ _ _ _|exact Kd.S_nil _ _ _ _ _,by repeat (first|(with_reducible first|exact HB.out|apply below_alloc|apply pw_below_drewN|apply below_drew1)|exact HB.out)⟩
 rw [if_pos c6] at H
 have c6b0 : (t759 == 0) = true:=beq_iff_eq.mpr c6
 have c6b1 : (t759 != 0) = false:=bne_eq_false_iff_eq.mpr c6
 clear c6
 by_cases c7 : ([] : List (S57)).length + l0.length < 5864062014805
 rotate_left
 ·rw [if_neg c7] at H
  exact absurd H (by simp)
 rw [if_pos c7] at H
 have LMc7:=Aside0.mk c7
 clear c7
 obtain ⟨y760,hy760⟩ : ∃ y_ : List (S57),y_ = (([] : List (S57)) ++ l0):=⟨_,rfl⟩
 replace H : (if y760.length + l1.length < 5864062014805 then ((bursarref03_Normal.f k (y760 ++ l1)).bind fun bt766 => (some (bt766.1,bt766.2))) else (none)) = some (r1,r2):=by first|(rw [hy760];with_reducible exact H)|(have H2_:=(Option.bind_some _ _).symm.trans H;rw [hy760];with_reducible exact H2_)|(have H2_:=(Option.bind_some _ _).symm.trans H;with_reducible exact H2_)|with_reducible exact H|(rw [hy760];exact H)|exact H
 have Ny760:=Aside0.mk hy760
 clear hy760
 by_cases c8 : y760.length + l1.length < 5864062014805
 rotate_left
 ·rw [if_neg c8] at H
  exact absurd H (by simp)
 rw [if_pos c8] at H
 have LMc8:=Aside0.mk c8
 clear c8
 obtain ⟨y763,hy763⟩ : ∃ y_ : List (S57),y_ = (y760 ++ l1):=⟨_,rfl⟩
 replace H : ((bursarref03_Normal.f k y763).bind fun bt766 => (some (bt766.1,bt766.2))) = some (r1,r2):=by first|(rw [hy763];with_reducible exact H)|(have H2_:=(Option.bind_some _ _).symm.trans H;rw [hy763];with_reducible exact H2_)|(have H2_:=(Option.bind_some _ _).symm.trans H;with_reducible exact H2_)|with_reducible exact H|(rw [hy763];exact H)|exact H
 have Ny763:=Aside0.mk hy763
 clear hy763
 replace H:=Option.bind_eq_some_iff.mp H
 obtain ⟨⟨t766,t767⟩,A90,H⟩:=H
 replace H : (some (t766,t767)) = some (r1,r2):=H
 have A9:=Aside0.mk A90
 clear A90
 simp only [Option.some.injEq,Prod.mk.injEq] at H
 obtain ⟨rfl,rfl⟩:=H
 go_enter Tryz.func47,Tryz.ntmps47
 go_wp2_with (first|((with_reducible refine gate_callee (f:=45) rfl ?_);refine goesL_ (some 8) rfl rfl Tryz.func45 (by kernel_rfl) rfl #[.slice A0 l0.length c0] rfl (by (try simp only [List.map_toArray,List.map_cons,List.map_nil]);first|done|rfl|(simp only [List.length_drop,List.length_take];rfl)) ?_;(with_reducible refine (bursarref03_Valid.calls k _ _ l0 t758 _ ?side1 ?side2 A3.out).mono ?_);(case side1 => repeat (first|exact HR0.out|(with_reducible refine Kd.C_alloc ?_ _)|(with_reducible refine Kd.C_drewN ?_ _)|(with_reducible refine Kd.C_drew ?_)));(case side2 => exact HC0.out);rintro e w10 ⟨rfl,hb⟩;refine ⟨_,rfl,?_⟩;have n0_:=Aside0.mk (below_step (by repeat (first|(with_reducible first|exact HB.out|apply below_alloc|apply pw_below_drewN|apply below_drew1)|exact HB.out)) hb);clear HB;have HB:=n0_;clear n0_;(try clear hb);(try clear hb2);(try clear hk);(try clear hi))|(go_at_call 45;(with_reducible refine (bursarref03_Valid.calls k _ _ l1 t759 _ ?side1 ?side2 A5.out).mono ?_);(case side1 => repeat (first|exact (Kd.C_below HR1.out HB.out)|(with_reducible refine Kd.C_alloc ?_ _)|(with_reducible refine Kd.C_drewN ?_ _)|(with_reducible refine Kd.C_drew ?_)));(case side2 => exact HC1.out);rintro e w11 ⟨rfl,hb⟩;have n0_:=Aside0.mk (below_step (by repeat (first|(with_reducible first|exact HB.out|apply below_alloc|apply pw_below_drewN|apply below_drew1)|exact HB.out)) hb);clear HB;have HB:=n0_;clear n0_;(try clear hb);(try clear hb2);(try clear hk);(try clear hi))|((with_reducible refine gate_builtin (b:=.append) (xs:=#[.tmp 15,.tmp 16]) rfl ?_);at_builtin;refine Kd.R_append_rows k57 (w0:=w) w.heap.size rfl (.tmp 15) (.tmp 16) 46 57 (.agg #[(.string ⟨#[]⟩),(.int .i64 0)]) 24 rfl Tryz.underlying46 info57 rfl (by decide) (by omega) (.slice none 0 0) ([] : List (S57)) l0 _ _ _ (fun _ => True) (fun _ => False) rfl rfl ?aO ?aR (fun _ _ h => h) (fun _ h => h.elim) ?aF ?aB ?aS ?aL ?_;(case aR => repeat (first|exact (Kd.C_below HR0.out HB.out)|(with_reducible refine Kd.C_alloc ?_ _)|(with_reducible refine Kd.C_drewN ?_ _)|(with_reducible refine Kd.C_drew ?_)));(case aB => exact (by repeat (first|(with_reducible first|exact HB.out|apply below_alloc|apply pw_below_drewN|apply below_drew1)|exact HB.out)));(case aF => exact (fun _ _ => trivial));(case aO => exact ((Kd.R_nil _ _ _ _ (fun _ => True))));(case aS => exact (below_size (by repeat (first|(with_reducible first|exact HB.out|apply below_alloc|apply pw_below_drewN|apply below_drew1)|exact HB.out))));(case aL => have:=LMc7.out;omega);intro v761 w12 ho hb hg hat;rw [← Ny760.out] at ho;have n0_:=Aside0.mk (hb);have n1_:=Aside0.mk (ho);clear HB;have HB:=n0_;have HO762:=n1_;clear n0_ n1_;clear ho hb hg hat)|((with_reducible refine gate_builtin (b:=.append) (xs:=#[.tmp 18,.tmp 19]) rfl ?_);at_builtin;refine Kd.R_append_rows k57 (w0:=w) w.heap.size rfl (.tmp 18) (.tmp 19) 46 57 (.agg #[(.string ⟨#[]⟩),(.int .i64 0)]) 24 rfl Tryz.underlying46 info57 rfl (by decide) (by omega) v761 y760 l1 _ _ _ (fun _ => True) (fun _ => False) rfl rfl ?aO ?aR (fun _ _ h => h) (fun _ h => h.elim) ?aF ?aB ?aS ?aL ?_;(case aR => repeat (first|exact (Kd.C_below HR1.out HB.out)|(with_reducible refine Kd.C_alloc ?_ _)|(with_reducible refine Kd.C_drewN ?_ _)|(with_reducible refine Kd.C_drew ?_)));(case aB => exact (by repeat (first|(with_reducible first|exact HB.out|apply below_alloc|apply pw_below_drewN|apply below_drew1)|exact HB.out)));(case aF => exact (fun _ _ => trivial));(case aO => exact (by (with_reducible repeat (first|apply Kd.R_alloc|apply Kd.R_drewN|apply Kd.R_drew));exact HO762.out));(case aS => exact (below_size (by repeat (first|(with_reducible first|exact HB.out|apply below_alloc|apply pw_below_drewN|apply below_drew1)|exact HB.out))));(case aL => have:=LMc8.out;omega);intro v764 w13 ho hb hg hat;rw [← Ny763.out] at ho;have n0_:=Aside0.mk (hb);have n1_:=Aside0.mk (ho);clear HB;clear HO762;have HB:=n0_;have HO765:=n1_;clear n0_ n1_;clear ho hb hg hat;obtain ⟨Ao14,co14,eo14⟩:=Kd.R_slice HO765.out;subst eo14)|((with_reducible refine gate_callee (f:=46) rfl ?_);refine goesL_ (some 22) rfl rfl Tryz.func46 (by kernel_rfl) rfl #[.slice Ao14 y763.length co14] rfl (by (try simp only [List.map_toArray,List.map_cons,List.map_nil]);first|done|rfl|(simp only [List.length_drop,List.length_take];rfl)) ?_;(with_reducible refine (bursarref03_Normal.calls k _ _ y763 t766 t767 _ ?side1 ?side2 A9.out).mono ?_);(case side1 => repeat (first|exact (Kd.R_reads' HO765.out).2.2|(with_reducible refine Kd.C_alloc ?_ _)|(with_reducible refine Kd.C_drewN ?_ _)|(with_reducible refine Kd.C_drew ?_)));(case side2 => exact (Kd.R_reads' HO765.out).2.1);rintro e w15 ⟨v768,rfl,ho0,hb⟩;refine ⟨_,rfl,?_⟩;have n0_:=Aside0.mk (Kd.R_elder' (by (with_reducible repeat (first|apply Kd.R_alloc|apply Kd.R_drewN|apply Kd.R_drew));exact HO765.out) (Kd.R_base ho0) hb);have n1_:=Aside0.mk (Kd.R_lower (Kd.R_new' ho0 (Kd.R_lt (by (with_reducible repeat (first|apply Kd.R_alloc|apply Kd.R_drewN|apply Kd.R_drew));exact HO765.out))) (below_size (by repeat (first|(with_reducible first|exact HB.out|apply below_alloc|apply pw_below_drewN|apply below_drew1)|exact HB.out))));have n2_:=Aside0.mk (below_step (by repeat (first|(with_reducible first|exact HB.out|apply below_alloc|apply pw_below_drewN|apply below_drew1)|exact HB.out)) hb);clear HO765;clear HB;have HO765:=n0_;have HO769:=n1_;have HB:=n2_;clear n0_ n1_ n2_;(try clear hb);(try clear hb2);(try clear hk);(try clear hi);(try clear ho0)))
 go_ret2
 exact ⟨_,by first|rfl|(simp [errW_none,errW_some] <;> rfl)|(simp [*,errW_none,errW_some] <;> rfl),by (with_reducible repeat (first|apply Kd.R_alloc|apply Kd.R_drewN|apply Kd.R_drew));exact Kd.R_mono HO769.out (fun _ hk => trivial),by repeat (first|(with_reducible first|exact HB.out|apply below_alloc|apply pw_below_drewN|apply below_drew1)|exact HB.out)⟩
end Go.Proofs.YtejgbdclhlolkaaGreatDoor.Q
namespace Go.Proofs.YtejgbdclhlolkaaGreatDoor.Q
open Go.RowKit Go.Proofs.YtejgbdclhlolkaaGreatDoorW.PrintWords Go.Proofs.YtejgbdclhlolkaaGreatDoorW.PrintLast Go.Proofs.YtejgbdclhlolkaaGreatDoorW.PrintMore
attribute [local go_sem] max2_int min2_int max_two min_two max_three min_three max_four min_four   -- for this text's walks alone
set_option linter.unusedVariables false
set_option linter.unusedSimpArgs false
def bursarref03_Of.l0 : Nat → List (S57) → ByteArray → Int → Option (Int × Bool)
|0,_,_,_ => none
|k + 1,x0,x1,x6 => if x6 < (x0.length : Int) then (if 0 ≤ x6 then (if ((rd_T57 x0 x6).f0).toList = x1.toList then (some ((rd_T57 x0 x6).f1,true)) else (bursarref03_Of.l0 k x0 x1 (wrap64 (x6 + 1)))) else (none)) else (some (0,false))
def bursarref03_Of.f (k : Nat) (l0 : List (S57)) (a1 : ByteArray) : Option (Int × Bool) := bursarref03_Of.l0 k l0 a1 0
theorem bursarref03_Of.mono_l : ∀ k, (∀ y0 y1 y2, LeO (bursarref03_Of.l0 k y0 y1 y2) (bursarref03_Of.l0 (k + 1) y0 y1 y2))
|0 => fun _ _ _ r h => by simp [bursarref03_Of.l0] at h
|k + 1 => by
  have ih0:=bursarref03_Of.mono_l k
  ·intro y0 y1 y2
   unfold bursarref03_Of.l0
   repeat' first
  |(with_reducible exact ih0 _ _ _)
  |(with_reducible exact LeO.refl _)
  |(with_reducible exact LeO.none _)
  |(with_reducible refine LeO.ite ?_ ?_)
  |(with_reducible refine LeO.bind ?_ (fun _ => ?_))
  |exact ih0 _ _ _
  |exact LeO.none _
  |refine LeO.ite ?_ ?_
  |refine LeO.bind ?_ (fun _ => ?_)
theorem bursarref03_Of.mono : ∀ a0 a1 k, LeO (bursarref03_Of.f k a0 a1) (bursarref03_Of.f (k + 1) a0 a1) := by
 intro a0 a1 k
 have ih0:=bursarref03_Of.mono_l k
 unfold bursarref03_Of.f
 repeat' first
  |(with_reducible exact ih0 _ _ _)
  |(with_reducible exact LeO.refl _)
  |(with_reducible exact LeO.none _)
  |(with_reducible refine LeO.ite ?_ ?_)
  |(with_reducible refine LeO.bind ?_ (fun _ => ?_))
  |exact ih0 _ _ _
  |exact LeO.none _
  |refine LeO.ite ?_ ?_
  |refine LeO.bind ?_ (fun _ => ?_)
set_option maxHeartbeats 8000000 in
set_option maxRecDepth 100000 in
theorem bursarref03_Of.calls (k : Nat) (A0 : Option Addr) (c0 : Nat) (l0 : List (S57)) (a1 : ByteArray) (r1 : Int) (r2 : Bool) (w : World) (hr0 : Kd.C k57 w A0 l0.length l0) (hc0 : l0.length ≤ c0) (h : bursarref03_Of.f k l0 a1 = some (r1, r2)) :
  Calls Tryz.prog 31 #[.slice A0 l0.length c0,.string a1] w fun e w' => e = .returned (.tuple #[.int .i64 r1,.bool r2]) ∧ Drawn0 w w':=by
 have HR0:=Aside0.mk hr0
 have HC0:=Aside0.mk hc0
 clear hr0 hc0
 have H : (bursarref03_Of.l0 k l0 a1 0) = some (r1,r2):=h
 clear h
 have H':=Aside0.mk H
 clear H
 go_enter Tryz.func31,Tryz.ntmps31
 go_wp2
 go_loopg [6] k (fun kq v6 w' => ∃ (x6_1 : Int),v6 = .int .i64 x6_1 ∧ Aside0 (bursarref03_Of.l0 kq l0 a1 x6_1 = some (r1,r2)) ∧ Aside0 (kq ≤ k) ∧ Drawn0 w w')
 case atStart => exact ⟨(0),(by first|rfl|(simp;done)|(simp [*];done)|(simp;rw [Bool.eq_iff_iff];simp;done)|(rw [Bool.eq_iff_iff];simp;done)),H',⟨Nat.le_refl _⟩,by repeat (first|exact Drawn0.refl _|apply Drawn0.step)⟩
 case round =>
  clear H';(try clear p2)
  obtain ⟨x6_1,rfl,HA,HK1,⟨m1,rfl⟩⟩:=hrel
  cases gk with
 |zero => exact absurd HA.out (by simp [bursarref03_Of.l0])
 |succ k1 =>
   have H:=HA.out
   clear HA
   simp only [bursarref03_Of.l0] at H
   by_cases c3 : x6_1 < (l0.length : Int)
   rotate_left
   ·rw [if_neg c3] at H
    have c3b0 : decide (x6_1 < (l0.length : Int)) = false:=decide_eq_false c3
    clear c3
    simp only [Option.some.injEq,Prod.mk.injEq] at H
    obtain ⟨rfl,rfl⟩:=H
    go_wp2
    go_ret2
    exact ⟨by first|rfl|(simp;done)|(simp [*];done),by repeat (first|exact Drawn0.refl _|apply Drawn0.step)⟩
   rw [if_pos c3] at H
   have c3b0 : decide (x6_1 < (l0.length : Int)) = true:=decide_eq_true c3
   clear c3
   by_cases c4 : 0 ≤ x6_1
   rotate_left
   ·rw [if_neg c4] at H
    exact absurd H (by simp)
   rw [if_pos c4] at H
   have c4b0 : decide (0 ≤ x6_1) = true:=decide_eq_true c4
   clear c4
   by_cases c5 : ((rd_T57 l0 x6_1).f0).toList = a1.toList
   rotate_left
   ·rw [if_neg c5] at H
    have c5b0 : (((rd_T57 l0 x6_1).f0).toList == a1.toList) = false:=beq_eq_false_iff_ne.mpr c5
    have c5b1 : (((rd_T57 l0 x6_1).f0).toList != a1.toList) = true:=bne_iff_ne.mpr c5
    have H':=Aside0.mk H
    clear H
    have p415 : 0 ≤ (x6_1 : Int):=of_decide_eq_true (by first|(with_reducible assumption)|assumption)
    have q415 : x6_1 < (l0.length : Int):=of_decide_eq_true (by first|(with_reducible assumption)|assumption)
    obtain ⟨ad415,e415,hx415_0,hx415_1⟩:=at_T57 HR0.out x6_1 p415 q415
    cases e415
    replace p415:=eq_true p415
    replace q415:=eq_true q415
    go_wp2
    go_roundg k1
    case measure => have:=HK1.out;omega
    case rel => exact ⟨(wrap64 (x6_1 + 1)),(by first|rfl|(simp;done)|(simp [*];done)|(simp;rw [Bool.eq_iff_iff];simp;done)|(rw [Bool.eq_iff_iff];simp;done)),H',⟨by have:=HK1.out;omega⟩,by repeat (first|exact Drawn0.refl _|apply Drawn0.step)⟩
   rw [if_pos c5] at H
   have c5b0 : (((rd_T57 l0 x6_1).f0).toList == a1.toList) = true:=beq_iff_eq.mpr c5
   have c5b1 : (((rd_T57 l0 x6_1).f0).toList != a1.toList) = false:=bne_eq_false_iff_eq.mpr c5
   clear c5
   simp only [Option.some.injEq,Prod.mk.injEq] at H
   obtain ⟨rfl,rfl⟩:=H
   have p415 : 0 ≤ (x6_1 : Int):=of_decide_eq_true (by first|(with_reducible assumption)|assumption)
   have q415 : x6_1 < (l0.length : Int):=of_decide_eq_true (by first|(with_reducible assumption)|assumption)
   obtain ⟨ad415,e415,hx415_0,hx415_1⟩:=at_T57 HR0.out x6_1 p415 q415
   cases e415
   replace p415:=eq_true p415
   replace q415:=eq_true q415
   have p416 : 0 ≤ (x6_1 : Int):=of_decide_eq_true (by first|(with_reducible assumption)|assumption)
   have q416 : x6_1 < (l0.length : Int):=of_decide_eq_true (by first|(with_reducible assumption)|assumption)
   obtain ⟨ad416,e416,hx416_0,hx416_1⟩:=at_T57 HR0.out x6_1 p416 q416
   obtain rfl : ad415 = ad416:=(by injection e416)
   replace p416:=eq_true p416
   replace q416:=eq_true q416
   go_wp2
   go_ret2
   exact ⟨by first|rfl|(simp;done)|(simp [*];done),by repeat (first|exact Drawn0.refl _|apply Drawn0.step)⟩
end Go.Proofs.YtejgbdclhlolkaaGreatDoor.Q
namespace Go.Proofs.YtejgbdclhlolkaaGreatDoor.Q
open Go.RowKit Go.Proofs.YtejgbdclhlolkaaGreatDoorW.PrintWords Go.Proofs.YtejgbdclhlolkaaGreatDoorW.PrintLast Go.Proofs.YtejgbdclhlolkaaGreatDoorW.PrintMore
attribute [local go_sem] max2_int min2_int max_two min_two max_three min_three max_four min_four   -- for this text's walks alone
set_option linter.unusedVariables false
set_option linter.unusedSimpArgs false
mutual
def bursarref03_Minus.j0 : Nat → List (S57) → List (S57) → Bool → Option ((List (S57)) × Int)
|0,_,_,_ => none
|k + 1,x0,x1,x20 => if x20 = true then (some (([] : List (S57)),31)) else (bursarref03_Minus.l0 k x0 x1 ([] : List (S57)) 0)
def bursarref03_Minus.l0 : Nat → List (S57) → List (S57) → List (S57) → Int → Option ((List (S57)) × Int)
|0,_,_,_,_ => none
|k + 1,x0,x1,x6,x7 => if x7 < (x0.length : Int) then (if 0 ≤ x7 then ((bursarref03_Of.f k x1 ((rd_T57 x0 x7).f0)).bind fun bt773 => (if ((rd_T57 x0 x7).f1) < bt773.1 then (some (([] : List (S57)),1)) else (if x6.length < 5864062014805 then (bursarref03_Minus.l0 k x0 x1 (x6 ++ [(⟨(rd_T57 x0 x7).f0,wrap64 (((rd_T57 x0 x7).f1) - bt773.1)⟩ : S57)]) (wrap64 (x7 + 1))) else (none)))) else (none)) else (bursarref03_Minus.l1 k x0 x1 x6 0)
def bursarref03_Minus.l1 : Nat → List (S57) → List (S57) → List (S57) → Int → Option ((List (S57)) × Int)
|0,_,_,_,_ => none
|k + 1,x0,x1,x6,x10 => if x10 < (x1.length : Int) then (if 0 ≤ x10 then ((bursarref03_Of.f k x0 ((rd_T57 x1 x10).f0)).bind fun bt782 => (if bt782.2 = true then (bursarref03_Minus.l1 k x0 x1 x6 (wrap64 (x10 + 1))) else (if ((rd_T57 x1 x10).f1) > 0 then (some (([] : List (S57)),1)) else ((bursarref03_placed.f k x6 ((rd_T57 x1 x10).f0) 0).bind fun t786 => (bursarref03_Minus.l1 k x0 x1 t786 (wrap64 (x10 + 1))))))) else (none)) else (if (x6.length : Int) > 16 then (some (([] : List (S57)),23)) else (some (x6,0)))
end
def bursarref03_Minus.f (k : Nat) (l0 : List (S57)) (l1 : List (S57)) : Option ((List (S57)) × Int) := (bursarref03_Valid.f k l0).bind fun t770 => (if t770 = 0 then ((bursarref03_Valid.f k l1).bind fun t771 => (bursarref03_Minus.j0 k l0 l1 (t771 != 0))) else (bursarref03_Minus.j0 k l0 l1 true))
theorem bursarref03_Minus.mono_l : ∀ k, (∀ y0 y1 y2, LeO (bursarref03_Minus.j0 k y0 y1 y2) (bursarref03_Minus.j0 (k + 1) y0 y1 y2)) ∧ (∀ y0 y1 y2 y3, LeO (bursarref03_Minus.l0 k y0 y1 y2 y3) (bursarref03_Minus.l0 (k + 1) y0 y1 y2 y3)) ∧ (∀ y0 y1 y2 y3, LeO (bursarref03_Minus.l1 k y0 y1 y2 y3) (bursarref03_Minus.l1 (k + 1) y0 y1 y2 y3))
|0 => ⟨fun _ _ _ r h => by simp [bursarref03_Minus.j0] at h,fun _ _ _ _ r h => by simp [bursarref03_Minus.l0] at h,fun _ _ _ _ r h => by simp [bursarref03_Minus.l1] at h⟩
|k + 1 => by
  obtain ⟨ih0,ih1,ih2⟩:=bursarref03_Minus.mono_l k
  refine ⟨?_,?_,?_⟩
  ·intro y0 y1 y2
   unfold bursarref03_Minus.j0
   repeat' first
  |(with_reducible exact ih0 _ _ _)
  |(with_reducible exact ih1 _ _ _ _)
  |(with_reducible exact ih2 _ _ _ _)
  |(with_reducible exact bursarref03_Of.mono _ _ _)
  |(with_reducible exact bursarref03_Valid.mono _ _)
  |(with_reducible exact bursarref03_placed.mono _ _ _ _)
  |(with_reducible exact LeO.refl _)
  |(with_reducible exact LeO.none _)
  |(with_reducible refine LeO.ite ?_ ?_)
  |(with_reducible refine LeO.bind ?_ (fun _ => ?_))
  |exact ih0 _ _ _
  |exact ih1 _ _ _ _
  |exact ih2 _ _ _ _
  |exact bursarref03_Of.mono _ _ _
  |exact bursarref03_Valid.mono _ _
  |exact bursarref03_placed.mono _ _ _ _
  |exact LeO.none _
  |refine LeO.ite ?_ ?_
  |refine LeO.bind ?_ (fun _ => ?_)
  ·intro y0 y1 y2 y3
   unfold bursarref03_Minus.l0
   repeat' first
  |(with_reducible exact ih0 _ _ _)
  |(with_reducible exact ih1 _ _ _ _)
  |(with_reducible exact ih2 _ _ _ _)
  |(with_reducible exact bursarref03_Of.mono _ _ _)
  |(with_reducible exact bursarref03_Valid.mono _ _)
  |(with_reducible exact bursarref03_placed.mono _ _ _ _)
  |(with_reducible exact LeO.refl _)
  |(with_reducible exact LeO.none _)
  |(with_reducible refine LeO.ite ?_ ?_)
  |(with_reducible refine LeO.bind ?_ (fun _ => ?_))
  |exact ih0 _ _ _
  |exact ih1 _ _ _ _
  |exact ih2 _ _ _ _
  |exact bursarref03_Of.mono _ _ _
  |exact bursarref03_Valid.mono _ _
  |exact bursarref03_placed.mono _ _ _ _
  |exact LeO.none _
  |refine LeO.ite ?_ ?_
  |refine LeO.bind ?_ (fun _ => ?_)
  ·intro y0 y1 y2 y3
   unfold bursarref03_Minus.l1
   repeat' first
  |(with_reducible exact ih0 _ _ _)
  |(with_reducible exact ih1 _ _ _ _)
  |(with_reducible exact ih2 _ _ _ _)
  |(with_reducible exact bursarref03_Of.mono _ _ _)
  |(with_reducible exact bursarref03_Valid.mono _ _)
  |(with_reducible exact bursarref03_placed.mono _ _ _ _)
  |(with_reducible exact LeO.refl _)
  |(with_reducible exact LeO.none _)
  |(with_reducible refine LeO.ite ?_ ?_)
  |(with_reducible refine LeO.bind ?_ (fun _ => ?_))
  |exact ih0 _ _ _
  |exact ih1 _ _ _ _
  |exact ih2 _ _ _ _
  |exact bursarref03_Of.mono _ _ _
  |exact bursarref03_Valid.mono _ _
  |exact bursarref03_placed.mono _ _ _ _
  |exact LeO.none _
  |refine LeO.ite ?_ ?_
  |refine LeO.bind ?_ (fun _ => ?_)
theorem bursarref03_Minus.mono : ∀ a0 a1 k, LeO (bursarref03_Minus.f k a0 a1) (bursarref03_Minus.f (k + 1) a0 a1) := by
 intro a0 a1 k
 obtain ⟨ih0,ih1,ih2⟩:=bursarref03_Minus.mono_l k
 unfold bursarref03_Minus.f
 repeat' first
  |(with_reducible exact ih0 _ _ _)
  |(with_reducible exact ih1 _ _ _ _)
  |(with_reducible exact ih2 _ _ _ _)
  |(with_reducible exact bursarref03_Of.mono _ _ _)
  |(with_reducible exact bursarref03_Valid.mono _ _)
  |(with_reducible exact bursarref03_placed.mono _ _ _ _)
  |(with_reducible exact LeO.refl _)
  |(with_reducible exact LeO.none _)
  |(with_reducible refine LeO.ite ?_ ?_)
  |(with_reducible refine LeO.bind ?_ (fun _ => ?_))
  |exact ih0 _ _ _
  |exact ih1 _ _ _ _
  |exact ih2 _ _ _ _
  |exact bursarref03_Of.mono _ _ _
  |exact bursarref03_Valid.mono _ _
  |exact bursarref03_placed.mono _ _ _ _
  |exact LeO.none _
  |refine LeO.ite ?_ ?_
  |refine LeO.bind ?_ (fun _ => ?_)
def bursarref03_Minus.T10 : Bool × List (List Nat × List Nat) := (true, [([], []), ([], []), ([], []), ([1, 2], [1, 2]), ([3], [3]), ([4], [4]), ([], []), ([], []), ([6, 7], [6, 7]), ([8], [8]), ([9], [9]), ([], []), ([10, 11], [10, 11]), ([5, 12], [5, 12]), ([13], [13]), ([0, 14], [0, 14]), ([15, 15, 0, 1, 2, 3, 4, 5, 6, 7, 8, 9, 10, 11, 12, 13, 14, 15], [0, 15])])
def bursarref03_Minus.B10 : List Nat := [0, 0, 0, 6, 14, 30, 0, 0, 192, 448, 960, 0, 4032, 8190, 16382, 32767, 65535]
theorem bursarref03_Minus.tab10 : rtab .any (opsOf Tryz.f48 10) = bursarref03_Minus.T10 := by kernel_rfl
theorem bursarref03_Minus.bits10 : waitsOk bursarref03_Minus.T10.2 bursarref03_Minus.B10 = true := by kernel_rfl
set_option maxHeartbeats 8000000 in
set_option maxRecDepth 100000 in
theorem bursarref03_Minus.calls (k : Nat) (A0 : Option Addr) (c0 : Nat) (l0 : List (S57)) (A1 : Option Addr) (c1 : Nat) (l1 : List (S57)) (r1 : List (S57)) (r2 : Int) (w : World) (hr0 : Kd.C k57 w A0 l0.length l0) (hc0 : l0.length ≤ c0) (hr1 : Kd.C k57 w A1 l1.length l1) (hc1 : l1.length ≤ c1) (h : bursarref03_Minus.f k l0 l1 = some (r1, r2)) :
  Calls Tryz.prog 48 #[.slice A0 l0.length c0,.slice A1 l1.length c1] w fun e w' => ∃ v0_ : Value,e = .returned (.tuple #[v0_,.int .i64 r2]) ∧ Kd.R k57 57 w' w.heap.size (fun _ => True) v0_ r1 ∧ Below w.heap.size w w':=by
 have hu57:=Tryz.underlying57
 have HR0:=Aside0.mk hr0
 have HC0:=Aside0.mk hc0
 clear hr0 hc0
 have HR1:=Aside0.mk hr1
 have HC1:=Aside0.mk hc1
 clear hr1 hc1
 have HB:=Aside0.mk (Below.refl w.heap.size w)
 have H : ((bursarref03_Valid.f k l0).bind fun t770 => (if t770 = 0 then ((bursarref03_Valid.f k l1).bind fun t771 => (bursarref03_Minus.j0 k l0 l1 (t771 != 0))) else (bursarref03_Minus.j0 k l0 l1 true))) = some (r1,r2):=h
 clear h
 have HC3:=Aside0.mk H
 clear H
 go_enter Tryz.func48,Tryz.ntmps48
 go_upto_region 1 with (fail)
 go_cut [20] (fun v20 wc => ∃ (kq : Nat) (x20_2 : Bool),v20 = .bool x20_2 ∧ Aside0 (bursarref03_Minus.j0 kq l0 l1 x20_2 = some (r1,r2)) ∧ Aside0 (kq ≤ k) ∧ Aside0 (Below w.heap.size w wc))
 case first =>
  have H:=HC3.out
  clear HC3
  replace H:=Option.bind_eq_some_iff.mp H
  obtain ⟨t770,A40,H⟩:=H
  replace H : (if t770 = 0 then ((bursarref03_Valid.f k l1).bind fun t771 => (bursarref03_Minus.j0 k l0 l1 (t771 != 0))) else (bursarref03_Minus.j0 k l0 l1 true)) = some (r1,r2):=H
  have A4:=Aside0.mk A40
  clear A40
  by_cases c5 : t770 = 0
  rotate_left
  ·rw [if_neg c5] at H
   have c5b0 : (t770 == 0) = false:=beq_eq_false_iff_ne.mpr c5
   have c5b1 : (t770 != 0) = true:=bne_iff_ne.mpr c5
   (first|rw [c5b0]|(simp only [i64_w,i32_w];rw [c5b0])|skip)
   have H':=Aside0.mk H
   clear H
   go_wp2_with (first|((with_reducible refine gate_callee (f:=45) rfl ?_);refine goesL_ (some 14) rfl rfl Tryz.func45 (by kernel_rfl) rfl #[.slice A0 l0.length c0] rfl (by (try simp only [List.map_toArray,List.map_cons,List.map_nil]);first|done|rfl|(simp only [List.length_drop,List.length_take];rfl)) ?_;(with_reducible refine (bursarref03_Valid.calls k _ _ l0 t770 _ ?side1 ?side2 A4.out).mono ?_);(case side1 => repeat (first|exact (Kd.C_below HR0.out HB.out)|(with_reducible refine Kd.C_alloc ?_ _)|(with_reducible refine Kd.C_drewN ?_ _)|(with_reducible refine Kd.C_drew ?_)));(case side2 => exact HC0.out);rintro e w9 ⟨rfl,hb⟩;refine ⟨_,rfl,?_⟩;have n0_:=Aside0.mk (below_step (by repeat (first|(with_reducible first|exact HB.out|apply below_alloc|apply pw_below_drewN|apply below_drew1)|exact HB.out)) hb);clear HB;have HB:=n0_;clear n0_;(try clear hb);(try clear hb2);(try clear hk);(try clear hi)))
   go_meet
   case rel => exact ⟨_,(true),(by first|rfl|(simp;done)|(simp [*];done)|(simp;rw [Bool.eq_iff_iff];simp;done)|(rw [Bool.eq_iff_iff];simp;done)),H',⟨by first|omega|exact Nat.le_refl _⟩,⟨by repeat (first|(with_reducible first|exact HB.out|apply below_alloc|apply pw_below_drewN|apply below_drew1)|exact HB.out)⟩⟩
  rw [if_pos c5] at H
  have c5b0 : (t770 == 0) = true:=beq_iff_eq.mpr c5
  have c5b1 : (t770 != 0) = false:=bne_eq_false_iff_eq.mpr c5
  clear c5
  (first|rw [c5b0]|(simp only [i64_w,i32_w];rw [c5b0])|skip)
  replace H:=Option.bind_eq_some_iff.mp H
  obtain ⟨t771,A60,H⟩:=H
  replace H : (bursarref03_Minus.j0 k l0 l1 (t771 != 0)) = some (r1,r2):=H
  have A6:=Aside0.mk A60
  clear A60
  have H':=Aside0.mk H
  clear H
  go_wp2_with (first|((with_reducible refine gate_callee (f:=45) rfl ?_);refine goesL_ (some 14) rfl rfl Tryz.func45 (by kernel_rfl) rfl #[.slice A0 l0.length c0] rfl (by (try simp only [List.map_toArray,List.map_cons,List.map_nil]);first|done|rfl|(simp only [List.length_drop,List.length_take];rfl)) ?_;(with_reducible refine (bursarref03_Valid.calls k _ _ l0 t770 _ ?side1 ?side2 A4.out).mono ?_);(case side1 => repeat (first|exact (Kd.C_below HR0.out HB.out)|(with_reducible refine Kd.C_alloc ?_ _)|(with_reducible refine Kd.C_drewN ?_ _)|(with_reducible refine Kd.C_drew ?_)));(case side2 => exact HC0.out);rintro e w7 ⟨rfl,hb⟩;refine ⟨_,rfl,?_⟩;have n0_:=Aside0.mk (below_step (by repeat (first|(with_reducible first|exact HB.out|apply below_alloc|apply pw_below_drewN|apply below_drew1)|exact HB.out)) hb);clear HB;have HB:=n0_;clear n0_;(try clear hb);(try clear hb2);(try clear hk);(try clear hi))|(go_at_call 45;(with_reducible refine (bursarref03_Valid.calls k _ _ l1 t771 _ ?side1 ?side2 A6.out).mono ?_);(case side1 => repeat (first|exact (Kd.C_below HR1.out HB.out)|(with_reducible refine Kd.C_alloc ?_ _)|(with_reducible refine Kd.C_drewN ?_ _)|(with_reducible refine Kd.C_drew ?_)));(case side2 => exact HC1.out);rintro e w8 ⟨rfl,hb⟩;have n0_:=Aside0.mk (below_step (by repeat (first|(with_reducible first|exact HB.out|apply below_alloc|apply pw_below_drewN|apply below_drew1)|exact HB.out)) hb);clear HB;have HB:=n0_;clear n0_;(try clear hb);(try clear hb2);(try clear hk);(try clear hi)))
  go_meet
  case rel => exact ⟨_,((t771 != 0)),(by first|rfl|(simp;done)|(simp [*];done)|(simp;rw [Bool.eq_iff_iff];simp;done)|(rw [Bool.eq_iff_iff];simp;done)),H',⟨by first|omega|exact Nat.le_refl _⟩,⟨by repeat (first|(with_reducible first|exact HB.out|apply below_alloc|apply pw_below_drewN|apply below_drew1)|exact HB.out)⟩⟩
 case rest =>
  clear HC3;(try clear c1);(try clear p2);(try clear c4);(try clear c5);(try clear c5b0);(try clear c5b1)
  obtain ⟨kq,x20_2,rfl,HA,HJ2,HB⟩:=hcut
  cases kq with
 |zero => exact absurd HA.out (by simp [bursarref03_Minus.j0])
 |succ kj2 =>
   have H:=HA.out
   clear HA
   simp only [bursarref03_Minus.j0] at H
   by_cases c10 : x20_2 = true
   ·subst c10
    have H1 : (some (([] : List (S57)),31)) = some (r1,r2):=by rw [if_pos rfl] at H;exact H
    clear H;have H:=H1;clear H1
    simp only [Option.some.injEq,Prod.mk.injEq] at H
    obtain ⟨rfl,rfl⟩:=H
    go_wp2
    go_ret2
    exact ⟨_,by first|rfl|(simp [errW_none,errW_some] <;> rfl)|(simp [*,errW_none,errW_some] <;> rfl),by first|exact Kd.R_nil _ _ _ _ _|exact Kd.N_nil _ _ _ _ _|exact Kd.V_nil _ _ _ _ _|exact Kd.Q_nil _ _ _ _ _|exact Kd.S_nil _ _ _ _ _,by repeat (first|(with_reducible first|exact HB.out|apply below_alloc|apply pw_below_drewN|apply below_drew1)|exact HB.out)⟩
   replace c10:=Bool.eq_false_iff.mpr c10
   subst c10
   have H1 : (bursarref03_Minus.l0 kj2 l0 l1 ([] : List (S57)) 0) = some (r1,r2):=by rw [if_neg (show ¬ (false = true) by decide)] at H;exact H
   clear H;have H:=H1;clear H1
   have H':=Aside0.mk H
   clear H
   go_wp2
   go_loopg [6,7] kj2 (fun kq v6 v7 w' => ∃ (x6_2 : List (S57)) (x7_2 : Int),v7 = .int .i64 x7_2 ∧ Aside0 (bursarref03_Minus.l0 kq l0 l1 x6_2 x7_2 = some (r1,r2)) ∧ Aside0 (kq ≤ kj2) ∧ Aside0 (Kd.R k57 57 w' w.heap.size (fun _ => True) v6 x6_2) ∧ Aside0 (Below w.heap.size w w'))
   case atStart => exact ⟨(([] : List (S57))),(0),(by first|rfl|(simp;done)|(simp [*];done)|(simp;rw [Bool.eq_iff_iff];simp;done)|(rw [Bool.eq_iff_iff];simp;done)),H',⟨Nat.le_refl _⟩,⟨by first|exact Kd.R_nil _ _ _ _ _|exact Kd.N_nil _ _ _ _ _|exact Kd.V_nil _ _ _ _ _|exact Kd.Q_nil _ _ _ _ _|exact Kd.S_nil _ _ _ _ _⟩,⟨by repeat (first|(with_reducible first|exact HB.out|apply below_alloc|apply pw_below_drewN|apply below_drew1)|exact HB.out)⟩⟩
   case round =>
    clear H';(try clear c1);(try clear p2);(try clear c4);(try clear c5);(try clear c5b0);(try clear c5b1);(try clear c10);(try clear p2)
    obtain ⟨x6_2,x7_2,rfl,HA,HK2,HO_6,HB⟩:=hrel
    cases gk with
   |zero => exact absurd HA.out (by simp [bursarref03_Minus.l0])
   |succ k2 =>
     have H:=HA.out
     clear HA
     simp only [bursarref03_Minus.l0] at H
     by_cases c11 : x7_2 < (l0.length : Int)
     rotate_left
     ·rw [if_neg c11] at H
      have c11b0 : decide (x7_2 < (l0.length : Int)) = false:=decide_eq_false c11
      clear c11
      have H':=Aside0.mk H
      clear H
      go_wp2
      go_loopg [6,10] k2 (fun kq v6 v10 w' => ∃ (x6_3 : List (S57)) (x10_3 : Int),v10 = .int .i64 x10_3 ∧ Aside0 (bursarref03_Minus.l1 kq l0 l1 x6_3 x10_3 = some (r1,r2)) ∧ Aside0 (kq ≤ k2) ∧ Aside0 (Kd.R k57 57 w' w.heap.size (fun _ => True) v6 x6_3) ∧ Aside0 (Below w.heap.size w w'))
      case atStart => exact ⟨(x6_2),(0),(by first|rfl|(simp;done)|(simp [*];done)|(simp;rw [Bool.eq_iff_iff];simp;done)|(rw [Bool.eq_iff_iff];simp;done)),H',⟨Nat.le_refl _⟩,⟨by (with_reducible repeat (first|apply Kd.R_alloc|apply Kd.R_drewN|apply Kd.R_drew));exact HO_6.out⟩,⟨by repeat (first|(with_reducible first|exact HB.out|apply below_alloc|apply pw_below_drewN|apply below_drew1)|exact HB.out)⟩⟩
      case round =>
       clear H';(try clear c1);(try clear p2);(try clear c3);(try clear c4);(try clear c5);(try clear c5b0);(try clear c5b1);(try clear p6);(try clear p7);(try clear q7);(try clear hx7);(try clear c10);(try clear c11);(try clear c11b0);(try clear c12);(try clear c12b0);(try clear c14);(try clear c14b0);(try clear c15);(try clear hx772_0);(try clear hx772_1);(try clear hx775_0);(try clear hx775_1);(try clear hx776_0);(try clear hx776_1);(try clear hx777_0);(try clear hx777_1);(try clear p2);(try clear p772);(try clear p775);(try clear p776);(try clear p777);(try clear q772);(try clear q775);(try clear q776);(try clear q777)
       obtain ⟨x6_3,x10_3,rfl,HA,HK3,HO_6,HB⟩:=hrel
       cases gk with
      |zero => exact absurd HA.out (by simp [bursarref03_Minus.l1])
      |succ k3 =>
        have H:=HA.out
        clear HA
        simp only [bursarref03_Minus.l1] at H
        by_cases c18 : x10_3 < (l1.length : Int)
        rotate_left
        ·rw [if_neg c18] at H
         have c18b0 : decide (x10_3 < (l1.length : Int)) = false:=decide_eq_false c18
         clear c18
         by_cases c26 : (x6_3.length : Int) > 16
         rotate_left
         ·rw [if_neg c26] at H
          have c26b0 : decide (16 < (x6_3.length : Int)) = false:=decide_eq_false c26
          have c26b1 : decide (16 < x6_3.length) = false:=decide_eq_false (by omega)
          clear c26
          simp only [Option.some.injEq,Prod.mk.injEq] at H
          obtain ⟨rfl,rfl⟩:=H
          obtain ⟨Ao28,co28,eo28⟩:=Kd.R_slice HO_6.out
          subst eo28
          go_wp2
          go_ret2
          exact ⟨_,by first|rfl|(simp [errW_none,errW_some] <;> rfl)|(simp [*,errW_none,errW_some] <;> rfl),by (with_reducible repeat (first|apply Kd.R_alloc|apply Kd.R_drewN|apply Kd.R_drew));exact HO_6.out,by repeat (first|(with_reducible first|exact HB.out|apply below_alloc|apply pw_below_drewN|apply below_drew1)|exact HB.out)⟩
         rw [if_pos c26] at H
         have c26b0 : decide (16 < (x6_3.length : Int)) = true:=decide_eq_true c26
         have c26b1 : decide (16 < x6_3.length) = true:=decide_eq_true (by omega)
         clear c26
         simp only [Option.some.injEq,Prod.mk.injEq] at H
         obtain ⟨rfl,rfl⟩:=H
         obtain ⟨Ao27,co27,eo27⟩:=Kd.R_slice HO_6.out
         subst eo27
         go_wp2
         go_ret2
         exact ⟨_,by first|rfl|(simp [errW_none,errW_some] <;> rfl)|(simp [*,errW_none,errW_some] <;> rfl),by first|exact Kd.R_nil _ _ _ _ _|exact Kd.N_nil _ _ _ _ _|exact Kd.V_nil _ _ _ _ _|exact Kd.Q_nil _ _ _ _ _|exact Kd.S_nil _ _ _ _ _,by repeat (first|(with_reducible first|exact HB.out|apply below_alloc|apply pw_below_drewN|apply below_drew1)|exact HB.out)⟩
        rw [if_pos c18] at H
        have c18b0 : decide (x10_3 < (l1.length : Int)) = true:=decide_eq_true c18
        clear c18
        by_cases c19 : 0 ≤ x10_3
        rotate_left
        ·rw [if_neg c19] at H
         exact absurd H (by simp)
        rw [if_pos c19] at H
        have c19b0 : decide (0 ≤ x10_3) = true:=decide_eq_true c19
        clear c19
        replace H:=Option.bind_eq_some_iff.mp H
        obtain ⟨⟨t782,t783⟩,A200,H⟩:=H
        replace H : (if t783 = true then (bursarref03_Minus.l1 k3 l0 l1 x6_3 (wrap64 (x10_3 + 1))) else (if ((rd_T57 l1 x10_3).f1) > 0 then (some (([] : List (S57)),1)) else ((bursarref03_placed.f k3 x6_3 ((rd_T57 l1 x10_3).f0) 0).bind fun t786 => (bursarref03_Minus.l1 k3 l0 l1 t786 (wrap64 (x10_3 + 1)))))) = some (r1,r2):=H
        have A20:=Aside0.mk A200
        clear A200
        by_cases c21 : t783 = true
        ·subst c21
         have H1 : (bursarref03_Minus.l1 k3 l0 l1 x6_3 (wrap64 (x10_3 + 1))) = some (r1,r2):=by rw [if_pos rfl] at H;exact H
         clear H;have H:=H1;clear H1
         have H':=Aside0.mk H
         clear H
         have p781 : 0 ≤ (x10_3 : Int):=of_decide_eq_true (by first|(with_reducible assumption)|assumption)
         have q781 : x10_3 < (l1.length : Int):=of_decide_eq_true (by first|(with_reducible assumption)|assumption)
         obtain ⟨ad781,e781,hx781_0,hx781_1⟩:=at_T57 HR1.out x10_3 p781 q781
         cases e781
         replace hx781_0:=(HB.out.cell (World.block_lt_of_cell? w _ hx781_0)).trans hx781_0
         replace hx781_1:=(HB.out.cell (World.block_lt_of_cell? w _ hx781_1)).trans hx781_1
         replace p781:=eq_true p781
         replace q781:=eq_true q781
         go_wp2_with (first|((with_reducible refine gate_callee (f:=31) rfl ?_);refine goesL_ (some 73) rfl rfl Tryz.func31 (by kernel_rfl) rfl #[.slice A0 l0.length c0,.string ((rd_T57 l1 x10_3).f0)] rfl (by (try simp only [List.map_toArray,List.map_cons,List.map_nil]);first|done|rfl|(simp only [List.length_drop,List.length_take];rfl)) ?_;(with_reducible refine (bursarref03_Of.calls k3 _ _ l0 ((rd_T57 l1 x10_3).f0) t782 true _ ?side1 ?side2 A20.out).mono ?_);(case side1 => repeat (first|exact (Kd.C_below HR0.out HB.out)|(with_reducible refine Kd.C_alloc ?_ _)|(with_reducible refine Kd.C_drewN ?_ _)|(with_reducible refine Kd.C_drew ?_)));(case side2 => exact HC0.out);rintro e w' ⟨rfl,⟨nd,rfl⟩⟩;refine ⟨_,rfl,?_⟩))
         go_roundg k3
         case measure => have:=HJ2.out;have:=HK2.out;have:=HK3.out;omega
         case rel => exact ⟨(x6_3),(wrap64 (x10_3 + 1)),(by first|rfl|(simp;done)|(simp [*];done)|(simp;rw [Bool.eq_iff_iff];simp;done)|(rw [Bool.eq_iff_iff];simp;done)),H',⟨by have:=HJ2.out;have:=HK2.out;have:=HK3.out;omega⟩,⟨by (with_reducible repeat (first|apply Kd.R_alloc|apply Kd.R_drewN|apply Kd.R_drew));exact HO_6.out⟩,⟨by repeat (first|(with_reducible first|exact HB.out|apply below_alloc|apply pw_below_drewN|apply below_drew1)|exact HB.out)⟩⟩
        replace c21:=Bool.eq_false_iff.mpr c21
        subst c21
        have H1 : (if ((rd_T57 l1 x10_3).f1) > 0 then (some (([] : List (S57)),1)) else ((bursarref03_placed.f k3 x6_3 ((rd_T57 l1 x10_3).f0) 0).bind fun t786 => (bursarref03_Minus.l1 k3 l0 l1 t786 (wrap64 (x10_3 + 1))))) = some (r1,r2):=by rw [if_neg (show ¬ (false = true) by decide)] at H;exact H
        clear H;have H:=H1;clear H1
        by_cases c22 : ((rd_T57 l1 x10_3).f1) > 0
        ·rw [if_pos c22] at H
         have c22b0 : decide (0 < ((rd_T57 l1 x10_3).f1)) = true:=decide_eq_true c22
         clear c22
         simp only [Option.some.injEq,Prod.mk.injEq] at H
         obtain ⟨rfl,rfl⟩:=H
         have p781 : 0 ≤ (x10_3 : Int):=of_decide_eq_true (by first|(with_reducible assumption)|assumption)
         have q781 : x10_3 < (l1.length : Int):=of_decide_eq_true (by first|(with_reducible assumption)|assumption)
         obtain ⟨ad781,e781,hx781_0,hx781_1⟩:=at_T57 HR1.out x10_3 p781 q781
         cases e781
         replace hx781_0:=(HB.out.cell (World.block_lt_of_cell? w _ hx781_0)).trans hx781_0
         replace hx781_1:=(HB.out.cell (World.block_lt_of_cell? w _ hx781_1)).trans hx781_1
         replace p781:=eq_true p781
         replace q781:=eq_true q781
         go_wp2_with (first|((with_reducible refine gate_callee (f:=31) rfl ?_);refine goesL_ (some 73) rfl rfl Tryz.func31 (by kernel_rfl) rfl #[.slice A0 l0.length c0,.string ((rd_T57 l1 x10_3).f0)] rfl (by (try simp only [List.map_toArray,List.map_cons,List.map_nil]);first|done|rfl|(simp only [List.length_drop,List.length_take];rfl)) ?_;(with_reducible refine (bursarref03_Of.calls k3 _ _ l0 ((rd_T57 l1 x10_3).f0) t782 false _ ?side1 ?side2 A20.out).mono ?_);(case side1 => repeat (first|exact (Kd.C_below HR0.out HB.out)|(with_reducible refine Kd.C_alloc ?_ _)|(with_reducible refine Kd.C_drewN ?_ _)|(with_reducible refine Kd.C_drew ?_)));(case side2 => exact HC0.out);rintro e w' ⟨rfl,⟨nd,rfl⟩⟩;refine ⟨_,rfl,?_⟩;have p784 : 0 ≤ (x10_3 : Int):=of_decide_eq_true (by first|(with_reducible assumption)|assumption);have q784 : x10_3 < (l1.length : Int):=of_decide_eq_true (by first|(with_reducible assumption)|assumption);obtain ⟨ad784,e784,hx784_0,hx784_1⟩:=at_T57 HR1.out x10_3 p784 q784;obtain rfl : ad781 = ad784:=(by injection e784);replace hx784_0:=(HB.out.cell (World.block_lt_of_cell? w _ hx784_0)).trans hx784_0;replace hx784_1:=(HB.out.cell (World.block_lt_of_cell? w _ hx784_1)).trans hx784_1;replace p784:=eq_true p784;replace q784:=eq_true q784))
         go_ret2
         exact ⟨_,by first|rfl|(simp [errW_none,errW_some] <;> rfl)|(simp [*,errW_none,errW_some] <;> rfl),by first|exact Kd.R_nil _ _ _ _ _|exact Kd.N_nil _ _ _ _ _|exact Kd.V_nil _ _ _ _ _|exact Kd.Q_nil _ _ _ _ _|exact Kd.S_nil _ _ _ _ _,by repeat (first|(with_reducible first|exact HB.out|apply below_alloc|apply pw_below_drewN|apply below_drew1)|exact HB.out)⟩
        rw [if_neg c22] at H
        have c22b0 : decide (0 < ((rd_T57 l1 x10_3).f1)) = false:=decide_eq_false c22
        clear c22
        replace H:=Option.bind_eq_some_iff.mp H
        obtain ⟨t786,A230,H⟩:=H
        replace H : (bursarref03_Minus.l1 k3 l0 l1 t786 (wrap64 (x10_3 + 1))) = some (r1,r2):=H
        have A23:=Aside0.mk A230
        clear A230
        have H':=Aside0.mk H
        clear H
        have p781 : 0 ≤ (x10_3 : Int):=of_decide_eq_true (by first|(with_reducible assumption)|assumption)
        have q781 : x10_3 < (l1.length : Int):=of_decide_eq_true (by first|(with_reducible assumption)|assumption)
        obtain ⟨ad781,e781,hx781_0,hx781_1⟩:=at_T57 HR1.out x10_3 p781 q781
        cases e781
        replace hx781_0:=(HB.out.cell (World.block_lt_of_cell? w _ hx781_0)).trans hx781_0
        replace hx781_1:=(HB.out.cell (World.block_lt_of_cell? w _ hx781_1)).trans hx781_1
        replace p781:=eq_true p781
        replace q781:=eq_true q781
        go_wp2_with (first|((with_reducible refine gate_callee (f:=31) rfl ?_);refine goesL_ (some 73) rfl rfl Tryz.func31 (by kernel_rfl) rfl #[.slice A0 l0.length c0,.string ((rd_T57 l1 x10_3).f0)] rfl (by (try simp only [List.map_toArray,List.map_cons,List.map_nil]);first|done|rfl|(simp only [List.length_drop,List.length_take];rfl)) ?_;(with_reducible refine (bursarref03_Of.calls k3 _ _ l0 ((rd_T57 l1 x10_3).f0) t782 false _ ?side1 ?side2 A20.out).mono ?_);(case side1 => repeat (first|exact (Kd.C_below HR0.out HB.out)|(with_reducible refine Kd.C_alloc ?_ _)|(with_reducible refine Kd.C_drewN ?_ _)|(with_reducible refine Kd.C_drew ?_)));(case side2 => exact HC0.out);rintro e w' ⟨rfl,⟨nd,rfl⟩⟩;refine ⟨_,rfl,?_⟩;have p784 : 0 ≤ (x10_3 : Int):=of_decide_eq_true (by first|(with_reducible assumption)|assumption);have q784 : x10_3 < (l1.length : Int):=of_decide_eq_true (by first|(with_reducible assumption)|assumption);obtain ⟨ad784,e784,hx784_0,hx784_1⟩:=at_T57 HR1.out x10_3 p784 q784;obtain rfl : ad781 = ad784:=(by injection e784);replace hx784_0:=(HB.out.cell (World.block_lt_of_cell? w _ hx784_0)).trans hx784_0;replace hx784_1:=(HB.out.cell (World.block_lt_of_cell? w _ hx784_1)).trans hx784_1;replace p784:=eq_true p784;replace q784:=eq_true q784;have p785 : 0 ≤ (x10_3 : Int):=of_decide_eq_true (by first|(with_reducible assumption)|assumption);have q785 : x10_3 < (l1.length : Int):=of_decide_eq_true (by first|(with_reducible assumption)|assumption);obtain ⟨ad785,e785,hx785_0,hx785_1⟩:=at_T57 HR1.out x10_3 p785 q785;obtain rfl : ad781 = ad785:=(by injection e785);replace hx785_0:=(HB.out.cell (World.block_lt_of_cell? w _ hx785_0)).trans hx785_0;replace hx785_1:=(HB.out.cell (World.block_lt_of_cell? w _ hx785_1)).trans hx785_1;replace p785:=eq_true p785;replace q785:=eq_true q785;obtain ⟨Ao24,co24,eo24⟩:=Kd.R_slice HO_6.out;subst eo24)|((with_reducible refine gate_callee (f:=76) rfl ?_);refine goesL_ (some 90) rfl rfl Tryz.func76 (by kernel_rfl) rfl #[.slice Ao24 x6_3.length co24,.agg #[.string ((rd_T57 l1 x10_3).f0),.int .i64 0]] rfl (by (try simp only [List.map_toArray,List.map_cons,List.map_nil]);first|done|rfl|(simp only [List.length_drop,List.length_take];rfl)) ?_;(with_reducible refine (bursarref03_placed.calls k3 _ _ x6_3 ((rd_T57 l1 x10_3).f0) 0 t786 _ ?side1 ?side2 A23.out).mono ?_);(case side1 => repeat (first|exact (Kd.R_reads' HO_6.out).2.2|(with_reducible refine Kd.C_alloc ?_ _)|(with_reducible refine Kd.C_drewN ?_ _)|(with_reducible refine Kd.C_drew ?_)));(case side2 => exact (Kd.R_reads' HO_6.out).2.1);rintro e w25 ⟨v787,rfl,ho0,hb⟩;refine ⟨_,rfl,?_⟩;have n0_:=Aside0.mk (Kd.R_elder' (by (with_reducible repeat (first|apply Kd.R_alloc|apply Kd.R_drewN|apply Kd.R_drew));exact HO_6.out) (Kd.R_base ho0) hb);have n1_:=Aside0.mk (Kd.R_lower (Kd.R_new' ho0 (Kd.R_lt (by (with_reducible repeat (first|apply Kd.R_alloc|apply Kd.R_drewN|apply Kd.R_drew));exact HO_6.out))) (below_size (by repeat (first|(with_reducible first|exact HB.out|apply below_alloc|apply pw_below_drewN|apply below_drew1)|exact HB.out))));have n2_:=Aside0.mk (below_step (by repeat (first|(with_reducible first|exact HB.out|apply below_alloc|apply pw_below_drewN|apply below_drew1)|exact HB.out)) hb);clear HO_6;clear HB;have HO_6:=n0_;have HO788:=n1_;have HB:=n2_;clear n0_ n1_ n2_;(try clear hb);(try clear hb2);(try clear hk);(try clear hi);(try clear ho0)))
        go_roundg k3
        case measure => have:=HJ2.out;have:=HK2.out;have:=HK3.out;omega
        case rel => exact ⟨(t786),(wrap64 (x10_3 + 1)),(by first|rfl|(simp;done)|(simp [*];done)|(simp;rw [Bool.eq_iff_iff];simp;done)|(rw [Bool.eq_iff_iff];simp;done)),H',⟨by have:=HJ2.out;have:=HK2.out;have:=HK3.out;omega⟩,⟨by (with_reducible repeat (first|apply Kd.R_alloc|apply Kd.R_drewN|apply Kd.R_drew));exact Kd.R_mono HO788.out (fun _ hk => trivial)⟩,⟨by repeat (first|(with_reducible first|exact HB.out|apply below_alloc|apply pw_below_drewN|apply below_drew1)|exact HB.out)⟩⟩
     rw [if_pos c11] at H
     have c11b0 : decide (x7_2 < (l0.length : Int)) = true:=decide_eq_true c11
     clear c11
     by_cases c12 : 0 ≤ x7_2
     rotate_left
     ·rw [if_neg c12] at H
      exact absurd H (by simp)
     rw [if_pos c12] at H
     have c12b0 : decide (0 ≤ x7_2) = true:=decide_eq_true c12
     clear c12
     replace H:=Option.bind_eq_some_iff.mp H
     obtain ⟨⟨t773,t774⟩,A130,H⟩:=H
     replace H : (if ((rd_T57 l0 x7_2).f1) < t773 then (some (([] : List (S57)),1)) else (if x6_2.length < 5864062014805 then (bursarref03_Minus.l0 k2 l0 l1 (x6_2 ++ [(⟨(rd_T57 l0 x7_2).f0,wrap64 (((rd_T57 l0 x7_2).f1) - t773)⟩ : S57)]) (wrap64 (x7_2 + 1))) else (none))) = some (r1,r2):=H
     have A13:=Aside0.mk A130
     clear A130
     by_cases c14 : ((rd_T57 l0 x7_2).f1) < t773
     ·rw [if_pos c14] at H
      have c14b0 : decide (((rd_T57 l0 x7_2).f1) < t773) = true:=decide_eq_true c14
      clear c14
      simp only [Option.some.injEq,Prod.mk.injEq] at H
      obtain ⟨rfl,rfl⟩:=H
      have p772 : 0 ≤ (x7_2 : Int):=of_decide_eq_true (by first|(with_reducible assumption)|assumption)
      have q772 : x7_2 < (l0.length : Int):=of_decide_eq_true (by first|(with_reducible assumption)|assumption)
      obtain ⟨ad772,e772,hx772_0,hx772_1⟩:=at_T57 HR0.out x7_2 p772 q772
      cases e772
      replace hx772_0:=(HB.out.cell (World.block_lt_of_cell? w _ hx772_0)).trans hx772_0
      replace hx772_1:=(HB.out.cell (World.block_lt_of_cell? w _ hx772_1)).trans hx772_1
      replace p772:=eq_true p772
      replace q772:=eq_true q772
      go_wp2_with (first|((with_reducible refine gate_callee (f:=31) rfl ?_);refine goesL_ (some 34) rfl rfl Tryz.func31 (by kernel_rfl) rfl #[.slice A1 l1.length c1,.string ((rd_T57 l0 x7_2).f0)] rfl (by (try simp only [List.map_toArray,List.map_cons,List.map_nil]);first|done|rfl|(simp only [List.length_drop,List.length_take];rfl)) ?_;(with_reducible refine (bursarref03_Of.calls k2 _ _ l1 ((rd_T57 l0 x7_2).f0) t773 t774 _ ?side1 ?side2 A13.out).mono ?_);(case side1 => repeat (first|exact (Kd.C_below HR1.out HB.out)|(with_reducible refine Kd.C_alloc ?_ _)|(with_reducible refine Kd.C_drewN ?_ _)|(with_reducible refine Kd.C_drew ?_)));(case side2 => exact HC1.out);rintro e w' ⟨rfl,⟨nd,rfl⟩⟩;refine ⟨_,rfl,?_⟩;have p775 : 0 ≤ (x7_2 : Int):=of_decide_eq_true (by first|(with_reducible assumption)|assumption);have q775 : x7_2 < (l0.length : Int):=of_decide_eq_true (by first|(with_reducible assumption)|assumption);obtain ⟨ad775,e775,hx775_0,hx775_1⟩:=at_T57 HR0.out x7_2 p775 q775;obtain rfl : ad772 = ad775:=(by injection e775);replace hx775_0:=(HB.out.cell (World.block_lt_of_cell? w _ hx775_0)).trans hx775_0;replace hx775_1:=(HB.out.cell (World.block_lt_of_cell? w _ hx775_1)).trans hx775_1;replace p775:=eq_true p775;replace q775:=eq_true q775))
      go_ret2
      exact ⟨_,by first|rfl|(simp [errW_none,errW_some] <;> rfl)|(simp [*,errW_none,errW_some] <;> rfl),by first|exact Kd.R_nil _ _ _ _ _|exact Kd.N_nil _ _ _ _ _|exact Kd.V_nil _ _ _ _ _|exact Kd.Q_nil _ _ _ _ _|exact Kd.S_nil _ _ _ _ _,by repeat (first|(with_reducible first|exact HB.out|apply below_alloc|apply pw_below_drewN|apply below_drew1)|exact HB.out)⟩
     rw [if_neg c14] at H
     have c14b0 : decide (((rd_T57 l0 x7_2).f1) < t773) = false:=decide_eq_false c14
     clear c14
     by_cases c15 : x6_2.length < 5864062014805
     rotate_left
     ·rw [if_neg c15] at H
      exact absurd H (by simp)
     rw [if_pos c15] at H
     have LMc15:=Aside0.mk c15
     clear c15
     obtain ⟨y778,hy778⟩ : ∃ y_ : List (S57),y_ = (x6_2 ++ [(⟨(rd_T57 l0 x7_2).f0,wrap64 (((rd_T57 l0 x7_2).f1) - t773)⟩ : S57)]):=⟨_,rfl⟩
     replace H : (bursarref03_Minus.l0 k2 l0 l1 y778 (wrap64 (x7_2 + 1))) = some (r1,r2):=by first|(rw [hy778];with_reducible exact H)|(have H2_:=(Option.bind_some _ _).symm.trans H;rw [hy778];with_reducible exact H2_)|(have H2_:=(Option.bind_some _ _).symm.trans H;with_reducible exact H2_)|with_reducible exact H|(rw [hy778];exact H)|exact H
     have Ny778:=Aside0.mk hy778
     clear hy778
     have H':=Aside0.mk H
     clear H
     have p772 : 0 ≤ (x7_2 : Int):=of_decide_eq_true (by first|(with_reducible assumption)|assumption)
     have q772 : x7_2 < (l0.length : Int):=of_decide_eq_true (by first|(with_reducible assumption)|assumption)
     obtain ⟨ad772,e772,hx772_0,hx772_1⟩:=at_T57 HR0.out x7_2 p772 q772
     cases e772
     replace hx772_0:=(HB.out.cell (World.block_lt_of_cell? w _ hx772_0)).trans hx772_0
     replace hx772_1:=(HB.out.cell (World.block_lt_of_cell? w _ hx772_1)).trans hx772_1
     replace p772:=eq_true p772
     replace q772:=eq_true q772
     try go_wp2_with (first|((with_reducible refine gate_callee (f:=31) rfl ?_);refine goesL_ (some 34) rfl rfl Tryz.func31 (by kernel_rfl) rfl #[.slice A1 l1.length c1,.string ((rd_T57 l0 x7_2).f0)] rfl (by (try simp only [List.map_toArray,List.map_cons,List.map_nil]);first|done|rfl|(simp only [List.length_drop,List.length_take];rfl)) ?_;(with_reducible refine (bursarref03_Of.calls k2 _ _ l1 ((rd_T57 l0 x7_2).f0) t773 t774 _ ?side1 ?side2 A13.out).mono ?_);(case side1 => repeat (first|exact (Kd.C_below HR1.out HB.out)|(with_reducible refine Kd.C_alloc ?_ _)|(with_reducible refine Kd.C_drewN ?_ _)|(with_reducible refine Kd.C_drew ?_)));(case side2 => exact HC1.out);rintro e w' ⟨rfl,⟨nd,rfl⟩⟩;refine ⟨_,rfl,?_⟩;have p775 : 0 ≤ (x7_2 : Int):=of_decide_eq_true (by first|(with_reducible assumption)|assumption);have q775 : x7_2 < (l0.length : Int):=of_decide_eq_true (by first|(with_reducible assumption)|assumption);obtain ⟨ad775,e775,hx775_0,hx775_1⟩:=at_T57 HR0.out x7_2 p775 q775;obtain rfl : ad772 = ad775:=(by injection e775);replace hx775_0:=(HB.out.cell (World.block_lt_of_cell? w _ hx775_0)).trans hx775_0;replace hx775_1:=(HB.out.cell (World.block_lt_of_cell? w _ hx775_1)).trans hx775_1;replace p775:=eq_true p775;replace q775:=eq_true q775))
     (try (rw [drewN_self wr];generalize hq_ : World.drewN wr _ = wr;have n0_ : Aside0 (Kd.R k57 57 wr w.heap.size (fun _ => True) u6 x6_2):=⟨by rw [← hq_];exact (by (with_reducible repeat (first|apply Kd.R_alloc|apply Kd.R_drewN|apply Kd.R_drew));exact HO_6.out)⟩;have n1_ : Aside0 (Below w.heap.size w wr):=⟨by rw [← hq_];exact (by repeat (first|(with_reducible first|exact HB.out|apply below_alloc|apply pw_below_drewN|apply below_drew1)|exact HB.out))⟩;clear HO_6 HB hq_;have HO_6:=n0_;have HB:=n1_;clear n0_ n1_))
     have n0_:=Aside0.mk (Kd.R_drew HO_6.out)
     have n1_:=Aside0.mk (below_drew1 HB.out)
     clear HO_6;clear HB;have HO_6:=n0_;have HB:=n1_;clear n0_ n1_
     have p776 : 0 ≤ (x7_2 : Int):=of_decide_eq_true (by first|(with_reducible assumption)|assumption)
     have q776 : x7_2 < (l0.length : Int):=of_decide_eq_true (by first|(with_reducible assumption)|assumption)
     obtain ⟨ad776,e776,hx776_0,hx776_1⟩:=at_T57 HR0.out x7_2 p776 q776
     have hw776_1:=hx776_1;have hw776_0:=hx776_0
     obtain rfl : ad772 = ad776:=(by injection e776)
     replace hx776_0:=(HB.out.cell (World.block_lt_of_cell? w _ hx776_0)).trans hx776_0
     replace hx776_1:=(HB.out.cell (World.block_lt_of_cell? w _ hx776_1)).trans hx776_1
     replace p776:=eq_true p776
     replace q776:=eq_true q776
     have p777 : 0 ≤ (x7_2 : Int):=of_decide_eq_true (by first|(with_reducible assumption)|assumption)
     have q777 : x7_2 < (l0.length : Int):=of_decide_eq_true (by first|(with_reducible assumption)|assumption)
     obtain ⟨ad777,e777,hx777_0,hx777_1⟩:=at_T57 HR0.out x7_2 p777 q777
     have hw777_1:=hx777_1;have hw777_0:=hx777_0
     obtain rfl : ad772 = ad777:=(by injection e777)
     replace hx777_0:=(HB.out.cell (World.block_lt_of_cell? w _ hx777_0)).trans hx777_0
     replace hx777_1:=(HB.out.cell (World.block_lt_of_cell? w _ hx777_1)).trans hx777_1
     replace p777:=eq_true p777
     replace q777:=eq_true q777
     refine start_ (n:=17) (S:=fun w' => w'.cell? (ad772.add ((x7_2).toNat * 2)) = some (.string ((rd_T57 l0 x7_2).f0)) ∧ w'.cell? ⟨(ad772.add ((x7_2).toNat * 2)).block,(ad772.add ((x7_2).toNat * 2)).off + 1,none⟩ = some (.int .i64 ((rd_T57 l0 x7_2).f1)) ∧ w'.cell? (ad772.add ((x7_2).toNat * 2)) = some (.string ((rd_T57 l0 x7_2).f0)) ∧ w'.cell? ⟨(ad772.add ((x7_2).toNat * 2)).block,(ad772.add ((x7_2).toNat * 2)).off + 1,none⟩ = some (.int .i64 ((rd_T57 l0 x7_2).f1))) (ds:=[]) #[false,false,false,false,false,false,false,false,false,false,false,false,false,false,false,false,false] (by kernel_rfl) rfl rfl ⟨((HB.out.cell (World.block_lt_of_cell? w _ hw776_0)).trans hw776_0),((HB.out.cell (World.block_lt_of_cell? w _ hw776_1)).trans hw776_1),((HB.out.cell (World.block_lt_of_cell? w _ hw777_0)).trans hw777_0),((HB.out.cell (World.block_lt_of_cell? w _ hw777_1)).trans hw777_1)⟩ (fun hHeld => ?_);refine with_tabW bursarref03_Minus.tab10 bursarref03_Minus.bits10 (fun HT_ HW_ => ?_)
     generalize wr.drew = w16 at HO_6 HB hx776_0 hx776_1 hx777_0 hx777_1 hHeld ⊢
     refine pure_ (i:=0) (N:=some 44) (v:=?_) (a':=?_) #[true,false,false,false,false,false,false,false,false,false,false,false,false,false,false,false,false] rfl rfl (any_of HT_.out (by kernel_rfl)) (fun _ _ _ h => h) (Or.inl ⟨by rfl,?_⟩) ?_ ?_
     rotate_left;·intro w';go_simp;with_reducible rfl
     rotate_left;·simp only [pu_];rfl
     refine pure_ (i:=1) (N:=some 45) (v:=?_) (a':=?_) #[true,true,false,false,false,false,false,false,false,false,false,false,false,false,false,false,false] rfl rfl (any_of HT_.out (by kernel_rfl)) (fun _ _ _ h => h) (Or.inl ⟨by rfl,?_⟩) ?_ ?_
     rotate_left;·intro w';go_simp;with_reducible rfl
     rotate_left;·simp only [pu_];rfl
     refine pure_ (i:=2) (N:=some 46) (v:=?_) (a':=?_) #[true,true,true,false,false,false,false,false,false,false,false,false,false,false,false,false,false] rfl rfl (any_of HT_.out (by kernel_rfl)) (fun _ _ _ h => h) (Or.inl ⟨by rfl,?_⟩) ?_ ?_
     rotate_left;·intro w';go_simp;with_reducible rfl
     rotate_left;·simp only [pu_];rfl
     refine pure_ (i:=3) (N:=some 47) (v:=?_) (a':=?_) #[true,true,true,true,false,false,false,false,false,false,false,false,false,false,false,false,false] rfl rfl (any_of HT_.out (by kernel_rfl)) (fun _ _ _ h => h) (Or.inl ⟨by rfl,?_⟩) ?_ ?_
     rotate_left;·intro w';go_simp;with_reducible rfl
     rotate_left;·simp only [pu_];rfl
     refine pure_ (i:=4) (N:=some 48) (v:=?_) (a':=?_) #[true,true,true,true,true,false,false,false,false,false,false,false,false,false,false,false,false] rfl rfl (any_of HT_.out (by kernel_rfl)) (fun _ _ _ h => h) (Or.inl ⟨by rfl,?_⟩) ?_ ?_
     rotate_left;·intro w';go_simp;with_reducible rfl
     rotate_left;·simp only [pu_];rfl
     refine pure_ (i:=6) (N:=some 50) (v:=?_) (a':=?_) #[true,true,true,true,true,false,true,false,false,false,false,false,false,false,false,false,false] rfl rfl (any_of HT_.out (by kernel_rfl)) (fun _ _ _ h => h) (Or.inl ⟨by rfl,?_⟩) ?_ ?_
     rotate_left;·intro w';go_simp;with_reducible rfl
     rotate_left;·simp only [pu_];rfl
     refine pure_ (i:=7) (N:=some 51) (v:=?_) (a':=?_) #[true,true,true,true,true,false,true,true,false,false,false,false,false,false,false,false,false] rfl rfl (any_of HT_.out (by kernel_rfl)) (fun _ _ _ h => h) (Or.inl ⟨by rfl,?_⟩) ?_ ?_
     rotate_left;·intro w';go_simp;with_reducible rfl
     rotate_left;·simp only [pu_];rfl
     refine pure_ (i:=8) (N:=some 52) (v:=?_) (a':=?_) #[true,true,true,true,true,false,true,true,true,false,false,false,false,false,false,false,false] rfl rfl (any_of HT_.out (by kernel_rfl)) (fun _ _ _ h => h) (Or.inl ⟨by rfl,?_⟩) ?_ ?_
     rotate_left;·intro w';go_simp;with_reducible rfl
     rotate_left;·simp only [pu_];rfl
     refine pure_ (i:=9) (N:=some 53) (v:=?_) (a':=?_) #[true,true,true,true,true,false,true,true,true,true,false,false,false,false,false,false,false] rfl rfl (any_of HT_.out (by kernel_rfl)) (fun _ _ _ h => h) (Or.inl ⟨by rfl,?_⟩) ?_ ?_
     rotate_left;·intro w';go_simp;with_reducible rfl
     rotate_left;·simp only [pu_];rfl
     refine pure_ (i:=11) (N:=some 55) (v:=?_) (a':=?_) #[true,true,true,true,true,false,true,true,true,true,false,true,false,false,false,false,false] rfl rfl (any_of HT_.out (by kernel_rfl)) (fun _ _ _ h => h) (Or.inl ⟨by rfl,?_⟩) ?_ ?_
     rotate_left;·intro w';go_simp;with_reducible rfl
     rotate_left;·simp only [pu_];rfl
     refine take_ (i:=5) (N:=some 49) (v:=?_) (a':=?_) #[true,true,true,true,true,true,true,true,true,true,false,true,false,false,false,false,false] rfl rfl (take_ofW HT_.out HW_.out (by kernel_rfl)) (fun _ _ _ h => h) (Or.inl ⟨by rfl,?_⟩) hHeld ?_ ?_
     rotate_left
     ·rintro w' ⟨s0,s1,s2,s3⟩
      go_simp
      with_reducible rfl
     rotate_left
     ·simp only [pu_]
      rfl
     refine take_ (i:=10) (N:=some 54) (v:=?_) (a':=?_) #[true,true,true,true,true,true,true,true,true,true,true,true,false,false,false,false,false] rfl rfl (take_ofW HT_.out HW_.out (by kernel_rfl)) (fun _ _ _ h => h) (Or.inl ⟨by rfl,?_⟩) hHeld ?_ ?_
     rotate_left
     ·rintro w' ⟨s0,s1,s2,s3⟩
      go_simp
      with_reducible rfl
     rotate_left
     ·simp only [pu_]
      rfl
     refine pure_ (i:=12) (N:=some 56) (v:=?_) (a':=?_) #[true,true,true,true,true,true,true,true,true,true,true,true,true,false,false,false,false] rfl rfl (any_of HT_.out (by kernel_rfl)) (fun _ _ _ h => h) (Or.inl ⟨by rfl,?_⟩) ?_ ?_
     rotate_left;·intro w';go_simp;with_reducible rfl
     rotate_left;·simp only [pu_];rfl
     refine pure_ (i:=13) (N:=some 57) (v:=?_) (a':=?_) #[true,true,true,true,true,true,true,true,true,true,true,true,true,true,false,false,false] rfl rfl (any_of HT_.out (by kernel_rfl)) (fun _ _ _ h => h) (Or.inl ⟨by rfl,?_⟩) ?_ ?_
     rotate_left;·intro w';go_simp;with_reducible rfl
     rotate_left;·simp only [pu_];rfl
     refine one_ (i:=14) (N:=some 58) #[true,true,true,true,true,true,true,true,true,true,true,true,true,true,true,false,false] rfl rfl (one_of HT_.out (by kernel_rfl)) (by decide) (fun K hK => ?_)
     refine value_ (w1:=?_) (v:=?_) (by rfl) rfl ?_ ?_
     rotate_left 2
     ·go_simp
      constructor
      ·rfl
      ·rfl
     refine hK.out _ _ ⟨(World.cell?_alloc_lt _ _ _ (World.block_lt_of_cell? _ _ (((HB.out.cell (World.block_lt_of_cell? w _ hw776_0)).trans hw776_0)))).trans (((HB.out.cell (World.block_lt_of_cell? w _ hw776_0)).trans hw776_0)),(World.cell?_alloc_lt _ _ _ (World.block_lt_of_cell? _ _ (((HB.out.cell (World.block_lt_of_cell? w _ hw776_1)).trans hw776_1)))).trans (((HB.out.cell (World.block_lt_of_cell? w _ hw776_1)).trans hw776_1)),(World.cell?_alloc_lt _ _ _ (World.block_lt_of_cell? _ _ (((HB.out.cell (World.block_lt_of_cell? w _ hw777_0)).trans hw777_0)))).trans (((HB.out.cell (World.block_lt_of_cell? w _ hw777_0)).trans hw777_0)),(World.cell?_alloc_lt _ _ _ (World.block_lt_of_cell? _ _ (((HB.out.cell (World.block_lt_of_cell? w _ hw777_1)).trans hw777_1)))).trans (((HB.out.cell (World.block_lt_of_cell? w _ hw777_1)).trans hw777_1))⟩ (fun hHeld => ?_)
     clear hK K
     refine norm_ (a':=?_) ?_ ?_
     rotate_left
     ·show Act.put _ (some 58) _ = _
      simp only [pu_]
      rfl
     refine one_ (i:=15) (N:=some 59) #[true,true,true,true,true,true,true,true,true,true,true,true,true,true,true,true,false] rfl rfl (one_of HT_.out (by kernel_rfl)) (by decide) (fun K hK => ?_)
     refine Kd.R_append_step k57 (w0:=w) w.heap.size (by rfl) (.tmp 44) (.tmp 58) 46 57 (.agg #[(.string ⟨#[]⟩),(.int .i64 0)]) 24 rfl Tryz.underlying46 info57 rfl (by decide) (by omega) u6 x6_2 (⟨(rd_T57 l0 x7_2).f0,wrap64 (((rd_T57 l0 x7_2).f1) - t773)⟩ : S57) [.string ((rd_T57 l0 x7_2).f0),.int .i64 (wrap64 (((rd_T57 l0 x7_2).f1) - t773))] (fun _ => True) (fun _ => False) rfl rfl ?aP (fun _ hk => hk.elim) ?aF ?aO ?aB ?aS ?aL ?_
     (case aP => exact k57_mkM _ _ _ (⟨(rd_T57 l0 x7_2).f0,wrap64 (((rd_T57 l0 x7_2).f1) - t773)⟩ : S57))
     (case aB => exact (by repeat (first|(with_reducible first|exact HB.out|apply below_alloc|apply pw_below_drewN|apply below_drew1)|exact HB.out)))
     (case aF => exact (fun _ _ => trivial))
     (case aO => exact (by (with_reducible repeat (first|apply Kd.R_alloc|apply Kd.R_drewN|apply Kd.R_drew));exact HO_6.out))
     (case aS => exact (below_size (by repeat (first|(with_reducible first|exact HB.out|apply below_alloc|apply pw_below_drewN|apply below_drew1)|exact HB.out))))
     (case aL => have:=LMc15.out;omega)
     intro v779 w17 ho hb hg hat
     rw [← Ny778.out] at ho
     have n0_:=Aside0.mk (hb)
     have n1_:=Aside0.mk (ho)
     clear HB;clear HO_6;have HB:=n0_;have HO780:=n1_;clear n0_ n1_;clear ho hb hg hat
     refine hK.out _ _ ⟨((HB.out.cell (World.block_lt_of_cell? w _ hw776_0)).trans hw776_0),((HB.out.cell (World.block_lt_of_cell? w _ hw776_1)).trans hw776_1),((HB.out.cell (World.block_lt_of_cell? w _ hw777_0)).trans hw777_0),((HB.out.cell (World.block_lt_of_cell? w _ hw777_1)).trans hw777_1)⟩ (fun hHeld => ?_)
     clear hK K
     refine norm_ (a':=?_) ?_ ?_
     rotate_left
     ·show Act.put _ (some 59) _ = _
      simp only [pu_]
      rfl
     refine pure_ (i:=16) (N:=some 6) (v:=?_) (a':=?_) #[true,true,true,true,true,true,true,true,true,true,true,true,true,true,true,true,true] rfl rfl (any_of HT_.out (by kernel_rfl)) (fun _ _ _ h => h) (Or.inl ⟨by rfl,?_⟩) ?_ ?_
     rotate_left;·intro w';go_simp;with_reducible rfl
     rotate_left;·simp only [pu_];rfl
     refine done_ (done_of HT_.out (by kernel_rfl)) ?_
     try go_wp2
     go_roundg k2
     case measure => have:=HJ2.out;have:=HK2.out;omega
     case rel => exact ⟨(y778),(wrap64 (x7_2 + 1)),(by first|rfl|(simp;done)|(simp [*];done)|(simp;rw [Bool.eq_iff_iff];simp;done)|(rw [Bool.eq_iff_iff];simp;done)),H',⟨by have:=HJ2.out;have:=HK2.out;omega⟩,⟨by (with_reducible repeat (first|apply Kd.R_alloc|apply Kd.R_drewN|apply Kd.R_drew));exact HO780.out⟩,⟨by repeat (first|(with_reducible first|exact HB.out|apply below_alloc|apply pw_below_drewN|apply below_drew1)|exact HB.out)⟩⟩
end Go.Proofs.YtejgbdclhlolkaaGreatDoor.Q
namespace Go.Proofs.YtejgbdclhlolkaaGreatDoor.Q
open Go.RowKit Go.Proofs.YtejgbdclhlolkaaGreatDoorW.PrintWords Go.Proofs.YtejgbdclhlolkaaGreatDoorW.PrintLast Go.Proofs.YtejgbdclhlolkaaGreatDoorW.PrintMore
attribute [local go_sem] max2_int min2_int max_two min_two max_three min_three max_four min_four   -- for this text's walks alone
set_option linter.unusedVariables false
set_option linter.unusedSimpArgs false
mutual
def bursarref03_Within.j0 : Nat → List (S57) → List (S57) → Bool → Option (ByteArray × Int)
|0,_,_,_ => none
|k + 1,x0,x1,x16 => if x16 = true then (some ((⟨#[]⟩ : ByteArray),31)) else (bursarref03_Within.l0 k x0 x1 0)
def bursarref03_Within.l0 : Nat → List (S57) → List (S57) → Int → Option (ByteArray × Int)
|0,_,_,_ => none
|k + 1,x0,x1,x6 => if x6 < (x1.length : Int) then (if 0 ≤ x6 then ((bursarref03_Of.f k x0 ((rd_T57 x1 x6).f0)).bind fun bt792 => (if ((rd_T57 x1 x6).f1) < bt792.1 then (some ((rd_T57 x1 x6).f0,0)) else (bursarref03_Within.l0 k x0 x1 (wrap64 (x6 + 1))))) else (none)) else (some ((⟨#[]⟩ : ByteArray),0))
end
def bursarref03_Within.f (k : Nat) (l0 : List (S57)) (l1 : List (S57)) : Option (ByteArray × Int) := (bursarref03_Valid.f k l0).bind fun t789 => (if t789 = 0 then ((bursarref03_Valid.f k l1).bind fun t790 => (bursarref03_Within.j0 k l0 l1 (t790 != 0))) else (bursarref03_Within.j0 k l0 l1 true))
theorem bursarref03_Within.mono_l : ∀ k, (∀ y0 y1 y2, LeO (bursarref03_Within.j0 k y0 y1 y2) (bursarref03_Within.j0 (k + 1) y0 y1 y2)) ∧ (∀ y0 y1 y2, LeO (bursarref03_Within.l0 k y0 y1 y2) (bursarref03_Within.l0 (k + 1) y0 y1 y2))
|0 => ⟨fun _ _ _ r h => by simp [bursarref03_Within.j0] at h,fun _ _ _ r h => by simp [bursarref03_Within.l0] at h⟩
|k + 1 => by
  obtain ⟨ih0,ih1⟩:=bursarref03_Within.mono_l k
  refine ⟨?_,?_⟩
  ·intro y0 y1 y2
   unfold bursarref03_Within.j0
   repeat' first
  |(with_reducible exact ih0 _ _ _)
  |(with_reducible exact ih1 _ _ _)
  |(with_reducible exact bursarref03_Of.mono _ _ _)
  |(with_reducible exact bursarref03_Valid.mono _ _)
  |(with_reducible exact LeO.refl _)
  |(with_reducible exact LeO.none _)
  |(with_reducible refine LeO.ite ?_ ?_)
  |(with_reducible refine LeO.bind ?_ (fun _ => ?_))
  |exact ih0 _ _ _
  |exact ih1 _ _ _
  |exact bursarref03_Of.mono _ _ _
  |exact bursarref03_Valid.mono _ _
  |exact LeO.none _
  |refine LeO.ite ?_ ?_
  |refine LeO.bind ?_ (fun _ => ?_)
  ·intro y0 y1 y2
   unfold bursarref03_Within.l0
   repeat' first
  |(with_reducible exact ih0 _ _ _)
  |(with_reducible exact ih1 _ _ _)
  |(with_reducible exact bursarref03_Of.mono _ _ _)
  |(with_reducible exact bursarref03_Valid.mono _ _)
  |(with_reducible exact LeO.refl _)
  |(with_reducible exact LeO.none _)
  |(with_reducible refine LeO.ite ?_ ?_)
  |(with_reducible refine LeO.bind ?_ (fun _ => ?_))
  |exact ih0 _ _ _
  |exact ih1 _ _ _
  |exact bursarref03_Of.mono _ _ _
  |exact bursarref03_Valid.mono _ _
  |exact LeO.none _
  |refine LeO.ite ?_ ?_
  |refine LeO.bind ?_ (fun _ => ?_)
theorem bursarref03_Within.mono : ∀ a0 a1 k, LeO (bursarref03_Within.f k a0 a1) (bursarref03_Within.f (k + 1) a0 a1) := by
 intro a0 a1 k
 obtain ⟨ih0,ih1⟩:=bursarref03_Within.mono_l k
 unfold bursarref03_Within.f
 repeat' first
  |(with_reducible exact ih0 _ _ _)
  |(with_reducible exact ih1 _ _ _)
  |(with_reducible exact bursarref03_Of.mono _ _ _)
  |(with_reducible exact bursarref03_Valid.mono _ _)
  |(with_reducible exact LeO.refl _)
  |(with_reducible exact LeO.none _)
  |(with_reducible refine LeO.ite ?_ ?_)
  |(with_reducible refine LeO.bind ?_ (fun _ => ?_))
  |exact ih0 _ _ _
  |exact ih1 _ _ _
  |exact bursarref03_Of.mono _ _ _
  |exact bursarref03_Valid.mono _ _
  |exact LeO.none _
  |refine LeO.ite ?_ ?_
  |refine LeO.bind ?_ (fun _ => ?_)
set_option maxHeartbeats 8000000 in
set_option maxRecDepth 100000 in
theorem bursarref03_Within.calls (k : Nat) (A0 : Option Addr) (c0 : Nat) (l0 : List (S57)) (A1 : Option Addr) (c1 : Nat) (l1 : List (S57)) (r1 : ByteArray) (r2 : Int) (w : World) (hr0 : Kd.C k57 w A0 l0.length l0) (hc0 : l0.length ≤ c0) (hr1 : Kd.C k57 w A1 l1.length l1) (hc1 : l1.length ≤ c1) (h : bursarref03_Within.f k l0 l1 = some (r1, r2)) :
  Calls Tryz.prog 49 #[.slice A0 l0.length c0,.slice A1 l1.length c1] w fun e w' => e = .returned (.tuple #[.string r1,.int .i64 r2]) ∧ Below w.heap.size w w':=by
 have HR0:=Aside0.mk hr0
 have HC0:=Aside0.mk hc0
 clear hr0 hc0
 have HR1:=Aside0.mk hr1
 have HC1:=Aside0.mk hc1
 clear hr1 hc1
 have HB:=Aside0.mk (Below.refl w.heap.size w)
 have H : ((bursarref03_Valid.f k l0).bind fun t789 => (if t789 = 0 then ((bursarref03_Valid.f k l1).bind fun t790 => (bursarref03_Within.j0 k l0 l1 (t790 != 0))) else (bursarref03_Within.j0 k l0 l1 true))) = some (r1,r2):=h
 clear h
 have HC3:=Aside0.mk H
 clear H
 go_enter Tryz.func49,Tryz.ntmps49
 go_upto_region 1 with (fail)
 go_cut [16] (fun v16 wc => ∃ (kq : Nat) (x16_2 : Bool),v16 = .bool x16_2 ∧ Aside0 (bursarref03_Within.j0 kq l0 l1 x16_2 = some (r1,r2)) ∧ Aside0 (kq ≤ k) ∧ Aside0 (Below w.heap.size w wc))
 case first =>
  have H:=HC3.out
  clear HC3
  replace H:=Option.bind_eq_some_iff.mp H
  obtain ⟨t789,A40,H⟩:=H
  replace H : (if t789 = 0 then ((bursarref03_Valid.f k l1).bind fun t790 => (bursarref03_Within.j0 k l0 l1 (t790 != 0))) else (bursarref03_Within.j0 k l0 l1 true)) = some (r1,r2):=H
  have A4:=Aside0.mk A40
  clear A40
  by_cases c5 : t789 = 0
  rotate_left
  ·rw [if_neg c5] at H
   have c5b0 : (t789 == 0) = false:=beq_eq_false_iff_ne.mpr c5
   have c5b1 : (t789 != 0) = true:=bne_iff_ne.mpr c5
   (first|rw [c5b0]|(simp only [i64_w,i32_w];rw [c5b0])|skip)
   have H':=Aside0.mk H
   clear H
   go_wp2_with (first|((with_reducible refine gate_callee (f:=45) rfl ?_);refine goesL_ (some 10) rfl rfl Tryz.func45 (by kernel_rfl) rfl #[.slice A0 l0.length c0] rfl (by (try simp only [List.map_toArray,List.map_cons,List.map_nil]);first|done|rfl|(simp only [List.length_drop,List.length_take];rfl)) ?_;(with_reducible refine (bursarref03_Valid.calls k _ _ l0 t789 _ ?side1 ?side2 A4.out).mono ?_);(case side1 => repeat (first|exact (Kd.C_below HR0.out HB.out)|(with_reducible refine Kd.C_alloc ?_ _)|(with_reducible refine Kd.C_drewN ?_ _)|(with_reducible refine Kd.C_drew ?_)));(case side2 => exact HC0.out);rintro e w9 ⟨rfl,hb⟩;refine ⟨_,rfl,?_⟩;have n0_:=Aside0.mk (below_step (by repeat (first|(with_reducible first|exact HB.out|apply below_alloc|apply pw_below_drewN|apply below_drew1)|exact HB.out)) hb);clear HB;have HB:=n0_;clear n0_;(try clear hb);(try clear hb2);(try clear hk);(try clear hi)))
   go_meet
   case rel => exact ⟨_,(true),(by first|rfl|(simp;done)|(simp [*];done)|(simp;rw [Bool.eq_iff_iff];simp;done)|(rw [Bool.eq_iff_iff];simp;done)),H',⟨by first|omega|exact Nat.le_refl _⟩,⟨by repeat (first|(with_reducible first|exact HB.out|apply below_alloc|apply pw_below_drewN|apply below_drew1)|exact HB.out)⟩⟩
  rw [if_pos c5] at H
  have c5b0 : (t789 == 0) = true:=beq_iff_eq.mpr c5
  have c5b1 : (t789 != 0) = false:=bne_eq_false_iff_eq.mpr c5
  clear c5
  (first|rw [c5b0]|(simp only [i64_w,i32_w];rw [c5b0])|skip)
  replace H:=Option.bind_eq_some_iff.mp H
  obtain ⟨t790,A60,H⟩:=H
  replace H : (bursarref03_Within.j0 k l0 l1 (t790 != 0)) = some (r1,r2):=H
  have A6:=Aside0.mk A60
  clear A60
  have H':=Aside0.mk H
  clear H
  go_wp2_with (first|((with_reducible refine gate_callee (f:=45) rfl ?_);refine goesL_ (some 10) rfl rfl Tryz.func45 (by kernel_rfl) rfl #[.slice A0 l0.length c0] rfl (by (try simp only [List.map_toArray,List.map_cons,List.map_nil]);first|done|rfl|(simp only [List.length_drop,List.length_take];rfl)) ?_;(with_reducible refine (bursarref03_Valid.calls k _ _ l0 t789 _ ?side1 ?side2 A4.out).mono ?_);(case side1 => repeat (first|exact (Kd.C_below HR0.out HB.out)|(with_reducible refine Kd.C_alloc ?_ _)|(with_reducible refine Kd.C_drewN ?_ _)|(with_reducible refine Kd.C_drew ?_)));(case side2 => exact HC0.out);rintro e w7 ⟨rfl,hb⟩;refine ⟨_,rfl,?_⟩;have n0_:=Aside0.mk (below_step (by repeat (first|(with_reducible first|exact HB.out|apply below_alloc|apply pw_below_drewN|apply below_drew1)|exact HB.out)) hb);clear HB;have HB:=n0_;clear n0_;(try clear hb);(try clear hb2);(try clear hk);(try clear hi))|(go_at_call 45;(with_reducible refine (bursarref03_Valid.calls k _ _ l1 t790 _ ?side1 ?side2 A6.out).mono ?_);(case side1 => repeat (first|exact (Kd.C_below HR1.out HB.out)|(with_reducible refine Kd.C_alloc ?_ _)|(with_reducible refine Kd.C_drewN ?_ _)|(with_reducible refine Kd.C_drew ?_)));(case side2 => exact HC1.out);rintro e w8 ⟨rfl,hb⟩;have n0_:=Aside0.mk (below_step (by repeat (first|(with_reducible first|exact HB.out|apply below_alloc|apply pw_below_drewN|apply below_drew1)|exact HB.out)) hb);clear HB;have HB:=n0_;clear n0_;(try clear hb);(try clear hb2);(try clear hk);(try clear hi)))
  go_meet
  case rel => exact ⟨_,((t790 != 0)),(by first|rfl|(simp;done)|(simp [*];done)|(simp;rw [Bool.eq_iff_iff];simp;done)|(rw [Bool.eq_iff_iff];simp;done)),H',⟨by first|omega|exact Nat.le_refl _⟩,⟨by repeat (first|(with_reducible first|exact HB.out|apply below_alloc|apply pw_below_drewN|apply below_drew1)|exact HB.out)⟩⟩
 case rest =>
  clear HC3;(try clear c1);(try clear p2);(try clear c4);(try clear c5);(try clear c5b0);(try clear c5b1)
  obtain ⟨kq,x16_2,rfl,HA,HJ2,HB⟩:=hcut
  cases kq with
 |zero => exact absurd HA.out (by simp [bursarref03_Within.j0])
 |succ kj2 =>
   have H:=HA.out
   clear HA
   simp only [bursarref03_Within.j0] at H
   by_cases c10 : x16_2 = true
   ·subst c10
    have H1 : (some ((⟨#[]⟩ : ByteArray),31)) = some (r1,r2):=by rw [if_pos rfl] at H;exact H
    clear H;have H:=H1;clear H1
    simp only [Option.some.injEq,Prod.mk.injEq] at H
    obtain ⟨rfl,rfl⟩:=H
    go_wp2
    go_ret2
    exact ⟨by first|rfl|(simp [errW_none,errW_some] <;> rfl)|(simp [*,errW_none,errW_some] <;> rfl),by repeat (first|(with_reducible first|exact HB.out|apply below_alloc|apply pw_below_drewN|apply below_drew1)|exact HB.out)⟩
   replace c10:=Bool.eq_false_iff.mpr c10
   subst c10
   have H1 : (bursarref03_Within.l0 kj2 l0 l1 0) = some (r1,r2):=by rw [if_neg (show ¬ (false = true) by decide)] at H;exact H
   clear H;have H:=H1;clear H1
   have H':=Aside0.mk H
   clear H
   go_wp2
   go_loopg [6] kj2 (fun kq v6 w' => ∃ (x6_2 : Int),v6 = .int .i64 x6_2 ∧ Aside0 (bursarref03_Within.l0 kq l0 l1 x6_2 = some (r1,r2)) ∧ Aside0 (kq ≤ kj2) ∧ Aside0 (Below w.heap.size w w'))
   case atStart => exact ⟨(0),(by first|rfl|(simp;done)|(simp [*];done)|(simp;rw [Bool.eq_iff_iff];simp;done)|(rw [Bool.eq_iff_iff];simp;done)),H',⟨Nat.le_refl _⟩,⟨by repeat (first|(with_reducible first|exact HB.out|apply below_alloc|apply pw_below_drewN|apply below_drew1)|exact HB.out)⟩⟩
   case round =>
    clear H';(try clear c1);(try clear p2);(try clear c4);(try clear c5);(try clear c5b0);(try clear c5b1);(try clear c10);(try clear p2)
    obtain ⟨x6_2,rfl,HA,HK2,HB⟩:=hrel
    cases gk with
   |zero => exact absurd HA.out (by simp [bursarref03_Within.l0])
   |succ k2 =>
     have H:=HA.out
     clear HA
     simp only [bursarref03_Within.l0] at H
     by_cases c11 : x6_2 < (l1.length : Int)
     rotate_left
     ·rw [if_neg c11] at H
      have c11b0 : decide (x6_2 < (l1.length : Int)) = false:=decide_eq_false c11
      clear c11
      simp only [Option.some.injEq,Prod.mk.injEq] at H
      obtain ⟨rfl,rfl⟩:=H
      go_wp2
      go_ret2
      exact ⟨by first|rfl|(simp [errW_none,errW_some] <;> rfl)|(simp [*,errW_none,errW_some] <;> rfl),by repeat (first|(with_reducible first|exact HB.out|apply below_alloc|apply pw_below_drewN|apply below_drew1)|exact HB.out)⟩
     rw [if_pos c11] at H
     have c11b0 : decide (x6_2 < (l1.length : Int)) = true:=decide_eq_true c11
     clear c11
     by_cases c12 : 0 ≤ x6_2
     rotate_left
     ·rw [if_neg c12] at H
      exact absurd H (by simp)
     rw [if_pos c12] at H
     have c12b0 : decide (0 ≤ x6_2) = true:=decide_eq_true c12
     clear c12
     replace H:=Option.bind_eq_some_iff.mp H
     obtain ⟨⟨t792,t793⟩,A130,H⟩:=H
     replace H : (if ((rd_T57 l1 x6_2).f1) < t792 then (some ((rd_T57 l1 x6_2).f0,0)) else (bursarref03_Within.l0 k2 l0 l1 (wrap64 (x6_2 + 1)))) = some (r1,r2):=H
     have A13:=Aside0.mk A130
     clear A130
     by_cases c14 : ((rd_T57 l1 x6_2).f1) < t792
     rotate_left
     ·rw [if_neg c14] at H
      have c14b0 : decide (((rd_T57 l1 x6_2).f1) < t792) = false:=decide_eq_false c14
      clear c14
      have H':=Aside0.mk H
      clear H
      have p791 : 0 ≤ (x6_2 : Int):=of_decide_eq_true (by first|(with_reducible assumption)|assumption)
      have q791 : x6_2 < (l1.length : Int):=of_decide_eq_true (by first|(with_reducible assumption)|assumption)
      obtain ⟨ad791,e791,hx791_0,hx791_1⟩:=at_T57 HR1.out x6_2 p791 q791
      cases e791
      replace hx791_0:=(HB.out.cell (World.block_lt_of_cell? w _ hx791_0)).trans hx791_0
      replace hx791_1:=(HB.out.cell (World.block_lt_of_cell? w _ hx791_1)).trans hx791_1
      replace p791:=eq_true p791
      replace q791:=eq_true q791
      go_wp2_with (first|((with_reducible refine gate_callee (f:=31) rfl ?_);refine goesL_ (some 30) rfl rfl Tryz.func31 (by kernel_rfl) rfl #[.slice A0 l0.length c0,.string ((rd_T57 l1 x6_2).f0)] rfl (by (try simp only [List.map_toArray,List.map_cons,List.map_nil]);first|done|rfl|(simp only [List.length_drop,List.length_take];rfl)) ?_;(with_reducible refine (bursarref03_Of.calls k2 _ _ l0 ((rd_T57 l1 x6_2).f0) t792 t793 _ ?side1 ?side2 A13.out).mono ?_);(case side1 => repeat (first|exact (Kd.C_below HR0.out HB.out)|(with_reducible refine Kd.C_alloc ?_ _)|(with_reducible refine Kd.C_drewN ?_ _)|(with_reducible refine Kd.C_drew ?_)));(case side2 => exact HC0.out);rintro e w' ⟨rfl,⟨nd,rfl⟩⟩;refine ⟨_,rfl,?_⟩;have p794 : 0 ≤ (x6_2 : Int):=of_decide_eq_true (by first|(with_reducible assumption)|assumption);have q794 : x6_2 < (l1.length : Int):=of_decide_eq_true (by first|(with_reducible assumption)|assumption);obtain ⟨ad794,e794,hx794_0,hx794_1⟩:=at_T57 HR1.out x6_2 p794 q794;obtain rfl : ad791 = ad794:=(by injection e794);replace hx794_0:=(HB.out.cell (World.block_lt_of_cell? w _ hx794_0)).trans hx794_0;replace hx794_1:=(HB.out.cell (World.block_lt_of_cell? w _ hx794_1)).trans hx794_1;replace p794:=eq_true p794;replace q794:=eq_true q794))
      go_roundg k2
      case measure => have:=HJ2.out;have:=HK2.out;omega
      case rel => exact ⟨(wrap64 (x6_2 + 1)),(by first|rfl|(simp;done)|(simp [*];done)|(simp;rw [Bool.eq_iff_iff];simp;done)|(rw [Bool.eq_iff_iff];simp;done)),H',⟨by have:=HJ2.out;have:=HK2.out;omega⟩,⟨by repeat (first|(with_reducible first|exact HB.out|apply below_alloc|apply pw_below_drewN|apply below_drew1)|exact HB.out)⟩⟩
     rw [if_pos c14] at H
     have c14b0 : decide (((rd_T57 l1 x6_2).f1) < t792) = true:=decide_eq_true c14
     clear c14
     simp only [Option.some.injEq,Prod.mk.injEq] at H
     obtain ⟨rfl,rfl⟩:=H
     have p791 : 0 ≤ (x6_2 : Int):=of_decide_eq_true (by first|(with_reducible assumption)|assumption)
     have q791 : x6_2 < (l1.length : Int):=of_decide_eq_true (by first|(with_reducible assumption)|assumption)
     obtain ⟨ad791,e791,hx791_0,hx791_1⟩:=at_T57 HR1.out x6_2 p791 q791
     cases e791
     replace hx791_0:=(HB.out.cell (World.block_lt_of_cell? w _ hx791_0)).trans hx791_0
     replace hx791_1:=(HB.out.cell (World.block_lt_of_cell? w _ hx791_1)).trans hx791_1
     replace p791:=eq_true p791
     replace q791:=eq_true q791
     go_wp2_with (first|((with_reducible refine gate_callee (f:=31) rfl ?_);refine goesL_ (some 30) rfl rfl Tryz.func31 (by kernel_rfl) rfl #[.slice A0 l0.length c0,.string ((rd_T57 l1 x6_2).f0)] rfl (by (try simp only [List.map_toArray,List.map_cons,List.map_nil]);first|done|rfl|(simp only [List.length_drop,List.length_take];rfl)) ?_;(with_reducible refine (bursarref03_Of.calls k2 _ _ l0 ((rd_T57 l1 x6_2).f0) t792 t793 _ ?side1 ?side2 A13.out).mono ?_);(case side1 => repeat (first|exact (Kd.C_below HR0.out HB.out)|(with_reducible refine Kd.C_alloc ?_ _)|(with_reducible refine Kd.C_drewN ?_ _)|(with_reducible refine Kd.C_drew ?_)));(case side2 => exact HC0.out);rintro e w' ⟨rfl,⟨nd,rfl⟩⟩;refine ⟨_,rfl,?_⟩;have p794 : 0 ≤ (x6_2 : Int):=of_decide_eq_true (by first|(with_reducible assumption)|assumption);have q794 : x6_2 < (l1.length : Int):=of_decide_eq_true (by first|(with_reducible assumption)|assumption);obtain ⟨ad794,e794,hx794_0,hx794_1⟩:=at_T57 HR1.out x6_2 p794 q794;obtain rfl : ad791 = ad794:=(by injection e794);replace hx794_0:=(HB.out.cell (World.block_lt_of_cell? w _ hx794_0)).trans hx794_0;replace hx794_1:=(HB.out.cell (World.block_lt_of_cell? w _ hx794_1)).trans hx794_1;replace p794:=eq_true p794;replace q794:=eq_true q794;have p795 : 0 ≤ (x6_2 : Int):=of_decide_eq_true (by first|(with_reducible assumption)|assumption);have q795 : x6_2 < (l1.length : Int):=of_decide_eq_true (by first|(with_reducible assumption)|assumption);obtain ⟨ad795,e795,hx795_0,hx795_1⟩:=at_T57 HR1.out x6_2 p795 q795;obtain rfl : ad791 = ad795:=(by injection e795);replace hx795_0:=(HB.out.cell (World.block_lt_of_cell? w _ hx795_0)).trans hx795_0;replace hx795_1:=(HB.out.cell (World.block_lt_of_cell? w _ hx795_1)).trans hx795_1;replace p795:=eq_true p795;replace q795:=eq_true q795))
     go_ret2
     exact ⟨by first|rfl|(simp [errW_none,errW_some] <;> rfl)|(simp [*,errW_none,errW_some] <;> rfl),by repeat (first|(with_reducible first|exact HB.out|apply below_alloc|apply pw_below_drewN|apply below_drew1)|exact HB.out)⟩
end Go.Proofs.YtejgbdclhlolkaaGreatDoor.Q
namespace Go.Proofs.YtejgbdclhlolkaaGreatDoor.Q
open Go.RowKit Go.Proofs.YtejgbdclhlolkaaGreatDoorW.PrintWords Go.Proofs.YtejgbdclhlolkaaGreatDoorW.PrintLast
set_option linter.unusedVariables false
set_option linter.unusedSimpArgs false
def markS : S57 := ⟨⟨#[109, 97, 114, 107]⟩, 77⟩
def bursarlaw03_behind.f (l0 : List S57) : Option (List S57) := if l0.length ≤ 4000000000 then some (l0 ++ [markS]) else none
set_option maxHeartbeats 4000000 in
set_option maxRecDepth 100000 in
theorem bursarlaw03_behind.calls (A0 : Option Addr) (c0 : Nat) (l0 : List S57) (r : List S57) (w : World) (hr0 : Kd.C k57 w A0 l0.length l0) (hc0 : l0.length ≤ c0) (h : bursarlaw03_behind.f l0 = some r) (hG : GlobM w) :
    Calls Tryz.prog 29 #[.slice A0 l0.length c0] w fun e w' => ∃ v0_ : Value, e = .returned (v0_) ∧ Kd.R k57 57 w' w.heap.size (fun _ => True) v0_ r ∧ Below w.heap.size w w' := by
  unfold bursarlaw03_behind.f at h
  split at h
  rotate_left
  · cases h
  rename_i hlen
  obtain rfl := Option.some.inj h
  clear h
  have HL := Lib.hid hlen
  have HR0 := Aside0.mk hr0
  clear hlen hr0
  have hu57 := Tryz.underlying57
  have HGM := Lib.hid hG
  clear hG
  go_enter Tryz.func29, Tryz.ntmps29
  go_wp2_with (first
    | ((with_reducible refine gate_builtin (b := .append) (xs := #[.tmp 4, .tmp 5]) rfl ?_); at_builtin; refine Kd.R_append_rows k57 (w0 := w) w.heap.size rfl (.tmp 4) (.tmp 5) 46 57 (.agg #[(.string ⟨#[]⟩), (.int .i64 0)]) 24 rfl Tryz.underlying46 info57 rfl (by decide) (by omega) (.slice none 0 0) ([] : List (S57)) l0 _ _ _ (fun _ => True) (fun _ => False) rfl rfl ?aO ?aR (fun _ _ h => h) (fun _ h => h.elim) ?aF ?aB ?aS ?aL ?_; (case aR => exact HR0.out); (case aB => exact Below.refl _ _); (case aF => exact (fun _ _ => trivial)); (case aO => exact (Kd.R_nil _ _ _ _ (fun _ => True))); (case aS => exact Nat.le_refl _); (case aL => have := HL.out; simp; omega);
        intro v1 w1 ho hb hg hat; rw [List.nil_append] at ho; have HO := Aside0.mk ho; have HB := Aside0.mk hb; have hm0 := (GlobM.below HGM.out hb).mark0; have hm1 := (GlobM.below HGM.out hb).mark1; clear ho hb hg hat)
    | ((with_reducible refine gate_builtin (b := .append) (xs := #[.tmp 7, .tmp 9]) rfl ?_); at_builtin; refine Kd.R_append k57 (w0 := w) w.heap.size rfl (.tmp 7) (.tmp 9) 46 57 (.agg #[(.string ⟨#[]⟩), (.int .i64 0)]) 24 rfl Tryz.underlying46 info57 rfl (by decide) (by omega) v1 l0 markS [.string ⟨#[109, 97, 114, 107]⟩, .int .i64 77] (fun _ => True) (fun _ => False) rfl rfl ?aP (fun _ hk => hk.elim) ?aF ?aO ?aB ?aS ?aL ?_; (case aP => exact k57_mkM _ _ _ markS); (case aB => exact (by repeat (first | (with_reducible first | exact HB.out | apply below_alloc | apply pw_below_drewN | apply below_drew1) | exact HB.out))); (case aF => exact (fun _ _ => trivial)); (case aO => exact (by (with_reducible repeat (first | apply Kd.R_alloc | apply Kd.R_drewN | apply Kd.R_drew)); exact HO.out)); (case aS => exact (below_size (by repeat (first | (with_reducible first | exact HB.out | apply below_alloc | apply pw_below_drewN | apply below_drew1) | exact HB.out)))); (case aL => have := HL.out; omega);
        intro v2 w2 ho hb hg hat; have HO2 := Aside0.mk ho; have HB2 := Aside0.mk hb; clear ho hb hg hat))
  go_ret
  exact ⟨_, rfl, HO2.out, HB2.out⟩
end Go.Proofs.YtejgbdclhlolkaaGreatDoor.Q
namespace Go.Proofs.YtejgbdclhlolkaaGreatDoor.Q
open Go.RowKit Go.Proofs.YtejgbdclhlolkaaGreatDoorW.PrintWords Go.Proofs.YtejgbdclhlolkaaGreatDoorW.PrintLast
attribute [local go_sem high] eqA57
set_option linter.unusedVariables false
set_option linter.unusedSimpArgs false
def bursarlaw03_untouched.f (k : Nat) (l0 l1 : List S57) : Option Bool :=
  if 4000000000 < l1.length then none else if l0.length = l1.length + 1 then ((bursarlaw03_same.f k (l0.take l1.length) l1).bind fun t => if t = true then some ((rd_T57 l0 (l1.length : Int)).f0.toList == (⟨#[109, 97, 114, 107]⟩ : ByteArray).toList && ((rd_T57 l0 (l1.length : Int)).f1 == 77)) else some false) else some false
theorem bursarlaw03_untouched.mono : ∀ a0 a1 k, LeO (bursarlaw03_untouched.f k a0 a1) (bursarlaw03_untouched.f (k + 1) a0 a1) := by
  intro a0 a1 k
  unfold bursarlaw03_untouched.f
  repeat' first
    | exact LeO.refl _
    | refine LeO.ite ?_ ?_
    | (refine LeO.bind (bursarlaw03_same.mono _ _ _) (fun _ => ?_))
theorem same_at (k : Nat) (A0 : Option Addr) (c0 : Nat) (l0 : List S57) (A1 : Option Addr) (c1 : Nat) (l1 : List S57) (b : Bool) (hl : l1.length ≤ l0.length) (h : bursarlaw03_same.f k (l0.take l1.length) l1 = some b) (w : World)
    (hr0 : Kd.C k57 w A0 l0.length l0) (hc0 : l0.length ≤ c0) (hr1 : Kd.C k57 w A1 l1.length l1) (hc1 : l1.length ≤ c1) :
    Calls Tryz.prog 39 #[.slice A0 l1.length c0, .slice A1 l1.length c1] w fun e w' => e = .returned (.bool b) ∧ Drawn0 w w' := by
  have hk := bursarlaw03_same.calls k A0 c0 (l0.take l1.length) A1 c1 l1 b w (Kd.C_take hr0 hl) (by rw [List.length_take]; omega) hr1 hc1 h
  rwa [show (l0.take l1.length).length = l1.length by rw [List.length_take]; omega] at hk
set_option maxHeartbeats 4000000 in
set_option maxRecDepth 100000 in
theorem bursarlaw03_untouched.calls (k : Nat) (A0 : Option Addr) (c0 : Nat) (l0 : List S57) (A1 : Option Addr) (c1 : Nat) (l1 : List S57) (r : Bool) (w : World) (hr0 : Kd.C k57 w A0 l0.length l0) (hc0 : l0.length ≤ c0) (hr1 : Kd.C k57 w A1 l1.length l1) (hc1 : l1.length ≤ c1) (h : bursarlaw03_untouched.f k l0 l1 = some r) (hG : GlobM w) :
    Calls Tryz.prog 32 #[.slice A0 l0.length c0, .slice A1 l1.length c1] w fun e w' => e = .returned (.bool r) ∧ Below w.heap.size w w' := by
  unfold bursarlaw03_untouched.f at h
  by_cases hb : 4000000000 < l1.length
  · rw [if_pos hb] at h; cases h
  rw [if_neg hb] at h
  have HR0 := Aside0.mk hr0
  have HR1 := Aside0.mk hr1
  have HC0 := Aside0.mk hc0
  have HC1 := Aside0.mk hc1
  have hwr : IntKind.i64.wrap ((l1.length : Int) + 1) = (l1.length : Int) + 1 := by rw [IntKind.wrap_i64]; omega
  have hwr2 : wrap64 ((l1.length : Int) + 1) = (l1.length : Int) + 1 := by unfold wrap64; omega
  by_cases hl : l0.length = l1.length + 1
  rotate_left
  · rw [if_neg hl] at h
    obtain rfl := Option.some.inj h
    have d1 : ((l0.length : Int) == (l1.length : Int) + 1) = false := beq_eq_false_iff_ne.2 (by omega)
    clear h hl hr0 hr1 hb
    go_enter Tryz.func32, Tryz.ntmps32
    go_wp2
    repeat (go_quiet (fail); try go_wp2)
    go_ret
    exact ⟨rfl, by repeat (first | (with_reducible first | exact Below.refl _ _ | apply pw_below_drewN | apply below_drew1) | exact Below.refl _ _)⟩
  · rw [if_pos hl] at h
    have d1 : ((l0.length : Int) == (l1.length : Int) + 1) = true := beq_iff_eq.2 (by omega)
    obtain ⟨t, ht, h⟩ := Option.bind_eq_some_iff.mp h
    have HT := Lib.hid ht
    obtain ⟨ad, eA, hx0, hx1⟩ := at_T57 hr0 (l1.length : Int) (by omega) (by omega)
    cases eA
    rw [Int.toNat_natCast] at hx0 hx1
    have hm0 := hG.mark0
    have hm1 := hG.mark1
    have hcap : l1.length ≤ c0 := by omega
    have hlt : (l1.length : Int) < (l0.length : Int) := by omega
    cases t with
    | false =>
      rw [if_neg (by decide)] at h
      obtain rfl := Option.some.inj h
      clear h ht hr0 hr1 hb hm0 hm1
      go_enter Tryz.func32, Tryz.ntmps32
      go_wp2_with (go_at_call 39; refine (same_at k (some ad) c0 l0 A1 c1 l1 false (by omega) HT.out _ (by (with_reducible repeat (first | apply Kd.C_drewN | apply Kd.C_drew)); exact HR0.out) HC0.out (by (with_reducible repeat (first | apply Kd.C_drewN | apply Kd.C_drew)); exact HR1.out) HC1.out).mono ?_; rintro e w2 ⟨rfl, ⟨nd, rfl⟩⟩; refine ⟨rfl, ?_⟩; simp; exact ⟨_, rfl⟩)
      repeat (go_quiet (first | (go_at_call 39; refine (same_at k (some ad) c0 l0 A1 c1 l1 false (by omega) HT.out _ (by (with_reducible repeat (first | apply Kd.C_drewN | apply Kd.C_drew)); exact HR0.out) HC0.out (by (with_reducible repeat (first | apply Kd.C_drewN | apply Kd.C_drew)); exact HR1.out) HC1.out).mono ?_; rintro e w2 ⟨rfl, ⟨nd, rfl⟩⟩; refine ⟨rfl, ?_⟩; simp; exact ⟨_, rfl⟩)); try go_wp2)
      go_ret
      exact ⟨rfl, by repeat (first | (with_reducible first | exact Below.refl _ _ | apply pw_below_drewN | apply below_drew1) | exact Below.refl _ _)⟩
    | true =>
      rw [if_pos rfl] at h
      have hr := Lib.hid (Option.some.inj h)
      clear h ht hr0 hr1 hb
      generalize (rd_T57 l0 (l1.length : Int)).f0 = s at *
      generalize (rd_T57 l0 (l1.length : Int)).f1 = v at *
      cases hq : (s.toList == (⟨#[109, 97, 114, 107]⟩ : ByteArray).toList && (v == 77)) with
      | false =>
        have hrr := Lib.hid (hr.out.symm.trans hq)
        go_enter Tryz.func32, Tryz.ntmps32
        go_wp2_with (go_at_call 39; refine (same_at k (some ad) c0 l0 A1 c1 l1 true (by omega) HT.out _ (by (with_reducible repeat (first | apply Kd.C_drewN | apply Kd.C_drew)); exact HR0.out) HC0.out (by (with_reducible repeat (first | apply Kd.C_drewN | apply Kd.C_drew)); exact HR1.out) HC1.out).mono ?_; rintro e w2 ⟨rfl, ⟨nd, rfl⟩⟩; refine ⟨rfl, ?_⟩; simp; exact ⟨_, rfl⟩)
        repeat (go_quiet (first | (go_at_call 39; refine (same_at k (some ad) c0 l0 A1 c1 l1 true (by omega) HT.out _ (by (with_reducible repeat (first | apply Kd.C_drewN | apply Kd.C_drew)); exact HR0.out) HC0.out (by (with_reducible repeat (first | apply Kd.C_drewN | apply Kd.C_drew)); exact HR1.out) HC1.out).mono ?_; rintro e w2 ⟨rfl, ⟨nd, rfl⟩⟩; refine ⟨rfl, ?_⟩; simp; exact ⟨_, rfl⟩)); try go_wp2)
        go_ret
        exact ⟨by rw [hrr.out]; first | rfl | (simp [hq]; done) | (simp_all; done), by repeat (first | (with_reducible first | exact Below.refl _ _ | apply pw_below_drewN | apply below_drew1) | exact Below.refl _ _)⟩
      | true =>
        have hrr := Lib.hid (hr.out.symm.trans hq)
        go_enter Tryz.func32, Tryz.ntmps32
        go_wp2_with (go_at_call 39; refine (same_at k (some ad) c0 l0 A1 c1 l1 true (by omega) HT.out _ (by (with_reducible repeat (first | apply Kd.C_drewN | apply Kd.C_drew)); exact HR0.out) HC0.out (by (with_reducible repeat (first | apply Kd.C_drewN | apply Kd.C_drew)); exact HR1.out) HC1.out).mono ?_; rintro e w2 ⟨rfl, ⟨nd, rfl⟩⟩; refine ⟨rfl, ?_⟩; simp; exact ⟨_, rfl⟩)
        repeat (go_quiet (first | (go_at_call 39; refine (same_at k (some ad) c0 l0 A1 c1 l1 true (by omega) HT.out _ (by (with_reducible repeat (first | apply Kd.C_drewN | apply Kd.C_drew)); exact HR0.out) HC0.out (by (with_reducible repeat (first | apply Kd.C_drewN | apply Kd.C_drew)); exact HR1.out) HC1.out).mono ?_; rintro e w2 ⟨rfl, ⟨nd, rfl⟩⟩; refine ⟨rfl, ?_⟩; simp; exact ⟨_, rfl⟩)); try go_wp2)
        go_ret
        exact ⟨by rw [hrr.out]; first | rfl | (simp [hq]; done) | (simp_all; done), by repeat (first | (with_reducible first | exact Below.refl _ _ | apply pw_below_drewN | apply below_drew1) | exact Below.refl _ _)⟩
end Go.Proofs.YtejgbdclhlolkaaGreatDoor.Q
