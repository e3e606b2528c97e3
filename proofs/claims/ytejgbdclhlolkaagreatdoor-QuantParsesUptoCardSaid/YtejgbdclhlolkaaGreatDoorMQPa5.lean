/- What the statement QuantParsesUptoCardSaid rests on, part 5 of 7: walks and plain laws; what of the printer's words it leans on. -/
import Derived.Test.YtejgbdclhlolkaaGreatDoorMQPa3
import Derived.Test.YtejgbdclhlolkaaGreatDoorMQPa4
namespace Go.Proofs.YtejgbdclhlolkaaGreatDoor.Q
open Go.RowKit Go.Proofs.YtejgbdclhlolkaaGreatDoorW.PrintWords Go.Proofs.YtejgbdclhlolkaaGreatDoorW.PrintLast Go.Proofs.YtejgbdclhlolkaaGreatDoorW.PrintMore
attribute [local go_sem] max2_int min2_int max_two min_two max_three min_three max_four min_four   -- for this text's walks alone
set_option linter.unusedVariables false
set_option linter.unusedSimpArgs false
def bursarref03_Long_minus.l0 : Nat → List Int → Int → Int → List Int → List Int → Option (List Int)
|0,_,_,_,_,_ => none
|k + 1,x5,x6,x7,x200000,x201000 => if x7 < (x200000.length : Int) then (if 0 ≤ x7 then ((bursarref03_Long_at.f x201000 x7).bind fun t203 => (if (wrap64 ((wrap64 ((rd x200000 x7) - t203)) - x6)) < 0 then (if x5.length < 17592186044416 then (bursarref03_Long_minus.l0 k (x5 ++ [wrap64 ((wrap64 ((wrap64 ((rd x200000 x7) - t203)) - x6)) + 10)]) 1 (wrap64 (x7 + 1)) x200000 x201000) else (none)) else (if x5.length < 17592186044416 then (bursarref03_Long_minus.l0 k (x5 ++ [wrap64 ((wrap64 ((rd x200000 x7) - t203)) - x6)]) 0 (wrap64 (x7 + 1)) x200000 x201000) else (none)))) else (none)) else ((bursarref03_cut.f k x5).bind fun t210 => (some t210))
def bursarref03_Long_minus.f (k : Nat) (l0_0 : List Int) (l1_0 : List Int) : Option (List Int) := bursarref03_Long_minus.l0 k ([] : List Int) 0 0 l0_0 l1_0
theorem bursarref03_Long_minus.mono_l : ∀ k, (∀ y0 y1 y2 y3 y4, LeO (bursarref03_Long_minus.l0 k y0 y1 y2 y3 y4) (bursarref03_Long_minus.l0 (k + 1) y0 y1 y2 y3 y4))
|0 => fun _ _ _ _ _ r h => by simp [bursarref03_Long_minus.l0] at h
|k + 1 => by
  have ih0:=bursarref03_Long_minus.mono_l k
  ·intro y0 y1 y2 y3 y4
   unfold bursarref03_Long_minus.l0
   repeat' first
  |(with_reducible exact ih0 _ _ _ _ _)
  |(with_reducible exact bursarref03_cut.mono _ _)
  |(with_reducible exact LeO.refl _)
  |(with_reducible exact LeO.none _)
  |(with_reducible refine LeO.ite ?_ ?_)
  |(with_reducible refine LeO.bind ?_ (fun _ => ?_))
  |exact ih0 _ _ _ _ _
  |exact bursarref03_cut.mono _ _
  |exact LeO.none _
  |refine LeO.ite ?_ ?_
  |refine LeO.bind ?_ (fun _ => ?_)
theorem bursarref03_Long_minus.mono : ∀ a0 a1 k, LeO (bursarref03_Long_minus.f k a0 a1) (bursarref03_Long_minus.f (k + 1) a0 a1) := by
 intro a0 a1 k
 have ih0:=bursarref03_Long_minus.mono_l k
 unfold bursarref03_Long_minus.f
 repeat' first
  |(with_reducible exact ih0 _ _ _ _ _)
  |(with_reducible exact bursarref03_cut.mono _ _)
  |(with_reducible exact LeO.refl _)
  |(with_reducible exact LeO.none _)
  |(with_reducible refine LeO.ite ?_ ?_)
  |(with_reducible refine LeO.bind ?_ (fun _ => ?_))
  |exact ih0 _ _ _ _ _
  |exact bursarref03_cut.mono _ _
  |exact LeO.none _
  |refine LeO.ite ?_ ?_
  |refine LeO.bind ?_ (fun _ => ?_)
def bursarref03_Long_minus.T6 : Bool × List (List Nat × List Nat) := (true, [([], []), ([0], [0]), ([], []), ([1, 2], [1, 2]), ([3], [3]), ([], []), ([], []), ([5, 6], [5, 6]), ([4, 7], [4, 7]), ([], []), ([8, 9], [8, 9]), ([10, 7, 0, 1, 2, 3, 4, 5, 6, 7, 8, 9, 10], [10])])
def bursarref03_Long_minus.B6 : List Nat := [0, 1, 0, 7, 15, 0, 0, 96, 255, 0, 1023, 2047]
theorem bursarref03_Long_minus.tab6 : rtab .any (opsOf Tryz.f86 6) = bursarref03_Long_minus.T6 := by kernel_rfl
theorem bursarref03_Long_minus.bits6 : waitsOk bursarref03_Long_minus.T6.2 bursarref03_Long_minus.B6 = true := by kernel_rfl
set_option maxHeartbeats 8000000 in
set_option maxRecDepth 100000 in
theorem bursarref03_Long_minus.calls (k : Nat) (A0_0 : Option Addr) (c0_0 : Nat) (l0_0 : List Int) (A1_0 : Option Addr) (c1_0 : Nat) (l1_0 : List Int) (r : List Int) (w : World) (hr0_0 : Kd.C (Kd.int .i64) w A0_0 l0_0.length l0_0) (hc0_0 : l0_0.length ≤ c0_0) (hr1_0 : Kd.C (Kd.int .i64) w A1_0 l1_0.length l1_0) (hc1_0 : l1_0.length ≤ c1_0) (h : bursarref03_Long_minus.f k l0_0 l1_0 = some r) :
  Calls Tryz.prog 86 #[.agg #[.slice A0_0 l0_0.length c0_0],.agg #[.slice A1_0 l1_0.length c1_0]] w fun e w' => ∃ v0_ : Value,e = .returned (.agg #[v0_]) ∧ Kd.V (Kd.int .i64) 3 w' w.heap.size (fun k_ => (w.heap.size ≤ k_)) v0_ r ∧ Below w.heap.size w w':=by
 have hu85:=Tryz.underlying85
 have HR0_0:=Aside0.mk hr0_0
 have HC0_0:=Aside0.mk hc0_0
 clear hr0_0 hc0_0
 have HR1_0:=Aside0.mk hr1_0
 have HC1_0:=Aside0.mk hc1_0
 clear hr1_0 hc1_0
 have HB:=Aside0.mk (Below.refl w.heap.size w)
 have H : (bursarref03_Long_minus.l0 k ([] : List Int) 0 0 l0_0 l1_0) = some r:=h
 clear h
 have H':=Aside0.mk H
 clear H
 go_enter Tryz.func86,Tryz.ntmps86
 go_wp2_with (first|((with_reducible refine gate_dst (N:=2) rfl ?_);refine box_event ?hg (N:=2) ?hd (cs:=#[.slice A0_0 l0_0.length c0_0]) (t:=85) ?hr ?_;(case hd => rfl);(case hg => rfl);(case hr => first|(go_simp;done)|(go_simp;rfl));intro gb199 hg w3 hbox hb;have n0_:=Aside0.mk (below_step (by repeat (first|(with_reducible first|exact HB.out|apply below_alloc|apply pw_below_drewN|apply below_drew1)|exact HB.out)) hb);have n1_:=Aside0.mk (hbox);have n2_:=Aside0.mk ((by rw [hg];exact (below_size (by repeat (first|(with_reducible first|exact HB.out|apply below_alloc|apply pw_below_drewN|apply below_drew1)|exact HB.out))) : w.heap.size ≤ gb199));have n3_:=Aside0.mk ((by rw [hg];exact (below_size (by repeat (first|(with_reducible first|exact HB.out|apply below_alloc|apply pw_below_drewN|apply below_drew1)|exact HB.out))) : w.heap.size ≤ gb199));clear HB;have HB:=n0_;have BK199:=n1_;have GW199:=n2_;have GE199:=n3_;clear n0_ n1_ n2_ n3_;clear hb hbox hg)|((with_reducible refine gate_dst (N:=3) rfl ?_);refine box_event ?hg (N:=3) ?hd (cs:=#[.slice A1_0 l1_0.length c1_0]) (t:=85) ?hr ?_;(case hd => rfl);(case hg => rfl);(case hr => first|(go_simp;done)|(go_simp;rfl));intro gb200 hg w4 hbox hb;have n0_:=Aside0.mk (blk_below (g:=gb199) (o:=.cells #[.slice A0_0 l0_0.length c0_0] 85 (0,0)) (by (with_reducible repeat (first|refine blk_drewN ?_ _|refine blk_drew ?_|refine blk_alloc ?_ _));exact BK199.out) hb);have n1_:=Aside0.mk (below_step (by repeat (first|(with_reducible first|exact HB.out|apply below_alloc|apply pw_below_drewN|apply below_drew1|refine below_set ?_ GE199.out)|exact HB.out)) hb);have n2_:=Aside0.mk (hbox);have n3_:=Aside0.mk ((by rw [hg];exact (below_size (by repeat (first|(with_reducible first|exact HB.out|apply below_alloc|apply pw_below_drewN|apply below_drew1|refine below_set ?_ GE199.out)|exact HB.out))) : w.heap.size ≤ gb200));have n4_:=Aside0.mk ((by rw [hg];exact (below_size (by repeat (first|(with_reducible first|exact HB.out|apply below_alloc|apply pw_below_drewN|apply below_drew1|refine below_set ?_ GE199.out)|exact HB.out))) : w.heap.size ≤ gb200));have n5_:=Aside0.mk ((by rw [hg];exact Nat.ne_of_lt (blk_lt (g:=gb199) (o:=.cells #[.slice A0_0 l0_0.length c0_0] 85 (0,0)) (by (with_reducible repeat (first|refine blk_drewN ?_ _|refine blk_drew ?_|refine blk_alloc ?_ _));exact BK199.out)) : gb199 ≠ gb200));have n6_:=Aside0.mk ((by rw [hg];exact Nat.ne_of_gt (blk_lt (g:=gb199) (o:=.cells #[.slice A0_0 l0_0.length c0_0] 85 (0,0)) (by (with_reducible repeat (first|refine blk_drewN ?_ _|refine blk_drew ?_|refine blk_alloc ?_ _));exact BK199.out)) : gb200 ≠ gb199));clear BK199;clear HB;have BK199:=n0_;have HB:=n1_;have BK200:=n2_;have GW200:=n3_;have GE200:=n4_;have NB199_200:=n5_;have NB200_199:=n6_;clear n0_ n1_ n2_ n3_ n4_ n5_ n6_;clear hb hbox hg)|((with_reducible refine gate_dst (N:=4) rfl ?_);refine box_event ?hg (N:=4) ?hd (cs:=#[.slice none 0 0]) (t:=85) ?hr ?_;(case hd => rfl);(case hg => rfl);(case hr => first|(go_simp;done)|(go_simp;rfl));intro gb201 hg w5 hbox hb;have n0_:=Aside0.mk (blk_below (g:=gb199) (o:=.cells #[.slice A0_0 l0_0.length c0_0] 85 (0,0)) (by (with_reducible repeat (first|refine blk_drewN ?_ _|refine blk_drew ?_|refine blk_alloc ?_ _));exact BK199.out) hb);have n1_:=Aside0.mk (blk_below (g:=gb200) (o:=.cells #[.slice A1_0 l1_0.length c1_0] 85 (0,0)) (by (with_reducible repeat (first|refine blk_drewN ?_ _|refine blk_drew ?_|refine blk_alloc ?_ _));exact BK200.out) hb);have n2_:=Aside0.mk (below_step (by repeat (first|(with_reducible first|exact HB.out|apply below_alloc|apply pw_below_drewN|apply below_drew1|refine below_set ?_ GE199.out|refine below_set ?_ GE200.out)|exact HB.out)) hb);have n3_:=Aside0.mk (hbox);have n4_:=Aside0.mk ((by rw [hg];exact (below_size (by repeat (first|(with_reducible first|exact HB.out|apply below_alloc|apply pw_below_drewN|apply below_drew1|refine below_set ?_ GE199.out|refine below_set ?_ GE200.out)|exact HB.out))) : w.heap.size ≤ gb201));have n5_:=Aside0.mk ((by rw [hg];exact (below_size (by repeat (first|(with_reducible first|exact HB.out|apply below_alloc|apply pw_below_drewN|apply below_drew1|refine below_set ?_ GE199.out|refine below_set ?_ GE200.out)|exact HB.out))) : w.heap.size ≤ gb201));have n6_:=Aside0.mk ((by rw [hg];exact Nat.ne_of_lt (blk_lt (g:=gb199) (o:=.cells #[.slice A0_0 l0_0.length c0_0] 85 (0,0)) (by (with_reducible repeat (first|refine blk_drewN ?_ _|refine blk_drew ?_|refine blk_alloc ?_ _));exact BK199.out)) : gb199 ≠ gb201));have n7_:=Aside0.mk ((by rw [hg];exact Nat.ne_of_gt (blk_lt (g:=gb199) (o:=.cells #[.slice A0_0 l0_0.length c0_0] 85 (0,0)) (by (with_reducible repeat (first|refine blk_drewN ?_ _|refine blk_drew ?_|refine blk_alloc ?_ _));exact BK199.out)) : gb201 ≠ gb199));have n8_:=Aside0.mk ((by rw [hg];exact Nat.ne_of_lt (blk_lt (g:=gb200) (o:=.cells #[.slice A1_0 l1_0.length c1_0] 85 (0,0)) (by (with_reducible repeat (first|refine blk_drewN ?_ _|refine blk_drew ?_|refine blk_alloc ?_ _));exact BK200.out)) : gb200 ≠ gb201));have n9_:=Aside0.mk ((by rw [hg];exact Nat.ne_of_gt (blk_lt (g:=gb200) (o:=.cells #[.slice A1_0 l1_0.length c1_0] 85 (0,0)) (by (with_reducible repeat (first|refine blk_drewN ?_ _|refine blk_drew ?_|refine blk_alloc ?_ _));exact BK200.out)) : gb201 ≠ gb200));clear BK199;clear BK200;clear HB;have BK199:=n0_;have BK200:=n1_;have HB:=n2_;have BK201:=n3_;have GW201:=n4_;have GE201:=n5_;have NB199_201:=n6_;have NB201_199:=n7_;have NB200_201:=n8_;have NB201_200:=n9_;clear n0_ n1_ n2_ n3_ n4_ n5_ n6_ n7_ n8_ n9_;clear hb hbox hg))
 go_loopg [5,6,7] k (fun kq v5 v6 v7 w' => ∃ (x5_1 : List Int) (x6_1 : Int) (x7_1 : Int),v6 = .int .i64 x6_1 ∧ v7 = .int .i64 x7_1 ∧ Aside0 (bursarref03_Long_minus.l0 kq x5_1 x6_1 x7_1 l0_0 l1_0 = some r) ∧ Aside0 (kq ≤ k) ∧ Aside0 (Kd.R (Kd.int .i64) 3 w' w.heap.size (fun k_ => (w.heap.size ≤ k_)) v5 x5_1) ∧ Aside0 (w'.heap[gb199]? = some (.cells #[(.slice A0_0 l0_0.length c0_0)] 85 (0,0))) ∧ Aside0 (w'.heap[gb200]? = some (.cells #[(.slice A1_0 l1_0.length c1_0)] 85 (0,0))) ∧ Aside0 (w'.heap[gb201]? = some (.cells #[(.slice none 0 0)] 85 (0,0))) ∧ Aside0 (Below w.heap.size w w'))
 case atStart => exact ⟨(([] : List Int)),(0),(0),(by first|rfl|(simp;done)|(simp [*];done)|(simp;rw [Bool.eq_iff_iff];simp;done)|(rw [Bool.eq_iff_iff];simp;done)),(by first|rfl|(simp;done)|(simp [*];done)|(simp;rw [Bool.eq_iff_iff];simp;done)|(rw [Bool.eq_iff_iff];simp;done)),H',⟨Nat.le_refl _⟩,⟨by first|exact Kd.R_nil _ _ _ _ _|exact Kd.N_nil _ _ _ _ _|exact Kd.V_nil _ _ _ _ _|exact Kd.Q_nil _ _ _ _ _|exact Kd.S_nil _ _ _ _ _⟩,⟨by (with_reducible repeat (first|refine blk_drewN ?_ _|refine blk_drew ?_|refine blk_alloc ?_ _));exact BK199.out⟩,⟨by (with_reducible repeat (first|refine blk_drewN ?_ _|refine blk_drew ?_|refine blk_alloc ?_ _));exact BK200.out⟩,⟨by (with_reducible repeat (first|refine blk_drewN ?_ _|refine blk_drew ?_|refine blk_alloc ?_ _));exact BK201.out⟩,⟨by repeat (first|(with_reducible first|exact HB.out|apply below_alloc|apply pw_below_drewN|apply below_drew1|refine below_set ?_ GE199.out|refine below_set ?_ GE200.out|refine below_set ?_ GE201.out)|exact HB.out)⟩⟩
 case round =>
  clear H';(try clear c1);(try clear p2)
  obtain ⟨x5_1,x6_1,x7_1,rfl,rfl,HA,HK1,HO_5,BK199,BK200,BK201,HB⟩:=hrel
  cases gk with
 |zero => exact absurd HA.out (by simp [bursarref03_Long_minus.l0])
 |succ k1 =>
   have H:=HA.out
   clear HA
   simp only [bursarref03_Long_minus.l0] at H
   by_cases c6 : x7_1 < (l0_0.length : Int)
   rotate_left
   ·rw [if_neg c6] at H
    have c6b0 : decide (x7_1 < (l0_0.length : Int)) = false:=decide_eq_false c6
    clear c6
    replace H:=Option.bind_eq_some_iff.mp H
    obtain ⟨t210,A240,H⟩:=H
    replace H : (some t210) = some r:=H
    have A24:=Aside0.mk A240
    clear A240
    obtain rfl:=Option.some.inj H
    have hnb25:=NB199_200.out
    have hnc25:=NB200_199.out
    have hnb26:=NB199_201.out
    have hnc26:=NB201_199.out
    have hcz27_0 : wr.cell? ⟨gb199,0,none⟩ = some (.slice A0_0 l0_0.length c0_0):=(blk_cell BK199.out 0).trans rfl
    have hfz27_0:=blk_frozen BK199.out 0
    obtain ⟨Ao28,co28,eo28⟩:=Kd.R_slice HO_5.out
    subst eo28
    go_wp2_with (first|((with_reducible refine gate_callee (f:=84) rfl ?_);refine goesL_ (some 36) rfl rfl Tryz.func84 (by kernel_rfl) rfl #[.slice Ao28 x5_1.length co28] rfl (by (try simp only [List.map_toArray,List.map_cons,List.map_nil]);first|done|rfl|(simp only [List.length_drop,List.length_take];rfl)) ?_;(with_reducible refine (bursarref03_cut.calls k1 (fun k_ => some k_ = (.slice Ao28 x5_1.length co28 : Value).ownBlock) _ _ x5_1 t210 _ ?side1 A24.out).mono ?_);(case side1 => exact Kd.R_V (Kd.R_tight rfl (Kd.R_types (Kd.R_types (Kd.R_types (HO_5.out) BK199.out (by decide)) BK200.out (by decide)) BK201.out (by decide))));rintro e w29 ⟨v211,rfl,ho0,hb⟩;refine ⟨_,rfl,?_⟩;have n0_:=Aside0.mk (Kd.R_below (by (with_reducible repeat (first|apply Kd.R_alloc|apply Kd.R_drewN|apply Kd.R_drew));exact HO_5.out) hb);have n1_:=Aside0.mk (Kd.V_lower (Kd.V_mono (ok':=fun k_ => (w.heap.size ≤ k_) ∧ k_ ≠ gb199 ∧ k_ ≠ gb200 ∧ k_ ≠ gb201) ho0 (fun k_ hk_ => ⟨Or.elim hk_ (fun hs_ => ((Kd.R_types (Kd.R_types (Kd.R_types (HO_5.out) BK199.out (by decide)) BK200.out (by decide)) BK201.out (by decide)).1 k_ hs_.symm).1.1.1) (fun hn_ => (Nat.le_trans (below_size (by repeat (first|(with_reducible first|exact HB.out|apply below_alloc|apply pw_below_drewN|apply below_drew1|refine below_set ?_ GE199.out|refine below_set ?_ GE200.out|refine below_set ?_ GE201.out)|exact HB.out))) hn_)),Or.elim hk_ (fun hs_ => ((Kd.R_types (Kd.R_types (Kd.R_types (HO_5.out) BK199.out (by decide)) BK200.out (by decide)) BK201.out (by decide)).1 k_ hs_.symm).1.1.2) (fun hn_ => (Kd.freshB (g:=gb199) (o:=.cells #[.slice A0_0 l0_0.length c0_0] 85 (0,0)) (by (with_reducible repeat (first|refine blk_drewN ?_ _|refine blk_drew ?_|refine blk_alloc ?_ _));exact BK199.out) k_ hn_)),Or.elim hk_ (fun hs_ => ((Kd.R_types (Kd.R_types (Kd.R_types (HO_5.out) BK199.out (by decide)) BK200.out (by decide)) BK201.out (by decide)).1 k_ hs_.symm).1.2) (fun hn_ => (Kd.freshB (g:=gb200) (o:=.cells #[.slice A1_0 l1_0.length c1_0] 85 (0,0)) (by (with_reducible repeat (first|refine blk_drewN ?_ _|refine blk_drew ?_|refine blk_alloc ?_ _));exact BK200.out) k_ hn_)),Or.elim hk_ (fun hs_ => ((Kd.R_types (Kd.R_types (Kd.R_types (HO_5.out) BK199.out (by decide)) BK200.out (by decide)) BK201.out (by decide)).1 k_ hs_.symm).2) (fun hn_ => (Kd.freshB (g:=gb201) (o:=.cells #[.slice none 0 0] 85 (0,0)) (by (with_reducible repeat (first|refine blk_drewN ?_ _|refine blk_drew ?_|refine blk_alloc ?_ _));exact BK201.out) k_ hn_))⟩)) (below_size (by repeat (first|(with_reducible first|exact HB.out|apply below_alloc|apply pw_below_drewN|apply below_drew1|refine below_set ?_ GE199.out|refine below_set ?_ GE200.out|refine below_set ?_ GE201.out)|exact HB.out))));have n2_:=Aside0.mk (blk_below (g:=gb199) (o:=.cells #[.slice A0_0 l0_0.length c0_0] 85 (0,0)) (by (with_reducible repeat (first|refine blk_drewN ?_ _|refine blk_drew ?_|refine blk_alloc ?_ _));exact BK199.out) hb);have n3_:=Aside0.mk (blk_below (g:=gb200) (o:=.cells #[.slice A1_0 l1_0.length c1_0] 85 (0,0)) (by (with_reducible repeat (first|refine blk_drewN ?_ _|refine blk_drew ?_|refine blk_alloc ?_ _));exact BK200.out) hb);have n4_:=Aside0.mk (blk_below (g:=gb201) (o:=.cells #[.slice none 0 0] 85 (0,0)) (by (with_reducible repeat (first|refine blk_drewN ?_ _|refine blk_drew ?_|refine blk_alloc ?_ _));exact BK201.out) hb);have n5_:=Aside0.mk (below_step (by repeat (first|(with_reducible first|exact HB.out|apply below_alloc|apply pw_below_drewN|apply below_drew1|refine below_set ?_ GE199.out|refine below_set ?_ GE200.out|refine below_set ?_ GE201.out)|exact HB.out)) hb);clear HO_5;clear BK199;clear BK200;clear BK201;clear HB;have HO_5:=n0_;have HO212:=n1_;have BK199:=n2_;have BK200:=n3_;have BK201:=n4_;have HB:=n5_;clear n0_ n1_ n2_ n3_ n4_ n5_;(try clear hb);(try clear hb2);(try clear hk);(try clear hi);(try clear ho0);obtain ⟨Ao30,co30,eo30⟩:=Kd.V_slice HO212.out;subst eo30;have hnb31:=NB201_200.out;have hnc31:=NB200_201.out;have hcz32_0 : w29.cell? ⟨gb201,0,none⟩ = some (.slice none 0 0):=(blk_cell BK201.out 0).trans rfl;have hfz32_0:=blk_frozen BK201.out 0))
    refine bodyPost_ret (results_cell_row rfl _ _ gb201 85 #[.slice Ao30 t210.length co30] (0,0) _ rfl (by (with_reducible repeat (first|refine blk_drewN ?_ _|refine blk_drew ?_|refine blk_alloc ?_ _));refine blk_put (cs:=#[.slice none 0 0]) ?_ 0 _ rfl;(with_reducible repeat (first|refine blk_drewN ?_ _|refine blk_drew ?_|refine blk_alloc ?_ _));exact BK201.out) Tryz.underlying85 rfl (by kernel_rfl)) rfl ?_
    exact ⟨_,by first|rfl|(simp [errW_none,errW_some] <;> rfl)|(simp [*,errW_none,errW_some] <;> rfl),by (with_reducible repeat (first|apply Kd.V_alloc|apply Kd.V_drewN|apply Kd.V_drew));exact Kd.V_mono (Kd.V_far (p:=⟨gb201,0,none⟩) (Kd.V_mono HO212.out (fun k_ hk => (⟨hk,hk.2.2.2⟩ : _ ∧ k_ ≠ gb201))) (fun _ hk => hk.2) (.slice Ao30 t210.length co30)) (fun _ hk => hk.1.1),by repeat (first|(with_reducible first|exact HB.out|apply below_alloc|apply pw_below_drewN|apply below_drew1|refine below_set ?_ GE199.out|refine below_set ?_ GE200.out|refine below_set ?_ GE201.out)|exact HB.out)⟩
   rw [if_pos c6] at H
   have c6b0 : decide (x7_1 < (l0_0.length : Int)) = true:=decide_eq_true c6
   clear c6
   by_cases c7 : 0 ≤ x7_1
   rotate_left
   ·rw [if_neg c7] at H
    exact absurd H (by simp)
   rw [if_pos c7] at H
   have c7b0 : decide (0 ≤ x7_1) = true:=decide_eq_true c7
   clear c7
   replace H:=Option.bind_eq_some_iff.mp H
   obtain ⟨t203,A80,H⟩:=H
   replace H : (if (wrap64 ((wrap64 ((rd l0_0 x7_1) - t203)) - x6_1)) < 0 then (if x5_1.length < 17592186044416 then (bursarref03_Long_minus.l0 k1 (x5_1 ++ [wrap64 ((wrap64 ((wrap64 ((rd l0_0 x7_1) - t203)) - x6_1)) + 10)]) 1 (wrap64 (x7_1 + 1)) l0_0 l1_0) else (none)) else (if x5_1.length < 17592186044416 then (bursarref03_Long_minus.l0 k1 (x5_1 ++ [wrap64 ((wrap64 ((rd l0_0 x7_1) - t203)) - x6_1)]) 0 (wrap64 (x7_1 + 1)) l0_0 l1_0) else (none))) = some r:=H
   have A8:=Aside0.mk A80
   clear A80
   by_cases c9 : (wrap64 ((wrap64 ((rd l0_0 x7_1) - t203)) - x6_1)) < 0
   rotate_left
   ·rw [if_neg c9] at H
    have c9b0 : decide ((wrap64 ((wrap64 ((rd l0_0 x7_1) - t203)) - x6_1)) < 0) = false:=decide_eq_false c9
    clear c9
    by_cases c17 : x5_1.length < 17592186044416
    rotate_left
    ·rw [if_neg c17] at H
     exact absurd H (by simp)
    rw [if_pos c17] at H
    have LMc17:=Aside0.mk c17
    clear c17
    obtain ⟨y207,hy207⟩ : ∃ y_ : List Int,y_ = (x5_1 ++ [wrap64 ((wrap64 ((rd l0_0 x7_1) - t203)) - x6_1)]):=⟨_,rfl⟩
    replace H : (bursarref03_Long_minus.l0 k1 y207 0 (wrap64 (x7_1 + 1)) l0_0 l1_0) = some r:=by first|(rw [hy207];with_reducible exact H)|(have H2_:=(Option.bind_some _ _).symm.trans H;rw [hy207];with_reducible exact H2_)|(have H2_:=(Option.bind_some _ _).symm.trans H;with_reducible exact H2_)|with_reducible exact H|(rw [hy207];exact H)|exact H
    have Ny207:=Aside0.mk hy207
    clear hy207
    have H':=Aside0.mk H
    clear H
    have hnb18:=NB199_200.out
    have hnc18:=NB200_199.out
    have hnb19:=NB199_201.out
    have hnc19:=NB201_199.out
    have hcz20_0 : wr.cell? ⟨gb199,0,none⟩ = some (.slice A0_0 l0_0.length c0_0):=(blk_cell BK199.out 0).trans rfl
    have hfz20_0:=blk_frozen BK199.out 0
    try go_wp2
    have n0_:=Aside0.mk (Kd.R_drew HO_5.out)
    have n1_:=Aside0.mk (blk_drew BK199.out)
    have n2_:=Aside0.mk (blk_drew BK200.out)
    have n3_:=Aside0.mk (blk_drew BK201.out)
    have n4_:=Aside0.mk (below_drew1 HB.out)
    clear HO_5;clear BK199;clear BK200;clear BK201;clear HB;have HO_5:=n0_;have BK199:=n1_;have BK200:=n2_;have BK201:=n3_;have HB:=n4_;clear n0_ n1_ n2_ n3_ n4_
    have p202 : 0 ≤ (x7_1 : Int):=of_decide_eq_true (by first|(with_reducible assumption)|assumption)
    have q202 : x7_1 < (l0_0.length : Int):=of_decide_eq_true (by first|(with_reducible assumption)|assumption)
    obtain ⟨ad202,e202,hx202_0⟩:=Kd.at_int HR0_0.out x7_1 p202 q202
    have hw202_0:=hx202_0
    cases e202
    replace hx202_0:=(HB.out.cell (World.block_lt_of_cell? w _ hx202_0)).trans hx202_0
    replace p202:=eq_true p202
    replace q202:=eq_true q202
    refine start_ (n:=12) (S:=fun w' => w'.cell? ⟨gb199,0,none⟩ = some (.slice (some ad202) l0_0.length c0_0) ∧ w'.cell? ⟨gb200,0,none⟩ = some (.slice A1_0 l1_0.length c1_0) ∧ w'.cell? (ad202.add (x7_1).toNat) = some (.int .i64 (rd l0_0 x7_1))) (ds:=[]) #[false,false,false,false,false,false,false,false,false,false,false,false] (by kernel_rfl) rfl rfl ⟨(blk_cell BK199.out 0).trans rfl,(blk_cell BK200.out 0).trans rfl,((HB.out.cell (World.block_lt_of_cell? w _ hw202_0)).trans hw202_0)⟩ (fun hHeld => ?_);refine with_tabW bursarref03_Long_minus.tab6 bursarref03_Long_minus.bits6 (fun HT_ HW_ => ?_)
    generalize wr.drew = w21 at HO_5 BK199 BK200 BK201 HB hx202_0 hHeld ⊢
    refine pure_ (i:=0) (N:=some 16) (v:=?_) (a':=?_) #[true,false,false,false,false,false,false,false,false,false,false,false] rfl rfl (any_of HT_.out (by kernel_rfl)) (fun _ _ _ h => h) (Or.inl ⟨by rfl,?_⟩) ?_ ?_
    rotate_left;·intro w';go_simp;with_reducible rfl
    rotate_left;·simp only [pu_];rfl
    refine pure_ (i:=2) (N:=some 18) (v:=?_) (a':=?_) #[true,false,true,false,false,false,false,false,false,false,false,false] rfl rfl (any_of HT_.out (by kernel_rfl)) (fun _ _ _ h => h) (Or.inl ⟨by rfl,?_⟩) ?_ ?_
    rotate_left;·intro w';go_simp;with_reducible rfl
    rotate_left;·simp only [pu_];rfl
    refine pure_ (i:=6) (N:=some 22) (v:=?_) (a':=?_) #[true,false,true,false,false,false,true,false,false,false,false,false] rfl rfl (any_of HT_.out (by kernel_rfl)) (fun _ _ _ h => h) (Or.inl ⟨by rfl,?_⟩) ?_ ?_
    rotate_left;·intro w';go_simp;with_reducible rfl
    rotate_left;·simp only [pu_];rfl
    refine pure_ (i:=9) (N:=some 25) (v:=?_) (a':=?_) #[true,false,true,false,false,false,true,false,false,true,false,false] rfl rfl (any_of HT_.out (by kernel_rfl)) (fun _ _ _ h => h) (Or.inl ⟨by rfl,?_⟩) ?_ ?_
    rotate_left;·intro w';go_simp;with_reducible rfl
    rotate_left;·simp only [pu_];rfl
    refine take_ (i:=1) (N:=some 17) (v:=?_) (a':=?_) #[true,true,true,false,false,false,true,false,false,true,false,false] rfl rfl (take_ofW HT_.out HW_.out (by kernel_rfl)) (fun _ _ _ h => h) (Or.inl ⟨by rfl,?_⟩) hHeld ?_ ?_
    rotate_left
    ·rintro w' ⟨s0,s1,s2⟩
     go_simp
     with_reducible rfl
    rotate_left
    ·simp only [pu_]
     rfl
    refine pure_ (i:=3) (N:=some 19) (v:=?_) (a':=?_) #[true,true,true,true,false,false,true,false,false,true,false,false] rfl rfl (any_of HT_.out (by kernel_rfl)) (fun _ _ _ h => h) (Or.inl ⟨by rfl,?_⟩) ?_ ?_
    rotate_left;·intro w';go_simp;with_reducible rfl
    rotate_left;·simp only [pu_];rfl
    refine take_ (i:=4) (N:=some 20) (v:=?_) (a':=?_) #[true,true,true,true,true,false,true,false,false,true,false,false] rfl rfl (take_ofW HT_.out HW_.out (by kernel_rfl)) (fun _ _ _ h => h) (Or.inl ⟨by rfl,?_⟩) hHeld ?_ ?_
    rotate_left
    ·rintro w' ⟨s0,s1,s2⟩
     go_simp
     with_reducible rfl
    rotate_left
    ·simp only [pu_]
     rfl
    refine take_ (i:=5) (N:=some 21) (v:=?_) (a':=?_) #[true,true,true,true,true,true,true,false,false,true,false,false] rfl rfl (take_ofW HT_.out HW_.out (by kernel_rfl)) (fun _ _ _ h => h) (Or.inl ⟨by rfl,?_⟩) hHeld ?_ ?_
    rotate_left
    ·rintro w' ⟨s0,s1,s2⟩
     go_simp
     with_reducible rfl
    rotate_left
    ·simp only [pu_]
     rfl
    refine one_ (i:=7) (N:=some 23) #[true,true,true,true,true,true,true,true,false,true,false,false] rfl rfl (one_of HT_.out (by kernel_rfl)) (by decide) (fun K hK => ?_)
    refine goes_ Tryz.func92 (by kernel_rfl) rfl #[.agg #[.slice A1_0 l1_0.length c1_0],.int .i64 x7_1] (by rfl) rfl rfl (by (try simp only [List.map_toArray,List.map_cons,List.map_nil]);first|done|rfl|(simp only [List.length_drop,List.length_take];rfl)) ?_
    with_reducible refine (bursarref03_Long_at.calls _ _ l1_0 x7_1 t203 _ ?side1 ?side2 A8.out).mono ?_
    (case side1 => repeat (first|exact (Kd.C_below HR1_0.out HB.out)|(with_reducible refine Kd.C_alloc ?_ _)|(with_reducible refine Kd.C_drewN ?_ _)|(with_reducible refine Kd.C_drew ?_)))
    (case side2 => exact HC1_0.out)
    rintro e w22 ⟨rfl,hb⟩
    refine ⟨_,rfl,?_⟩
    have n0_:=Aside0.mk (Kd.R_below (by (with_reducible repeat (first|apply Kd.R_alloc|apply Kd.R_drewN|apply Kd.R_drew));exact HO_5.out) hb)
    have n1_:=Aside0.mk (blk_below (g:=gb199) (o:=.cells #[.slice (some ad202) l0_0.length c0_0] 85 (0,0)) (by (with_reducible repeat (first|refine blk_drewN ?_ _|refine blk_drew ?_|refine blk_alloc ?_ _));exact BK199.out) hb)
    have n2_:=Aside0.mk (blk_below (g:=gb200) (o:=.cells #[.slice A1_0 l1_0.length c1_0] 85 (0,0)) (by (with_reducible repeat (first|refine blk_drewN ?_ _|refine blk_drew ?_|refine blk_alloc ?_ _));exact BK200.out) hb)
    have n3_:=Aside0.mk (blk_below (g:=gb201) (o:=.cells #[.slice none 0 0] 85 (0,0)) (by (with_reducible repeat (first|refine blk_drewN ?_ _|refine blk_drew ?_|refine blk_alloc ?_ _));exact BK201.out) hb)
    have n4_:=Aside0.mk (below_step (by repeat (first|(with_reducible first|exact HB.out|apply below_alloc|apply pw_below_drewN|apply below_drew1|refine below_set ?_ GE199.out|refine below_set ?_ GE200.out|refine below_set ?_ GE201.out)|exact HB.out)) hb)
    clear HO_5;clear BK199;clear BK200;clear BK201;clear HB;have HO_5:=n0_;have BK199:=n1_;have BK200:=n2_;have BK201:=n3_;have HB:=n4_;clear n0_ n1_ n2_ n3_ n4_;(try clear hb);(try clear hb2);(try clear hk);(try clear hi)
    refine hK.out _ _ ⟨(blk_cell BK199.out 0).trans rfl,(blk_cell BK200.out 0).trans rfl,((HB.out.cell (World.block_lt_of_cell? w _ hw202_0)).trans hw202_0)⟩ (fun hHeld => ?_)
    clear hK K
    refine norm_ (a':=?_) ?_ ?_
    rotate_left
    ·show Act.put _ (some 23) _ = _
     simp only [pu_]
     rfl
    refine pure_ (i:=8) (N:=some 24) (v:=?_) (a':=?_) #[true,true,true,true,true,true,true,true,true,true,false,false] rfl rfl (any_of HT_.out (by kernel_rfl)) (fun _ _ _ h => h) (Or.inl ⟨by rfl,?_⟩) ?_ ?_
    rotate_left;·intro w';go_simp;with_reducible rfl
    rotate_left;·simp only [pu_];rfl
    refine pure_ (i:=10) (N:=some 26) (v:=?_) (a':=?_) #[true,true,true,true,true,true,true,true,true,true,true,false] rfl rfl (any_of HT_.out (by kernel_rfl)) (fun _ _ _ h => h) (Or.inl ⟨by rfl,?_⟩) ?_ ?_
    rotate_left;·intro w';go_simp;with_reducible rfl
    rotate_left;·simp only [pu_];rfl
    refine pure_ (i:=11) (N:=some 8) (v:=?_) (a':=?_) #[true,true,true,true,true,true,true,true,true,true,true,true] rfl rfl (any_of HT_.out (by kernel_rfl)) (fun _ _ _ h => h) (Or.inl ⟨by rfl,?_⟩) ?_ ?_
    rotate_left;·intro w';go_simp;with_reducible rfl
    rotate_left;·simp only [pu_];rfl
    refine done_ (done_of HT_.out (by kernel_rfl)) ?_
    try go_wp2_with (first|((with_reducible refine gate_builtin (b:=.append) (xs:=#[.tmp 31,.tmp 33]) rfl ?_);at_builtin;refine Kd.R_append (Kd.int .i64) (w0:=w) w.heap.size rfl (.tmp 31) (.tmp 33) 80 3 (.int .i64 0) 8 rfl Tryz.underlying80 info3 rfl (by decide) (by omega) u5 x5_1 (wrap64 ((wrap64 ((rd l0_0 x7_1) - t203)) - x6_1)) [.int .i64 (wrap64 ((wrap64 ((rd l0_0 x7_1) - t203)) - x6_1))] (fun k_ => (w.heap.size ≤ k_)) (fun _ => False) rfl rfl ?aP (fun _ hk => hk.elim) ?aF ?aO ?aB ?aS ?aL ?_;(case aP => exact rfl);(case aB => exact (by repeat (first|(with_reducible first|exact HB.out|apply below_alloc|apply pw_below_drewN|apply below_drew1|refine below_set ?_ GE199.out|refine below_set ?_ GE200.out|refine below_set ?_ GE201.out)|exact HB.out)));(case aF => exact (fun k_ hk => (Nat.le_trans (below_size (by repeat (first|(with_reducible first|exact HB.out|apply below_alloc|apply pw_below_drewN|apply below_drew1|refine below_set ?_ GE199.out|refine below_set ?_ GE200.out|refine below_set ?_ GE201.out)|exact HB.out))) hk)));(case aO => exact (by (with_reducible repeat (first|apply Kd.R_alloc|apply Kd.R_drewN|apply Kd.R_drew));exact HO_5.out));(case aS => exact (below_size (by repeat (first|(with_reducible first|exact HB.out|apply below_alloc|apply pw_below_drewN|apply below_drew1|refine below_set ?_ GE199.out|refine below_set ?_ GE200.out|refine below_set ?_ GE201.out)|exact HB.out))));(case aL => have:=LMc17.out;omega);intro v208 w23 ho hb hg hat;rw [← Ny207.out] at ho;have n0_:=Aside0.mk (blk_grown (g:=gb199) (o:=.cells #[.slice (some ad202) l0_0.length c0_0] 85 (0,0)) (by (with_reducible repeat (first|refine blk_drewN ?_ _|refine blk_drew ?_|refine blk_alloc ?_ _));exact BK199.out) hg (Kd.R_ne HO_5.out BK199.out (by decide)));have n1_:=Aside0.mk (blk_grown (g:=gb200) (o:=.cells #[.slice A1_0 l1_0.length c1_0] 85 (0,0)) (by (with_reducible repeat (first|refine blk_drewN ?_ _|refine blk_drew ?_|refine blk_alloc ?_ _));exact BK200.out) hg (Kd.R_ne HO_5.out BK200.out (by decide)));have n2_:=Aside0.mk (blk_grown (g:=gb201) (o:=.cells #[.slice none 0 0] 85 (0,0)) (by (with_reducible repeat (first|refine blk_drewN ?_ _|refine blk_drew ?_|refine blk_alloc ?_ _));exact BK201.out) hg (Kd.R_ne HO_5.out BK201.out (by decide)));have n3_:=Aside0.mk (hb);have n4_:=Aside0.mk (ho);clear BK199;clear BK200;clear BK201;clear HB;clear HO_5;have BK199:=n0_;have BK200:=n1_;have BK201:=n2_;have HB:=n3_;have HO209:=n4_;clear n0_ n1_ n2_ n3_ n4_;clear ho hb hg hat))
    go_roundg k1
    case measure => have:=HK1.out;omega
    case rel => exact ⟨(y207),(0),(wrap64 (x7_1 + 1)),(by first|rfl|(simp;done)|(simp [*];done)|(simp;rw [Bool.eq_iff_iff];simp;done)|(rw [Bool.eq_iff_iff];simp;done)),(by first|rfl|(simp;done)|(simp [*];done)|(simp;rw [Bool.eq_iff_iff];simp;done)|(rw [Bool.eq_iff_iff];simp;done)),H',⟨by have:=HK1.out;omega⟩,⟨by (with_reducible repeat (first|apply Kd.R_alloc|apply Kd.R_drewN|apply Kd.R_drew));exact HO209.out⟩,⟨by (with_reducible repeat (first|refine blk_drewN ?_ _|refine blk_drew ?_|refine blk_alloc ?_ _));exact BK199.out⟩,⟨by (with_reducible repeat (first|refine blk_drewN ?_ _|refine blk_drew ?_|refine blk_alloc ?_ _));exact BK200.out⟩,⟨by (with_reducible repeat (first|refine blk_drewN ?_ _|refine blk_drew ?_|refine blk_alloc ?_ _));exact BK201.out⟩,⟨by repeat (first|(with_reducible first|exact HB.out|apply below_alloc|apply pw_below_drewN|apply below_drew1|refine below_set ?_ GE199.out|refine below_set ?_ GE200.out|refine below_set ?_ GE201.out)|exact HB.out)⟩⟩
   rw [if_pos c9] at H
   have c9b0 : decide ((wrap64 ((wrap64 ((rd l0_0 x7_1) - t203)) - x6_1)) < 0) = true:=decide_eq_true c9
   clear c9
   by_cases c10 : x5_1.length < 17592186044416
   rotate_left
   ·rw [if_neg c10] at H
    exact absurd H (by simp)
   rw [if_pos c10] at H
   have LMc10:=Aside0.mk c10
   clear c10
   obtain ⟨y204,hy204⟩ : ∃ y_ : List Int,y_ = (x5_1 ++ [wrap64 ((wrap64 ((wrap64 ((rd l0_0 x7_1) - t203)) - x6_1)) + 10)]):=⟨_,rfl⟩
   replace H : (bursarref03_Long_minus.l0 k1 y204 1 (wrap64 (x7_1 + 1)) l0_0 l1_0) = some r:=by first|(rw [hy204];with_reducible exact H)|(have H2_:=(Option.bind_some _ _).symm.trans H;rw [hy204];with_reducible exact H2_)|(have H2_:=(Option.bind_some _ _).symm.trans H;with_reducible exact H2_)|with_reducible exact H|(rw [hy204];exact H)|exact H
   have Ny204:=Aside0.mk hy204
   clear hy204
   have H':=Aside0.mk H
   clear H
   have hnb11:=NB199_200.out
   have hnc11:=NB200_199.out
   have hnb12:=NB199_201.out
   have hnc12:=NB201_199.out
   have hcz13_0 : wr.cell? ⟨gb199,0,none⟩ = some (.slice A0_0 l0_0.length c0_0):=(blk_cell BK199.out 0).trans rfl
   have hfz13_0:=blk_frozen BK199.out 0
   try go_wp2
   have n0_:=Aside0.mk (Kd.R_drew HO_5.out)
   have n1_:=Aside0.mk (blk_drew BK199.out)
   have n2_:=Aside0.mk (blk_drew BK200.out)
   have n3_:=Aside0.mk (blk_drew BK201.out)
   have n4_:=Aside0.mk (below_drew1 HB.out)
   clear HO_5;clear BK199;clear BK200;clear BK201;clear HB;have HO_5:=n0_;have BK199:=n1_;have BK200:=n2_;have BK201:=n3_;have HB:=n4_;clear n0_ n1_ n2_ n3_ n4_
   have p202 : 0 ≤ (x7_1 : Int):=of_decide_eq_true (by first|(with_reducible assumption)|assumption)
   have q202 : x7_1 < (l0_0.length : Int):=of_decide_eq_true (by first|(with_reducible assumption)|assumption)
   obtain ⟨ad202,e202,hx202_0⟩:=Kd.at_int HR0_0.out x7_1 p202 q202
   have hw202_0:=hx202_0
   cases e202
   replace hx202_0:=(HB.out.cell (World.block_lt_of_cell? w _ hx202_0)).trans hx202_0
   replace p202:=eq_true p202
   replace q202:=eq_true q202
   refine start_ (n:=12) (S:=fun w' => w'.cell? ⟨gb199,0,none⟩ = some (.slice (some ad202) l0_0.length c0_0) ∧ w'.cell? ⟨gb200,0,none⟩ = some (.slice A1_0 l1_0.length c1_0) ∧ w'.cell? (ad202.add (x7_1).toNat) = some (.int .i64 (rd l0_0 x7_1))) (ds:=[]) #[false,false,false,false,false,false,false,false,false,false,false,false] (by kernel_rfl) rfl rfl ⟨(blk_cell BK199.out 0).trans rfl,(blk_cell BK200.out 0).trans rfl,((HB.out.cell (World.block_lt_of_cell? w _ hw202_0)).trans hw202_0)⟩ (fun hHeld => ?_);refine with_tabW bursarref03_Long_minus.tab6 bursarref03_Long_minus.bits6 (fun HT_ HW_ => ?_)
   generalize wr.drew = w14 at HO_5 BK199 BK200 BK201 HB hx202_0 hHeld ⊢
   refine pure_ (i:=0) (N:=some 16) (v:=?_) (a':=?_) #[true,false,false,false,false,false,false,false,false,false,false,false] rfl rfl (any_of HT_.out (by kernel_rfl)) (fun _ _ _ h => h) (Or.inl ⟨by rfl,?_⟩) ?_ ?_
   rotate_left;·intro w';go_simp;with_reducible rfl
   rotate_left;·simp only [pu_];rfl
   refine pure_ (i:=2) (N:=some 18) (v:=?_) (a':=?_) #[true,false,true,false,false,false,false,false,false,false,false,false] rfl rfl (any_of HT_.out (by kernel_rfl)) (fun _ _ _ h => h) (Or.inl ⟨by rfl,?_⟩) ?_ ?_
   rotate_left;·intro w';go_simp;with_reducible rfl
   rotate_left;·simp only [pu_];rfl
   refine pure_ (i:=6) (N:=some 22) (v:=?_) (a':=?_) #[true,false,true,false,false,false,true,false,false,false,false,false] rfl rfl (any_of HT_.out (by kernel_rfl)) (fun _ _ _ h => h) (Or.inl ⟨by rfl,?_⟩) ?_ ?_
   rotate_left;·intro w';go_simp;with_reducible rfl
   rotate_left;·simp only [pu_];rfl
   refine pure_ (i:=9) (N:=some 25) (v:=?_) (a':=?_) #[true,false,true,false,false,false,true,false,false,true,false,false] rfl rfl (any_of HT_.out (by kernel_rfl)) (fun _ _ _ h => h) (Or.inl ⟨by rfl,?_⟩) ?_ ?_
   rotate_left;·intro w';go_simp;with_reducible rfl
   rotate_left;·simp only [pu_];rfl
   refine take_ (i:=1) (N:=some 17) (v:=?_) (a':=?_) #[true,true,true,false,false,false,true,false,false,true,false,false] rfl rfl (take_ofW HT_.out HW_.out (by kernel_rfl)) (fun _ _ _ h => h) (Or.inl ⟨by rfl,?_⟩) hHeld ?_ ?_
   rotate_left
   ·rintro w' ⟨s0,s1,s2⟩
    go_simp
    with_reducible rfl
   rotate_left
   ·simp only [pu_]
    rfl
   refine pure_ (i:=3) (N:=some 19) (v:=?_) (a':=?_) #[true,true,true,true,false,false,true,false,false,true,false,false] rfl rfl (any_of HT_.out (by kernel_rfl)) (fun _ _ _ h => h) (Or.inl ⟨by rfl,?_⟩) ?_ ?_
   rotate_left;·intro w';go_simp;with_reducible rfl
   rotate_left;·simp only [pu_];rfl
   refine take_ (i:=4) (N:=some 20) (v:=?_) (a':=?_) #[true,true,true,true,true,false,true,false,false,true,false,false] rfl rfl (take_ofW HT_.out HW_.out (by kernel_rfl)) (fun _ _ _ h => h) (Or.inl ⟨by rfl,?_⟩) hHeld ?_ ?_
   rotate_left
   ·rintro w' ⟨s0,s1,s2⟩
    go_simp
    with_reducible rfl
   rotate_left
   ·simp only [pu_]
    rfl
   refine take_ (i:=5) (N:=some 21) (v:=?_) (a':=?_) #[true,true,true,true,true,true,true,false,false,true,false,false] rfl rfl (take_ofW HT_.out HW_.out (by kernel_rfl)) (fun _ _ _ h => h) (Or.inl ⟨by rfl,?_⟩) hHeld ?_ ?_
   rotate_left
   ·rintro w' ⟨s0,s1,s2⟩
    go_simp
    with_reducible rfl
   rotate_left
   ·simp only [pu_]
    rfl
   refine one_ (i:=7) (N:=some 23) #[true,true,true,true,true,true,true,true,false,true,false,false] rfl rfl (one_of HT_.out (by kernel_rfl)) (by decide) (fun K hK => ?_)
   refine goes_ Tryz.func92 (by kernel_rfl) rfl #[.agg #[.slice A1_0 l1_0.length c1_0],.int .i64 x7_1] (by rfl) rfl rfl (by (try simp only [List.map_toArray,List.map_cons,List.map_nil]);first|done|rfl|(simp only [List.length_drop,List.length_take];rfl)) ?_
   with_reducible refine (bursarref03_Long_at.calls _ _ l1_0 x7_1 t203 _ ?side1 ?side2 A8.out).mono ?_
   (case side1 => repeat (first|exact (Kd.C_below HR1_0.out HB.out)|(with_reducible refine Kd.C_alloc ?_ _)|(with_reducible refine Kd.C_drewN ?_ _)|(with_reducible refine Kd.C_drew ?_)))
   (case side2 => exact HC1_0.out)
   rintro e w15 ⟨rfl,hb⟩
   refine ⟨_,rfl,?_⟩
   have n0_:=Aside0.mk (Kd.R_below (by (with_reducible repeat (first|apply Kd.R_alloc|apply Kd.R_drewN|apply Kd.R_drew));exact HO_5.out) hb)
   have n1_:=Aside0.mk (blk_below (g:=gb199) (o:=.cells #[.slice (some ad202) l0_0.length c0_0] 85 (0,0)) (by (with_reducible repeat (first|refine blk_drewN ?_ _|refine blk_drew ?_|refine blk_alloc ?_ _));exact BK199.out) hb)
   have n2_:=Aside0.mk (blk_below (g:=gb200) (o:=.cells #[.slice A1_0 l1_0.length c1_0] 85 (0,0)) (by (with_reducible repeat (first|refine blk_drewN ?_ _|refine blk_drew ?_|refine blk_alloc ?_ _));exact BK200.out) hb)
   have n3_:=Aside0.mk (blk_below (g:=gb201) (o:=.cells #[.slice none 0 0] 85 (0,0)) (by (with_reducible repeat (first|refine blk_drewN ?_ _|refine blk_drew ?_|refine blk_alloc ?_ _));exact BK201.out) hb)
   have n4_:=Aside0.mk (below_step (by repeat (first|(with_reducible first|exact HB.out|apply below_alloc|apply pw_below_drewN|apply below_drew1|refine below_set ?_ GE199.out|refine below_set ?_ GE200.out|refine below_set ?_ GE201.out)|exact HB.out)) hb)
   clear HO_5;clear BK199;clear BK200;clear BK201;clear HB;have HO_5:=n0_;have BK199:=n1_;have BK200:=n2_;have BK201:=n3_;have HB:=n4_;clear n0_ n1_ n2_ n3_ n4_;(try clear hb);(try clear hb2);(try clear hk);(try clear hi)
   refine hK.out _ _ ⟨(blk_cell BK199.out 0).trans rfl,(blk_cell BK200.out 0).trans rfl,((HB.out.cell (World.block_lt_of_cell? w _ hw202_0)).trans hw202_0)⟩ (fun hHeld => ?_)
   clear hK K
   refine norm_ (a':=?_) ?_ ?_
   rotate_left
   ·show Act.put _ (some 23) _ = _
    simp only [pu_]
    rfl
   refine pure_ (i:=8) (N:=some 24) (v:=?_) (a':=?_) #[true,true,true,true,true,true,true,true,true,true,false,false] rfl rfl (any_of HT_.out (by kernel_rfl)) (fun _ _ _ h => h) (Or.inl ⟨by rfl,?_⟩) ?_ ?_
   rotate_left;·intro w';go_simp;with_reducible rfl
   rotate_left;·simp only [pu_];rfl
   refine pure_ (i:=10) (N:=some 26) (v:=?_) (a':=?_) #[true,true,true,true,true,true,true,true,true,true,true,false] rfl rfl (any_of HT_.out (by kernel_rfl)) (fun _ _ _ h => h) (Or.inl ⟨by rfl,?_⟩) ?_ ?_
   rotate_left;·intro w';go_simp;with_reducible rfl
   rotate_left;·simp only [pu_];rfl
   refine pure_ (i:=11) (N:=some 8) (v:=?_) (a':=?_) #[true,true,true,true,true,true,true,true,true,true,true,true] rfl rfl (any_of HT_.out (by kernel_rfl)) (fun _ _ _ h => h) (Or.inl ⟨by rfl,?_⟩) ?_ ?_
   rotate_left;·intro w';go_simp;with_reducible rfl
   rotate_left;·simp only [pu_];rfl
   refine done_ (done_of HT_.out (by kernel_rfl)) ?_
   try go_wp2_with (first|((with_reducible refine gate_builtin (b:=.append) (xs:=#[.tmp 31,.tmp 33]) rfl ?_);at_builtin;refine Kd.R_append (Kd.int .i64) (w0:=w) w.heap.size rfl (.tmp 31) (.tmp 33) 80 3 (.int .i64 0) 8 rfl Tryz.underlying80 info3 rfl (by decide) (by omega) u5 x5_1 (wrap64 ((wrap64 ((wrap64 ((rd l0_0 x7_1) - t203)) - x6_1)) + 10)) [.int .i64 (wrap64 ((wrap64 ((wrap64 ((rd l0_0 x7_1) - t203)) - x6_1)) + 10))] (fun k_ => (w.heap.size ≤ k_)) (fun _ => False) rfl rfl ?aP (fun _ hk => hk.elim) ?aF ?aO ?aB ?aS ?aL ?_;(case aP => exact rfl);(case aB => exact (by repeat (first|(with_reducible first|exact HB.out|apply below_alloc|apply pw_below_drewN|apply below_drew1|refine below_set ?_ GE199.out|refine below_set ?_ GE200.out|refine below_set ?_ GE201.out)|exact HB.out)));(case aF => exact (fun k_ hk => (Nat.le_trans (below_size (by repeat (first|(with_reducible first|exact HB.out|apply below_alloc|apply pw_below_drewN|apply below_drew1|refine below_set ?_ GE199.out|refine below_set ?_ GE200.out|refine below_set ?_ GE201.out)|exact HB.out))) hk)));(case aO => exact (by (with_reducible repeat (first|apply Kd.R_alloc|apply Kd.R_drewN|apply Kd.R_drew));exact HO_5.out));(case aS => exact (below_size (by repeat (first|(with_reducible first|exact HB.out|apply below_alloc|apply pw_below_drewN|apply below_drew1|refine below_set ?_ GE199.out|refine below_set ?_ GE200.out|refine below_set ?_ GE201.out)|exact HB.out))));(case aL => have:=LMc10.out;omega);intro v205 w16 ho hb hg hat;rw [← Ny204.out] at ho;have n0_:=Aside0.mk (blk_grown (g:=gb199) (o:=.cells #[.slice (some ad202) l0_0.length c0_0] 85 (0,0)) (by (with_reducible repeat (first|refine blk_drewN ?_ _|refine blk_drew ?_|refine blk_alloc ?_ _));exact BK199.out) hg (Kd.R_ne HO_5.out BK199.out (by decide)));have n1_:=Aside0.mk (blk_grown (g:=gb200) (o:=.cells #[.slice A1_0 l1_0.length c1_0] 85 (0,0)) (by (with_reducible repeat (first|refine blk_drewN ?_ _|refine blk_drew ?_|refine blk_alloc ?_ _));exact BK200.out) hg (Kd.R_ne HO_5.out BK200.out (by decide)));have n2_:=Aside0.mk (blk_grown (g:=gb201) (o:=.cells #[.slice none 0 0] 85 (0,0)) (by (with_reducible repeat (first|refine blk_drewN ?_ _|refine blk_drew ?_|refine blk_alloc ?_ _));exact BK201.out) hg (Kd.R_ne HO_5.out BK201.out (by decide)));have n3_:=Aside0.mk (hb);have n4_:=Aside0.mk (ho);clear BK199;clear BK200;clear BK201;clear HB;clear HO_5;have BK199:=n0_;have BK200:=n1_;have BK201:=n2_;have HB:=n3_;have HO206:=n4_;clear n0_ n1_ n2_ n3_ n4_;clear ho hb hg hat))
   go_roundg k1
   case measure => have:=HK1.out;omega
   case rel => exact ⟨(y204),(1),(wrap64 (x7_1 + 1)),(by first|rfl|(simp;done)|(simp [*];done)|(simp;rw [Bool.eq_iff_iff];simp;done)|(rw [Bool.eq_iff_iff];simp;done)),(by first|rfl|(simp;done)|(simp [*];done)|(simp;rw [Bool.eq_iff_iff];simp;done)|(rw [Bool.eq_iff_iff];simp;done)),H',⟨by have:=HK1.out;omega⟩,⟨by (with_reducible repeat (first|apply Kd.R_alloc|apply Kd.R_drewN|apply Kd.R_drew));exact HO206.out⟩,⟨by (with_reducible repeat (first|refine blk_drewN ?_ _|refine blk_drew ?_|refine blk_alloc ?_ _));exact BK199.out⟩,⟨by (with_reducible repeat (first|refine blk_drewN ?_ _|refine blk_drew ?_|refine blk_alloc ?_ _));exact BK200.out⟩,⟨by (with_reducible repeat (first|refine blk_drewN ?_ _|refine blk_drew ?_|refine blk_alloc ?_ _));exact BK201.out⟩,⟨by repeat (first|(with_reducible first|exact HB.out|apply below_alloc|apply pw_below_drewN|apply below_drew1|refine below_set ?_ GE199.out|refine below_set ?_ GE200.out|refine below_set ?_ GE201.out)|exact HB.out)⟩⟩
end Go.Proofs.YtejgbdclhlolkaaGreatDoor.Q
namespace Go.Proofs.YtejgbdclhlolkaaGreatDoor.Q
open Go.RowKit Go.Proofs.YtejgbdclhlolkaaGreatDoorW.PrintWords Go.Proofs.YtejgbdclhlolkaaGreatDoorW.PrintLast Go.Proofs.YtejgbdclhlolkaaGreatDoorW.PrintMore
attribute [local go_sem] max2_int min2_int max_two min_two max_three min_three max_four min_four   -- for this text's walks alone
set_option linter.unusedVariables false
set_option linter.unusedSimpArgs false
mutual
def bursarref03_Long_by.l0 : Nat → List Int → Int → List Int → List Int → List Int → Option (List Int × List Int)
|0,_,_,_,_,_ => none
|k + 1,x6,x8,x214000,x215000,x221000 => if x8 ≥ 0 then (if 0 ≤ x8 then (if x8 < (x214000.length : Int) then (if ([] : List Int).length < 17592186044416 then ((some (([] : List Int) ++ [rd x214000 x8] : List Int)).bind fun y225 => (if y225.length + x221000.length < 17592186044416 then ((bursarref03_cut.f k (y225 ++ x221000)).bind fun t231 => (bursarref03_Long_by.l1 k x6 x8 x214000 x215000 t231)) else (none))) else (none)) else (none)) else (none)) else ((bursarref03_cut.f k x6).bind fun t221 => (some (t221,x221000)))
def bursarref03_Long_by.l1 : Nat → List Int → Int → List Int → List Int → List Int → Option (List Int × List Int)
|0,_,_,_,_,_ => none
|k + 1,x6,x8,x214000,x215000,x221000 => (bursarref03_Long_less.f k x221000 x215000).bind fun t234 => (if t234 = true then (bursarref03_Long_by.l0 k x6 (wrap64 (x8 - 1)) x214000 x215000 x221000) else ((bursarref03_Long_minus.f k x221000 x215000).bind fun t235 => (if 0 ≤ x8 then (if x8 < (x6.length : Int) then (bursarref03_Long_by.l1 k (x6.set (x8 : Int).toNat (wrap64 ((rd x6 x8) + 1))) x8 x214000 x215000 t235) else (none)) else (none))))
end
def bursarref03_Long_by.f (k : Nat) (l0_0 : List Int) (l1_0 : List Int) : Option (List Int × List Int) := if 0 ≤ (l0_0.length : Int) then (if ((l0_0.length : Int) : Int).toNat ≤ 35184372088832 then (bursarref03_Long_by.l0 k (List.replicate ((l0_0.length : Int) : Int).toNat 0) (wrap64 ((l0_0.length : Int) - 1)) l0_0 l1_0 ([] : List Int)) else (none)) else (none)
theorem bursarref03_Long_by.mono_l : ∀ k, (∀ y0 y1 y2 y3 y4, LeO (bursarref03_Long_by.l0 k y0 y1 y2 y3 y4) (bursarref03_Long_by.l0 (k + 1) y0 y1 y2 y3 y4)) ∧ (∀ y0 y1 y2 y3 y4, LeO (bursarref03_Long_by.l1 k y0 y1 y2 y3 y4) (bursarref03_Long_by.l1 (k + 1) y0 y1 y2 y3 y4))
|0 => ⟨fun _ _ _ _ _ r h => by simp [bursarref03_Long_by.l0] at h,fun _ _ _ _ _ r h => by simp [bursarref03_Long_by.l1] at h⟩
|k + 1 => by
  obtain ⟨ih0,ih1⟩:=bursarref03_Long_by.mono_l k
  refine ⟨?_,?_⟩
  ·intro y0 y1 y2 y3 y4
   unfold bursarref03_Long_by.l0
   repeat' first
  |(with_reducible exact ih0 _ _ _ _ _)
  |(with_reducible exact ih1 _ _ _ _ _)
  |(with_reducible exact bursarref03_Long_less.mono _ _ _)
  |(with_reducible exact bursarref03_Long_minus.mono _ _ _)
  |(with_reducible exact bursarref03_cut.mono _ _)
  |(with_reducible exact LeO.refl _)
  |(with_reducible exact LeO.none _)
  |(with_reducible refine LeO.ite ?_ ?_)
  |(with_reducible refine LeO.bind ?_ (fun _ => ?_))
  |exact ih0 _ _ _ _ _
  |exact ih1 _ _ _ _ _
  |exact bursarref03_Long_less.mono _ _ _
  |exact bursarref03_Long_minus.mono _ _ _
  |exact bursarref03_cut.mono _ _
  |exact LeO.none _
  |refine LeO.ite ?_ ?_
  |refine LeO.bind ?_ (fun _ => ?_)
  ·intro y0 y1 y2 y3 y4
   unfold bursarref03_Long_by.l1
   repeat' first
  |(with_reducible exact ih0 _ _ _ _ _)
  |(with_reducible exact ih1 _ _ _ _ _)
  |(with_reducible exact bursarref03_Long_less.mono _ _ _)
  |(with_reducible exact bursarref03_Long_minus.mono _ _ _)
  |(with_reducible exact bursarref03_cut.mono _ _)
  |(with_reducible exact LeO.refl _)
  |(with_reducible exact LeO.none _)
  |(with_reducible refine LeO.ite ?_ ?_)
  |(with_reducible refine LeO.bind ?_ (fun _ => ?_))
  |exact ih0 _ _ _ _ _
  |exact ih1 _ _ _ _ _
  |exact bursarref03_Long_less.mono _ _ _
  |exact bursarref03_Long_minus.mono _ _ _
  |exact bursarref03_cut.mono _ _
  |exact LeO.none _
  |refine LeO.ite ?_ ?_
  |refine LeO.bind ?_ (fun _ => ?_)
theorem bursarref03_Long_by.mono : ∀ a0 a1 k, LeO (bursarref03_Long_by.f k a0 a1) (bursarref03_Long_by.f (k + 1) a0 a1) := by
 intro a0 a1 k
 obtain ⟨ih0,ih1⟩:=bursarref03_Long_by.mono_l k
 unfold bursarref03_Long_by.f
 repeat' first
  |(with_reducible exact ih0 _ _ _ _ _)
  |(with_reducible exact ih1 _ _ _ _ _)
  |(with_reducible exact bursarref03_Long_less.mono _ _ _)
  |(with_reducible exact bursarref03_Long_minus.mono _ _ _)
  |(with_reducible exact bursarref03_cut.mono _ _)
  |(with_reducible exact LeO.refl _)
  |(with_reducible exact LeO.none _)
  |(with_reducible refine LeO.ite ?_ ?_)
  |(with_reducible refine LeO.bind ?_ (fun _ => ?_))
  |exact ih0 _ _ _ _ _
  |exact ih1 _ _ _ _ _
  |exact bursarref03_Long_less.mono _ _ _
  |exact bursarref03_Long_minus.mono _ _ _
  |exact bursarref03_cut.mono _ _
  |exact LeO.none _
  |refine LeO.ite ?_ ?_
  |refine LeO.bind ?_ (fun _ => ?_)
set_option maxHeartbeats 8000000 in
set_option maxRecDepth 100000 in
theorem bursarref03_Long_by.calls (k : Nat) (A0_0 : Option Addr) (c0_0 : Nat) (l0_0 : List Int) (A1_0 : Option Addr) (c1_0 : Nat) (l1_0 : List Int) (r1 : List Int) (r2 : List Int) (w : World) (hr0_0 : Kd.C (Kd.int .i64) w A0_0 l0_0.length l0_0) (hc0_0 : l0_0.length ≤ c0_0) (hr1_0 : Kd.C (Kd.int .i64) w A1_0 l1_0.length l1_0) (hc1_0 : l1_0.length ≤ c1_0) (h : bursarref03_Long_by.f k l0_0 l1_0 = some (r1, r2)) :
  Calls Tryz.prog 64 #[.agg #[.slice A0_0 l0_0.length c0_0],.agg #[.slice A1_0 l1_0.length c1_0]] w fun e w' => ∃ v0_ v1_ : Value,e = .returned (.tuple #[.agg #[v0_],.agg #[v1_]]) ∧ Kd.V (Kd.int .i64) 3 w' w.heap.size (fun k_ => (w.heap.size ≤ k_)) v0_ r1 ∧ Kd.V (Kd.int .i64) 3 w' w.heap.size (fun k_ => (w.heap.size ≤ k_)) v1_ r2 ∧ Below w.heap.size w w':=by
 have hu85:=Tryz.underlying85
 have HR0_0:=Aside0.mk hr0_0
 have HC0_0:=Aside0.mk hc0_0
 clear hr0_0 hc0_0
 have HR1_0:=Aside0.mk hr1_0
 have HC1_0:=Aside0.mk hc1_0
 clear hr1_0 hc1_0
 have HB:=Aside0.mk (Below.refl w.heap.size w)
 have H : (if 0 ≤ (l0_0.length : Int) then (if ((l0_0.length : Int) : Int).toNat ≤ 35184372088832 then (bursarref03_Long_by.l0 k (List.replicate ((l0_0.length : Int) : Int).toNat 0) (wrap64 ((l0_0.length : Int) - 1)) l0_0 l1_0 ([] : List Int)) else (none)) else (none)) = some (r1,r2):=h
 clear h
 by_cases c3 : 0 ≤ (l0_0.length : Int)
 rotate_left
 ·rw [if_neg c3] at H
  exact absurd H (by simp)
 rw [if_pos c3] at H
 have c3b0:=eq_true c3
 have c3b1 : decide (0 ≤ (l0_0.length : Int)) = true:=decide_eq_true c3
 clear c3
 by_cases c4 : ((l0_0.length : Int) : Int).toNat ≤ 35184372088832
 rotate_left
 ·rw [if_neg c4] at H
  exact absurd H (by simp)
 rw [if_pos c4] at H
 have c4b0:=eq_true c4
 have c4b1 : decide (((l0_0.length : Int) : Int).toNat ≤ 35184372088832) = true:=decide_eq_true c4
 clear c4
 obtain ⟨y217,hy217⟩ : ∃ y_ : List Int,y_ = (List.replicate ((l0_0.length : Int) : Int).toNat 0):=⟨_,rfl⟩
 replace H : (bursarref03_Long_by.l0 k y217 (wrap64 ((l0_0.length : Int) - 1)) l0_0 l1_0 ([] : List Int)) = some (r1,r2):=by first|(rw [hy217];with_reducible exact H)|(have H2_:=(Option.bind_some _ _).symm.trans H;rw [hy217];with_reducible exact H2_)|(have H2_:=(Option.bind_some _ _).symm.trans H;with_reducible exact H2_)|with_reducible exact H|(rw [hy217];exact H)|exact H
 have Ny217:=Aside0.mk hy217
 clear hy217
 have H':=Aside0.mk H
 clear H
 go_enter Tryz.func64,Tryz.ntmps64
 go_wp2_with (first|((with_reducible refine gate_dst (N:=2) rfl ?_);refine box_event ?hg (N:=2) ?hd (cs:=#[.slice A0_0 l0_0.length c0_0]) (t:=85) ?hr ?_;(case hd => rfl);(case hg => rfl);(case hr => first|(go_simp;done)|(go_simp;rfl));intro gb213 hg w5 hbox hb;have n0_:=Aside0.mk (below_step (by repeat (first|(with_reducible first|exact HB.out|apply below_alloc|apply pw_below_drewN|apply below_drew1)|exact HB.out)) hb);have n1_:=Aside0.mk (hbox);have n2_:=Aside0.mk ((by rw [hg];exact (below_size (by repeat (first|(with_reducible first|exact HB.out|apply below_alloc|apply pw_below_drewN|apply below_drew1)|exact HB.out))) : w.heap.size ≤ gb213));have n3_:=Aside0.mk ((by rw [hg];exact (below_size (by repeat (first|(with_reducible first|exact HB.out|apply below_alloc|apply pw_below_drewN|apply below_drew1)|exact HB.out))) : w.heap.size ≤ gb213));clear HB;have HB:=n0_;have BK213:=n1_;have GW213:=n2_;have GE213:=n3_;clear n0_ n1_ n2_ n3_;clear hb hbox hg)|((with_reducible refine gate_dst (N:=3) rfl ?_);refine box_event ?hg (N:=3) ?hd (cs:=#[.slice A1_0 l1_0.length c1_0]) (t:=85) ?hr ?_;(case hd => rfl);(case hg => rfl);(case hr => first|(go_simp;done)|(go_simp;rfl));intro gb214 hg w6 hbox hb;have n0_:=Aside0.mk (blk_below (g:=gb213) (o:=.cells #[.slice A0_0 l0_0.length c0_0] 85 (0,0)) (by (with_reducible repeat (first|refine blk_drewN ?_ _|refine blk_drew ?_|refine blk_alloc ?_ _));exact BK213.out) hb);have n1_:=Aside0.mk (below_step (by repeat (first|(with_reducible first|exact HB.out|apply below_alloc|apply pw_below_drewN|apply below_drew1|refine below_set ?_ GE213.out)|exact HB.out)) hb);have n2_:=Aside0.mk (hbox);have n3_:=Aside0.mk ((by rw [hg];exact (below_size (by repeat (first|(with_reducible first|exact HB.out|apply below_alloc|apply pw_below_drewN|apply below_drew1|refine below_set ?_ GE213.out)|exact HB.out))) : w.heap.size ≤ gb214));have n4_:=Aside0.mk ((by rw [hg];exact (below_size (by repeat (first|(with_reducible first|exact HB.out|apply below_alloc|apply pw_below_drewN|apply below_drew1|refine below_set ?_ GE213.out)|exact HB.out))) : w.heap.size ≤ gb214));have n5_:=Aside0.mk ((by rw [hg];exact Nat.ne_of_lt (blk_lt (g:=gb213) (o:=.cells #[.slice A0_0 l0_0.length c0_0] 85 (0,0)) (by (with_reducible repeat (first|refine blk_drewN ?_ _|refine blk_drew ?_|refine blk_alloc ?_ _));exact BK213.out)) : gb213 ≠ gb214));have n6_:=Aside0.mk ((by rw [hg];exact Nat.ne_of_gt (blk_lt (g:=gb213) (o:=.cells #[.slice A0_0 l0_0.length c0_0] 85 (0,0)) (by (with_reducible repeat (first|refine blk_drewN ?_ _|refine blk_drew ?_|refine blk_alloc ?_ _));exact BK213.out)) : gb214 ≠ gb213));clear BK213;clear HB;have BK213:=n0_;have HB:=n1_;have BK214:=n2_;have GW214:=n3_;have GE214:=n4_;have NB213_214:=n5_;have NB214_213:=n6_;clear n0_ n1_ n2_ n3_ n4_ n5_ n6_;clear hb hbox hg)|((with_reducible refine gate_dst (N:=4) rfl ?_);refine box_event ?hg (N:=4) ?hd (cs:=#[.slice none 0 0]) (t:=85) ?hr ?_;(case hd => rfl);(case hg => rfl);(case hr => first|(go_simp;done)|(go_simp;rfl));intro gb215 hg w7 hbox hb;have n0_:=Aside0.mk (blk_below (g:=gb213) (o:=.cells #[.slice A0_0 l0_0.length c0_0] 85 (0,0)) (by (with_reducible repeat (first|refine blk_drewN ?_ _|refine blk_drew ?_|refine blk_alloc ?_ _));exact BK213.out) hb);have n1_:=Aside0.mk (blk_below (g:=gb214) (o:=.cells #[.slice A1_0 l1_0.length c1_0] 85 (0,0)) (by (with_reducible repeat (first|refine blk_drewN ?_ _|refine blk_drew ?_|refine blk_alloc ?_ _));exact BK214.out) hb);have n2_:=Aside0.mk (below_step (by repeat (first|(with_reducible first|exact HB.out|apply below_alloc|apply pw_below_drewN|apply below_drew1|refine below_set ?_ GE213.out|refine below_set ?_ GE214.out)|exact HB.out)) hb);have n3_:=Aside0.mk (hbox);have n4_:=Aside0.mk ((by rw [hg];exact (below_size (by repeat (first|(with_reducible first|exact HB.out|apply below_alloc|apply pw_below_drewN|apply below_drew1|refine below_set ?_ GE213.out|refine below_set ?_ GE214.out)|exact HB.out))) : w.heap.size ≤ gb215));have n5_:=Aside0.mk ((by rw [hg];exact (below_size (by repeat (first|(with_reducible first|exact HB.out|apply below_alloc|apply pw_below_drewN|apply below_drew1|refine below_set ?_ GE213.out|refine below_set ?_ GE214.out)|exact HB.out))) : w.heap.size ≤ gb215));have n6_:=Aside0.mk ((by rw [hg];exact Nat.ne_of_lt (blk_lt (g:=gb213) (o:=.cells #[.slice A0_0 l0_0.length c0_0] 85 (0,0)) (by (with_reducible repeat (first|refine blk_drewN ?_ _|refine blk_drew ?_|refine blk_alloc ?_ _));exact BK213.out)) : gb213 ≠ gb215));have n7_:=Aside0.mk ((by rw [hg];exact Nat.ne_of_gt (blk_lt (g:=gb213) (o:=.cells #[.slice A0_0 l0_0.length c0_0] 85 (0,0)) (by (with_reducible repeat (first|refine blk_drewN ?_ _|refine blk_drew ?_|refine blk_alloc ?_ _));exact BK213.out)) : gb215 ≠ gb213));have n8_:=Aside0.mk ((by rw [hg];exact Nat.ne_of_lt (blk_lt (g:=gb214) (o:=.cells #[.slice A1_0 l1_0.length c1_0] 85 (0,0)) (by (with_reducible repeat (first|refine blk_drewN ?_ _|refine blk_drew ?_|refine blk_alloc ?_ _));exact BK214.out)) : gb214 ≠ gb215));have n9_:=Aside0.mk ((by rw [hg];exact Nat.ne_of_gt (blk_lt (g:=gb214) (o:=.cells #[.slice A1_0 l1_0.length c1_0] 85 (0,0)) (by (with_reducible repeat (first|refine blk_drewN ?_ _|refine blk_drew ?_|refine blk_alloc ?_ _));exact BK214.out)) : gb215 ≠ gb214));clear BK213;clear BK214;clear HB;have BK213:=n0_;have BK214:=n1_;have HB:=n2_;have BK215:=n3_;have GW215:=n4_;have GE215:=n5_;have NB213_215:=n6_;have NB215_213:=n7_;have NB214_215:=n8_;have NB215_214:=n9_;clear n0_ n1_ n2_ n3_ n4_ n5_ n6_ n7_ n8_ n9_;clear hb hbox hg)|((with_reducible refine gate_dst (N:=5) rfl ?_);refine box_event ?hg (N:=5) ?hd (cs:=#[.slice none 0 0]) (t:=85) ?hr ?_;(case hd => rfl);(case hg => rfl);(case hr => first|(go_simp;done)|(go_simp;rfl));intro gb216 hg w8 hbox hb;have n0_:=Aside0.mk (blk_below (g:=gb213) (o:=.cells #[.slice A0_0 l0_0.length c0_0] 85 (0,0)) (by (with_reducible repeat (first|refine blk_drewN ?_ _|refine blk_drew ?_|refine blk_alloc ?_ _));exact BK213.out) hb);have n1_:=Aside0.mk (blk_below (g:=gb214) (o:=.cells #[.slice A1_0 l1_0.length c1_0] 85 (0,0)) (by (with_reducible repeat (first|refine blk_drewN ?_ _|refine blk_drew ?_|refine blk_alloc ?_ _));exact BK214.out) hb);have n2_:=Aside0.mk (blk_below (g:=gb215) (o:=.cells #[.slice none 0 0] 85 (0,0)) (by (with_reducible repeat (first|refine blk_drewN ?_ _|refine blk_drew ?_|refine blk_alloc ?_ _));exact BK215.out) hb);have n3_:=Aside0.mk (below_step (by repeat (first|(with_reducible first|exact HB.out|apply below_alloc|apply pw_below_drewN|apply below_drew1|refine below_set ?_ GE213.out|refine below_set ?_ GE214.out|refine below_set ?_ GE215.out)|exact HB.out)) hb);have n4_:=Aside0.mk (hbox);have n5_:=Aside0.mk ((by rw [hg];exact (below_size (by repeat (first|(with_reducible first|exact HB.out|apply below_alloc|apply pw_below_drewN|apply below_drew1|refine below_set ?_ GE213.out|refine below_set ?_ GE214.out|refine below_set ?_ GE215.out)|exact HB.out))) : w.heap.size ≤ gb216));have n6_:=Aside0.mk ((by rw [hg];exact (below_size (by repeat (first|(with_reducible first|exact HB.out|apply below_alloc|apply pw_below_drewN|apply below_drew1|refine below_set ?_ GE213.out|refine below_set ?_ GE214.out|refine below_set ?_ GE215.out)|exact HB.out))) : w.heap.size ≤ gb216));have n7_:=Aside0.mk ((by rw [hg];exact Nat.ne_of_lt (blk_lt (g:=gb213) (o:=.cells #[.slice A0_0 l0_0.length c0_0] 85 (0,0)) (by (with_reducible repeat (first|refine blk_drewN ?_ _|refine blk_drew ?_|refine blk_alloc ?_ _));exact BK213.out)) : gb213 ≠ gb216));have n8_:=Aside0.mk ((by rw [hg];exact Nat.ne_of_gt (blk_lt (g:=gb213) (o:=.cells #[.slice A0_0 l0_0.length c0_0] 85 (0,0)) (by (with_reducible repeat (first|refine blk_drewN ?_ _|refine blk_drew ?_|refine blk_alloc ?_ _));exact BK213.out)) : gb216 ≠ gb213));have n9_:=Aside0.mk ((by rw [hg];exact Nat.ne_of_lt (blk_lt (g:=gb214) (o:=.cells #[.slice A1_0 l1_0.length c1_0] 85 (0,0)) (by (with_reducible repeat (first|refine blk_drewN ?_ _|refine blk_drew ?_|refine blk_alloc ?_ _));exact BK214.out)) : gb214 ≠ gb216));have n10_:=Aside0.mk ((by rw [hg];exact Nat.ne_of_gt (blk_lt (g:=gb214) (o:=.cells #[.slice A1_0 l1_0.length c1_0] 85 (0,0)) (by (with_reducible repeat (first|refine blk_drewN ?_ _|refine blk_drew ?_|refine blk_alloc ?_ _));exact BK214.out)) : gb216 ≠ gb214));have n11_:=Aside0.mk ((by rw [hg];exact Nat.ne_of_lt (blk_lt (g:=gb215) (o:=.cells #[.slice none 0 0] 85 (0,0)) (by (with_reducible repeat (first|refine blk_drewN ?_ _|refine blk_drew ?_|refine blk_alloc ?_ _));exact BK215.out)) : gb215 ≠ gb216));have n12_:=Aside0.mk ((by rw [hg];exact Nat.ne_of_gt (blk_lt (g:=gb215) (o:=.cells #[.slice none 0 0] 85 (0,0)) (by (with_reducible repeat (first|refine blk_drewN ?_ _|refine blk_drew ?_|refine blk_alloc ?_ _));exact BK215.out)) : gb216 ≠ gb215));clear BK213;clear BK214;clear BK215;clear HB;have BK213:=n0_;have BK214:=n1_;have BK215:=n2_;have HB:=n3_;have BK216:=n4_;have GW216:=n5_;have GE216:=n6_;have NB213_216:=n7_;have NB216_213:=n8_;have NB214_216:=n9_;have NB216_214:=n10_;have NB215_216:=n11_;have NB216_215:=n12_;clear n0_ n1_ n2_ n3_ n4_ n5_ n6_ n7_ n8_ n9_ n10_ n11_ n12_;clear hb hbox hg;have hnb9:=NB213_214.out;have hnc9:=NB214_213.out;have hnb10:=NB213_215.out;have hnc10:=NB215_213.out;have hnb11:=NB213_216.out;have hnc11:=NB216_213.out;have hcz12_0 : w8.cell? ⟨gb213,0,none⟩ = some (.slice A0_0 l0_0.length c0_0):=(blk_cell BK213.out 0).trans rfl;have hfz12_0:=blk_frozen BK213.out 0)|((with_reducible refine gate_dst (N:=13) rfl ?_);refine Kd.R_make (Kd.int .i64) _ 3 rfl (N:=13) rfl 80 _ _ rfl (l0_0.length : Int) rfl rfl Tryz.underlying80 (.int .i64 0) 8 info3 rfl (by decide) (by omega) 0 (ok:=fun _ => True) (okp:=fun _ => True) rfl (fun _ hk => hk) trivial (of_decide_eq_true (by first|(with_reducible assumption)|assumption)) (Nat.le_trans (Nat.mul_le_mul_right _ (of_decide_eq_true (by first|(with_reducible assumption)|assumption) : (l0_0.length : Int).toNat ≤ 35184372088832)) (by omega)) (Below.refl _ _) (Nat.le_refl _) ?_;intro v218 w13 ho14 hb hg_ hnew_;clear hg_ hnew_;(first|rw [← Ny217.out] at ho14|(simp only [Int.reduceToNat] at ho14;rw [← Ny217.out] at ho14));have n0_:=Aside0.mk (Kd.R_lower (Kd.R_newM (M:=fun k_ => (w.heap.size ≤ k_)) ho14 (below_size (by repeat (first|(with_reducible first|exact HB.out|apply below_alloc|apply pw_below_drewN|apply below_drew1|refine below_set ?_ GE213.out|refine below_set ?_ GE214.out|refine below_set ?_ GE215.out|refine below_set ?_ GE216.out)|exact HB.out))) (fun k_ h_ => h_)) (below_size (by repeat (first|(with_reducible first|exact HB.out|apply below_alloc|apply pw_below_drewN|apply below_drew1|refine below_set ?_ GE213.out|refine below_set ?_ GE214.out|refine below_set ?_ GE215.out|refine below_set ?_ GE216.out)|exact HB.out))));have n1_:=Aside0.mk (blk_below (g:=gb213) (o:=.cells #[.slice A0_0 l0_0.length c0_0] 85 (0,0)) (by (with_reducible repeat (first|refine blk_drewN ?_ _|refine blk_drew ?_|refine blk_alloc ?_ _));exact BK213.out) hb);have n2_:=Aside0.mk (blk_below (g:=gb214) (o:=.cells #[.slice A1_0 l1_0.length c1_0] 85 (0,0)) (by (with_reducible repeat (first|refine blk_drewN ?_ _|refine blk_drew ?_|refine blk_alloc ?_ _));exact BK214.out) hb);have n3_:=Aside0.mk (blk_below (g:=gb215) (o:=.cells #[.slice none 0 0] 85 (0,0)) (by (with_reducible repeat (first|refine blk_drewN ?_ _|refine blk_drew ?_|refine blk_alloc ?_ _));exact BK215.out) hb);have n4_:=Aside0.mk (blk_below (g:=gb216) (o:=.cells #[.slice none 0 0] 85 (0,0)) (by (with_reducible repeat (first|refine blk_drewN ?_ _|refine blk_drew ?_|refine blk_alloc ?_ _));exact BK216.out) hb);have n5_:=Aside0.mk (below_step (by repeat (first|(with_reducible first|exact HB.out|apply below_alloc|apply pw_below_drewN|apply below_drew1|refine below_set ?_ GE213.out|refine below_set ?_ GE214.out|refine below_set ?_ GE215.out|refine below_set ?_ GE216.out)|exact HB.out)) hb);clear BK213;clear BK214;clear BK215;clear BK216;clear HB;have HO219:=n0_;have BK213:=n1_;have BK214:=n2_;have BK215:=n3_;have BK216:=n4_;have HB:=n5_;clear n0_ n1_ n2_ n3_ n4_ n5_;clear hb ho14)|((with_reducible refine gate_dst (N:=7) rfl ?_);refine box_event ?hg (N:=7) ?hd (cs:=#[.slice none 0 0]) (t:=85) ?hr ?_;(case hd => rfl);(case hg => rfl);(case hr => first|(go_simp;done)|(go_simp;rfl));intro gb220 hg w15 hbox hb;have n0_:=Aside0.mk (Kd.R_below (by (with_reducible repeat (first|apply Kd.R_alloc|apply Kd.R_drewN|apply Kd.R_drew));exact HO219.out) hb);have n1_:=Aside0.mk (blk_below (g:=gb213) (o:=.cells #[.slice A0_0 l0_0.length c0_0] 85 (0,0)) (by (with_reducible repeat (first|refine blk_drewN ?_ _|refine blk_drew ?_|refine blk_alloc ?_ _));exact BK213.out) hb);have n2_:=Aside0.mk (blk_below (g:=gb214) (o:=.cells #[.slice A1_0 l1_0.length c1_0] 85 (0,0)) (by (with_reducible repeat (first|refine blk_drewN ?_ _|refine blk_drew ?_|refine blk_alloc ?_ _));exact BK214.out) hb);have n3_:=Aside0.mk (blk_below (g:=gb215) (o:=.cells #[.slice none 0 0] 85 (0,0)) (by (with_reducible repeat (first|refine blk_drewN ?_ _|refine blk_drew ?_|refine blk_alloc ?_ _));exact BK215.out) hb);have n4_:=Aside0.mk (blk_below (g:=gb216) (o:=.cells #[.slice none 0 0] 85 (0,0)) (by (with_reducible repeat (first|refine blk_drewN ?_ _|refine blk_drew ?_|refine blk_alloc ?_ _));exact BK216.out) hb);have n5_:=Aside0.mk (below_step (by repeat (first|(with_reducible first|exact HB.out|apply below_alloc|apply pw_below_drewN|apply below_drew1|refine below_set ?_ GE213.out|refine below_set ?_ GE214.out|refine below_set ?_ GE215.out|refine below_set ?_ GE216.out)|exact HB.out)) hb);have n6_:=Aside0.mk (hbox);have n7_:=Aside0.mk ((by rw [hg];exact (below_size (by repeat (first|(with_reducible first|exact HB.out|apply below_alloc|apply pw_below_drewN|apply below_drew1|refine below_set ?_ GE213.out|refine below_set ?_ GE214.out|refine below_set ?_ GE215.out|refine below_set ?_ GE216.out)|exact HB.out))) : w.heap.size ≤ gb220));have n8_:=Aside0.mk ((by rw [hg];exact (below_size (by repeat (first|(with_reducible first|exact HB.out|apply below_alloc|apply pw_below_drewN|apply below_drew1|refine below_set ?_ GE213.out|refine below_set ?_ GE214.out|refine below_set ?_ GE215.out|refine below_set ?_ GE216.out)|exact HB.out))) : w.heap.size ≤ gb220));have n9_:=Aside0.mk ((by rw [hg];exact Nat.ne_of_lt (blk_lt (g:=gb213) (o:=.cells #[.slice A0_0 l0_0.length c0_0] 85 (0,0)) (by (with_reducible repeat (first|refine blk_drewN ?_ _|refine blk_drew ?_|refine blk_alloc ?_ _));exact BK213.out)) : gb213 ≠ gb220));have n10_:=Aside0.mk ((by rw [hg];exact Nat.ne_of_gt (blk_lt (g:=gb213) (o:=.cells #[.slice A0_0 l0_0.length c0_0] 85 (0,0)) (by (with_reducible repeat (first|refine blk_drewN ?_ _|refine blk_drew ?_|refine blk_alloc ?_ _));exact BK213.out)) : gb220 ≠ gb213));have n11_:=Aside0.mk ((by rw [hg];exact Nat.ne_of_lt (blk_lt (g:=gb214) (o:=.cells #[.slice A1_0 l1_0.length c1_0] 85 (0,0)) (by (with_reducible repeat (first|refine blk_drewN ?_ _|refine blk_drew ?_|refine blk_alloc ?_ _));exact BK214.out)) : gb214 ≠ gb220));have n12_:=Aside0.mk ((by rw [hg];exact Nat.ne_of_gt (blk_lt (g:=gb214) (o:=.cells #[.slice A1_0 l1_0.length c1_0] 85 (0,0)) (by (with_reducible repeat (first|refine blk_drewN ?_ _|refine blk_drew ?_|refine blk_alloc ?_ _));exact BK214.out)) : gb220 ≠ gb214));have n13_:=Aside0.mk ((by rw [hg];exact Nat.ne_of_lt (blk_lt (g:=gb215) (o:=.cells #[.slice none 0 0] 85 (0,0)) (by (with_reducible repeat (first|refine blk_drewN ?_ _|refine blk_drew ?_|refine blk_alloc ?_ _));exact BK215.out)) : gb215 ≠ gb220));have n14_:=Aside0.mk ((by rw [hg];exact Nat.ne_of_gt (blk_lt (g:=gb215) (o:=.cells #[.slice none 0 0] 85 (0,0)) (by (with_reducible repeat (first|refine blk_drewN ?_ _|refine blk_drew ?_|refine blk_alloc ?_ _));exact BK215.out)) : gb220 ≠ gb215));have n15_:=Aside0.mk ((by rw [hg];exact Nat.ne_of_lt (blk_lt (g:=gb216) (o:=.cells #[.slice none 0 0] 85 (0,0)) (by (with_reducible repeat (first|refine blk_drewN ?_ _|refine blk_drew ?_|refine blk_alloc ?_ _));exact BK216.out)) : gb216 ≠ gb220));have n16_:=Aside0.mk ((by rw [hg];exact Nat.ne_of_gt (blk_lt (g:=gb216) (o:=.cells #[.slice none 0 0] 85 (0,0)) (by (with_reducible repeat (first|refine blk_drewN ?_ _|refine blk_drew ?_|refine blk_alloc ?_ _));exact BK216.out)) : gb220 ≠ gb216));clear HO219;clear BK213;clear BK214;clear BK215;clear BK216;clear HB;have HO219:=n0_;have BK213:=n1_;have BK214:=n2_;have BK215:=n3_;have BK216:=n4_;have HB:=n5_;have BK220:=n6_;have GW220:=n7_;have GE220:=n8_;have NB213_220:=n9_;have NB220_213:=n10_;have NB214_220:=n11_;have NB220_214:=n12_;have NB215_220:=n13_;have NB220_215:=n14_;have NB216_220:=n15_;have NB220_216:=n16_;clear n0_ n1_ n2_ n3_ n4_ n5_ n6_ n7_ n8_ n9_ n10_ n11_ n12_ n13_ n14_ n15_ n16_;clear hb hbox hg;have hnb16:=NB220_213.out;have hnc16:=NB213_220.out;have hnb17:=NB220_214.out;have hnc17:=NB214_220.out;have hnb18:=NB220_215.out;have hnc18:=NB215_220.out;have hnb19:=NB220_216.out;have hnc19:=NB216_220.out;have hcz20_0 : w15.cell? ⟨gb220,0,none⟩ = some (.slice none 0 0):=(blk_cell BK220.out 0).trans rfl;have hfz20_0:=blk_frozen BK220.out 0;have hcz21_0 : w15.cell? ⟨gb213,0,none⟩ = some (.slice A0_0 l0_0.length c0_0):=(blk_cell BK213.out 0).trans rfl;have hfz21_0:=blk_frozen BK213.out 0))
 go_loopg [8] k (fun kq v8 w' => ∃ (x6_1 : List Int) (x8_1 : Int) (x221000_1 : List Int) (u221000 : Value),v8 = .int .i64 x8_1 ∧ Aside0 (bursarref03_Long_by.l0 kq x6_1 x8_1 l0_0 l1_0 x221000_1 = some (r1,r2)) ∧ Aside0 (kq ≤ k) ∧ Aside0 (Kd.R (Kd.int .i64) 3 w' w.heap.size (fun k_ => (w.heap.size ≤ k_)) v218 x6_1) ∧ Aside0 (Kd.V (Kd.int .i64) 3 w' w.heap.size (fun k_ => (w.heap.size ≤ k_) ∧ some k_ ≠ (v218 : Value).ownBlock ∧ k_ ≠ gb213 ∧ k_ ≠ gb214 ∧ k_ ≠ gb215 ∧ k_ ≠ gb216 ∧ k_ ≠ gb220) u221000 x221000_1) ∧ Aside0 (w'.heap[gb213]? = some (.cells #[(.slice A0_0 l0_0.length c0_0)] 85 (0,0))) ∧ Aside0 (w'.heap[gb214]? = some (.cells #[(.slice A1_0 l1_0.length c1_0)] 85 (0,0))) ∧ Aside0 (w'.heap[gb215]? = some (.cells #[(.slice none 0 0)] 85 (0,0))) ∧ Aside0 (w'.heap[gb216]? = some (.cells #[(.slice none 0 0)] 85 (0,0))) ∧ Aside0 (w'.heap[gb220]? = some (.cells #[u221000] 85 (0,0))) ∧ Aside0 (Below w.heap.size w w'))
 case atStart => exact ⟨(y217),(wrap64 ((l0_0.length : Int) - 1)),(([] : List Int)),(.slice none 0 0),(by first|rfl|(simp;done)|(simp [*];done)|(simp;rw [Bool.eq_iff_iff];simp;done)|(rw [Bool.eq_iff_iff];simp;done)),H',⟨Nat.le_refl _⟩,⟨by (with_reducible repeat (first|apply Kd.R_alloc|apply Kd.R_drewN|apply Kd.R_drew));exact Kd.R_mono (Kd.R_far (p:=⟨gb220,0,none⟩) (Kd.R_types HO219.out BK220.out (by decide)) (fun _ hk => hk.2) (.slice none 0 0)) (fun _ hk => hk.1.1)⟩,⟨Kd.V_nil _ _ _ _ _⟩,⟨by (with_reducible repeat (first|refine blk_drewN ?_ _|refine blk_drew ?_|refine blk_alloc ?_ _));refine blk_far ?_ NB213_220.out _;(with_reducible repeat (first|refine blk_drewN ?_ _|refine blk_drew ?_|refine blk_alloc ?_ _));exact BK213.out⟩,⟨by (with_reducible repeat (first|refine blk_drewN ?_ _|refine blk_drew ?_|refine blk_alloc ?_ _));refine blk_far ?_ NB214_220.out _;(with_reducible repeat (first|refine blk_drewN ?_ _|refine blk_drew ?_|refine blk_alloc ?_ _));exact BK214.out⟩,⟨by (with_reducible repeat (first|refine blk_drewN ?_ _|refine blk_drew ?_|refine blk_alloc ?_ _));refine blk_far ?_ NB215_220.out _;(with_reducible repeat (first|refine blk_drewN ?_ _|refine blk_drew ?_|refine blk_alloc ?_ _));exact BK215.out⟩,⟨by (with_reducible repeat (first|refine blk_drewN ?_ _|refine blk_drew ?_|refine blk_alloc ?_ _));refine blk_far ?_ NB216_220.out _;(with_reducible repeat (first|refine blk_drewN ?_ _|refine blk_drew ?_|refine blk_alloc ?_ _));exact BK216.out⟩,⟨by (with_reducible repeat (first|refine blk_drewN ?_ _|refine blk_drew ?_|refine blk_alloc ?_ _));refine blk_put (cs:=#[.slice none 0 0]) ?_ 0 _ rfl;(with_reducible repeat (first|refine blk_drewN ?_ _|refine blk_drew ?_|refine blk_alloc ?_ _));exact BK220.out⟩,⟨by repeat (first|(with_reducible first|exact HB.out|apply below_alloc|apply pw_below_drewN|apply below_drew1|refine below_set ?_ GE213.out|refine below_set ?_ GE214.out|refine below_set ?_ GE215.out|refine below_set ?_ GE216.out|refine below_set ?_ GE220.out)|exact HB.out)⟩⟩
 case round =>
  clear H';(try clear c1);(try clear p2);(try clear c3);(try clear c3b0);(try clear c3b1);(try clear c4);(try clear c4b0);(try clear c4b1);(try clear c6);(try clear p6);(try clear c9);(try clear c10);(try clear c11);(try clear c16);(try clear c17);(try clear c18);(try clear c19);(try clear hcz12_0);(try clear hcz20_0);(try clear hcz21_0);(try clear hfz12_0);(try clear hfz20_0);(try clear hfz21_0)
  obtain ⟨x6_1,x8_1,x221000_1,u221000,rfl,HA,HK1,HO_6,HO_221000,BK213,BK214,BK215,BK216,BK220,HB⟩:=hrel
  cases gk with
 |zero => exact absurd HA.out (by simp [bursarref03_Long_by.l0])
 |succ k1 =>
   have H:=HA.out
   clear HA
   simp only [bursarref03_Long_by.l0] at H
   by_cases c22 : x8_1 ≥ 0
   rotate_left
   ·rw [if_neg c22] at H
    have c22b0 : decide (0 ≤ x8_1) = false:=decide_eq_false c22
    clear c22
    replace H:=Option.bind_eq_some_iff.mp H
    obtain ⟨t221,A810,H⟩:=H
    replace H : (some (t221,x221000_1)) = some (r1,r2):=H
    have A81:=Aside0.mk A810
    clear A810
    simp only [Option.some.injEq,Prod.mk.injEq] at H
    obtain ⟨rfl,rfl⟩:=H
    try go_wp2
    have n0_:=Aside0.mk (Kd.R_drew HO_6.out)
    have n1_:=Aside0.mk (Kd.V_drew HO_221000.out)
    have n2_:=Aside0.mk (blk_drew BK213.out)
    have n3_:=Aside0.mk (blk_drew BK214.out)
    have n4_:=Aside0.mk (blk_drew BK215.out)
    have n5_:=Aside0.mk (blk_drew BK216.out)
    have n6_:=Aside0.mk (blk_drew BK220.out)
    have n7_:=Aside0.mk (below_drew1 HB.out)
    clear HO_6;clear HO_221000;clear BK213;clear BK214;clear BK215;clear BK216;clear BK220;clear HB;have HO_6:=n0_;have HO_221000:=n1_;have BK213:=n2_;have BK214:=n3_;have BK215:=n4_;have BK216:=n5_;have BK220:=n6_;have HB:=n7_;clear n0_ n1_ n2_ n3_ n4_ n5_ n6_ n7_
    obtain ⟨Ao83,co83,eo83⟩:=Kd.R_slice HO_6.out
    (first|subst eo83|(injection eo83 with f1_ f2_ f3_;have f4_:=f1_.symm;have f5_:=f3_.symm;clear f1_ f2_ f3_;subst f4_;subst f5_))
    refine start_ (n:=5) (S:=fun w' => w'.cell? ⟨gb220,0,none⟩ = some (u221000)) (ds:=[]) #[false,false,false,false,false] (by kernel_rfl) rfl rfl ((blk_cell BK220.out 0).trans rfl) (fun hHeld => ?_)
    generalize wr.drew = w82 at HO_6 HO_221000 BK213 BK214 BK215 BK216 BK220 HB hHeld ⊢
    refine pure_ (i:=0) (N:=some 50) (v:=?_) (a':=?_) #[true,false,false,false,false] rfl rfl (by kernel_rfl) (fun _ _ _ h => h) (Or.inl ⟨by rfl,?_⟩) ?_ ?_
    rotate_left;·intro w';go_simp;with_reducible rfl
    rotate_left;·simp only [pu_];rfl
    refine take_ (i:=2) (N:=some 52) (v:=?_) (a':=?_) #[true,false,true,false,false] rfl rfl (by kernel_rfl) (fun _ _ _ h => h) (Or.inl ⟨by rfl,?_⟩) hHeld ?_ ?_
    rotate_left
    ·intro w' s0
     go_simp
     with_reducible rfl
    rotate_left
    ·simp only [pu_]
     rfl
    refine one_ (i:=1) (N:=some 51) #[true,true,true,false,false] rfl rfl (by kernel_rfl) (by decide) (fun K hK => ?_)
    refine goes_ Tryz.func84 (by kernel_rfl) rfl #[.slice Ao83 x6_1.length co83] (by rfl) rfl rfl (by (try simp only [List.map_toArray,List.map_cons,List.map_nil]);first|done|rfl|(simp only [List.length_drop,List.length_take];rfl)) ?_
    with_reducible refine (bursarref03_cut.calls k1 (fun k_ => some k_ = (.slice Ao83 x6_1.length co83 : Value).ownBlock) _ _ x6_1 t221 _ ?side1 A81.out).mono ?_
    (case side1 => exact Kd.R_V (Kd.R_tight rfl (Kd.R_types (Kd.R_types (Kd.R_types (Kd.R_types (Kd.R_types (HO_6.out) BK213.out (by decide)) BK214.out (by decide)) BK215.out (by decide)) BK216.out (by decide)) BK220.out (by decide))))
    rintro e w84 ⟨v222,rfl,ho0,hb⟩
    refine ⟨_,rfl,?_⟩
    have n0_:=Aside0.mk (Kd.R_below (by (with_reducible repeat (first|apply Kd.R_alloc|apply Kd.R_drewN|apply Kd.R_drew));exact HO_6.out) hb)
    have n1_:=Aside0.mk (Kd.V_below (by (with_reducible repeat (first|apply Kd.V_alloc|apply Kd.V_drewN|apply Kd.V_drew));exact HO_221000.out) hb)
    have n2_:=Aside0.mk (Kd.V_lower (Kd.V_mono (ok':=fun k_ => (w.heap.size ≤ k_) ∧ k_ ≠ gb213 ∧ k_ ≠ gb214 ∧ k_ ≠ gb215 ∧ k_ ≠ gb216 ∧ k_ ≠ gb220) ho0 (fun k_ hk_ => ⟨Or.elim hk_ (fun hs_ => ((Kd.R_types (Kd.R_types (Kd.R_types (Kd.R_types (Kd.R_types (HO_6.out) BK213.out (by decide)) BK214.out (by decide)) BK215.out (by decide)) BK216.out (by decide)) BK220.out (by decide)).1 k_ hs_.symm).1.1.1.1.1) (fun hn_ => (Nat.le_trans (below_size (by repeat (first|(with_reducible first|exact HB.out|apply below_alloc|apply pw_below_drewN|apply below_drew1|refine below_set ?_ GE213.out|refine below_set ?_ GE214.out|refine below_set ?_ GE215.out|refine below_set ?_ GE216.out|refine below_set ?_ GE220.out)|exact HB.out))) hn_)),Or.elim hk_ (fun hs_ => ((Kd.R_types (Kd.R_types (Kd.R_types (Kd.R_types (Kd.R_types (HO_6.out) BK213.out (by decide)) BK214.out (by decide)) BK215.out (by decide)) BK216.out (by decide)) BK220.out (by decide)).1 k_ hs_.symm).1.1.1.1.2) (fun hn_ => (Kd.freshB (g:=gb213) (o:=.cells #[.slice A0_0 l0_0.length c0_0] 85 (0,0)) (by (with_reducible repeat (first|refine blk_drewN ?_ _|refine blk_drew ?_|refine blk_alloc ?_ _));exact BK213.out) k_ hn_)),Or.elim hk_ (fun hs_ => ((Kd.R_types (Kd.R_types (Kd.R_types (Kd.R_types (Kd.R_types (HO_6.out) BK213.out (by decide)) BK214.out (by decide)) BK215.out (by decide)) BK216.out (by decide)) BK220.out (by decide)).1 k_ hs_.symm).1.1.1.2) (fun hn_ => (Kd.freshB (g:=gb214) (o:=.cells #[.slice A1_0 l1_0.length c1_0] 85 (0,0)) (by (with_reducible repeat (first|refine blk_drewN ?_ _|refine blk_drew ?_|refine blk_alloc ?_ _));exact BK214.out) k_ hn_)),Or.elim hk_ (fun hs_ => ((Kd.R_types (Kd.R_types (Kd.R_types (Kd.R_types (Kd.R_types (HO_6.out) BK213.out (by decide)) BK214.out (by decide)) BK215.out (by decide)) BK216.out (by decide)) BK220.out (by decide)).1 k_ hs_.symm).1.1.2) (fun hn_ => (Kd.freshB (g:=gb215) (o:=.cells #[.slice none 0 0] 85 (0,0)) (by (with_reducible repeat (first|refine blk_drewN ?_ _|refine blk_drew ?_|refine blk_alloc ?_ _));exact BK215.out) k_ hn_)),Or.elim hk_ (fun hs_ => ((Kd.R_types (Kd.R_types (Kd.R_types (Kd.R_types (Kd.R_types (HO_6.out) BK213.out (by decide)) BK214.out (by decide)) BK215.out (by decide)) BK216.out (by decide)) BK220.out (by decide)).1 k_ hs_.symm).1.2) (fun hn_ => (Kd.freshB (g:=gb216) (o:=.cells #[.slice none 0 0] 85 (0,0)) (by (with_reducible repeat (first|refine blk_drewN ?_ _|refine blk_drew ?_|refine blk_alloc ?_ _));exact BK216.out) k_ hn_)),Or.elim hk_ (fun hs_ => ((Kd.R_types (Kd.R_types (Kd.R_types (Kd.R_types (Kd.R_types (HO_6.out) BK213.out (by decide)) BK214.out (by decide)) BK215.out (by decide)) BK216.out (by decide)) BK220.out (by decide)).1 k_ hs_.symm).2) (fun hn_ => (Kd.freshB (g:=gb220) (o:=.cells #[u221000] 85 (0,0)) (by (with_reducible repeat (first|refine blk_drewN ?_ _|refine blk_drew ?_|refine blk_alloc ?_ _));exact BK220.out) k_ hn_))⟩)) (below_size (by repeat (first|(with_reducible first|exact HB.out|apply below_alloc|apply pw_below_drewN|apply below_drew1|refine below_set ?_ GE213.out|refine below_set ?_ GE214.out|refine below_set ?_ GE215.out|refine below_set ?_ GE216.out|refine below_set ?_ GE220.out)|exact HB.out))))
    have n3_:=Aside0.mk (blk_below (g:=gb213) (o:=.cells #[.slice A0_0 l0_0.length c0_0] 85 (0,0)) (by (with_reducible repeat (first|refine blk_drewN ?_ _|refine blk_drew ?_|refine blk_alloc ?_ _));exact BK213.out) hb)
    have n4_:=Aside0.mk (blk_below (g:=gb214) (o:=.cells #[.slice A1_0 l1_0.length c1_0] 85 (0,0)) (by (with_reducible repeat (first|refine blk_drewN ?_ _|refine blk_drew ?_|refine blk_alloc ?_ _));exact BK214.out) hb)
    have n5_:=Aside0.mk (blk_below (g:=gb215) (o:=.cells #[.slice none 0 0] 85 (0,0)) (by (with_reducible repeat (first|refine blk_drewN ?_ _|refine blk_drew ?_|refine blk_alloc ?_ _));exact BK215.out) hb)
    have n6_:=Aside0.mk (blk_below (g:=gb216) (o:=.cells #[.slice none 0 0] 85 (0,0)) (by (with_reducible repeat (first|refine blk_drewN ?_ _|refine blk_drew ?_|refine blk_alloc ?_ _));exact BK216.out) hb)
    have n7_:=Aside0.mk (blk_below (g:=gb220) (o:=.cells #[u221000] 85 (0,0)) (by (with_reducible repeat (first|refine blk_drewN ?_ _|refine blk_drew ?_|refine blk_alloc ?_ _));exact BK220.out) hb)
    have n8_:=Aside0.mk (below_step (by repeat (first|(with_reducible first|exact HB.out|apply below_alloc|apply pw_below_drewN|apply below_drew1|refine below_set ?_ GE213.out|refine below_set ?_ GE214.out|refine below_set ?_ GE215.out|refine below_set ?_ GE216.out|refine below_set ?_ GE220.out)|exact HB.out)) hb)
    clear HO_6;clear HO_221000;clear BK213;clear BK214;clear BK215;clear BK216;clear BK220;clear HB;have HO_6:=n0_;have HO_221000:=n1_;have HO223:=n2_;have BK213:=n3_;have BK214:=n4_;have BK215:=n5_;have BK216:=n6_;have BK220:=n7_;have HB:=n8_;clear n0_ n1_ n2_ n3_ n4_ n5_ n6_ n7_ n8_;(try clear hb);(try clear hb2);(try clear hk);(try clear hi);(try clear ho0)
    obtain ⟨Ao85,co85,eo85⟩:=Kd.V_slice HO223.out
    (first|subst eo85|(injection eo85 with f1_ f2_ f3_;have f4_:=f1_.symm;have f5_:=f3_.symm;clear f1_ f2_ f3_;subst f4_;subst f5_))
    obtain ⟨Ao87,co87,eo87⟩:=Kd.V_slice HO_221000.out
    (first|subst eo87|(injection eo87 with f1_ f2_ f3_;have f4_:=f1_.symm;have f5_:=f3_.symm;clear f1_ f2_ f3_;subst f4_;subst f5_))
    refine hK.out _ _ ((blk_cell BK220.out 0).trans rfl) (fun hHeld => ?_)
    clear hK K
    refine norm_ (a':=?_) ?_ ?_
    rotate_left
    ·show Act.put _ (some 51) _ = _
     simp only [pu_]
     rfl
    refine one_ (i:=3) (N:=none) #[true,true,true,true,false] rfl rfl (by kernel_rfl) (by decide) (fun K hK => ?_)
    have hs86 : w84.cell? ⟨gb215,0,none⟩ = some (.slice none 0 0):=(blk_cell BK215.out 0).trans rfl
    have hfs86:=blk_frozen BK215.out 0
    have hns86_0:=NB213_215.out
    have hns86_1:=NB214_215.out
    have hns86_3:=NB216_215.out
    have hns86_4:=NB220_215.out
    have hms86_0:=NB215_213.out
    have hms86_1:=NB215_214.out
    have hms86_3:=NB215_216.out
    have hms86_4:=NB215_220.out
    refine skip_ (w1:=?_) (by rfl) rfl ?_ ?_
    rotate_left
    ·go_simp
     rfl
    refine hK.out _ _ (((cell_far (p:=⟨gb215,_,none⟩) NB220_215.out _).trans (hHeld))) (fun hHeld => ?_)
    clear hK K
    refine one_ (i:=4) (N:=none) #[true,true,true,true,true] rfl rfl (by kernel_rfl) (by decide) (fun K hK => ?_)
    have hs88 : w84.cell? ⟨gb216,0,none⟩ = some (.slice none 0 0):=(blk_cell BK216.out 0).trans rfl
    have hfs88:=blk_frozen BK216.out 0
    have hns88_0:=NB213_216.out
    have hns88_1:=NB214_216.out
    have hns88_2:=NB215_216.out
    have hns88_4:=NB220_216.out
    have hms88_0:=NB216_213.out
    have hms88_1:=NB216_214.out
    have hms88_2:=NB216_215.out
    have hms88_4:=NB216_220.out
    refine skip_ (w1:=?_) (by rfl) rfl ?_ ?_
    rotate_left
    ·go_simp
     rfl
    refine hK.out _ _ (((cell_far (p:=⟨gb216,_,none⟩) NB220_216.out _).trans (hHeld))) (fun hHeld => ?_)
    clear hK K
    refine done_ (by kernel_rfl) ?_
    try go_wp2
    refine bodyPost_ret (results_cc rfl _ _ gb215 gb216 85 85 #[.slice Ao85 t221.length co85] #[.slice Ao87 x221000_1.length co87] (0,0) (0,0) _ _ rfl (by (with_reducible repeat (first|refine blk_drewN ?_ _|refine blk_drew ?_|refine blk_alloc ?_ _));refine blk_far ?_ NB215_216.out _;(with_reducible repeat (first|refine blk_drewN ?_ _|refine blk_drew ?_|refine blk_alloc ?_ _));refine blk_put (cs:=#[.slice none 0 0]) ?_ 0 _ rfl;(with_reducible repeat (first|refine blk_drewN ?_ _|refine blk_drew ?_|refine blk_alloc ?_ _));exact BK215.out) Tryz.underlying85 rfl (by kernel_rfl) rfl (by (with_reducible repeat (first|refine blk_drewN ?_ _|refine blk_drew ?_|refine blk_alloc ?_ _));refine blk_put (cs:=#[.slice none 0 0]) ?_ 0 _ rfl;(with_reducible repeat (first|refine blk_drewN ?_ _|refine blk_drew ?_|refine blk_alloc ?_ _));refine blk_far ?_ NB216_215.out _;(with_reducible repeat (first|refine blk_drewN ?_ _|refine blk_drew ?_|refine blk_alloc ?_ _));exact BK216.out) Tryz.underlying85 rfl (by kernel_rfl)) rfl ?_
    exact ⟨_,_,by first|rfl|(simp [errW_none,errW_some] <;> rfl)|(simp [*,errW_none,errW_some] <;> rfl),by (with_reducible repeat (first|apply Kd.V_alloc|apply Kd.V_drewN|apply Kd.V_drew));exact Kd.V_mono (Kd.V_far (p:=⟨gb216,0,none⟩) (Kd.V_far (p:=⟨gb215,0,none⟩) (Kd.V_mono (Kd.V_mono HO223.out (fun k_ hk => (⟨hk,hk.2.2.2.1⟩ : _ ∧ k_ ≠ gb215))) (fun k_ hk => (⟨hk,hk.1.2.2.2.2.1⟩ : _ ∧ k_ ≠ gb216))) (fun _ hk => hk.1.2) (.slice Ao85 t221.length co85)) (fun _ hk => hk.2) (.slice Ao87 x221000_1.length co87)) (fun _ hk => hk.1.1.1),by (with_reducible repeat (first|apply Kd.V_alloc|apply Kd.V_drewN|apply Kd.V_drew));exact Kd.V_mono (Kd.V_far (p:=⟨gb216,0,none⟩) (Kd.V_far (p:=⟨gb215,0,none⟩) (Kd.V_mono (Kd.V_mono HO_221000.out (fun k_ hk => (⟨hk,hk.2.2.2.2.1⟩ : _ ∧ k_ ≠ gb215))) (fun k_ hk => (⟨hk,hk.1.2.2.2.2.2.1⟩ : _ ∧ k_ ≠ gb216))) (fun _ hk => hk.1.2) (.slice Ao85 t221.length co85)) (fun _ hk => hk.2) (.slice Ao87 x221000_1.length co87)) (fun _ hk => hk.1.1.1),by repeat (first|(with_reducible first|exact HB.out|apply below_alloc|apply pw_below_drewN|apply below_drew1|refine below_set ?_ GE213.out|refine below_set ?_ GE214.out|refine below_set ?_ GE215.out|refine below_set ?_ GE216.out|refine below_set ?_ GE220.out)|exact HB.out)⟩
   rw [if_pos c22] at H
   have c22b0 : decide (0 ≤ x8_1) = true:=decide_eq_true c22
   clear c22
   by_cases c23 : 0 ≤ x8_1
   rotate_left
   ·rw [if_neg c23] at H
    exact absurd H (by simp)
   rw [if_pos c23] at H
   have c23b0 : decide (0 ≤ x8_1) = true:=decide_eq_true c23
   clear c23
   by_cases c24 : x8_1 < (l0_0.length : Int)
   rotate_left
   ·rw [if_neg c24] at H
    exact absurd H (by simp)
   rw [if_pos c24] at H
   have c24b0 : decide (x8_1 < (l0_0.length : Int)) = true:=decide_eq_true c24
   clear c24
   by_cases c25 : ([] : List Int).length < 17592186044416
   rotate_left
   ·rw [if_neg c25] at H
    exact absurd H (by simp)
   rw [if_pos c25] at H
   have LMc25:=Aside0.mk c25
   clear c25
   obtain ⟨y225,hy225⟩ : ∃ y_ : List Int,y_ = (([] : List Int) ++ [rd l0_0 x8_1]):=⟨_,rfl⟩
   replace H : (if y225.length + x221000_1.length < 17592186044416 then ((bursarref03_cut.f k1 (y225 ++ x221000_1)).bind fun t231 => (bursarref03_Long_by.l1 k1 x6_1 x8_1 l0_0 l1_0 t231)) else (none)) = some (r1,r2):=by first|(rw [hy225];with_reducible exact H)|(have H2_:=(Option.bind_some _ _).symm.trans H;rw [hy225];with_reducible exact H2_)|(have H2_:=(Option.bind_some _ _).symm.trans H;with_reducible exact H2_)|with_reducible exact H|(rw [hy225];exact H)|exact H
   have Ny225:=Aside0.mk hy225
   clear hy225
   by_cases c26 : y225.length + x221000_1.length < 17592186044416
   rotate_left
   ·rw [if_neg c26] at H
    exact absurd H (by simp)
   rw [if_pos c26] at H
   have LMc26:=Aside0.mk c26
   clear c26
   obtain ⟨y228,hy228⟩ : ∃ y_ : List Int,y_ = (y225 ++ x221000_1):=⟨_,rfl⟩
   replace H : ((bursarref03_cut.f k1 y228).bind fun t231 => (bursarref03_Long_by.l1 k1 x6_1 x8_1 l0_0 l1_0 t231)) = some (r1,r2):=by first|(rw [hy228];with_reducible exact H)|(have H2_:=(Option.bind_some _ _).symm.trans H;rw [hy228];with_reducible exact H2_)|(have H2_:=(Option.bind_some _ _).symm.trans H;with_reducible exact H2_)|with_reducible exact H|(rw [hy228];exact H)|exact H
   have Ny228:=Aside0.mk hy228
   clear hy228
   replace H:=Option.bind_eq_some_iff.mp H
   obtain ⟨t231,A270,H⟩:=H
   replace H : (bursarref03_Long_by.l1 k1 x6_1 x8_1 l0_0 l1_0 t231) = some (r1,r2):=H
   have A27:=Aside0.mk A270
   clear A270
   have H':=Aside0.mk H
   clear H
   have hnb28:=NB213_214.out
   have hnc28:=NB214_213.out
   have hnb29:=NB213_215.out
   have hnc29:=NB215_213.out
   have hnb30:=NB213_216.out
   have hnc30:=NB216_213.out
   have hnb31:=NB213_220.out
   have hnc31:=NB220_213.out
   have hcz32_0 : wr.cell? ⟨gb213,0,none⟩ = some (.slice A0_0 l0_0.length c0_0):=(blk_cell BK213.out 0).trans rfl
   have hfz32_0:=blk_frozen BK213.out 0
   have p224 : 0 ≤ (x8_1 : Int):=of_decide_eq_true (by first|(with_reducible assumption)|assumption)
   have q224 : x8_1 < (l0_0.length : Int):=of_decide_eq_true (by first|(with_reducible assumption)|assumption)
   obtain ⟨ad224,e224,hx224_0⟩:=Kd.at_int HR0_0.out x8_1 p224 q224
   cases e224
   replace hx224_0:=(HB.out.cell (World.block_lt_of_cell? w _ hx224_0)).trans hx224_0
   replace p224:=eq_true p224
   replace q224:=eq_true q224
   go_wp2_with (first|((with_reducible refine gate_builtin (b:=.append) (xs:=#[.tmp 23,.tmp 29]) rfl ?_);at_builtin;refine Kd.R_append (Kd.int .i64) (w0:=w) w.heap.size rfl (.tmp 23) (.tmp 29) 80 3 (.int .i64 0) 8 rfl Tryz.underlying80 info3 rfl (by decide) (by omega) (.slice none 0 0) ([] : List Int) (rd l0_0 x8_1) [.int .i64 (rd l0_0 x8_1)] (fun k_ => (w.heap.size ≤ k_) ∧ some k_ ≠ (v218 : Value).ownBlock) (fun _ => False) rfl rfl ?aP (fun _ hk => hk.elim) ?aF ?aO ?aB ?aS ?aL ?_;(case aP => exact rfl);(case aB => exact (by repeat (first|(with_reducible first|exact HB.out|apply below_alloc|apply pw_below_drewN|apply below_drew1|refine below_set ?_ GE213.out|refine below_set ?_ GE214.out|refine below_set ?_ GE215.out|refine below_set ?_ GE216.out|refine below_set ?_ GE220.out)|exact HB.out)));(case aF => exact (fun k_ hk => ⟨(Nat.le_trans (below_size (by repeat (first|(with_reducible first|exact HB.out|apply below_alloc|apply pw_below_drewN|apply below_drew1|refine below_set ?_ GE213.out|refine below_set ?_ GE214.out|refine below_set ?_ GE215.out|refine below_set ?_ GE216.out|refine below_set ?_ GE220.out)|exact HB.out))) hk),Kd.fresh' (Kd.R_lt (by (with_reducible repeat (first|apply Kd.R_alloc|apply Kd.R_drewN|apply Kd.R_drew));exact HO_6.out)) k_ hk⟩));(case aO => exact ((Kd.R_nil _ _ _ _ (fun k_ => (w.heap.size ≤ k_) ∧ some k_ ≠ (v218 : Value).ownBlock))));(case aS => exact (below_size (by repeat (first|(with_reducible first|exact HB.out|apply below_alloc|apply pw_below_drewN|apply below_drew1|refine below_set ?_ GE213.out|refine below_set ?_ GE214.out|refine below_set ?_ GE215.out|refine below_set ?_ GE216.out|refine below_set ?_ GE220.out)|exact HB.out))));(case aL => have:=LMc25.out;omega);intro v226 w33 ho hb hg hat;rw [← Ny225.out] at ho;have n0_:=Aside0.mk (Kd.R_after (Kd.R_apart_nil (by (with_reducible repeat (first|apply Kd.R_alloc|apply Kd.R_drewN|apply Kd.R_drew));exact HO_6.out)) hg hat);have n1_:=Aside0.mk (Kd.V_afterv (Kd.V_apart_nil (by (with_reducible repeat (first|apply Kd.V_alloc|apply Kd.V_drewN|apply Kd.V_drew));exact HO_221000.out)) hg hat);have n2_:=Aside0.mk (blk_grown (g:=gb213) (o:=.cells #[.slice (some ad224) l0_0.length c0_0] 85 (0,0)) (by (with_reducible repeat (first|refine blk_drewN ?_ _|refine blk_drew ?_|refine blk_alloc ?_ _));exact BK213.out) hg (by simp [Value.ownBlock]));have n3_:=Aside0.mk (blk_grown (g:=gb214) (o:=.cells #[.slice A1_0 l1_0.length c1_0] 85 (0,0)) (by (with_reducible repeat (first|refine blk_drewN ?_ _|refine blk_drew ?_|refine blk_alloc ?_ _));exact BK214.out) hg (by simp [Value.ownBlock]));have n4_:=Aside0.mk (blk_grown (g:=gb215) (o:=.cells #[.slice none 0 0] 85 (0,0)) (by (with_reducible repeat (first|refine blk_drewN ?_ _|refine blk_drew ?_|refine blk_alloc ?_ _));exact BK215.out) hg (by simp [Value.ownBlock]));have n5_:=Aside0.mk (blk_grown (g:=gb216) (o:=.cells #[.slice none 0 0] 85 (0,0)) (by (with_reducible repeat (first|refine blk_drewN ?_ _|refine blk_drew ?_|refine blk_alloc ?_ _));exact BK216.out) hg (by simp [Value.ownBlock]));have n6_:=Aside0.mk (blk_grown (g:=gb220) (o:=.cells #[u221000] 85 (0,0)) (by (with_reducible repeat (first|refine blk_drewN ?_ _|refine blk_drew ?_|refine blk_alloc ?_ _));exact BK220.out) hg (by simp [Value.ownBlock]));have n7_:=Aside0.mk (hb);have n8_:=Aside0.mk (ho);clear HO_6;clear HO_221000;clear BK213;clear BK214;clear BK215;clear BK216;clear BK220;clear HB;have HO_6:=n0_;have HO_221000:=n1_;have BK213:=n2_;have BK214:=n3_;have BK215:=n4_;have BK216:=n5_;have BK220:=n6_;have HB:=n7_;have HO227:=n8_;clear n0_ n1_ n2_ n3_ n4_ n5_ n6_ n7_ n8_;clear ho hb hg hat;have hnb34:=NB220_214.out;have hnc34:=NB214_220.out;have hnb35:=NB220_215.out;have hnc35:=NB215_220.out;have hnb36:=NB220_216.out;have hnc36:=NB216_220.out;have hcz37_0 : w33.cell? ⟨gb220,0,none⟩ = some (u221000):=(blk_cell BK220.out 0).trans rfl;have hfz37_0:=blk_frozen BK220.out 0;obtain ⟨Ao39,co39,eo39⟩:=Kd.V_slice HO_221000.out;subst eo39)|((with_reducible refine gate_builtin (b:=.append) (xs:=#[.tmp 31,.tmp 33]) rfl ?_);at_builtin;refine Kd.R_append_rows (Kd.int .i64) (w0:=w) w.heap.size rfl (.tmp 31) (.tmp 33) 80 3 (.int .i64 0) 8 rfl Tryz.underlying80 info3 rfl (by decide) (by omega) v226 y225 x221000_1 _ _ _ (fun k_ => (w.heap.size ≤ k_) ∧ some k_ ≠ (v218 : Value).ownBlock) (fun _ => False) rfl rfl ?aO ?aR (fun _ _ h => h) (fun _ h => h.elim) ?aF ?aB ?aS ?aL ?_;(case aR => repeat (first|exact (Kd.V_reads' HO_221000.out).2.2|(with_reducible refine Kd.C_alloc ?_ _)|(with_reducible refine Kd.C_drewN ?_ _)|(with_reducible refine Kd.C_drew ?_)));(case aB => exact (by repeat (first|(with_reducible first|exact HB.out|apply below_alloc|apply pw_below_drewN|apply below_drew1|refine below_set ?_ GE213.out|refine below_set ?_ GE214.out|refine below_set ?_ GE215.out|refine below_set ?_ GE216.out|refine below_set ?_ GE220.out)|exact HB.out)));(case aF => exact (fun k_ hk => ⟨(Nat.le_trans (below_size (by repeat (first|(with_reducible first|exact HB.out|apply below_alloc|apply pw_below_drewN|apply below_drew1|refine below_set ?_ GE213.out|refine below_set ?_ GE214.out|refine below_set ?_ GE215.out|refine below_set ?_ GE216.out|refine below_set ?_ GE220.out)|exact HB.out))) hk),Kd.fresh' (Kd.R_lt (by (with_reducible repeat (first|apply Kd.R_alloc|apply Kd.R_drewN|apply Kd.R_drew));exact HO_6.out)) k_ hk⟩));(case aO => exact (by (with_reducible repeat (first|apply Kd.R_alloc|apply Kd.R_drewN|apply Kd.R_drew));exact HO227.out));(case aS => exact (below_size (by repeat (first|(with_reducible first|exact HB.out|apply below_alloc|apply pw_below_drewN|apply below_drew1|refine below_set ?_ GE213.out|refine below_set ?_ GE214.out|refine below_set ?_ GE215.out|refine below_set ?_ GE216.out|refine below_set ?_ GE220.out)|exact HB.out))));(case aL => have:=LMc26.out;omega);intro v229 w38 ho hb hg hat;rw [← Ny228.out] at ho;have n0_:=Aside0.mk (Kd.R_after (ok:=(fun k_ => (w.heap.size ≤ k_))) (by (with_reducible repeat (first|apply Kd.R_alloc|apply Kd.R_drewN|apply Kd.R_drew));exact HO_6.out) hg hat);have n1_:=Aside0.mk (Kd.V_afterv (ok:=(fun k_ => (w.heap.size ≤ k_) ∧ some k_ ≠ (v218 : Value).ownBlock ∧ k_ ≠ gb213 ∧ k_ ≠ gb214 ∧ k_ ≠ gb215 ∧ k_ ≠ gb216 ∧ k_ ≠ gb220)) (by (with_reducible repeat (first|apply Kd.V_alloc|apply Kd.V_drewN|apply Kd.V_drew));exact HO_221000.out) hg hat);have n2_:=Aside0.mk (blk_grown (g:=gb213) (o:=.cells #[.slice (some ad224) l0_0.length c0_0] 85 (0,0)) (by (with_reducible repeat (first|refine blk_drewN ?_ _|refine blk_drew ?_|refine blk_alloc ?_ _));exact BK213.out) hg (Kd.R_ne HO227.out BK213.out (by decide)));have n3_:=Aside0.mk (blk_grown (g:=gb214) (o:=.cells #[.slice A1_0 l1_0.length c1_0] 85 (0,0)) (by (with_reducible repeat (first|refine blk_drewN ?_ _|refine blk_drew ?_|refine blk_alloc ?_ _));exact BK214.out) hg (Kd.R_ne HO227.out BK214.out (by decide)));have n4_:=Aside0.mk (blk_grown (g:=gb215) (o:=.cells #[.slice none 0 0] 85 (0,0)) (by (with_reducible repeat (first|refine blk_drewN ?_ _|refine blk_drew ?_|refine blk_alloc ?_ _));exact BK215.out) hg (Kd.R_ne HO227.out BK215.out (by decide)));have n5_:=Aside0.mk (blk_grown (g:=gb216) (o:=.cells #[.slice none 0 0] 85 (0,0)) (by (with_reducible repeat (first|refine blk_drewN ?_ _|refine blk_drew ?_|refine blk_alloc ?_ _));exact BK216.out) hg (Kd.R_ne HO227.out BK216.out (by decide)));have n6_:=Aside0.mk (blk_grown (g:=gb220) (o:=.cells #[.slice Ao39 x221000_1.length co39] 85 (0,0)) (by (with_reducible repeat (first|refine blk_drewN ?_ _|refine blk_drew ?_|refine blk_alloc ?_ _));exact BK220.out) hg (Kd.R_ne HO227.out BK220.out (by decide)));have n7_:=Aside0.mk (hb);have n8_:=Aside0.mk (ho);clear HO_6;clear HO_221000;clear BK213;clear BK214;clear BK215;clear BK216;clear BK220;clear HB;clear HO227;have HO_6:=n0_;have HO_221000:=n1_;have BK213:=n2_;have BK214:=n3_;have BK215:=n4_;have BK216:=n5_;have BK220:=n6_;have HB:=n7_;have HO230:=n8_;clear n0_ n1_ n2_ n3_ n4_ n5_ n6_ n7_ n8_;clear ho hb hg hat;obtain ⟨Ao40,co40,eo40⟩:=Kd.R_slice HO230.out;subst eo40)|((with_reducible refine gate_callee (f:=84) rfl ?_);refine goesL_ (some 36) rfl rfl Tryz.func84 (by kernel_rfl) rfl #[.slice Ao40 y228.length co40] rfl (by (try simp only [List.map_toArray,List.map_cons,List.map_nil]);first|done|rfl|(simp only [List.length_drop,List.length_take];rfl)) ?_;(with_reducible refine (bursarref03_cut.calls k1 (fun k_ => some k_ = (.slice Ao40 y228.length co40 : Value).ownBlock) _ _ y228 t231 _ ?side1 A27.out).mono ?_);(case side1 => exact Kd.R_V (Kd.R_tight rfl (Kd.R_types (Kd.R_types (Kd.R_types (Kd.R_types (Kd.R_types (HO230.out) BK213.out (by decide)) BK214.out (by decide)) BK215.out (by decide)) BK216.out (by decide)) BK220.out (by decide))));rintro e w41 ⟨v232,rfl,ho0,hb⟩;refine ⟨_,rfl,?_⟩;have n0_:=Aside0.mk (Kd.R_below (by (with_reducible repeat (first|apply Kd.R_alloc|apply Kd.R_drewN|apply Kd.R_drew));exact HO_6.out) hb);have n1_:=Aside0.mk (Kd.V_below (by (with_reducible repeat (first|apply Kd.V_alloc|apply Kd.V_drewN|apply Kd.V_drew));exact HO_221000.out) hb);have n2_:=Aside0.mk (Kd.R_below (by (with_reducible repeat (first|apply Kd.R_alloc|apply Kd.R_drewN|apply Kd.R_drew));exact HO230.out) hb);have n3_:=Aside0.mk (Kd.V_lower (Kd.V_mono (ok':=fun k_ => (w.heap.size ≤ k_) ∧ some k_ ≠ (v218 : Value).ownBlock ∧ k_ ≠ gb213 ∧ k_ ≠ gb214 ∧ k_ ≠ gb215 ∧ k_ ≠ gb216 ∧ k_ ≠ gb220) ho0 (fun k_ hk_ => ⟨Or.elim hk_ (fun hs_ => ((Kd.R_types (Kd.R_types (Kd.R_types (Kd.R_types (Kd.R_types (HO230.out) BK213.out (by decide)) BK214.out (by decide)) BK215.out (by decide)) BK216.out (by decide)) BK220.out (by decide)).1 k_ hs_.symm).1.1.1.1.1.1) (fun hn_ => (Nat.le_trans (below_size (by repeat (first|(with_reducible first|exact HB.out|apply below_alloc|apply pw_below_drewN|apply below_drew1|refine below_set ?_ GE213.out|refine below_set ?_ GE214.out|refine below_set ?_ GE215.out|refine below_set ?_ GE216.out|refine below_set ?_ GE220.out)|exact HB.out))) hn_)),Or.elim hk_ (fun hs_ => ((Kd.R_types (Kd.R_types (Kd.R_types (Kd.R_types (Kd.R_types (HO230.out) BK213.out (by decide)) BK214.out (by decide)) BK215.out (by decide)) BK216.out (by decide)) BK220.out (by decide)).1 k_ hs_.symm).1.1.1.1.1.2) (fun hn_ => (Kd.fresh' (Kd.R_lt (by (with_reducible repeat (first|apply Kd.R_alloc|apply Kd.R_drewN|apply Kd.R_drew));exact HO_6.out)) k_ hn_)),Or.elim hk_ (fun hs_ => ((Kd.R_types (Kd.R_types (Kd.R_types (Kd.R_types (Kd.R_types (HO230.out) BK213.out (by decide)) BK214.out (by decide)) BK215.out (by decide)) BK216.out (by decide)) BK220.out (by decide)).1 k_ hs_.symm).1.1.1.1.2) (fun hn_ => (Kd.freshB (g:=gb213) (o:=.cells #[.slice (some ad224) l0_0.length c0_0] 85 (0,0)) (by (with_reducible repeat (first|refine blk_drewN ?_ _|refine blk_drew ?_|refine blk_alloc ?_ _));exact BK213.out) k_ hn_)),Or.elim hk_ (fun hs_ => ((Kd.R_types (Kd.R_types (Kd.R_types (Kd.R_types (Kd.R_types (HO230.out) BK213.out (by decide)) BK214.out (by decide)) BK215.out (by decide)) BK216.out (by decide)) BK220.out (by decide)).1 k_ hs_.symm).1.1.1.2) (fun hn_ => (Kd.freshB (g:=gb214) (o:=.cells #[.slice A1_0 l1_0.length c1_0] 85 (0,0)) (by (with_reducible repeat (first|refine blk_drewN ?_ _|refine blk_drew ?_|refine blk_alloc ?_ _));exact BK214.out) k_ hn_)),Or.elim hk_ (fun hs_ => ((Kd.R_types (Kd.R_types (Kd.R_types (Kd.R_types (Kd.R_types (HO230.out) BK213.out (by decide)) BK214.out (by decide)) BK215.out (by decide)) BK216.out (by decide)) BK220.out (by decide)).1 k_ hs_.symm).1.1.2) (fun hn_ => (Kd.freshB (g:=gb215) (o:=.cells #[.slice none 0 0] 85 (0,0)) (by (with_reducible repeat (first|refine blk_drewN ?_ _|refine blk_drew ?_|refine blk_alloc ?_ _));exact BK215.out) k_ hn_)),Or.elim hk_ (fun hs_ => ((Kd.R_types (Kd.R_types (Kd.R_types (Kd.R_types (Kd.R_types (HO230.out) BK213.out (by decide)) BK214.out (by decide)) BK215.out (by decide)) BK216.out (by decide)) BK220.out (by decide)).1 k_ hs_.symm).1.2) (fun hn_ => (Kd.freshB (g:=gb216) (o:=.cells #[.slice none 0 0] 85 (0,0)) (by (with_reducible repeat (first|refine blk_drewN ?_ _|refine blk_drew ?_|refine blk_alloc ?_ _));exact BK216.out) k_ hn_)),Or.elim hk_ (fun hs_ => ((Kd.R_types (Kd.R_types (Kd.R_types (Kd.R_types (Kd.R_types (HO230.out) BK213.out (by decide)) BK214.out (by decide)) BK215.out (by decide)) BK216.out (by decide)) BK220.out (by decide)).1 k_ hs_.symm).2) (fun hn_ => (Kd.freshB (g:=gb220) (o:=.cells #[.slice Ao39 x221000_1.length co39] 85 (0,0)) (by (with_reducible repeat (first|refine blk_drewN ?_ _|refine blk_drew ?_|refine blk_alloc ?_ _));exact BK220.out) k_ hn_))⟩)) (below_size (by repeat (first|(with_reducible first|exact HB.out|apply below_alloc|apply pw_below_drewN|apply below_drew1|refine below_set ?_ GE213.out|refine below_set ?_ GE214.out|refine below_set ?_ GE215.out|refine below_set ?_ GE216.out|refine below_set ?_ GE220.out)|exact HB.out))));have n4_:=Aside0.mk (blk_below (g:=gb213) (o:=.cells #[.slice (some ad224) l0_0.length c0_0] 85 (0,0)) (by (with_reducible repeat (first|refine blk_drewN ?_ _|refine blk_drew ?_|refine blk_alloc ?_ _));exact BK213.out) hb);have n5_:=Aside0.mk (blk_below (g:=gb214) (o:=.cells #[.slice A1_0 l1_0.length c1_0] 85 (0,0)) (by (with_reducible repeat (first|refine blk_drewN ?_ _|refine blk_drew ?_|refine blk_alloc ?_ _));exact BK214.out) hb);have n6_:=Aside0.mk (blk_below (g:=gb215) (o:=.cells #[.slice none 0 0] 85 (0,0)) (by (with_reducible repeat (first|refine blk_drewN ?_ _|refine blk_drew ?_|refine blk_alloc ?_ _));exact BK215.out) hb);have n7_:=Aside0.mk (blk_below (g:=gb216) (o:=.cells #[.slice none 0 0] 85 (0,0)) (by (with_reducible repeat (first|refine blk_drewN ?_ _|refine blk_drew ?_|refine blk_alloc ?_ _));exact BK216.out) hb);have n8_:=Aside0.mk (blk_below (g:=gb220) (o:=.cells #[.slice Ao39 x221000_1.length co39] 85 (0,0)) (by (with_reducible repeat (first|refine blk_drewN ?_ _|refine blk_drew ?_|refine blk_alloc ?_ _));exact BK220.out) hb);have n9_:=Aside0.mk (below_step (by repeat (first|(with_reducible first|exact HB.out|apply below_alloc|apply pw_below_drewN|apply below_drew1|refine below_set ?_ GE213.out|refine below_set ?_ GE214.out|refine below_set ?_ GE215.out|refine below_set ?_ GE216.out|refine below_set ?_ GE220.out)|exact HB.out)) hb);clear HO_6;clear HO_221000;clear HO230;clear BK213;clear BK214;clear BK215;clear BK216;clear BK220;clear HB;have HO_6:=n0_;have HO_221000:=n1_;have HO230:=n2_;have HO233:=n3_;have BK213:=n4_;have BK214:=n5_;have BK215:=n6_;have BK216:=n7_;have BK220:=n8_;have HB:=n9_;clear n0_ n1_ n2_ n3_ n4_ n5_ n6_ n7_ n8_ n9_;(try clear hb);(try clear hb2);(try clear hk);(try clear hi);(try clear ho0);obtain ⟨Ao42,co42,eo42⟩:=Kd.V_slice HO233.out;subst eo42;have hcz43_0 : w41.cell? ⟨gb220,0,none⟩ = some (.slice Ao39 x221000_1.length co39):=(blk_cell BK220.out 0).trans rfl;have hfz43_0:=blk_frozen BK220.out 0))
   go_loopg [] k1 (fun kq w' => ∃ (x6_2 : List Int) (x221000_2 : List Int) (u221000 : Value),Aside0 (bursarref03_Long_by.l1 kq x6_2 x8_1 l0_0 l1_0 x221000_2 = some (r1,r2)) ∧ Aside0 (kq ≤ k1) ∧ Aside0 (Kd.R (Kd.int .i64) 3 w' w.heap.size (fun k_ => (w.heap.size ≤ k_)) v218 x6_2) ∧ Aside0 (Kd.V (Kd.int .i64) 3 w' w.heap.size (fun k_ => (w.heap.size ≤ k_) ∧ some k_ ≠ (v218 : Value).ownBlock ∧ k_ ≠ gb213 ∧ k_ ≠ gb214 ∧ k_ ≠ gb215 ∧ k_ ≠ gb216 ∧ k_ ≠ gb220) u221000 x221000_2) ∧ Aside0 (w'.heap[gb213]? = some (.cells #[(.slice (some ad224) l0_0.length c0_0)] 85 (0,0))) ∧ Aside0 (w'.heap[gb214]? = some (.cells #[(.slice A1_0 l1_0.length c1_0)] 85 (0,0))) ∧ Aside0 (w'.heap[gb215]? = some (.cells #[(.slice none 0 0)] 85 (0,0))) ∧ Aside0 (w'.heap[gb216]? = some (.cells #[(.slice none 0 0)] 85 (0,0))) ∧ Aside0 (w'.heap[gb220]? = some (.cells #[u221000] 85 (0,0))) ∧ Aside0 (Below w.heap.size w w'))
   case atStart => exact ⟨(x6_1),(t231),(.slice Ao42 t231.length co42),H',⟨Nat.le_refl _⟩,⟨by (with_reducible repeat (first|apply Kd.R_alloc|apply Kd.R_drewN|apply Kd.R_drew));exact Kd.R_mono (Kd.R_far (p:=⟨gb220,0,none⟩) (Kd.R_types HO_6.out BK220.out (by decide)) (fun _ hk => hk.2) (.slice Ao42 t231.length co42)) (fun _ hk => hk.1.1)⟩,⟨by (with_reducible repeat (first|apply Kd.V_alloc|apply Kd.V_drewN|apply Kd.V_drew));exact Kd.V_mono (Kd.V_far (p:=⟨gb220,0,none⟩) (Kd.V_mono HO233.out (fun k_ hk => (⟨hk,hk.2.2.2.2.2.2⟩ : _ ∧ k_ ≠ gb220))) (fun _ hk => hk.2) (.slice Ao42 t231.length co42)) (fun _ hk => ⟨hk.1.1,⟨hk.1.2.1,⟨hk.1.2.2.1,⟨hk.1.2.2.2.1,⟨hk.1.2.2.2.2.1,⟨hk.1.2.2.2.2.2.1,hk.1.2.2.2.2.2.2⟩⟩⟩⟩⟩⟩)⟩,⟨by (with_reducible repeat (first|refine blk_drewN ?_ _|refine blk_drew ?_|refine blk_alloc ?_ _));refine blk_far ?_ NB213_220.out _;(with_reducible repeat (first|refine blk_drewN ?_ _|refine blk_drew ?_|refine blk_alloc ?_ _));exact BK213.out⟩,⟨by (with_reducible repeat (first|refine blk_drewN ?_ _|refine blk_drew ?_|refine blk_alloc ?_ _));refine blk_far ?_ NB214_220.out _;(with_reducible repeat (first|refine blk_drewN ?_ _|refine blk_drew ?_|refine blk_alloc ?_ _));exact BK214.out⟩,⟨by (with_reducible repeat (first|refine blk_drewN ?_ _|refine blk_drew ?_|refine blk_alloc ?_ _));refine blk_far ?_ NB215_220.out _;(with_reducible repeat (first|refine blk_drewN ?_ _|refine blk_drew ?_|refine blk_alloc ?_ _));exact BK215.out⟩,⟨by (with_reducible repeat (first|refine blk_drewN ?_ _|refine blk_drew ?_|refine blk_alloc ?_ _));refine blk_far ?_ NB216_220.out _;(with_reducible repeat (first|refine blk_drewN ?_ _|refine blk_drew ?_|refine blk_alloc ?_ _));exact BK216.out⟩,⟨by (with_reducible repeat (first|refine blk_drewN ?_ _|refine blk_drew ?_|refine blk_alloc ?_ _));refine blk_put (cs:=#[.slice Ao39 x221000_1.length co39]) ?_ 0 _ rfl;(with_reducible repeat (first|refine blk_drewN ?_ _|refine blk_drew ?_|refine blk_alloc ?_ _));exact BK220.out⟩,⟨by repeat (first|(with_reducible first|exact HB.out|apply below_alloc|apply pw_below_drewN|apply below_drew1|refine below_set ?_ GE213.out|refine below_set ?_ GE214.out|refine below_set ?_ GE215.out|refine below_set ?_ GE216.out|refine below_set ?_ GE220.out)|exact HB.out)⟩⟩
   case round =>
    clear H';(try clear c1);(try clear c2);(try clear p2);(try clear q2);(try clear hx2);(try clear c3);(try clear c3b0);(try clear c3b1);(try clear c4);(try clear c4b0);(try clear c4b1);(try clear c6);(try clear p6);(try clear c8);(try clear c9);(try clear c10);(try clear c11);(try clear c16);(try clear c17);(try clear c18);(try clear c19);(try clear c22);(try clear c22b0);(try clear p22);(try clear q22);(try clear hx22);(try clear c23);(try clear c23b0);(try clear c24);(try clear c24b0);(try clear c25);(try clear c26);(try clear c28);(try clear c29);(try clear c30);(try clear c31);(try clear c34);(try clear c35);(try clear c36);(try clear hcz12_0);(try clear hcz20_0);(try clear hcz21_0);(try clear hcz32_0);(try clear hcz37_0);(try clear hcz43_0);(try clear hfz12_0);(try clear hfz20_0);(try clear hfz21_0);(try clear hfz32_0);(try clear hfz37_0);(try clear hfz43_0);(try clear hx224_0);(try clear p2);(try clear p224);(try clear p6);(try clear q224)
    obtain ⟨x6_2,x221000_2,u221000,HA,HK2,HO_6,HO_221000,BK213,BK214,BK215,BK216,BK220,HB⟩:=hrel
    cases gk with
   |zero => exact absurd HA.out (by simp [bursarref03_Long_by.l1])
   |succ k2 =>
     have H:=HA.out
     clear HA
     simp only [bursarref03_Long_by.l1] at H
     replace H:=Option.bind_eq_some_iff.mp H
     obtain ⟨t234,A440,H⟩:=H
     replace H : (if t234 = true then (bursarref03_Long_by.l0 k2 x6_2 (wrap64 (x8_1 - 1)) l0_0 l1_0 x221000_2) else ((bursarref03_Long_minus.f k2 x221000_2 l1_0).bind fun t235 => (if 0 ≤ x8_1 then (if x8_1 < (x6_2.length : Int) then (bursarref03_Long_by.l1 k2 (x6_2.set (x8_1 : Int).toNat (wrap64 ((rd x6_2 x8_1) + 1))) x8_1 l0_0 l1_0 t235) else (none)) else (none)))) = some (r1,r2):=H
     have A44:=Aside0.mk A440
     clear A440
     by_cases c45 : t234 = true
     ·subst c45
      have H1 : (bursarref03_Long_by.l0 k2 x6_2 (wrap64 (x8_1 - 1)) l0_0 l1_0 x221000_2) = some (r1,r2):=by rw [if_pos rfl] at H;exact H
      clear H;have H:=H1;clear H1
      have H':=Aside0.mk H
      clear H
      have hnb46:=NB220_213.out
      have hnc46:=NB213_220.out
      have hnb47:=NB220_214.out
      have hnc47:=NB214_220.out
      have hnb48:=NB220_215.out
      have hnc48:=NB215_220.out
      have hnb49:=NB220_216.out
      have hnc49:=NB216_220.out
      have hcz50_0 : wr.cell? ⟨gb220,0,none⟩ = some (u221000):=(blk_cell BK220.out 0).trans rfl
      have hfz50_0:=blk_frozen BK220.out 0
      have hnb51:=NB214_213.out
      have hnc51:=NB213_214.out
      have hnb52:=NB214_215.out
      have hnc52:=NB215_214.out
      have hnb53:=NB214_216.out
      have hnc53:=NB216_214.out
      have hcz54_0 : wr.cell? ⟨gb214,0,none⟩ = some (.slice A1_0 l1_0.length c1_0):=(blk_cell BK214.out 0).trans rfl
      have hfz54_0:=blk_frozen BK214.out 0
      obtain ⟨Ao55,co55,eo55⟩:=Kd.V_slice HO_221000.out
      subst eo55
      go_wp2_with (first|((with_reducible refine gate_callee (f:=85) rfl ?_);refine goesL_ (some 39) rfl rfl Tryz.func85 (by kernel_rfl) rfl #[.agg #[.slice Ao55 x221000_2.length co55],.agg #[.slice A1_0 l1_0.length c1_0]] rfl (by (try simp only [List.map_toArray,List.map_cons,List.map_nil]);first|done|rfl|(simp only [List.length_drop,List.length_take];rfl)) ?_;(with_reducible refine (bursarref03_Long_less.calls k2 _ _ x221000_2 _ _ l1_0 true _ ?side1 ?side2 ?side3 ?side4 A44.out).mono ?_);(case side1 => repeat (first|exact (Kd.V_reads' HO_221000.out).2.2|(with_reducible refine Kd.C_alloc ?_ _)|(with_reducible refine Kd.C_drewN ?_ _)|(with_reducible refine Kd.C_drew ?_)));(case side2 => exact (Kd.V_reads' HO_221000.out).2.1);(case side3 => repeat (first|exact (Kd.C_below HR1_0.out HB.out)|(with_reducible refine Kd.C_alloc ?_ _)|(with_reducible refine Kd.C_drewN ?_ _)|(with_reducible refine Kd.C_drew ?_)));(case side4 => exact HC1_0.out);rintro e w56 ⟨rfl,hb⟩;refine ⟨_,rfl,?_⟩;have n0_:=Aside0.mk (Kd.R_below (by (with_reducible repeat (first|apply Kd.R_alloc|apply Kd.R_drewN|apply Kd.R_drew));exact HO_6.out) hb);have n1_:=Aside0.mk (Kd.V_below (by (with_reducible repeat (first|apply Kd.V_alloc|apply Kd.V_drewN|apply Kd.V_drew));exact HO_221000.out) hb);have n2_:=Aside0.mk (blk_below (g:=gb213) (o:=.cells #[.slice (some ad224) l0_0.length c0_0] 85 (0,0)) (by (with_reducible repeat (first|refine blk_drewN ?_ _|refine blk_drew ?_|refine blk_alloc ?_ _));exact BK213.out) hb);have n3_:=Aside0.mk (blk_below (g:=gb214) (o:=.cells #[.slice A1_0 l1_0.length c1_0] 85 (0,0)) (by (with_reducible repeat (first|refine blk_drewN ?_ _|refine blk_drew ?_|refine blk_alloc ?_ _));exact BK214.out) hb);have n4_:=Aside0.mk (blk_below (g:=gb215) (o:=.cells #[.slice none 0 0] 85 (0,0)) (by (with_reducible repeat (first|refine blk_drewN ?_ _|refine blk_drew ?_|refine blk_alloc ?_ _));exact BK215.out) hb);have n5_:=Aside0.mk (blk_below (g:=gb216) (o:=.cells #[.slice none 0 0] 85 (0,0)) (by (with_reducible repeat (first|refine blk_drewN ?_ _|refine blk_drew ?_|refine blk_alloc ?_ _));exact BK216.out) hb);have n6_:=Aside0.mk (blk_below (g:=gb220) (o:=.cells #[.slice Ao55 x221000_2.length co55] 85 (0,0)) (by (with_reducible repeat (first|refine blk_drewN ?_ _|refine blk_drew ?_|refine blk_alloc ?_ _));exact BK220.out) hb);have n7_:=Aside0.mk (below_step (by repeat (first|(with_reducible first|exact HB.out|apply below_alloc|apply pw_below_drewN|apply below_drew1|refine below_set ?_ GE213.out|refine below_set ?_ GE214.out|refine below_set ?_ GE215.out|refine below_set ?_ GE216.out|refine below_set ?_ GE220.out)|exact HB.out)) hb);clear HO_6;clear HO_221000;clear BK213;clear BK214;clear BK215;clear BK216;clear BK220;clear HB;have HO_6:=n0_;have HO_221000:=n1_;have BK213:=n2_;have BK214:=n3_;have BK215:=n4_;have BK216:=n5_;have BK220:=n6_;have HB:=n7_;clear n0_ n1_ n2_ n3_ n4_ n5_ n6_ n7_;(try clear hb);(try clear hb2);(try clear hk);(try clear hi)))
      go_roundg k2
      case measure => have:=HK1.out;have:=HK2.out;omega
      case rel => exact ⟨(x6_2),(wrap64 (x8_1 - 1)),(x221000_2),(.slice Ao55 x221000_2.length co55),(by first|rfl|(simp;done)|(simp [*];done)|(simp;rw [Bool.eq_iff_iff];simp;done)|(rw [Bool.eq_iff_iff];simp;done)),H',⟨by have:=HK1.out;have:=HK2.out;omega⟩,⟨by (with_reducible repeat (first|apply Kd.R_alloc|apply Kd.R_drewN|apply Kd.R_drew));exact HO_6.out⟩,⟨by (with_reducible repeat (first|apply Kd.V_alloc|apply Kd.V_drewN|apply Kd.V_drew));exact HO_221000.out⟩,⟨by (with_reducible repeat (first|refine blk_drewN ?_ _|refine blk_drew ?_|refine blk_alloc ?_ _));exact BK213.out⟩,⟨by (with_reducible repeat (first|refine blk_drewN ?_ _|refine blk_drew ?_|refine blk_alloc ?_ _));exact BK214.out⟩,⟨by (with_reducible repeat (first|refine blk_drewN ?_ _|refine blk_drew ?_|refine blk_alloc ?_ _));exact BK215.out⟩,⟨by (with_reducible repeat (first|refine blk_drewN ?_ _|refine blk_drew ?_|refine blk_alloc ?_ _));exact BK216.out⟩,⟨by (with_reducible repeat (first|refine blk_drewN ?_ _|refine blk_drew ?_|refine blk_alloc ?_ _));exact BK220.out⟩,⟨by repeat (first|(with_reducible first|exact HB.out|apply below_alloc|apply pw_below_drewN|apply below_drew1|refine below_set ?_ GE213.out|refine below_set ?_ GE214.out|refine below_set ?_ GE215.out|refine below_set ?_ GE216.out|refine below_set ?_ GE220.out)|exact HB.out)⟩⟩
     replace c45:=Bool.eq_false_iff.mpr c45
     subst c45
     have H1 : ((bursarref03_Long_minus.f k2 x221000_2 l1_0).bind fun t235 => (if 0 ≤ x8_1 then (if x8_1 < (x6_2.length : Int) then (bursarref03_Long_by.l1 k2 (x6_2.set (x8_1 : Int).toNat (wrap64 ((rd x6_2 x8_1) + 1))) x8_1 l0_0 l1_0 t235) else (none)) else (none))) = some (r1,r2):=by rw [if_neg (show ¬ (false = true) by decide)] at H;exact H
     clear H;have H:=H1;clear H1
     replace H:=Option.bind_eq_some_iff.mp H
     obtain ⟨t235,A570,H⟩:=H
     replace H : (if 0 ≤ x8_1 then (if x8_1 < (x6_2.length : Int) then (bursarref03_Long_by.l1 k2 (x6_2.set (x8_1 : Int).toNat (wrap64 ((rd x6_2 x8_1) + 1))) x8_1 l0_0 l1_0 t235) else (none)) else (none)) = some (r1,r2):=H
     have A57:=Aside0.mk A570
     clear A570
     by_cases c58 : 0 ≤ x8_1
     rotate_left
     ·rw [if_neg c58] at H
      exact absurd H (by simp)
     rw [if_pos c58] at H
     have c58b0 : decide (0 ≤ x8_1) = true:=decide_eq_true c58
     clear c58
     by_cases c59 : x8_1 < (x6_2.length : Int)
     rotate_left
     ·rw [if_neg c59] at H
      exact absurd H (by simp)
     rw [if_pos c59] at H
     have c59b0 : decide (x8_1 < (x6_2.length : Int)) = true:=decide_eq_true c59
     clear c59
     obtain ⟨y239,hy239⟩ : ∃ y_ : List Int,y_ = (x6_2.set (x8_1 : Int).toNat (wrap64 ((rd x6_2 x8_1) + 1))):=⟨_,rfl⟩
     replace H : (bursarref03_Long_by.l1 k2 y239 x8_1 l0_0 l1_0 t235) = some (r1,r2):=by first|(rw [hy239];with_reducible exact H)|(have H2_:=(Option.bind_some _ _).symm.trans H;rw [hy239];with_reducible exact H2_)|(have H2_:=(Option.bind_some _ _).symm.trans H;with_reducible exact H2_)|with_reducible exact H|(rw [hy239];exact H)|exact H
     have Ny239:=Aside0.mk hy239
     clear hy239
     have H':=Aside0.mk H
     clear H
     have hnb61:=NB220_213.out
     have hnc61:=NB213_220.out
     have hnb62:=NB220_214.out
     have hnc62:=NB214_220.out
     have hnb63:=NB220_215.out
     have hnc63:=NB215_220.out
     have hnb64:=NB220_216.out
     have hnc64:=NB216_220.out
     have hcz65_0 : wr.cell? ⟨gb220,0,none⟩ = some (u221000):=(blk_cell BK220.out 0).trans rfl
     have hfz65_0:=blk_frozen BK220.out 0
     have hnb66:=NB214_213.out
     have hnc66:=NB213_214.out
     have hnb67:=NB214_215.out
     have hnc67:=NB215_214.out
     have hnb68:=NB214_216.out
     have hnc68:=NB216_214.out
     have hcz69_0 : wr.cell? ⟨gb214,0,none⟩ = some (.slice A1_0 l1_0.length c1_0):=(blk_cell BK214.out 0).trans rfl
     have hfz69_0:=blk_frozen BK214.out 0
     obtain ⟨Ao70,co70,eo70⟩:=Kd.V_slice HO_221000.out
     subst eo70
     go_wp2_with (first|((with_reducible refine gate_callee (f:=85) rfl ?_);refine goesL_ (some 39) rfl rfl Tryz.func85 (by kernel_rfl) rfl #[.agg #[.slice Ao70 x221000_2.length co70],.agg #[.slice A1_0 l1_0.length c1_0]] rfl (by (try simp only [List.map_toArray,List.map_cons,List.map_nil]);first|done|rfl|(simp only [List.length_drop,List.length_take];rfl)) ?_;(with_reducible refine (bursarref03_Long_less.calls k2 _ _ x221000_2 _ _ l1_0 false _ ?side1 ?side2 ?side3 ?side4 A44.out).mono ?_);(case side1 => repeat (first|exact (Kd.V_reads' HO_221000.out).2.2|(with_reducible refine Kd.C_alloc ?_ _)|(with_reducible refine Kd.C_drewN ?_ _)|(with_reducible refine Kd.C_drew ?_)));(case side2 => exact (Kd.V_reads' HO_221000.out).2.1);(case side3 => repeat (first|exact (Kd.C_below HR1_0.out HB.out)|(with_reducible refine Kd.C_alloc ?_ _)|(with_reducible refine Kd.C_drewN ?_ _)|(with_reducible refine Kd.C_drew ?_)));(case side4 => exact HC1_0.out);rintro e w71 ⟨rfl,hb⟩;refine ⟨_,rfl,?_⟩;have n0_:=Aside0.mk (Kd.R_below (by (with_reducible repeat (first|apply Kd.R_alloc|apply Kd.R_drewN|apply Kd.R_drew));exact HO_6.out) hb);have n1_:=Aside0.mk (Kd.V_below (by (with_reducible repeat (first|apply Kd.V_alloc|apply Kd.V_drewN|apply Kd.V_drew));exact HO_221000.out) hb);have n2_:=Aside0.mk (blk_below (g:=gb213) (o:=.cells #[.slice (some ad224) l0_0.length c0_0] 85 (0,0)) (by (with_reducible repeat (first|refine blk_drewN ?_ _|refine blk_drew ?_|refine blk_alloc ?_ _));exact BK213.out) hb);have n3_:=Aside0.mk (blk_below (g:=gb214) (o:=.cells #[.slice A1_0 l1_0.length c1_0] 85 (0,0)) (by (with_reducible repeat (first|refine blk_drewN ?_ _|refine blk_drew ?_|refine blk_alloc ?_ _));exact BK214.out) hb);have n4_:=Aside0.mk (blk_below (g:=gb215) (o:=.cells #[.slice none 0 0] 85 (0,0)) (by (with_reducible repeat (first|refine blk_drewN ?_ _|refine blk_drew ?_|refine blk_alloc ?_ _));exact BK215.out) hb);have n5_:=Aside0.mk (blk_below (g:=gb216) (o:=.cells #[.slice none 0 0] 85 (0,0)) (by (with_reducible repeat (first|refine blk_drewN ?_ _|refine blk_drew ?_|refine blk_alloc ?_ _));exact BK216.out) hb);have n6_:=Aside0.mk (blk_below (g:=gb220) (o:=.cells #[.slice Ao70 x221000_2.length co70] 85 (0,0)) (by (with_reducible repeat (first|refine blk_drewN ?_ _|refine blk_drew ?_|refine blk_alloc ?_ _));exact BK220.out) hb);have n7_:=Aside0.mk (below_step (by repeat (first|(with_reducible first|exact HB.out|apply below_alloc|apply pw_below_drewN|apply below_drew1|refine below_set ?_ GE213.out|refine below_set ?_ GE214.out|refine below_set ?_ GE215.out|refine below_set ?_ GE216.out|refine below_set ?_ GE220.out)|exact HB.out)) hb);clear HO_6;clear HO_221000;clear BK213;clear BK214;clear BK215;clear BK216;clear BK220;clear HB;have HO_6:=n0_;have HO_221000:=n1_;have BK213:=n2_;have BK214:=n3_;have BK215:=n4_;have BK216:=n5_;have BK220:=n6_;have HB:=n7_;clear n0_ n1_ n2_ n3_ n4_ n5_ n6_ n7_;(try clear hb);(try clear hb2);(try clear hk);(try clear hi);have hcz72_0 : w71.cell? ⟨gb220,0,none⟩ = some (.slice Ao70 x221000_2.length co70):=(blk_cell BK220.out 0).trans rfl;have hfz72_0:=blk_frozen BK220.out 0;have hcz73_0 : w71.cell? ⟨gb214,0,none⟩ = some (.slice A1_0 l1_0.length c1_0):=(blk_cell BK214.out 0).trans rfl;have hfz73_0:=blk_frozen BK214.out 0)|((with_reducible refine gate_callee (f:=86) rfl ?_);refine goesL_ (some 43) rfl rfl Tryz.func86 (by kernel_rfl) rfl #[.agg #[.slice Ao70 x221000_2.length co70],.agg #[.slice A1_0 l1_0.length c1_0]] rfl (by (try simp only [List.map_toArray,List.map_cons,List.map_nil]);first|done|rfl|(simp only [List.length_drop,List.length_take];rfl)) ?_;(with_reducible refine (bursarref03_Long_minus.calls k2 _ _ x221000_2 _ _ l1_0 t235 _ ?side1 ?side2 ?side3 ?side4 A57.out).mono ?_);(case side1 => repeat (first|exact (Kd.V_reads' HO_221000.out).2.2|(with_reducible refine Kd.C_alloc ?_ _)|(with_reducible refine Kd.C_drewN ?_ _)|(with_reducible refine Kd.C_drew ?_)));(case side2 => exact (Kd.V_reads' HO_221000.out).2.1);(case side3 => repeat (first|exact (Kd.C_below HR1_0.out HB.out)|(with_reducible refine Kd.C_alloc ?_ _)|(with_reducible refine Kd.C_drewN ?_ _)|(with_reducible refine Kd.C_drew ?_)));(case side4 => exact HC1_0.out);rintro e w74 ⟨v236,rfl,ho0,hb⟩;refine ⟨_,rfl,?_⟩;have n0_:=Aside0.mk (Kd.R_below (by (with_reducible repeat (first|apply Kd.R_alloc|apply Kd.R_drewN|apply Kd.R_drew));exact HO_6.out) hb);have n1_:=Aside0.mk (Kd.V_below (by (with_reducible repeat (first|apply Kd.V_alloc|apply Kd.V_drewN|apply Kd.V_drew));exact HO_221000.out) hb);have n2_:=Aside0.mk (Kd.V_lower (Kd.V_mono (ok':=fun k_ => (w.heap.size ≤ k_) ∧ some k_ ≠ (v218 : Value).ownBlock ∧ k_ ≠ gb213 ∧ k_ ≠ gb214 ∧ k_ ≠ gb215 ∧ k_ ≠ gb216 ∧ k_ ≠ gb220) ho0 (fun k_ hk_ => ⟨(Nat.le_trans (below_size (by repeat (first|(with_reducible first|exact HB.out|apply below_alloc|apply pw_below_drewN|apply below_drew1|refine below_set ?_ GE213.out|refine below_set ?_ GE214.out|refine below_set ?_ GE215.out|refine below_set ?_ GE216.out|refine below_set ?_ GE220.out)|exact HB.out))) hk_),(Kd.fresh' (Kd.R_lt (by (with_reducible repeat (first|apply Kd.R_alloc|apply Kd.R_drewN|apply Kd.R_drew));exact HO_6.out)) k_ hk_),(Kd.freshB (g:=gb213) (o:=.cells #[.slice (some ad224) l0_0.length c0_0] 85 (0,0)) (by (with_reducible repeat (first|refine blk_drewN ?_ _|refine blk_drew ?_|refine blk_alloc ?_ _));exact BK213.out) k_ hk_),(Kd.freshB (g:=gb214) (o:=.cells #[.slice A1_0 l1_0.length c1_0] 85 (0,0)) (by (with_reducible repeat (first|refine blk_drewN ?_ _|refine blk_drew ?_|refine blk_alloc ?_ _));exact BK214.out) k_ hk_),(Kd.freshB (g:=gb215) (o:=.cells #[.slice none 0 0] 85 (0,0)) (by (with_reducible repeat (first|refine blk_drewN ?_ _|refine blk_drew ?_|refine blk_alloc ?_ _));exact BK215.out) k_ hk_),(Kd.freshB (g:=gb216) (o:=.cells #[.slice none 0 0] 85 (0,0)) (by (with_reducible repeat (first|refine blk_drewN ?_ _|refine blk_drew ?_|refine blk_alloc ?_ _));exact BK216.out) k_ hk_),(Kd.freshB (g:=gb220) (o:=.cells #[.slice Ao70 x221000_2.length co70] 85 (0,0)) (by (with_reducible repeat (first|refine blk_drewN ?_ _|refine blk_drew ?_|refine blk_alloc ?_ _));exact BK220.out) k_ hk_)⟩)) (below_size (by repeat (first|(with_reducible first|exact HB.out|apply below_alloc|apply pw_below_drewN|apply below_drew1|refine below_set ?_ GE213.out|refine below_set ?_ GE214.out|refine below_set ?_ GE215.out|refine below_set ?_ GE216.out|refine below_set ?_ GE220.out)|exact HB.out))));have n3_:=Aside0.mk (blk_below (g:=gb213) (o:=.cells #[.slice (some ad224) l0_0.length c0_0] 85 (0,0)) (by (with_reducible repeat (first|refine blk_drewN ?_ _|refine blk_drew ?_|refine blk_alloc ?_ _));exact BK213.out) hb);have n4_:=Aside0.mk (blk_below (g:=gb214) (o:=.cells #[.slice A1_0 l1_0.length c1_0] 85 (0,0)) (by (with_reducible repeat (first|refine blk_drewN ?_ _|refine blk_drew ?_|refine blk_alloc ?_ _));exact BK214.out) hb);have n5_:=Aside0.mk (blk_below (g:=gb215) (o:=.cells #[.slice none 0 0] 85 (0,0)) (by (with_reducible repeat (first|refine blk_drewN ?_ _|refine blk_drew ?_|refine blk_alloc ?_ _));exact BK215.out) hb);have n6_:=Aside0.mk (blk_below (g:=gb216) (o:=.cells #[.slice none 0 0] 85 (0,0)) (by (with_reducible repeat (first|refine blk_drewN ?_ _|refine blk_drew ?_|refine blk_alloc ?_ _));exact BK216.out) hb);have n7_:=Aside0.mk (blk_below (g:=gb220) (o:=.cells #[.slice Ao70 x221000_2.length co70] 85 (0,0)) (by (with_reducible repeat (first|refine blk_drewN ?_ _|refine blk_drew ?_|refine blk_alloc ?_ _));exact BK220.out) hb);have n8_:=Aside0.mk (below_step (by repeat (first|(with_reducible first|exact HB.out|apply below_alloc|apply pw_below_drewN|apply below_drew1|refine below_set ?_ GE213.out|refine below_set ?_ GE214.out|refine below_set ?_ GE215.out|refine below_set ?_ GE216.out|refine below_set ?_ GE220.out)|exact HB.out)) hb);clear HO_6;clear HO_221000;clear BK213;clear BK214;clear BK215;clear BK216;clear BK220;clear HB;have HO_6:=n0_;have HO_221000:=n1_;have HO237:=n2_;have BK213:=n3_;have BK214:=n4_;have BK215:=n5_;have BK216:=n6_;have BK220:=n7_;have HB:=n8_;clear n0_ n1_ n2_ n3_ n4_ n5_ n6_ n7_ n8_;(try clear hb);(try clear hb2);(try clear hk);(try clear hi);(try clear ho0);obtain ⟨Ao75,co75,eo75⟩:=Kd.V_slice HO237.out;subst eo75;have hcz76_0 : w74.cell? ⟨gb220,0,none⟩ = some (.slice Ao70 x221000_2.length co70):=(blk_cell BK220.out 0).trans rfl;have hfz76_0:=blk_frozen BK220.out 0)|((with_reducible refine gate_store (t:=85) (p:=7) rfl ?_);refine store_event (t:=85) (p:=7) (v:=?vo_w77) (w1:=(w74.setCell ⟨gb220,0,none⟩ (.slice Ao75 t235.length co75))) ?hg ?ho ?hn ?hr ?_;(case ho => rfl);(case hg => rfl);(case hn => rfl);(case hr => first|(go_simp;done)|(go_simp;rfl));intro w77 hw;have n0_ : Aside0 (Kd.R (Kd.int .i64) 3 w77 w.heap.size (fun k_ => (w.heap.size ≤ k_)) v218 x6_2):=⟨(by rw [hw];exact (by (with_reducible repeat (first|apply Kd.R_alloc|apply Kd.R_drewN|apply Kd.R_drew));exact Kd.R_mono (Kd.R_far (p:=⟨gb220,0,none⟩) (Kd.R_types HO_6.out BK220.out (by decide)) (fun _ hk => hk.2) (.slice Ao75 t235.length co75)) (fun _ hk => hk.1)))⟩;have n1_ : Aside0 (Kd.V (Kd.int .i64) 3 w77 w.heap.size (fun k_ => (w.heap.size ≤ k_) ∧ some k_ ≠ (v218 : Value).ownBlock ∧ k_ ≠ gb213 ∧ k_ ≠ gb214 ∧ k_ ≠ gb215 ∧ k_ ≠ gb216 ∧ k_ ≠ gb220) (.slice Ao70 x221000_2.length co70) x221000_2):=⟨(by rw [hw];exact (by (with_reducible repeat (first|apply Kd.V_alloc|apply Kd.V_drewN|apply Kd.V_drew));exact Kd.V_mono (Kd.V_far (p:=⟨gb220,0,none⟩) (Kd.V_mono HO_221000.out (fun k_ hk => (⟨hk,hk.2.2.2.2.2.2⟩ : _ ∧ k_ ≠ gb220))) (fun _ hk => hk.2) (.slice Ao75 t235.length co75)) (fun _ hk => ⟨hk.1.1,⟨hk.1.2.1,⟨hk.1.2.2.1,⟨hk.1.2.2.2.1,⟨hk.1.2.2.2.2.1,⟨hk.1.2.2.2.2.2.1,hk.1.2.2.2.2.2.2⟩⟩⟩⟩⟩⟩)))⟩;have n2_ : Aside0 (Kd.V (Kd.int .i64) 3 w77 w.heap.size (fun k_ => (w.heap.size ≤ k_) ∧ some k_ ≠ (v218 : Value).ownBlock ∧ k_ ≠ gb213 ∧ k_ ≠ gb214 ∧ k_ ≠ gb215 ∧ k_ ≠ gb216 ∧ k_ ≠ gb220) (.slice Ao75 t235.length co75) t235):=⟨(by rw [hw];exact (by (with_reducible repeat (first|apply Kd.V_alloc|apply Kd.V_drewN|apply Kd.V_drew));exact Kd.V_mono (Kd.V_far (p:=⟨gb220,0,none⟩) (Kd.V_mono HO237.out (fun k_ hk => (⟨hk,hk.2.2.2.2.2.2⟩ : _ ∧ k_ ≠ gb220))) (fun _ hk => hk.2) (.slice Ao75 t235.length co75)) (fun _ hk => ⟨hk.1.1,⟨hk.1.2.1,⟨hk.1.2.2.1,⟨hk.1.2.2.2.1,⟨hk.1.2.2.2.2.1,⟨hk.1.2.2.2.2.2.1,hk.1.2.2.2.2.2.2⟩⟩⟩⟩⟩⟩)))⟩;have n3_ : Aside0 (w77.heap[gb213]? = some (.cells #[.slice (some ad224) l0_0.length c0_0] 85 (0,0))):=⟨(by rw [hw];exact (by (with_reducible repeat (first|refine blk_drewN ?_ _|refine blk_drew ?_|refine blk_alloc ?_ _));refine blk_far ?_ NB213_220.out _;(with_reducible repeat (first|refine blk_drewN ?_ _|refine blk_drew ?_|refine blk_alloc ?_ _));exact BK213.out))⟩;have n4_ : Aside0 (w77.heap[gb214]? = some (.cells #[.slice A1_0 l1_0.length c1_0] 85 (0,0))):=⟨(by rw [hw];exact (by (with_reducible repeat (first|refine blk_drewN ?_ _|refine blk_drew ?_|refine blk_alloc ?_ _));refine blk_far ?_ NB214_220.out _;(with_reducible repeat (first|refine blk_drewN ?_ _|refine blk_drew ?_|refine blk_alloc ?_ _));exact BK214.out))⟩;have n5_ : Aside0 (w77.heap[gb215]? = some (.cells #[.slice none 0 0] 85 (0,0))):=⟨(by rw [hw];exact (by (with_reducible repeat (first|refine blk_drewN ?_ _|refine blk_drew ?_|refine blk_alloc ?_ _));refine blk_far ?_ NB215_220.out _;(with_reducible repeat (first|refine blk_drewN ?_ _|refine blk_drew ?_|refine blk_alloc ?_ _));exact BK215.out))⟩;have n6_ : Aside0 (w77.heap[gb216]? = some (.cells #[.slice none 0 0] 85 (0,0))):=⟨(by rw [hw];exact (by (with_reducible repeat (first|refine blk_drewN ?_ _|refine blk_drew ?_|refine blk_alloc ?_ _));refine blk_far ?_ NB216_220.out _;(with_reducible repeat (first|refine blk_drewN ?_ _|refine blk_drew ?_|refine blk_alloc ?_ _));exact BK216.out))⟩;have n7_ : Aside0 (w77.heap[gb220]? = some (.cells #[.slice Ao75 t235.length co75] 85 (0,0))):=⟨(by rw [hw];exact (by (with_reducible repeat (first|refine blk_drewN ?_ _|refine blk_drew ?_|refine blk_alloc ?_ _));refine blk_put (cs:=#[.slice Ao70 x221000_2.length co70]) ?_ 0 _ rfl;(with_reducible repeat (first|refine blk_drewN ?_ _|refine blk_drew ?_|refine blk_alloc ?_ _));exact BK220.out))⟩;have n8_ : Aside0 (Below w.heap.size w w77):=⟨(by rw [hw];exact (by repeat (first|(with_reducible first|exact HB.out|apply below_alloc|apply pw_below_drewN|apply below_drew1|refine below_set ?_ GE213.out|refine below_set ?_ GE214.out|refine below_set ?_ GE215.out|refine below_set ?_ GE216.out|refine below_set ?_ GE220.out)|exact HB.out)))⟩;clear hw;clear HO_6;clear HO_221000;clear HO237;clear BK213;clear BK214;clear BK215;clear BK216;clear BK220;clear HB;have HO_6:=n0_;have HO_221000:=n1_;have HO237:=n2_;have BK213:=n3_;have BK214:=n4_;have BK215:=n5_;have BK216:=n6_;have BK220:=n7_;have HB:=n8_;clear n0_ n1_ n2_ n3_ n4_ n5_ n6_ n7_ n8_;obtain ⟨Ao78,co78,eo78⟩:=Kd.R_slice HO_6.out;subst eo78;have p238 : 0 ≤ (x8_1 : Int):=of_decide_eq_true (by first|(with_reducible assumption)|assumption);have q238 : x8_1 < (x6_2.length : Int):=of_decide_eq_true (by first|(with_reducible assumption)|assumption);obtain ⟨ad238,e238,hx238_0⟩:=Kd.at_int (Kd.R_reads' HO_6.out).2.2 x8_1 p238 q238;cases e238;replace p238:=eq_true p238;replace q238:=eq_true q238;have p60 : 0 ≤ (x8_1 : Int):=of_decide_eq_true (by first|(with_reducible assumption)|assumption);have q60 : (x8_1 : Int) < ((x6_2.length : Int) : Int):=of_decide_eq_true (by first|(with_reducible assumption)|assumption);obtain ⟨go60,co60,eo60,gb60,gl60,cl60,HG60⟩:=Kd.R_form HO_6.out (by omega);(first|cases eo60|(injection eo60 with ea_ en_ ec_;(first|subst ea_|(injection ea_ with ea_;subst ea_));subst ec_;clear en_));have GB60:=Aside0.mk gb60;have GG60:=Aside0.mk HG60;clear gb60 gl60 HG60;(first|simp only [add_plain] at hx238_0|skip);obtain ⟨hx60_0,hf60_0⟩:=Kd.R_celln 0 HO_6.out (x8_1 : Int) p60 q60;replace p60:=eq_true p60;replace q60:=eq_true q60;obtain ⟨hy79_,hz79_⟩:=Kd.R_celln 0 HO_6.out (x8_1 : Int) (of_decide_eq_true (by first|(with_reducible assumption)|assumption)) (of_decide_eq_true (by first|(with_reducible assumption)|assumption));have HP79:=Kd.R_putg HO_6.out (x8_1 : Int) (wrap64 ((rd x6_2 x8_1) + 1)))|((with_reducible refine gate_store (t:=3) (p:=49) rfl ?_);refine store_event (t:=3) (p:=49) (v:=?vo_w80) (w1:=(w77.setCell ⟨go60,(x8_1 : Int).toNat,none⟩ (.int .i64 (wrap64 ((rd x6_2 x8_1) + 1))))) ?hg ?ho ?hn ?hr ?_;(case ho => rfl);(case hg => rfl);(case hn => rfl);(case hr => first|(go_simp;done)|(go_simp;rfl));intro w80 hw;have hg : w77.grownBy w80 (some go60):=(by rw [hw];exact HP79.2);have hp_ : Kd.R (Kd.int .i64) 3 w80 w.heap.size (fun k_ => (w.heap.size ≤ k_)) (.slice (some ⟨go60,0,none⟩) x6_2.length co78) y239:=(by rw [hw,Ny239.out];exact HP79.1);clear HP79;have n0_:=Aside0.mk (hp_);have n1_:=Aside0.mk (Kd.V_afterv (v:=(.slice (some ⟨go60,0,none⟩) x6_2.length co78)) (v1:=(.slice (some ⟨go60,0,none⟩) x6_2.length co78)) (ok:=(fun k_ => (w.heap.size ≤ k_) ∧ k_ ≠ gb213 ∧ k_ ≠ gb214 ∧ k_ ≠ gb215 ∧ k_ ≠ gb216 ∧ k_ ≠ gb220)) (by (with_reducible repeat (first|apply Kd.V_alloc|apply Kd.V_drewN|apply Kd.V_drew));exact Kd.V_mono HO_221000.out (fun _ hk => ⟨⟨hk.1,⟨hk.2.2.1,⟨hk.2.2.2.1,⟨hk.2.2.2.2.1,⟨hk.2.2.2.2.2.1,hk.2.2.2.2.2.2⟩⟩⟩⟩⟩,hk.2.1⟩)) hg (.inl rfl));have n2_:=Aside0.mk (blk_grown (g:=gb213) (o:=.cells #[.slice (some ad224) l0_0.length c0_0] 85 (0,0)) (by (with_reducible repeat (first|refine blk_drewN ?_ _|refine blk_drew ?_|refine blk_alloc ?_ _));exact BK213.out) hg (Kd.R_ne HO_6.out BK213.out (by decide)));have n3_:=Aside0.mk (blk_grown (g:=gb214) (o:=.cells #[.slice A1_0 l1_0.length c1_0] 85 (0,0)) (by (with_reducible repeat (first|refine blk_drewN ?_ _|refine blk_drew ?_|refine blk_alloc ?_ _));exact BK214.out) hg (Kd.R_ne HO_6.out BK214.out (by decide)));have n4_:=Aside0.mk (blk_grown (g:=gb215) (o:=.cells #[.slice none 0 0] 85 (0,0)) (by (with_reducible repeat (first|refine blk_drewN ?_ _|refine blk_drew ?_|refine blk_alloc ?_ _));exact BK215.out) hg (Kd.R_ne HO_6.out BK215.out (by decide)));have n5_:=Aside0.mk (blk_grown (g:=gb216) (o:=.cells #[.slice none 0 0] 85 (0,0)) (by (with_reducible repeat (first|refine blk_drewN ?_ _|refine blk_drew ?_|refine blk_alloc ?_ _));exact BK216.out) hg (Kd.R_ne HO_6.out BK216.out (by decide)));have n6_:=Aside0.mk (blk_grown (g:=gb220) (o:=.cells #[.slice Ao75 t235.length co75] 85 (0,0)) (by (with_reducible repeat (first|refine blk_drewN ?_ _|refine blk_drew ?_|refine blk_alloc ?_ _));exact BK220.out) hg (Kd.R_ne HO_6.out BK220.out (by decide)));have n7_:=Aside0.mk (Kd.V_afterv (v:=(.slice (some ⟨go60,0,none⟩) x6_2.length co78)) (v1:=(.slice (some ⟨go60,0,none⟩) x6_2.length co78)) (ok:=(fun k_ => (w.heap.size ≤ k_) ∧ k_ ≠ gb213 ∧ k_ ≠ gb214 ∧ k_ ≠ gb215 ∧ k_ ≠ gb216 ∧ k_ ≠ gb220)) (by (with_reducible repeat (first|apply Kd.V_alloc|apply Kd.V_drewN|apply Kd.V_drew));exact Kd.V_mono HO237.out (fun _ hk => ⟨⟨hk.1,⟨hk.2.2.1,⟨hk.2.2.2.1,⟨hk.2.2.2.2.1,⟨hk.2.2.2.2.2.1,hk.2.2.2.2.2.2⟩⟩⟩⟩⟩,hk.2.1⟩)) hg (.inl rfl));have n8_:=Aside0.mk ((by rw [hw];exact below_set (HB.out) GB60.out : Below w.heap.size w w80));clear HO_6;clear HO_221000;clear BK213;clear BK214;clear BK215;clear BK216;clear BK220;clear HO237;clear HB;have HO_6:=n0_;have HO_221000:=n1_;have BK213:=n2_;have BK214:=n3_;have BK215:=n4_;have BK216:=n5_;have BK220:=n6_;have HO237:=n7_;have HB:=n8_;clear n0_ n1_ n2_ n3_ n4_ n5_ n6_ n7_ n8_;clear hg hw hp_))
     go_roundg k2
     case measure => have:=HK1.out;have:=HK2.out;omega
     case rel => exact ⟨(y239),(t235),(.slice Ao75 t235.length co75),H',⟨by have:=HK1.out;have:=HK2.out;omega⟩,⟨by (with_reducible repeat (first|apply Kd.R_alloc|apply Kd.R_drewN|apply Kd.R_drew));exact HO_6.out⟩,⟨by (with_reducible repeat (first|apply Kd.V_alloc|apply Kd.V_drewN|apply Kd.V_drew));exact Kd.V_mono HO237.out (fun _ hk => ⟨hk.1.1,⟨hk.2,⟨hk.1.2.1,⟨hk.1.2.2.1,⟨hk.1.2.2.2.1,⟨hk.1.2.2.2.2.1,hk.1.2.2.2.2.2⟩⟩⟩⟩⟩⟩)⟩,⟨by (with_reducible repeat (first|refine blk_drewN ?_ _|refine blk_drew ?_|refine blk_alloc ?_ _));exact BK213.out⟩,⟨by (with_reducible repeat (first|refine blk_drewN ?_ _|refine blk_drew ?_|refine blk_alloc ?_ _));exact BK214.out⟩,⟨by (with_reducible repeat (first|refine blk_drewN ?_ _|refine blk_drew ?_|refine blk_alloc ?_ _));exact BK215.out⟩,⟨by (with_reducible repeat (first|refine blk_drewN ?_ _|refine blk_drew ?_|refine blk_alloc ?_ _));exact BK216.out⟩,⟨by (with_reducible repeat (first|refine blk_drewN ?_ _|refine blk_drew ?_|refine blk_alloc ?_ _));exact BK220.out⟩,⟨by repeat (first|(with_reducible first|exact HB.out|apply below_alloc|apply pw_below_drewN|apply below_drew1|refine below_set ?_ GE213.out|refine below_set ?_ GE214.out|refine below_set ?_ GE215.out|refine below_set ?_ GE216.out|refine below_set ?_ GE220.out)|exact HB.out)⟩⟩
end Go.Proofs.YtejgbdclhlolkaaGreatDoor.Q
namespace Go.Proofs.YtejgbdclhlolkaaGreatDoor.Q
open Go.RowKit Go.Proofs.YtejgbdclhlolkaaGreatDoorW.PrintWords Go.Proofs.YtejgbdclhlolkaaGreatDoorW.PrintLast Go.Proofs.YtejgbdclhlolkaaGreatDoorW.PrintMore
attribute [local go_sem] max2_int min2_int max_two min_two max_three min_three max_four min_four   -- for this text's walks alone
set_option linter.unusedVariables false
set_option linter.unusedSimpArgs false
mutual
def bursarref03_Long_plus.l0 : Nat → List Int → Int → Int → List Int → List Int → Option (List Int)
|0,_,_,_,_,_ => none
|k + 1,x5,x6,x7,x241000,x242000 => if x7 < (x241000.length : Int) then (bursarref03_Long_plus.j1 k x5 x6 x7 true x241000 x242000) else (if x7 < (x242000.length : Int) then (bursarref03_Long_plus.j1 k x5 x6 x7 true x241000 x242000) else (bursarref03_Long_plus.j1 k x5 x6 x7 (decide (x6 > 0)) x241000 x242000))
def bursarref03_Long_plus.j1 : Nat → List Int → Int → Int → Bool → List Int → List Int → Option (List Int)
|0,_,_,_,_,_,_ => none
|k + 1,x5,x6,x7,x24,x241000,x242000 => if x24 = true then ((bursarref03_Long_at.f x241000 x7).bind fun t243 => ((bursarref03_Long_at.f x242000 x7).bind fun t244 => (if x5.length < 17592186044416 then (bursarref03_Long_plus.l0 k (x5 ++ [Int.tmod (wrap64 ((wrap64 (t243 + t244)) + x6)) 10]) (wrap64 (Int.tdiv (wrap64 ((wrap64 (t243 + t244)) + x6)) 10)) (wrap64 (x7 + 1)) x241000 x242000) else (none)))) else ((bursarref03_cut.f k x5).bind fun t248 => (some t248))
end
def bursarref03_Long_plus.f (k : Nat) (l0_0 : List Int) (l1_0 : List Int) : Option (List Int) := bursarref03_Long_plus.l0 k ([] : List Int) 0 0 l0_0 l1_0
theorem bursarref03_Long_plus.mono_l : ∀ k, (∀ y0 y1 y2 y3 y4, LeO (bursarref03_Long_plus.l0 k y0 y1 y2 y3 y4) (bursarref03_Long_plus.l0 (k + 1) y0 y1 y2 y3 y4)) ∧ (∀ y0 y1 y2 y3 y4 y5, LeO (bursarref03_Long_plus.j1 k y0 y1 y2 y3 y4 y5) (bursarref03_Long_plus.j1 (k + 1) y0 y1 y2 y3 y4 y5))
|0 => ⟨fun _ _ _ _ _ r h => by simp [bursarref03_Long_plus.l0] at h,fun _ _ _ _ _ _ r h => by simp [bursarref03_Long_plus.j1] at h⟩
|k + 1 => by
  obtain ⟨ih0,ih1⟩:=bursarref03_Long_plus.mono_l k
  refine ⟨?_,?_⟩
  ·intro y0 y1 y2 y3 y4
   unfold bursarref03_Long_plus.l0
   repeat' first
  |(with_reducible exact ih0 _ _ _ _ _)
  |(with_reducible exact ih1 _ _ _ _ _ _)
  |(with_reducible exact bursarref03_cut.mono _ _)
  |(with_reducible exact LeO.refl _)
  |(with_reducible exact LeO.none _)
  |(with_reducible refine LeO.ite ?_ ?_)
  |(with_reducible refine LeO.bind ?_ (fun _ => ?_))
  |exact ih0 _ _ _ _ _
  |exact ih1 _ _ _ _ _ _
  |exact bursarref03_cut.mono _ _
  |exact LeO.none _
  |refine LeO.ite ?_ ?_
  |refine LeO.bind ?_ (fun _ => ?_)
  ·intro y0 y1 y2 y3 y4 y5
   unfold bursarref03_Long_plus.j1
   repeat' first
  |(with_reducible exact ih0 _ _ _ _ _)
  |(with_reducible exact ih1 _ _ _ _ _ _)
  |(with_reducible exact bursarref03_cut.mono _ _)
  |(with_reducible exact LeO.refl _)
  |(with_reducible exact LeO.none _)
  |(with_reducible refine LeO.ite ?_ ?_)
  |(with_reducible refine LeO.bind ?_ (fun _ => ?_))
  |exact ih0 _ _ _ _ _
  |exact ih1 _ _ _ _ _ _
  |exact bursarref03_cut.mono _ _
  |exact LeO.none _
  |refine LeO.ite ?_ ?_
  |refine LeO.bind ?_ (fun _ => ?_)
theorem bursarref03_Long_plus.mono : ∀ a0 a1 k, LeO (bursarref03_Long_plus.f k a0 a1) (bursarref03_Long_plus.f (k + 1) a0 a1) := by
 intro a0 a1 k
 obtain ⟨ih0,ih1⟩:=bursarref03_Long_plus.mono_l k
 unfold bursarref03_Long_plus.f
 repeat' first
  |(with_reducible exact ih0 _ _ _ _ _)
  |(with_reducible exact ih1 _ _ _ _ _ _)
  |(with_reducible exact bursarref03_cut.mono _ _)
  |(with_reducible exact LeO.refl _)
  |(with_reducible exact LeO.none _)
  |(with_reducible refine LeO.ite ?_ ?_)
  |(with_reducible refine LeO.bind ?_ (fun _ => ?_))
  |exact ih0 _ _ _ _ _
  |exact ih1 _ _ _ _ _ _
  |exact bursarref03_cut.mono _ _
  |exact LeO.none _
  |refine LeO.ite ?_ ?_
  |refine LeO.bind ?_ (fun _ => ?_)
def bursarref03_Long_plus.T6 : Bool × List (List Nat × List Nat) := (true, [([], []), ([], []), ([0, 1], [0, 1]), ([], []), ([], []), ([3, 4, 2], [3, 4]), ([2, 5], [2, 5]), ([], []), ([6, 7], [6, 7]), ([8, 5, 0, 1, 2, 3, 4, 5, 6, 7, 8], [8])])
def bursarref03_Long_plus.B6 : List Nat := [0, 0, 3, 0, 0, 31, 63, 0, 255, 511]
theorem bursarref03_Long_plus.tab6 : rtab .any (opsOf Tryz.f68 6) = bursarref03_Long_plus.T6 := by kernel_rfl
theorem bursarref03_Long_plus.bits6 : waitsOk bursarref03_Long_plus.T6.2 bursarref03_Long_plus.B6 = true := by kernel_rfl
set_option maxHeartbeats 8000000 in
set_option maxRecDepth 100000 in
theorem bursarref03_Long_plus.calls (k : Nat) (A0_0 : Option Addr) (c0_0 : Nat) (l0_0 : List Int) (A1_0 : Option Addr) (c1_0 : Nat) (l1_0 : List Int) (r : List Int) (w : World) (hr0_0 : Kd.C (Kd.int .i64) w A0_0 l0_0.length l0_0) (hc0_0 : l0_0.length ≤ c0_0) (hr1_0 : Kd.C (Kd.int .i64) w A1_0 l1_0.length l1_0) (hc1_0 : l1_0.length ≤ c1_0) (h : bursarref03_Long_plus.f k l0_0 l1_0 = some r) :
  Calls Tryz.prog 68 #[.agg #[.slice A0_0 l0_0.length c0_0],.agg #[.slice A1_0 l1_0.length c1_0]] w fun e w' => ∃ v0_ : Value,e = .returned (.agg #[v0_]) ∧ Kd.V (Kd.int .i64) 3 w' w.heap.size (fun k_ => (w.heap.size ≤ k_)) v0_ r ∧ Below w.heap.size w w':=by
 have hu85:=Tryz.underlying85
 have HR0_0:=Aside0.mk hr0_0
 have HC0_0:=Aside0.mk hc0_0
 clear hr0_0 hc0_0
 have HR1_0:=Aside0.mk hr1_0
 have HC1_0:=Aside0.mk hc1_0
 clear hr1_0 hc1_0
 have HB:=Aside0.mk (Below.refl w.heap.size w)
 have H : (bursarref03_Long_plus.l0 k ([] : List Int) 0 0 l0_0 l1_0) = some r:=h
 clear h
 have H':=Aside0.mk H
 clear H
 go_enter Tryz.func68,Tryz.ntmps68
 go_wp2_with (first|((with_reducible refine gate_dst (N:=2) rfl ?_);(try (refine gate_guard (by rfl) ?_;dsimp only));refine box_event ?hg (N:=2) ?hd (cs:=#[.slice A0_0 l0_0.length c0_0]) (t:=85) ?hr ?_;(case hd => rfl);(case hg => rfl);(case hr => first|(go_simp;done)|(go_simp;rfl));intro gb240 hg w3 hbox hb;have n0_:=Aside0.mk (below_step (by repeat (first|(with_reducible first|exact HB.out|apply below_alloc|apply pw_below_drewN|apply below_drew1)|exact HB.out)) hb);have n1_:=Aside0.mk (hbox);have n2_:=Aside0.mk ((by rw [hg];exact (below_size (by repeat (first|(with_reducible first|exact HB.out|apply below_alloc|apply pw_below_drewN|apply below_drew1)|exact HB.out))) : w.heap.size ≤ gb240));have n3_:=Aside0.mk ((by rw [hg];exact (below_size (by repeat (first|(with_reducible first|exact HB.out|apply below_alloc|apply pw_below_drewN|apply below_drew1)|exact HB.out))) : w.heap.size ≤ gb240));clear HB;have HB:=n0_;have BK240:=n1_;have GW240:=n2_;have GE240:=n3_;clear n0_ n1_ n2_ n3_;clear hb hbox hg)|((with_reducible refine gate_dst (N:=3) rfl ?_);(try (refine gate_guard (by rfl) ?_;dsimp only));refine box_event ?hg (N:=3) ?hd (cs:=#[.slice A1_0 l1_0.length c1_0]) (t:=85) ?hr ?_;(case hd => rfl);(case hg => rfl);(case hr => first|(go_simp;done)|(go_simp;rfl));intro gb241 hg w4 hbox hb;have n0_:=Aside0.mk (blk_below (g:=gb240) (o:=.cells #[.slice A0_0 l0_0.length c0_0] 85 (0,0)) (by (with_reducible repeat (first|refine blk_drewN ?_ _|refine blk_drew ?_|refine blk_alloc ?_ _));exact BK240.out) hb);have n1_:=Aside0.mk (below_step (by repeat (first|(with_reducible first|exact HB.out|apply below_alloc|apply pw_below_drewN|apply below_drew1|refine below_set ?_ GE240.out)|exact HB.out)) hb);have n2_:=Aside0.mk (hbox);have n3_:=Aside0.mk ((by rw [hg];exact (below_size (by repeat (first|(with_reducible first|exact HB.out|apply below_alloc|apply pw_below_drewN|apply below_drew1|refine below_set ?_ GE240.out)|exact HB.out))) : w.heap.size ≤ gb241));have n4_:=Aside0.mk ((by rw [hg];exact (below_size (by repeat (first|(with_reducible first|exact HB.out|apply below_alloc|apply pw_below_drewN|apply below_drew1|refine below_set ?_ GE240.out)|exact HB.out))) : w.heap.size ≤ gb241));have n5_:=Aside0.mk ((by rw [hg];exact Nat.ne_of_lt (blk_lt (g:=gb240) (o:=.cells #[.slice A0_0 l0_0.length c0_0] 85 (0,0)) (by (with_reducible repeat (first|refine blk_drewN ?_ _|refine blk_drew ?_|refine blk_alloc ?_ _));exact BK240.out)) : gb240 ≠ gb241));have n6_:=Aside0.mk ((by rw [hg];exact Nat.ne_of_gt (blk_lt (g:=gb240) (o:=.cells #[.slice A0_0 l0_0.length c0_0] 85 (0,0)) (by (with_reducible repeat (first|refine blk_drewN ?_ _|refine blk_drew ?_|refine blk_alloc ?_ _));exact BK240.out)) : gb241 ≠ gb240));clear BK240;clear HB;have BK240:=n0_;have HB:=n1_;have BK241:=n2_;have GW241:=n3_;have GE241:=n4_;have NB240_241:=n5_;have NB241_240:=n6_;clear n0_ n1_ n2_ n3_ n4_ n5_ n6_;clear hb hbox hg)|((with_reducible refine gate_dst (N:=4) rfl ?_);(try (refine gate_guard (by rfl) ?_;dsimp only));refine box_event ?hg (N:=4) ?hd (cs:=#[.slice none 0 0]) (t:=85) ?hr ?_;(case hd => rfl);(case hg => rfl);(case hr => first|(go_simp;done)|(go_simp;rfl));intro gb242 hg w5 hbox hb;have n0_:=Aside0.mk (blk_below (g:=gb240) (o:=.cells #[.slice A0_0 l0_0.length c0_0] 85 (0,0)) (by (with_reducible repeat (first|refine blk_drewN ?_ _|refine blk_drew ?_|refine blk_alloc ?_ _));exact BK240.out) hb);have n1_:=Aside0.mk (blk_below (g:=gb241) (o:=.cells #[.slice A1_0 l1_0.length c1_0] 85 (0,0)) (by (with_reducible repeat (first|refine blk_drewN ?_ _|refine blk_drew ?_|refine blk_alloc ?_ _));exact BK241.out) hb);have n2_:=Aside0.mk (below_step (by repeat (first|(with_reducible first|exact HB.out|apply below_alloc|apply pw_below_drewN|apply below_drew1|refine below_set ?_ GE240.out|refine below_set ?_ GE241.out)|exact HB.out)) hb);have n3_:=Aside0.mk (hbox);have n4_:=Aside0.mk ((by rw [hg];exact (below_size (by repeat (first|(with_reducible first|exact HB.out|apply below_alloc|apply pw_below_drewN|apply below_drew1|refine below_set ?_ GE240.out|refine below_set ?_ GE241.out)|exact HB.out))) : w.heap.size ≤ gb242));have n5_:=Aside0.mk ((by rw [hg];exact (below_size (by repeat (first|(with_reducible first|exact HB.out|apply below_alloc|apply pw_below_drewN|apply below_drew1|refine below_set ?_ GE240.out|refine below_set ?_ GE241.out)|exact HB.out))) : w.heap.size ≤ gb242));have n6_:=Aside0.mk ((by rw [hg];exact Nat.ne_of_lt (blk_lt (g:=gb240) (o:=.cells #[.slice A0_0 l0_0.length c0_0] 85 (0,0)) (by (with_reducible repeat (first|refine blk_drewN ?_ _|refine blk_drew ?_|refine blk_alloc ?_ _));exact BK240.out)) : gb240 ≠ gb242));have n7_:=Aside0.mk ((by rw [hg];exact Nat.ne_of_gt (blk_lt (g:=gb240) (o:=.cells #[.slice A0_0 l0_0.length c0_0] 85 (0,0)) (by (with_reducible repeat (first|refine blk_drewN ?_ _|refine blk_drew ?_|refine blk_alloc ?_ _));exact BK240.out)) : gb242 ≠ gb240));have n8_:=Aside0.mk ((by rw [hg];exact Nat.ne_of_lt (blk_lt (g:=gb241) (o:=.cells #[.slice A1_0 l1_0.length c1_0] 85 (0,0)) (by (with_reducible repeat (first|refine blk_drewN ?_ _|refine blk_drew ?_|refine blk_alloc ?_ _));exact BK241.out)) : gb241 ≠ gb242));have n9_:=Aside0.mk ((by rw [hg];exact Nat.ne_of_gt (blk_lt (g:=gb241) (o:=.cells #[.slice A1_0 l1_0.length c1_0] 85 (0,0)) (by (with_reducible repeat (first|refine blk_drewN ?_ _|refine blk_drew ?_|refine blk_alloc ?_ _));exact BK241.out)) : gb242 ≠ gb241));clear BK240;clear BK241;clear HB;have BK240:=n0_;have BK241:=n1_;have HB:=n2_;have BK242:=n3_;have GW242:=n4_;have GE242:=n5_;have NB240_242:=n6_;have NB242_240:=n7_;have NB241_242:=n8_;have NB242_241:=n9_;clear n0_ n1_ n2_ n3_ n4_ n5_ n6_ n7_ n8_ n9_;clear hb hbox hg))
 go_loopg [5,6,7] k (fun kq v5 v6 v7 w' => ∃ (x5_1 : List Int) (x6_1 : Int) (x7_1 : Int),v6 = .int .i64 x6_1 ∧ v7 = .int .i64 x7_1 ∧ Aside0 (bursarref03_Long_plus.l0 kq x5_1 x6_1 x7_1 l0_0 l1_0 = some r) ∧ Aside0 (kq ≤ k) ∧ Aside0 (Kd.R (Kd.int .i64) 3 w' w.heap.size (fun k_ => (w.heap.size ≤ k_)) v5 x5_1) ∧ Aside0 (w'.heap[gb240]? = some (.cells #[(.slice A0_0 l0_0.length c0_0)] 85 (0,0))) ∧ Aside0 (w'.heap[gb241]? = some (.cells #[(.slice A1_0 l1_0.length c1_0)] 85 (0,0))) ∧ Aside0 (w'.heap[gb242]? = some (.cells #[(.slice none 0 0)] 85 (0,0))) ∧ Aside0 (Below w.heap.size w w'))
 case atStart => exact ⟨(([] : List Int)),(0),(0),(by first|rfl|(simp;done)|(simp [*];done)|(simp;rw [Bool.eq_iff_iff];simp;done)|(rw [Bool.eq_iff_iff];simp;done)),(by first|rfl|(simp;done)|(simp [*];done)|(simp;rw [Bool.eq_iff_iff];simp;done)|(rw [Bool.eq_iff_iff];simp;done)),H',⟨Nat.le_refl _⟩,⟨by first|exact Kd.R_nil _ _ _ _ _|exact Kd.N_nil _ _ _ _ _|exact Kd.V_nil _ _ _ _ _|exact Kd.Q_nil _ _ _ _ _|exact Kd.S_nil _ _ _ _ _⟩,⟨by (with_reducible repeat (first|refine blk_drewN ?_ _|refine blk_drew ?_|refine blk_alloc ?_ _));exact BK240.out⟩,⟨by (with_reducible repeat (first|refine blk_drewN ?_ _|refine blk_drew ?_|refine blk_alloc ?_ _));exact BK241.out⟩,⟨by (with_reducible repeat (first|refine blk_drewN ?_ _|refine blk_drew ?_|refine blk_alloc ?_ _));exact BK242.out⟩,⟨by repeat (first|(with_reducible first|exact HB.out|apply below_alloc|apply pw_below_drewN|apply below_drew1|refine below_set ?_ GE240.out|refine below_set ?_ GE241.out|refine below_set ?_ GE242.out)|exact HB.out)⟩⟩
 case round =>
  clear H';(try clear c1);(try clear p2)
  obtain ⟨x5_1,x6_1,x7_1,rfl,rfl,HA,HK1,HO_5,BK240,BK241,BK242,HB⟩:=hrel
  cases gk with
 |zero => exact absurd HA.out (by simp [bursarref03_Long_plus.l0])
 |succ k1 =>
   have H:=HA.out
   clear HA
   simp only [bursarref03_Long_plus.l0] at H
   have HC6:=Aside0.mk H
   clear H
   go_upto_region 4 with (fail)
   go_cut [24] (fun v24 wc => ∃ (kq : Nat) (x24_5 : Bool),v24 = .bool x24_5 ∧ Aside0 (bursarref03_Long_plus.j1 kq x5_1 x6_1 x7_1 x24_5 l0_0 l1_0 = some r) ∧ Aside0 (kq ≤ k1) ∧ Aside0 (Kd.R (Kd.int .i64) 3 wc w.heap.size (fun k_ => (w.heap.size ≤ k_)) u5 x5_1) ∧ Aside0 (wc.heap[gb240]? = some (.cells #[(.slice A0_0 l0_0.length c0_0)] 85 (0,0))) ∧ Aside0 (wc.heap[gb241]? = some (.cells #[(.slice A1_0 l1_0.length c1_0)] 85 (0,0))) ∧ Aside0 (wc.heap[gb242]? = some (.cells #[(.slice none 0 0)] 85 (0,0))) ∧ Aside0 (Below w.heap.size w wc))
   case first =>
    have H:=HC6.out
    clear HC6
    by_cases c7 : x7_1 < (l0_0.length : Int)
    ·rw [if_pos c7] at H
     have c7b0 : decide (x7_1 < (l0_0.length : Int)) = true:=decide_eq_true c7
     clear c7
     (first|rw [c7b0]|(simp only [i64_w,i32_w];rw [c7b0])|skip)
     have H':=Aside0.mk H
     clear H
     have hnb8:=NB240_241.out
     have hnc8:=NB241_240.out
     have hnb9:=NB240_242.out
     have hnc9:=NB242_240.out
     have hcz10_0 : wr.cell? ⟨gb240,0,none⟩ = some (.slice A0_0 l0_0.length c0_0):=(blk_cell BK240.out 0).trans rfl
     have hfz10_0:=blk_frozen BK240.out 0
     go_wp2
     go_meet
     case rel => exact ⟨_,(true),(by first|rfl|(simp;done)|(simp [*];done)|(simp;rw [Bool.eq_iff_iff];simp;done)|(rw [Bool.eq_iff_iff];simp;done)),H',⟨by have:=HK1.out;first|omega|exact Nat.le_refl _⟩,⟨by (with_reducible repeat (first|apply Kd.R_alloc|apply Kd.R_drewN|apply Kd.R_drew));exact HO_5.out⟩,⟨by (with_reducible repeat (first|refine blk_drewN ?_ _|refine blk_drew ?_|refine blk_alloc ?_ _));exact BK240.out⟩,⟨by (with_reducible repeat (first|refine blk_drewN ?_ _|refine blk_drew ?_|refine blk_alloc ?_ _));exact BK241.out⟩,⟨by (with_reducible repeat (first|refine blk_drewN ?_ _|refine blk_drew ?_|refine blk_alloc ?_ _));exact BK242.out⟩,⟨by repeat (first|(with_reducible first|exact HB.out|apply below_alloc|apply pw_below_drewN|apply below_drew1|refine below_set ?_ GE240.out|refine below_set ?_ GE241.out|refine below_set ?_ GE242.out)|exact HB.out)⟩⟩
    rw [if_neg c7] at H
    have c7b0 : decide (x7_1 < (l0_0.length : Int)) = false:=decide_eq_false c7
    clear c7
    (first|rw [c7b0]|(simp only [i64_w,i32_w];rw [c7b0])|skip)
    by_cases c11 : x7_1 < (l1_0.length : Int)
    ·rw [if_pos c11] at H
     have c11b0 : decide (x7_1 < (l1_0.length : Int)) = true:=decide_eq_true c11
     clear c11
     have H':=Aside0.mk H
     clear H
     have hnb12:=NB240_241.out
     have hnc12:=NB241_240.out
     have hnb13:=NB240_242.out
     have hnc13:=NB242_240.out
     have hcz14_0 : wr.cell? ⟨gb240,0,none⟩ = some (.slice A0_0 l0_0.length c0_0):=(blk_cell BK240.out 0).trans rfl
     have hfz14_0:=blk_frozen BK240.out 0
     have hnb15:=NB241_242.out
     have hnc15:=NB242_241.out
     have hcz16_0 : wr.cell? ⟨gb241,0,none⟩ = some (.slice A1_0 l1_0.length c1_0):=(blk_cell BK241.out 0).trans rfl
     have hfz16_0:=blk_frozen BK241.out 0
     go_wp2
     go_meet
     case rel => exact ⟨_,(true),(by first|rfl|(simp;done)|(simp [*];done)|(simp;rw [Bool.eq_iff_iff];simp;done)|(rw [Bool.eq_iff_iff];simp;done)),H',⟨by have:=HK1.out;first|omega|exact Nat.le_refl _⟩,⟨by (with_reducible repeat (first|apply Kd.R_alloc|apply Kd.R_drewN|apply Kd.R_drew));exact HO_5.out⟩,⟨by (with_reducible repeat (first|refine blk_drewN ?_ _|refine blk_drew ?_|refine blk_alloc ?_ _));exact BK240.out⟩,⟨by (with_reducible repeat (first|refine blk_drewN ?_ _|refine blk_drew ?_|refine blk_alloc ?_ _));exact BK241.out⟩,⟨by (with_reducible repeat (first|refine blk_drewN ?_ _|refine blk_drew ?_|refine blk_alloc ?_ _));exact BK242.out⟩,⟨by repeat (first|(with_reducible first|exact HB.out|apply below_alloc|apply pw_below_drewN|apply below_drew1|refine below_set ?_ GE240.out|refine below_set ?_ GE241.out|refine below_set ?_ GE242.out)|exact HB.out)⟩⟩
    rw [if_neg c11] at H
    have c11b0 : decide (x7_1 < (l1_0.length : Int)) = false:=decide_eq_false c11
    clear c11
    have H':=Aside0.mk H
    clear H
    have hnb17:=NB240_241.out
    have hnc17:=NB241_240.out
    have hnb18:=NB240_242.out
    have hnc18:=NB242_240.out
    have hcz19_0 : wr.cell? ⟨gb240,0,none⟩ = some (.slice A0_0 l0_0.length c0_0):=(blk_cell BK240.out 0).trans rfl
    have hfz19_0:=blk_frozen BK240.out 0
    have hnb20:=NB241_242.out
    have hnc20:=NB242_241.out
    have hcz21_0 : wr.cell? ⟨gb241,0,none⟩ = some (.slice A1_0 l1_0.length c1_0):=(blk_cell BK241.out 0).trans rfl
    have hfz21_0:=blk_frozen BK241.out 0
    go_wp2
    go_meet
    case rel => exact ⟨_,(decide (x6_1 > 0)),(by first|rfl|(simp;done)|(simp [*];done)|(simp;rw [Bool.eq_iff_iff];simp;done)|(rw [Bool.eq_iff_iff];simp;done)),H',⟨by have:=HK1.out;first|omega|exact Nat.le_refl _⟩,⟨by (with_reducible repeat (first|apply Kd.R_alloc|apply Kd.R_drewN|apply Kd.R_drew));exact HO_5.out⟩,⟨by (with_reducible repeat (first|refine blk_drewN ?_ _|refine blk_drew ?_|refine blk_alloc ?_ _));exact BK240.out⟩,⟨by (with_reducible repeat (first|refine blk_drewN ?_ _|refine blk_drew ?_|refine blk_alloc ?_ _));exact BK241.out⟩,⟨by (with_reducible repeat (first|refine blk_drewN ?_ _|refine blk_drew ?_|refine blk_alloc ?_ _));exact BK242.out⟩,⟨by repeat (first|(with_reducible first|exact HB.out|apply below_alloc|apply pw_below_drewN|apply below_drew1|refine below_set ?_ GE240.out|refine below_set ?_ GE241.out|refine below_set ?_ GE242.out)|exact HB.out)⟩⟩
   case rest =>
    clear HC6;(try clear c1);(try clear c2);(try clear p2);(try clear c6);(try clear c7);(try clear c7b0);(try clear c8);(try clear c9);(try clear c11);(try clear c11b0);(try clear c12);(try clear c13);(try clear c15);(try clear c17);(try clear c18);(try clear c20);(try clear hcz10_0);(try clear hcz14_0);(try clear hcz16_0);(try clear hcz19_0);(try clear hcz21_0);(try clear hfz10_0);(try clear hfz14_0);(try clear hfz16_0);(try clear hfz19_0);(try clear hfz21_0);(try clear p2)
    obtain ⟨kq,x24_5,rfl,HA,HJ5,HO_5,BK240,BK241,BK242,HB⟩:=hcut
    cases kq with
   |zero => exact absurd HA.out (by simp [bursarref03_Long_plus.j1])
   |succ kj5 =>
     have H:=HA.out
     clear HA
     simp only [bursarref03_Long_plus.j1] at H
     by_cases c22 : x24_5 = true
     rotate_left
     ·replace c22:=Bool.eq_false_iff.mpr c22
      subst c22
      have H1 : ((bursarref03_cut.f kj5 x5_1).bind fun t248 => (some t248)) = some r:=by rw [if_neg (show ¬ (false = true) by decide)] at H;exact H
      clear H;have H:=H1;clear H1
      replace H:=Option.bind_eq_some_iff.mp H
      obtain ⟨t248,A300,H⟩:=H
      replace H : (some t248) = some r:=H
      have A30:=Aside0.mk A300
      clear A300
      obtain rfl:=Option.some.inj H
      obtain ⟨Ao31,co31,eo31⟩:=Kd.R_slice HO_5.out
      subst eo31
      go_wp2_with (first|((with_reducible refine gate_callee (f:=84) rfl ?_);refine goesL_ (some 44) rfl rfl Tryz.func84 (by kernel_rfl) rfl #[.slice Ao31 x5_1.length co31] rfl (by (try simp only [List.map_toArray,List.map_cons,List.map_nil]);first|done|rfl|(simp only [List.length_drop,List.length_take];rfl)) ?_;(with_reducible refine (bursarref03_cut.calls kj5 (fun k_ => some k_ = (.slice Ao31 x5_1.length co31 : Value).ownBlock) _ _ x5_1 t248 _ ?side1 A30.out).mono ?_);(case side1 => exact Kd.R_V (Kd.R_tight rfl (Kd.R_types (Kd.R_types (Kd.R_types (HO_5.out) BK240.out (by decide)) BK241.out (by decide)) BK242.out (by decide))));rintro e w32 ⟨v249,rfl,ho0,hb⟩;refine ⟨_,rfl,?_⟩;have n0_:=Aside0.mk (Kd.R_below (by (with_reducible repeat (first|apply Kd.R_alloc|apply Kd.R_drewN|apply Kd.R_drew));exact HO_5.out) hb);have n1_:=Aside0.mk (Kd.V_lower (Kd.V_mono (ok':=fun k_ => (w.heap.size ≤ k_) ∧ k_ ≠ gb240 ∧ k_ ≠ gb241 ∧ k_ ≠ gb242) ho0 (fun k_ hk_ => ⟨Or.elim hk_ (fun hs_ => ((Kd.R_types (Kd.R_types (Kd.R_types (HO_5.out) BK240.out (by decide)) BK241.out (by decide)) BK242.out (by decide)).1 k_ hs_.symm).1.1.1) (fun hn_ => (Nat.le_trans (below_size (by repeat (first|(with_reducible first|exact HB.out|apply below_alloc|apply pw_below_drewN|apply below_drew1|refine below_set ?_ GE240.out|refine below_set ?_ GE241.out|refine below_set ?_ GE242.out)|exact HB.out))) hn_)),Or.elim hk_ (fun hs_ => ((Kd.R_types (Kd.R_types (Kd.R_types (HO_5.out) BK240.out (by decide)) BK241.out (by decide)) BK242.out (by decide)).1 k_ hs_.symm).1.1.2) (fun hn_ => (Kd.freshB (g:=gb240) (o:=.cells #[.slice A0_0 l0_0.length c0_0] 85 (0,0)) (by (with_reducible repeat (first|refine blk_drewN ?_ _|refine blk_drew ?_|refine blk_alloc ?_ _));exact BK240.out) k_ hn_)),Or.elim hk_ (fun hs_ => ((Kd.R_types (Kd.R_types (Kd.R_types (HO_5.out) BK240.out (by decide)) BK241.out (by decide)) BK242.out (by decide)).1 k_ hs_.symm).1.2) (fun hn_ => (Kd.freshB (g:=gb241) (o:=.cells #[.slice A1_0 l1_0.length c1_0] 85 (0,0)) (by (with_reducible repeat (first|refine blk_drewN ?_ _|refine blk_drew ?_|refine blk_alloc ?_ _));exact BK241.out) k_ hn_)),Or.elim hk_ (fun hs_ => ((Kd.R_types (Kd.R_types (Kd.R_types (HO_5.out) BK240.out (by decide)) BK241.out (by decide)) BK242.out (by decide)).1 k_ hs_.symm).2) (fun hn_ => (Kd.freshB (g:=gb242) (o:=.cells #[.slice none 0 0] 85 (0,0)) (by (with_reducible repeat (first|refine blk_drewN ?_ _|refine blk_drew ?_|refine blk_alloc ?_ _));exact BK242.out) k_ hn_))⟩)) (below_size (by repeat (first|(with_reducible first|exact HB.out|apply below_alloc|apply pw_below_drewN|apply below_drew1|refine below_set ?_ GE240.out|refine below_set ?_ GE241.out|refine below_set ?_ GE242.out)|exact HB.out))));have n2_:=Aside0.mk (blk_below (g:=gb240) (o:=.cells #[.slice A0_0 l0_0.length c0_0] 85 (0,0)) (by (with_reducible repeat (first|refine blk_drewN ?_ _|refine blk_drew ?_|refine blk_alloc ?_ _));exact BK240.out) hb);have n3_:=Aside0.mk (blk_below (g:=gb241) (o:=.cells #[.slice A1_0 l1_0.length c1_0] 85 (0,0)) (by (with_reducible repeat (first|refine blk_drewN ?_ _|refine blk_drew ?_|refine blk_alloc ?_ _));exact BK241.out) hb);have n4_:=Aside0.mk (blk_below (g:=gb242) (o:=.cells #[.slice none 0 0] 85 (0,0)) (by (with_reducible repeat (first|refine blk_drewN ?_ _|refine blk_drew ?_|refine blk_alloc ?_ _));exact BK242.out) hb);have n5_:=Aside0.mk (below_step (by repeat (first|(with_reducible first|exact HB.out|apply below_alloc|apply pw_below_drewN|apply below_drew1|refine below_set ?_ GE240.out|refine below_set ?_ GE241.out|refine below_set ?_ GE242.out)|exact HB.out)) hb);clear HO_5;clear BK240;clear BK241;clear BK242;clear HB;have HO_5:=n0_;have HO250:=n1_;have BK240:=n2_;have BK241:=n3_;have BK242:=n4_;have HB:=n5_;clear n0_ n1_ n2_ n3_ n4_ n5_;(try clear hb);(try clear hb2);(try clear hk);(try clear hi);(try clear ho0);obtain ⟨Ao33,co33,eo33⟩:=Kd.V_slice HO250.out;subst eo33;have hnb34:=NB242_240.out;have hnc34:=NB240_242.out;have hnb35:=NB242_241.out;have hnc35:=NB241_242.out;have hcz36_0 : w32.cell? ⟨gb242,0,none⟩ = some (.slice none 0 0):=(blk_cell BK242.out 0).trans rfl;have hfz36_0:=blk_frozen BK242.out 0))
      refine bodyPost_ret (results_cell_row rfl _ _ gb242 85 #[.slice Ao33 t248.length co33] (0,0) _ rfl (by (with_reducible repeat (first|refine blk_drewN ?_ _|refine blk_drew ?_|refine blk_alloc ?_ _));refine blk_put (cs:=#[.slice none 0 0]) ?_ 0 _ rfl;(with_reducible repeat (first|refine blk_drewN ?_ _|refine blk_drew ?_|refine blk_alloc ?_ _));exact BK242.out) Tryz.underlying85 rfl (by kernel_rfl)) rfl ?_
      exact ⟨_,by first|rfl|(simp [errW_none,errW_some] <;> rfl)|(simp [*,errW_none,errW_some] <;> rfl),by (with_reducible repeat (first|apply Kd.V_alloc|apply Kd.V_drewN|apply Kd.V_drew));exact Kd.V_mono (Kd.V_far (p:=⟨gb242,0,none⟩) (Kd.V_mono HO250.out (fun k_ hk => (⟨hk,hk.2.2.2⟩ : _ ∧ k_ ≠ gb242))) (fun _ hk => hk.2) (.slice Ao33 t248.length co33)) (fun _ hk => hk.1.1),by repeat (first|(with_reducible first|exact HB.out|apply below_alloc|apply pw_below_drewN|apply below_drew1|refine below_set ?_ GE240.out|refine below_set ?_ GE241.out|refine below_set ?_ GE242.out)|exact HB.out)⟩
     subst c22
     have H1 : ((bursarref03_Long_at.f l0_0 x7_1).bind fun t243 => ((bursarref03_Long_at.f l1_0 x7_1).bind fun t244 => (if x5_1.length < 17592186044416 then (bursarref03_Long_plus.l0 kj5 (x5_1 ++ [Int.tmod (wrap64 ((wrap64 (t243 + t244)) + x6_1)) 10]) (wrap64 (Int.tdiv (wrap64 ((wrap64 (t243 + t244)) + x6_1)) 10)) (wrap64 (x7_1 + 1)) l0_0 l1_0) else (none)))) = some r:=by rw [if_pos rfl] at H;exact H
     clear H;have H:=H1;clear H1
     replace H:=Option.bind_eq_some_iff.mp H
     obtain ⟨t243,A230,H⟩:=H
     replace H : ((bursarref03_Long_at.f l1_0 x7_1).bind fun t244 => (if x5_1.length < 17592186044416 then (bursarref03_Long_plus.l0 kj5 (x5_1 ++ [Int.tmod (wrap64 ((wrap64 (t243 + t244)) + x6_1)) 10]) (wrap64 (Int.tdiv (wrap64 ((wrap64 (t243 + t244)) + x6_1)) 10)) (wrap64 (x7_1 + 1)) l0_0 l1_0) else (none))) = some r:=H
     have A23:=Aside0.mk A230
     clear A230
     replace H:=Option.bind_eq_some_iff.mp H
     obtain ⟨t244,A240,H⟩:=H
     replace H : (if x5_1.length < 17592186044416 then (bursarref03_Long_plus.l0 kj5 (x5_1 ++ [Int.tmod (wrap64 ((wrap64 (t243 + t244)) + x6_1)) 10]) (wrap64 (Int.tdiv (wrap64 ((wrap64 (t243 + t244)) + x6_1)) 10)) (wrap64 (x7_1 + 1)) l0_0 l1_0) else (none)) = some r:=H
     have A24:=Aside0.mk A240
     clear A240
     by_cases c25 : x5_1.length < 17592186044416
     rotate_left
     ·rw [if_neg c25] at H
      exact absurd H (by simp)
     rw [if_pos c25] at H
     have LMc25:=Aside0.mk c25
     clear c25
     obtain ⟨y245,hy245⟩ : ∃ y_ : List Int,y_ = (x5_1 ++ [Int.tmod (wrap64 ((wrap64 (t243 + t244)) + x6_1)) 10]):=⟨_,rfl⟩
     replace H : (bursarref03_Long_plus.l0 kj5 y245 (wrap64 (Int.tdiv (wrap64 ((wrap64 (t243 + t244)) + x6_1)) 10)) (wrap64 (x7_1 + 1)) l0_0 l1_0) = some r:=by first|(rw [hy245];with_reducible exact H)|(have H2_:=(Option.bind_some _ _).symm.trans H;rw [hy245];with_reducible exact H2_)|(have H2_:=(Option.bind_some _ _).symm.trans H;with_reducible exact H2_)|with_reducible exact H|(rw [hy245];exact H)|exact H
     have Ny245:=Aside0.mk hy245
     clear hy245
     have H':=Aside0.mk H
     clear H
     try go_wp2
     have n0_:=Aside0.mk (Kd.R_drew HO_5.out)
     have n1_:=Aside0.mk (blk_drew BK240.out)
     have n2_:=Aside0.mk (blk_drew BK241.out)
     have n3_:=Aside0.mk (blk_drew BK242.out)
     have n4_:=Aside0.mk (below_drew1 HB.out)
     clear HO_5;clear BK240;clear BK241;clear BK242;clear HB;have HO_5:=n0_;have BK240:=n1_;have BK241:=n2_;have BK242:=n3_;have HB:=n4_;clear n0_ n1_ n2_ n3_ n4_
     refine start_ (n:=10) (S:=fun w' => w'.cell? ⟨gb240,0,none⟩ = some (.slice A0_0 l0_0.length c0_0) ∧ w'.cell? ⟨gb241,0,none⟩ = some (.slice A1_0 l1_0.length c1_0)) (ds:=[]) #[false,false,false,false,false,false,false,false,false,false] (by kernel_rfl) rfl rfl ⟨(blk_cell BK240.out 0).trans rfl,(blk_cell BK241.out 0).trans rfl⟩ (fun hHeld => ?_);refine with_tabW bursarref03_Long_plus.tab6 bursarref03_Long_plus.bits6 (fun HT_ HW_ => ?_)
     generalize wc.drew = w26 at HO_5 BK240 BK241 BK242 HB hHeld ⊢
     refine pure_ (i:=1) (N:=some 28) (v:=?_) (a':=?_) #[false,true,false,false,false,false,false,false,false,false] rfl rfl (any_of HT_.out (by kernel_rfl)) (fun _ _ _ h => h) (Or.inl ⟨by rfl,?_⟩) ?_ ?_
     rotate_left;·intro w';go_simp;with_reducible rfl
     rotate_left;·simp only [pu_];rfl
     refine pure_ (i:=4) (N:=some 31) (v:=?_) (a':=?_) #[false,true,false,false,true,false,false,false,false,false] rfl rfl (any_of HT_.out (by kernel_rfl)) (fun _ _ _ h => h) (Or.inl ⟨by rfl,?_⟩) ?_ ?_
     rotate_left;·intro w';go_simp;with_reducible rfl
     rotate_left;·simp only [pu_];rfl
     refine pure_ (i:=7) (N:=some 34) (v:=?_) (a':=?_) #[false,true,false,false,true,false,false,true,false,false] rfl rfl (any_of HT_.out (by kernel_rfl)) (fun _ _ _ h => h) (Or.inl ⟨by rfl,?_⟩) ?_ ?_
     rotate_left;·intro w';go_simp;with_reducible rfl
     rotate_left;·simp only [pu_];rfl
     refine take_ (i:=0) (N:=some 27) (v:=?_) (a':=?_) #[true,true,false,false,true,false,false,true,false,false] rfl rfl (take_ofW HT_.out HW_.out (by kernel_rfl)) (fun _ _ _ h => h) (Or.inl ⟨by rfl,?_⟩) hHeld ?_ ?_
     rotate_left
     ·rintro w' ⟨s0,s1⟩
      go_simp
      with_reducible rfl
     rotate_left
     ·simp only [pu_]
      rfl
     refine take_ (i:=3) (N:=some 30) (v:=?_) (a':=?_) #[true,true,false,true,true,false,false,true,false,false] rfl rfl (take_ofW HT_.out HW_.out (by kernel_rfl)) (fun _ _ _ h => h) (Or.inl ⟨by rfl,?_⟩) hHeld ?_ ?_
     rotate_left
     ·rintro w' ⟨s0,s1⟩
      go_simp
      with_reducible rfl
     rotate_left
     ·simp only [pu_]
      rfl
     refine one_ (i:=2) (N:=some 29) #[true,true,true,true,true,false,false,true,false,false] rfl rfl (one_of HT_.out (by kernel_rfl)) (by decide) (fun K hK => ?_)
     refine goes_ Tryz.func92 (by kernel_rfl) rfl #[.agg #[.slice A0_0 l0_0.length c0_0],.int .i64 x7_1] (by rfl) rfl rfl (by (try simp only [List.map_toArray,List.map_cons,List.map_nil]);first|done|rfl|(simp only [List.length_drop,List.length_take];rfl)) ?_
     with_reducible refine (bursarref03_Long_at.calls _ _ l0_0 x7_1 t243 _ ?side1 ?side2 A23.out).mono ?_
     (case side1 => repeat (first|exact (Kd.C_below HR0_0.out HB.out)|(with_reducible refine Kd.C_alloc ?_ _)|(with_reducible refine Kd.C_drewN ?_ _)|(with_reducible refine Kd.C_drew ?_)))
     (case side2 => exact HC0_0.out)
     rintro e w27 ⟨rfl,hb⟩
     refine ⟨_,rfl,?_⟩
     have n0_:=Aside0.mk (Kd.R_below (by (with_reducible repeat (first|apply Kd.R_alloc|apply Kd.R_drewN|apply Kd.R_drew));exact HO_5.out) hb)
     have n1_:=Aside0.mk (blk_below (g:=gb240) (o:=.cells #[.slice A0_0 l0_0.length c0_0] 85 (0,0)) (by (with_reducible repeat (first|refine blk_drewN ?_ _|refine blk_drew ?_|refine blk_alloc ?_ _));exact BK240.out) hb)
     have n2_:=Aside0.mk (blk_below (g:=gb241) (o:=.cells #[.slice A1_0 l1_0.length c1_0] 85 (0,0)) (by (with_reducible repeat (first|refine blk_drewN ?_ _|refine blk_drew ?_|refine blk_alloc ?_ _));exact BK241.out) hb)
     have n3_:=Aside0.mk (blk_below (g:=gb242) (o:=.cells #[.slice none 0 0] 85 (0,0)) (by (with_reducible repeat (first|refine blk_drewN ?_ _|refine blk_drew ?_|refine blk_alloc ?_ _));exact BK242.out) hb)
     have n4_:=Aside0.mk (below_step (by repeat (first|(with_reducible first|exact HB.out|apply below_alloc|apply pw_below_drewN|apply below_drew1|refine below_set ?_ GE240.out|refine below_set ?_ GE241.out|refine below_set ?_ GE242.out)|exact HB.out)) hb)
     clear HO_5;clear BK240;clear BK241;clear BK242;clear HB;have HO_5:=n0_;have BK240:=n1_;have BK241:=n2_;have BK242:=n3_;have HB:=n4_;clear n0_ n1_ n2_ n3_ n4_;(try clear hb);(try clear hb2);(try clear hk);(try clear hi)
     refine hK.out _ _ ⟨(blk_cell BK240.out 0).trans rfl,(blk_cell BK241.out 0).trans rfl⟩ (fun hHeld => ?_)
     clear hK K
     refine norm_ (a':=?_) ?_ ?_
     rotate_left
     ·show Act.put _ (some 29) _ = _
      simp only [pu_]
      rfl
     refine one_ (i:=5) (N:=some 32) #[true,true,true,true,true,true,false,true,false,false] rfl rfl (one_of HT_.out (by kernel_rfl)) (by decide) (fun K hK => ?_)
     refine goes_ Tryz.func92 (by kernel_rfl) rfl #[.agg #[.slice A1_0 l1_0.length c1_0],.int .i64 x7_1] (by rfl) rfl rfl (by (try simp only [List.map_toArray,List.map_cons,List.map_nil]);first|done|rfl|(simp only [List.length_drop,List.length_take];rfl)) ?_
     with_reducible refine (bursarref03_Long_at.calls _ _ l1_0 x7_1 t244 _ ?side1 ?side2 A24.out).mono ?_
     (case side1 => repeat (first|exact (Kd.C_below HR1_0.out HB.out)|(with_reducible refine Kd.C_alloc ?_ _)|(with_reducible refine Kd.C_drewN ?_ _)|(with_reducible refine Kd.C_drew ?_)))
     (case side2 => exact HC1_0.out)
     rintro e w28 ⟨rfl,hb⟩
     refine ⟨_,rfl,?_⟩
     have n0_:=Aside0.mk (Kd.R_below (by (with_reducible repeat (first|apply Kd.R_alloc|apply Kd.R_drewN|apply Kd.R_drew));exact HO_5.out) hb)
     have n1_:=Aside0.mk (blk_below (g:=gb240) (o:=.cells #[.slice A0_0 l0_0.length c0_0] 85 (0,0)) (by (with_reducible repeat (first|refine blk_drewN ?_ _|refine blk_drew ?_|refine blk_alloc ?_ _));exact BK240.out) hb)
     have n2_:=Aside0.mk (blk_below (g:=gb241) (o:=.cells #[.slice A1_0 l1_0.length c1_0] 85 (0,0)) (by (with_reducible repeat (first|refine blk_drewN ?_ _|refine blk_drew ?_|refine blk_alloc ?_ _));exact BK241.out) hb)
     have n3_:=Aside0.mk (blk_below (g:=gb242) (o:=.cells #[.slice none 0 0] 85 (0,0)) (by (with_reducible repeat (first|refine blk_drewN ?_ _|refine blk_drew ?_|refine blk_alloc ?_ _));exact BK242.out) hb)
     have n4_:=Aside0.mk (below_step (by repeat (first|(with_reducible first|exact HB.out|apply below_alloc|apply pw_below_drewN|apply below_drew1|refine below_set ?_ GE240.out|refine below_set ?_ GE241.out|refine below_set ?_ GE242.out)|exact HB.out)) hb)
     clear HO_5;clear BK240;clear BK241;clear BK242;clear HB;have HO_5:=n0_;have BK240:=n1_;have BK241:=n2_;have BK242:=n3_;have HB:=n4_;clear n0_ n1_ n2_ n3_ n4_;(try clear hb);(try clear hb2);(try clear hk);(try clear hi)
     refine hK.out _ _ ⟨(blk_cell BK240.out 0).trans rfl,(blk_cell BK241.out 0).trans rfl⟩ (fun hHeld => ?_)
     clear hK K
     refine norm_ (a':=?_) ?_ ?_
     rotate_left
     ·show Act.put _ (some 32) _ = _
      simp only [pu_]
      rfl
     refine pure_ (i:=6) (N:=some 33) (v:=?_) (a':=?_) #[true,true,true,true,true,true,true,true,false,false] rfl rfl (any_of HT_.out (by kernel_rfl)) (fun _ _ _ h => h) (Or.inl ⟨by rfl,?_⟩) ?_ ?_
     rotate_left;·intro w';go_simp;with_reducible rfl
     rotate_left;·simp only [pu_];rfl
     refine pure_ (i:=8) (N:=some 35) (v:=?_) (a':=?_) #[true,true,true,true,true,true,true,true,true,false] rfl rfl (any_of HT_.out (by kernel_rfl)) (fun _ _ _ h => h) (Or.inl ⟨by rfl,?_⟩) ?_ ?_
     rotate_left;·intro w';go_simp;with_reducible rfl
     rotate_left;·simp only [pu_];rfl
     refine pure_ (i:=9) (N:=some 8) (v:=?_) (a':=?_) #[true,true,true,true,true,true,true,true,true,true] rfl rfl (any_of HT_.out (by kernel_rfl)) (fun _ _ _ h => h) (Or.inl ⟨by rfl,?_⟩) ?_ ?_
     rotate_left;·intro w';go_simp;with_reducible rfl
     rotate_left;·simp only [pu_];rfl
     refine done_ (done_of HT_.out (by kernel_rfl)) ?_
     try go_wp2_with (first|((with_reducible refine gate_builtin (b:=.append) (xs:=#[.tmp 36,.tmp 39]) rfl ?_);(try (refine gate_guard (by rfl) ?_;dsimp only));at_builtin;refine Kd.R_append (Kd.int .i64) (w0:=w) w.heap.size rfl (.tmp 36) (.tmp 39) 80 3 (.int .i64 0) 8 rfl Tryz.underlying80 info3 rfl (by decide) (by omega) u5 x5_1 (Int.tmod (wrap64 ((wrap64 (t243 + t244)) + x6_1)) 10) [.int .i64 (Int.tmod (wrap64 ((wrap64 (t243 + t244)) + x6_1)) 10)] (fun k_ => (w.heap.size ≤ k_)) (fun _ => False) rfl rfl ?aP (fun _ hk => hk.elim) ?aF ?aO ?aB ?aS ?aL ?_;(case aP => exact rfl);(case aB => exact (by repeat (first|(with_reducible first|exact HB.out|apply below_alloc|apply pw_below_drewN|apply below_drew1|refine below_set ?_ GE240.out|refine below_set ?_ GE241.out|refine below_set ?_ GE242.out)|exact HB.out)));(case aF => exact (fun k_ hk => (Nat.le_trans (below_size (by repeat (first|(with_reducible first|exact HB.out|apply below_alloc|apply pw_below_drewN|apply below_drew1|refine below_set ?_ GE240.out|refine below_set ?_ GE241.out|refine below_set ?_ GE242.out)|exact HB.out))) hk)));(case aO => exact (by (with_reducible repeat (first|apply Kd.R_alloc|apply Kd.R_drewN|apply Kd.R_drew));exact HO_5.out));(case aS => exact (below_size (by repeat (first|(with_reducible first|exact HB.out|apply below_alloc|apply pw_below_drewN|apply below_drew1|refine below_set ?_ GE240.out|refine below_set ?_ GE241.out|refine below_set ?_ GE242.out)|exact HB.out))));(case aL => have:=LMc25.out;omega);intro v246 w29 ho hb hg hat;rw [← Ny245.out] at ho;have n0_:=Aside0.mk (blk_grown (g:=gb240) (o:=.cells #[.slice A0_0 l0_0.length c0_0] 85 (0,0)) (by (with_reducible repeat (first|refine blk_drewN ?_ _|refine blk_drew ?_|refine blk_alloc ?_ _));exact BK240.out) hg (Kd.R_ne HO_5.out BK240.out (by decide)));have n1_:=Aside0.mk (blk_grown (g:=gb241) (o:=.cells #[.slice A1_0 l1_0.length c1_0] 85 (0,0)) (by (with_reducible repeat (first|refine blk_drewN ?_ _|refine blk_drew ?_|refine blk_alloc ?_ _));exact BK241.out) hg (Kd.R_ne HO_5.out BK241.out (by decide)));have n2_:=Aside0.mk (blk_grown (g:=gb242) (o:=.cells #[.slice none 0 0] 85 (0,0)) (by (with_reducible repeat (first|refine blk_drewN ?_ _|refine blk_drew ?_|refine blk_alloc ?_ _));exact BK242.out) hg (Kd.R_ne HO_5.out BK242.out (by decide)));have n3_:=Aside0.mk (hb);have n4_:=Aside0.mk (ho);clear BK240;clear BK241;clear BK242;clear HB;clear HO_5;have BK240:=n0_;have BK241:=n1_;have BK242:=n2_;have HB:=n3_;have HO247:=n4_;clear n0_ n1_ n2_ n3_ n4_;clear ho hb hg hat))
     go_roundg kj5
     case measure => have:=HK1.out;have:=HJ5.out;omega
     case rel => exact ⟨(y245),(wrap64 (Int.tdiv (wrap64 ((wrap64 (t243 + t244)) + x6_1)) 10)),(wrap64 (x7_1 + 1)),(by first|rfl|(simp;done)|(simp [*];done)|(simp;rw [Bool.eq_iff_iff];simp;done)|(rw [Bool.eq_iff_iff];simp;done)),(by first|rfl|(simp;done)|(simp [*];done)|(simp;rw [Bool.eq_iff_iff];simp;done)|(rw [Bool.eq_iff_iff];simp;done)),H',⟨by have:=HK1.out;have:=HJ5.out;omega⟩,⟨by (with_reducible repeat (first|apply Kd.R_alloc|apply Kd.R_drewN|apply Kd.R_drew));exact HO247.out⟩,⟨by (with_reducible repeat (first|refine blk_drewN ?_ _|refine blk_drew ?_|refine blk_alloc ?_ _));exact BK240.out⟩,⟨by (with_reducible repeat (first|refine blk_drewN ?_ _|refine blk_drew ?_|refine blk_alloc ?_ _));exact BK241.out⟩,⟨by (with_reducible repeat (first|refine blk_drewN ?_ _|refine blk_drew ?_|refine blk_alloc ?_ _));exact BK242.out⟩,⟨by repeat (first|(with_reducible first|exact HB.out|apply below_alloc|apply pw_below_drewN|apply below_drew1|refine below_set ?_ GE240.out|refine below_set ?_ GE241.out|refine below_set ?_ GE242.out)|exact HB.out)⟩⟩
end Go.Proofs.YtejgbdclhlolkaaGreatDoor.Q
namespace Go.Proofs.YtejgbdclhlolkaaGreatDoor.Q
open Go.RowKit Go.Proofs.YtejgbdclhlolkaaGreatDoorW.PrintWords Go.Proofs.YtejgbdclhlolkaaGreatDoorW.PrintLast Go.Proofs.YtejgbdclhlolkaaGreatDoorW.PrintMore
attribute [local go_sem] max2_int min2_int max_two min_two max_three min_three max_four min_four   -- for this text's walks alone
set_option linter.unusedVariables false
set_option linter.unusedSimpArgs false
def bursarref03_Long_value.l0 : Nat → Int → Int → List Int → Option (Int × Bool)
|0,_,_,_ => none
|k + 1,x4,x5,x252000 => if x5 ≥ 0 then (if 0 ≤ x5 then (if x5 < (x252000.length : Int) then (bursarref03_Long_value.l0 k (wrap64 ((wrap64 (x4 * 10)) + (rd x252000 x5))) (wrap64 (x5 - 1)) x252000) else (none)) else (none)) else (some (x4,true))
def bursarref03_Long_value.f (k : Nat) (l0_0 : List Int) : Option (Int × Bool) := (bursarref03_long.f k 9223372036854775807).bind fun t252 => ((bursarref03_Long_less.f k t252 l0_0).bind fun t255 => (if t255 = true then (some (0, false)) else (bursarref03_Long_value.l0 k 0 (wrap64 ((l0_0.length : Int) - 1)) l0_0)))
theorem bursarref03_Long_value.mono_l : ∀ k, (∀ y0 y1 y2, LeO (bursarref03_Long_value.l0 k y0 y1 y2) (bursarref03_Long_value.l0 (k + 1) y0 y1 y2))
|0 => fun _ _ _ r h => by simp [bursarref03_Long_value.l0] at h
|k + 1 => by
  have ih0:=bursarref03_Long_value.mono_l k
  ·intro y0 y1 y2
   unfold bursarref03_Long_value.l0
   repeat' first
  |(with_reducible exact ih0 _ _ _)
  |(with_reducible exact bursarref03_Long_less.mono _ _ _)
  |(with_reducible exact bursarref03_long.mono _ _)
  |(with_reducible exact LeO.refl _)
  |(with_reducible exact LeO.none _)
  |(with_reducible refine LeO.ite ?_ ?_)
  |(with_reducible refine LeO.bind ?_ (fun _ => ?_))
  |exact ih0 _ _ _
  |exact bursarref03_Long_less.mono _ _ _
  |exact bursarref03_long.mono _ _
  |exact LeO.none _
  |refine LeO.ite ?_ ?_
  |refine LeO.bind ?_ (fun _ => ?_)
theorem bursarref03_Long_value.mono : ∀ a0 k, LeO (bursarref03_Long_value.f k a0) (bursarref03_Long_value.f (k + 1) a0) := by
 intro a0 k
 have ih0:=bursarref03_Long_value.mono_l k
 unfold bursarref03_Long_value.f
 repeat' first
  |(with_reducible exact ih0 _ _ _)
  |(with_reducible exact bursarref03_Long_less.mono _ _ _)
  |(with_reducible exact bursarref03_long.mono _ _)
  |(with_reducible exact LeO.refl _)
  |(with_reducible exact LeO.none _)
  |(with_reducible refine LeO.ite ?_ ?_)
  |(with_reducible refine LeO.bind ?_ (fun _ => ?_))
  |exact ih0 _ _ _
  |exact bursarref03_Long_less.mono _ _ _
  |exact bursarref03_long.mono _ _
  |exact LeO.none _
  |refine LeO.ite ?_ ?_
  |refine LeO.bind ?_ (fun _ => ?_)
set_option maxHeartbeats 8000000 in
set_option maxRecDepth 100000 in
theorem bursarref03_Long_value.calls (k : Nat) (A0_0 : Option Addr) (c0_0 : Nat) (l0_0 : List Int) (r1 : Int) (r2 : Bool) (w : World) (hr0_0 : Kd.C (Kd.int .i64) w A0_0 l0_0.length l0_0) (hc0_0 : l0_0.length ≤ c0_0) (h : bursarref03_Long_value.f k l0_0 = some (r1, r2)) :
  Calls Tryz.prog 69 #[.agg #[.slice A0_0 l0_0.length c0_0]] w fun e w' => e = .returned (.tuple #[.int .i64 r1,.bool r2]) ∧ Below w.heap.size w w':=by
 have hu85:=Tryz.underlying85
 have HR0_0:=Aside0.mk hr0_0
 have HC0_0:=Aside0.mk hc0_0
 clear hr0_0 hc0_0
 have HB:=Aside0.mk (Below.refl w.heap.size w)
 have H : ((bursarref03_long.f k 9223372036854775807).bind fun t252 => ((bursarref03_Long_less.f k t252 l0_0).bind fun t255 => (if t255 = true then (some (0,false)) else (bursarref03_Long_value.l0 k 0 (wrap64 ((l0_0.length : Int) - 1)) l0_0)))) = some (r1,r2):=h
 clear h
 replace H:=Option.bind_eq_some_iff.mp H
 obtain ⟨t252,A20,H⟩:=H
 replace H : ((bursarref03_Long_less.f k t252 l0_0).bind fun t255 => (if t255 = true then (some (0,false)) else (bursarref03_Long_value.l0 k 0 (wrap64 ((l0_0.length : Int) - 1)) l0_0))) = some (r1,r2):=H
 have A2:=Aside0.mk A20
 clear A20
 replace H:=Option.bind_eq_some_iff.mp H
 obtain ⟨t255,A30,H⟩:=H
 replace H : (if t255 = true then (some (0,false)) else (bursarref03_Long_value.l0 k 0 (wrap64 ((l0_0.length : Int) - 1)) l0_0)) = some (r1,r2):=H
 have A3:=Aside0.mk A30
 clear A30
 by_cases c4 : t255 = true
 ·subst c4
  have H1 : (some (0,false)) = some (r1,r2):=by rw [if_pos rfl] at H;exact H
  clear H;have H:=H1;clear H1
  simp only [Option.some.injEq,Prod.mk.injEq] at H
  obtain ⟨rfl,rfl⟩:=H
  go_enter Tryz.func69,Tryz.ntmps69
  try go_wp2_with (first|((with_reducible refine gate_dst (N:=1) rfl ?_);refine box_event ?hg (N:=1) ?hd (cs:=#[.slice A0_0 l0_0.length c0_0]) (t:=85) ?hr ?_;(case hd => rfl);(case hg => rfl);(case hr => first|(go_simp;done)|(go_simp;rfl));intro gb251 hg w5 hbox hb;have n0_:=Aside0.mk (below_step (by repeat (first|(with_reducible first|exact HB.out|apply below_alloc|apply pw_below_drewN|apply below_drew1)|exact HB.out)) hb);have n1_:=Aside0.mk (hbox);have n2_:=Aside0.mk ((by rw [hg];exact (below_size (by repeat (first|(with_reducible first|exact HB.out|apply below_alloc|apply pw_below_drewN|apply below_drew1)|exact HB.out))) : w.heap.size ≤ gb251));have n3_:=Aside0.mk ((by rw [hg];exact (below_size (by repeat (first|(with_reducible first|exact HB.out|apply below_alloc|apply pw_below_drewN|apply below_drew1)|exact HB.out))) : w.heap.size ≤ gb251));clear HB;have HB:=n0_;have BK251:=n1_;have GW251:=n2_;have GE251:=n3_;clear n0_ n1_ n2_ n3_;clear hb hbox hg))
  have n0_:=Aside0.mk (blk_drew BK251.out)
  have n1_:=Aside0.mk (below_drew1 HB.out)
  clear BK251;clear HB;have BK251:=n0_;have HB:=n1_;clear n0_ n1_
  refine start_ (n:=3) (S:=fun w' => w'.cell? ⟨gb251,0,none⟩ = some (.slice A0_0 l0_0.length c0_0)) (ds:=[]) #[false,false,false] (by kernel_rfl) rfl rfl ((blk_cell BK251.out 0).trans rfl) (fun hHeld => ?_)
  generalize w5.drew = w6 at BK251 HB hHeld ⊢
  refine take_ (i:=1) (N:=some 7) (v:=?_) (a':=?_) #[false,true,false] rfl rfl (by kernel_rfl) (fun _ _ _ h => h) (Or.inl ⟨by rfl,?_⟩) hHeld ?_ ?_
  rotate_left
  ·intro w' s0
   go_simp
   with_reducible rfl
  rotate_left
  ·simp only [pu_]
   rfl
  refine one_ (i:=0) (N:=some 6) #[true,true,false] rfl rfl (by kernel_rfl) (by decide) (fun K hK => ?_)
  refine goes_ Tryz.func62 (by kernel_rfl) rfl #[.int .i64 9223372036854775807] (by rfl) rfl rfl (by (try simp only [List.map_toArray,List.map_cons,List.map_nil]);first|done|rfl|(simp only [List.length_drop,List.length_take];rfl)) ?_
  with_reducible refine (bursarref03_long.calls k 9223372036854775807 t252 _ A2.out).mono ?_
  rintro e w7 ⟨v253,rfl,ho0,hb⟩
  refine ⟨_,rfl,?_⟩
  have n0_:=Aside0.mk (Kd.R_lower ho0 (below_size (by repeat (first|(with_reducible first|exact HB.out|apply below_alloc|apply pw_below_drewN|apply below_drew1|refine below_set ?_ GE251.out)|exact HB.out))))
  have n1_:=Aside0.mk (blk_below (g:=gb251) (o:=.cells #[.slice A0_0 l0_0.length c0_0] 85 (0,0)) (by (with_reducible repeat (first|refine blk_drewN ?_ _|refine blk_drew ?_|refine blk_alloc ?_ _));exact BK251.out) hb)
  have n2_:=Aside0.mk (below_step (by repeat (first|(with_reducible first|exact HB.out|apply below_alloc|apply pw_below_drewN|apply below_drew1|refine below_set ?_ GE251.out)|exact HB.out)) hb)
  clear BK251;clear HB;have HO254:=n0_;have BK251:=n1_;have HB:=n2_;clear n0_ n1_ n2_;(try clear hb);(try clear hb2);(try clear hk);(try clear hi);(try clear ho0)
  obtain ⟨Ao8,co8,eo8⟩:=Kd.R_slice HO254.out
  (first|subst eo8|(injection eo8 with f1_ f2_ f3_;have f4_:=f1_.symm;have f5_:=f3_.symm;clear f1_ f2_ f3_;subst f4_;subst f5_))
  refine hK.out _ _ ((blk_cell BK251.out 0).trans rfl) (fun hHeld => ?_)
  clear hK K
  refine norm_ (a':=?_) ?_ ?_
  rotate_left
  ·show Act.put _ (some 6) _ = _
   simp only [pu_]
   rfl
  refine one_ (i:=2) (N:=some 8) #[true,true,true] rfl rfl (by kernel_rfl) (by decide) (fun K hK => ?_)
  refine goes_ Tryz.func85 (by kernel_rfl) rfl #[.agg #[.slice Ao8 t252.length co8],.agg #[.slice A0_0 l0_0.length c0_0]] (by rfl) rfl rfl (by (try simp only [List.map_toArray,List.map_cons,List.map_nil]);first|done|rfl|(simp only [List.length_drop,List.length_take];rfl)) ?_
  with_reducible refine (bursarref03_Long_less.calls k _ _ t252 _ _ l0_0 true _ ?side1 ?side2 ?side3 ?side4 A3.out).mono ?_
  (case side1 => repeat (first|exact (Kd.R_reads' HO254.out).2.2|(with_reducible refine Kd.C_alloc ?_ _)|(with_reducible refine Kd.C_drewN ?_ _)|(with_reducible refine Kd.C_drew ?_)))
  (case side2 => exact (Kd.R_reads' HO254.out).2.1)
  (case side3 => repeat (first|exact (Kd.C_below HR0_0.out HB.out)|(with_reducible refine Kd.C_alloc ?_ _)|(with_reducible refine Kd.C_drewN ?_ _)|(with_reducible refine Kd.C_drew ?_)))
  (case side4 => exact HC0_0.out)
  rintro e w9 ⟨rfl,hb⟩
  refine ⟨_,rfl,?_⟩
  have n0_:=Aside0.mk (Kd.R_below (by (with_reducible repeat (first|apply Kd.R_alloc|apply Kd.R_drewN|apply Kd.R_drew));exact HO254.out) hb)
  have n1_:=Aside0.mk (blk_below (g:=gb251) (o:=.cells #[.slice A0_0 l0_0.length c0_0] 85 (0,0)) (by (with_reducible repeat (first|refine blk_drewN ?_ _|refine blk_drew ?_|refine blk_alloc ?_ _));exact BK251.out) hb)
  have n2_:=Aside0.mk (below_step (by repeat (first|(with_reducible first|exact HB.out|apply below_alloc|apply pw_below_drewN|apply below_drew1|refine below_set ?_ GE251.out)|exact HB.out)) hb)
  clear HO254;clear BK251;clear HB;have HO254:=n0_;have BK251:=n1_;have HB:=n2_;clear n0_ n1_ n2_;(try clear hb);(try clear hb2);(try clear hk);(try clear hi)
  refine hK.out _ _ ((blk_cell BK251.out 0).trans rfl) (fun hHeld => ?_)
  clear hK K
  refine norm_ (a':=?_) ?_ ?_
  rotate_left
  ·show Act.put _ (some 8) _ = _
   simp only [pu_]
   rfl
  refine done_ (by kernel_rfl) ?_
  try go_wp2
  go_ret2
  exact ⟨by first|rfl|(simp [errW_none,errW_some] <;> rfl)|(simp [*,errW_none,errW_some] <;> rfl),by repeat (first|(with_reducible first|exact HB.out|apply below_alloc|apply pw_below_drewN|apply below_drew1|refine below_set ?_ GE251.out)|exact HB.out)⟩
 replace c4:=Bool.eq_false_iff.mpr c4
 subst c4
 have H1 : (bursarref03_Long_value.l0 k 0 (wrap64 ((l0_0.length : Int) - 1)) l0_0) = some (r1,r2):=by rw [if_neg (show ¬ (false = true) by decide)] at H;exact H
 clear H;have H:=H1;clear H1
 have H':=Aside0.mk H
 clear H
 go_enter Tryz.func69,Tryz.ntmps69
 try go_wp2_with (first|((with_reducible refine gate_dst (N:=1) rfl ?_);refine box_event ?hg (N:=1) ?hd (cs:=#[.slice A0_0 l0_0.length c0_0]) (t:=85) ?hr ?_;(case hd => rfl);(case hg => rfl);(case hr => first|(go_simp;done)|(go_simp;rfl));intro gb251 hg w10 hbox hb;have n0_:=Aside0.mk (below_step (by repeat (first|(with_reducible first|exact HB.out|apply below_alloc|apply pw_below_drewN|apply below_drew1)|exact HB.out)) hb);have n1_:=Aside0.mk (hbox);have n2_:=Aside0.mk ((by rw [hg];exact (below_size (by repeat (first|(with_reducible first|exact HB.out|apply below_alloc|apply pw_below_drewN|apply below_drew1)|exact HB.out))) : w.heap.size ≤ gb251));have n3_:=Aside0.mk ((by rw [hg];exact (below_size (by repeat (first|(with_reducible first|exact HB.out|apply below_alloc|apply pw_below_drewN|apply below_drew1)|exact HB.out))) : w.heap.size ≤ gb251));clear HB;have HB:=n0_;have BK251:=n1_;have GW251:=n2_;have GE251:=n3_;clear n0_ n1_ n2_ n3_;clear hb hbox hg))
 have n0_:=Aside0.mk (blk_drew BK251.out)
 have n1_:=Aside0.mk (below_drew1 HB.out)
 clear BK251;clear HB;have BK251:=n0_;have HB:=n1_;clear n0_ n1_
 refine start_ (n:=3) (S:=fun w' => w'.cell? ⟨gb251,0,none⟩ = some (.slice A0_0 l0_0.length c0_0)) (ds:=[]) #[false,false,false] (by kernel_rfl) rfl rfl ((blk_cell BK251.out 0).trans rfl) (fun hHeld => ?_)
 generalize w10.drew = w11 at BK251 HB hHeld ⊢
 refine take_ (i:=1) (N:=some 7) (v:=?_) (a':=?_) #[false,true,false] rfl rfl (by kernel_rfl) (fun _ _ _ h => h) (Or.inl ⟨by rfl,?_⟩) hHeld ?_ ?_
 rotate_left
 ·intro w' s0
  go_simp
  with_reducible rfl
 rotate_left
 ·simp only [pu_]
  rfl
 refine one_ (i:=0) (N:=some 6) #[true,true,false] rfl rfl (by kernel_rfl) (by decide) (fun K hK => ?_)
 refine goes_ Tryz.func62 (by kernel_rfl) rfl #[.int .i64 9223372036854775807] (by rfl) rfl rfl (by (try simp only [List.map_toArray,List.map_cons,List.map_nil]);first|done|rfl|(simp only [List.length_drop,List.length_take];rfl)) ?_
 with_reducible refine (bursarref03_long.calls k 9223372036854775807 t252 _ A2.out).mono ?_
 rintro e w12 ⟨v253,rfl,ho0,hb⟩
 refine ⟨_,rfl,?_⟩
 have n0_:=Aside0.mk (Kd.R_lower ho0 (below_size (by repeat (first|(with_reducible first|exact HB.out|apply below_alloc|apply pw_below_drewN|apply below_drew1|refine below_set ?_ GE251.out)|exact HB.out))))
 have n1_:=Aside0.mk (blk_below (g:=gb251) (o:=.cells #[.slice A0_0 l0_0.length c0_0] 85 (0,0)) (by (with_reducible repeat (first|refine blk_drewN ?_ _|refine blk_drew ?_|refine blk_alloc ?_ _));exact BK251.out) hb)
 have n2_:=Aside0.mk (below_step (by repeat (first|(with_reducible first|exact HB.out|apply below_alloc|apply pw_below_drewN|apply below_drew1|refine below_set ?_ GE251.out)|exact HB.out)) hb)
 clear BK251;clear HB;have HO254:=n0_;have BK251:=n1_;have HB:=n2_;clear n0_ n1_ n2_;(try clear hb);(try clear hb2);(try clear hk);(try clear hi);(try clear ho0)
 obtain ⟨Ao13,co13,eo13⟩:=Kd.R_slice HO254.out
 (first|subst eo13|(injection eo13 with f1_ f2_ f3_;have f4_:=f1_.symm;have f5_:=f3_.symm;clear f1_ f2_ f3_;subst f4_;subst f5_))
 refine hK.out _ _ ((blk_cell BK251.out 0).trans rfl) (fun hHeld => ?_)
 clear hK K
 refine norm_ (a':=?_) ?_ ?_
 rotate_left
 ·show Act.put _ (some 6) _ = _
  simp only [pu_]
  rfl
 refine one_ (i:=2) (N:=some 8) #[true,true,true] rfl rfl (by kernel_rfl) (by decide) (fun K hK => ?_)
 refine goes_ Tryz.func85 (by kernel_rfl) rfl #[.agg #[.slice Ao13 t252.length co13],.agg #[.slice A0_0 l0_0.length c0_0]] (by rfl) rfl rfl (by (try simp only [List.map_toArray,List.map_cons,List.map_nil]);first|done|rfl|(simp only [List.length_drop,List.length_take];rfl)) ?_
 with_reducible refine (bursarref03_Long_less.calls k _ _ t252 _ _ l0_0 false _ ?side1 ?side2 ?side3 ?side4 A3.out).mono ?_
 (case side1 => repeat (first|exact (Kd.R_reads' HO254.out).2.2|(with_reducible refine Kd.C_alloc ?_ _)|(with_reducible refine Kd.C_drewN ?_ _)|(with_reducible refine Kd.C_drew ?_)))
 (case side2 => exact (Kd.R_reads' HO254.out).2.1)
 (case side3 => repeat (first|exact (Kd.C_below HR0_0.out HB.out)|(with_reducible refine Kd.C_alloc ?_ _)|(with_reducible refine Kd.C_drewN ?_ _)|(with_reducible refine Kd.C_drew ?_)))
 (case side4 => exact HC0_0.out)
 rintro e w14 ⟨rfl,hb⟩
 refine ⟨_,rfl,?_⟩
 have n0_:=Aside0.mk (Kd.R_below (by (with_reducible repeat (first|apply Kd.R_alloc|apply Kd.R_drewN|apply Kd.R_drew));exact HO254.out) hb)
 have n1_:=Aside0.mk (blk_below (g:=gb251) (o:=.cells #[.slice A0_0 l0_0.length c0_0] 85 (0,0)) (by (with_reducible repeat (first|refine blk_drewN ?_ _|refine blk_drew ?_|refine blk_alloc ?_ _));exact BK251.out) hb)
 have n2_:=Aside0.mk (below_step (by repeat (first|(with_reducible first|exact HB.out|apply below_alloc|apply pw_below_drewN|apply below_drew1|refine below_set ?_ GE251.out)|exact HB.out)) hb)
 clear HO254;clear BK251;clear HB;have HO254:=n0_;have BK251:=n1_;have HB:=n2_;clear n0_ n1_ n2_;(try clear hb);(try clear hb2);(try clear hk);(try clear hi)
 refine hK.out _ _ ((blk_cell BK251.out 0).trans rfl) (fun hHeld => ?_)
 clear hK K
 refine norm_ (a':=?_) ?_ ?_
 rotate_left
 ·show Act.put _ (some 8) _ = _
  simp only [pu_]
  rfl
 refine done_ (by kernel_rfl) ?_
 have hcz15_0 : w14.cell? ⟨gb251,0,none⟩ = some (.slice A0_0 l0_0.length c0_0):=(blk_cell BK251.out 0).trans rfl
 have hfz15_0:=blk_frozen BK251.out 0
 try go_wp2
 go_loopg [4,5] k (fun kq v4 v5 w' => ∃ (x4_1 : Int) (x5_1 : Int),v4 = .int .i64 x4_1 ∧ v5 = .int .i64 x5_1 ∧ Aside0 (bursarref03_Long_value.l0 kq x4_1 x5_1 l0_0 = some (r1,r2)) ∧ Aside0 (kq ≤ k) ∧ Aside0 (w'.heap[gb251]? = some (.cells #[(.slice A0_0 l0_0.length c0_0)] 85 (0,0))) ∧ Aside0 (Below w.heap.size w w'))
 case atStart => exact ⟨(0),(wrap64 ((l0_0.length : Int) - 1)),(by first|rfl|(simp;done)|(simp [*];done)|(simp;rw [Bool.eq_iff_iff];simp;done)|(rw [Bool.eq_iff_iff];simp;done)),(by first|rfl|(simp;done)|(simp [*];done)|(simp;rw [Bool.eq_iff_iff];simp;done)|(rw [Bool.eq_iff_iff];simp;done)),H',⟨Nat.le_refl _⟩,⟨by (with_reducible repeat (first|refine blk_drewN ?_ _|refine blk_drew ?_|refine blk_alloc ?_ _));exact BK251.out⟩,⟨by repeat (first|(with_reducible first|exact HB.out|apply below_alloc|apply pw_below_drewN|apply below_drew1|refine below_set ?_ GE251.out)|exact HB.out)⟩⟩
 case round =>
  clear H';(try clear p2);(try clear c4);(try clear c6);(try clear p6);(try clear c8);(try clear hcz15_0);(try clear hfz15_0)
  obtain ⟨x4_1,x5_1,rfl,rfl,HA,HK1,BK251,HB⟩:=hrel
  cases gk with
 |zero => exact absurd HA.out (by simp [bursarref03_Long_value.l0])
 |succ k1 =>
   have H:=HA.out
   clear HA
   simp only [bursarref03_Long_value.l0] at H
   by_cases c16 : x5_1 ≥ 0
   rotate_left
   ·rw [if_neg c16] at H
    have c16b0 : decide (0 ≤ x5_1) = false:=decide_eq_false c16
    clear c16
    simp only [Option.some.injEq,Prod.mk.injEq] at H
    obtain ⟨rfl,rfl⟩:=H
    go_wp2
    go_ret2
    exact ⟨by first|rfl|(simp [errW_none,errW_some] <;> rfl)|(simp [*,errW_none,errW_some] <;> rfl),by repeat (first|(with_reducible first|exact HB.out|apply below_alloc|apply pw_below_drewN|apply below_drew1|refine below_set ?_ GE251.out)|exact HB.out)⟩
   rw [if_pos c16] at H
   have c16b0 : decide (0 ≤ x5_1) = true:=decide_eq_true c16
   clear c16
   by_cases c17 : 0 ≤ x5_1
   rotate_left
   ·rw [if_neg c17] at H
    exact absurd H (by simp)
   rw [if_pos c17] at H
   have c17b0 : decide (0 ≤ x5_1) = true:=decide_eq_true c17
   clear c17
   by_cases c18 : x5_1 < (l0_0.length : Int)
   rotate_left
   ·rw [if_neg c18] at H
    exact absurd H (by simp)
   rw [if_pos c18] at H
   have c18b0 : decide (x5_1 < (l0_0.length : Int)) = true:=decide_eq_true c18
   clear c18
   have H':=Aside0.mk H
   clear H
   have hcz19_0 : wr.cell? ⟨gb251,0,none⟩ = some (.slice A0_0 l0_0.length c0_0):=(blk_cell BK251.out 0).trans rfl
   have hfz19_0:=blk_frozen BK251.out 0
   have p256 : 0 ≤ (x5_1 : Int):=of_decide_eq_true (by first|(with_reducible assumption)|assumption)
   have q256 : x5_1 < (l0_0.length : Int):=of_decide_eq_true (by first|(with_reducible assumption)|assumption)
   obtain ⟨ad256,e256,hx256_0⟩:=Kd.at_int HR0_0.out x5_1 p256 q256
   cases e256
   replace hx256_0:=(HB.out.cell (World.block_lt_of_cell? w _ hx256_0)).trans hx256_0
   replace p256:=eq_true p256
   replace q256:=eq_true q256
   go_wp2
   go_roundg k1
   case measure => have:=HK1.out;omega
   case rel => exact ⟨(wrap64 ((wrap64 (x4_1 * 10)) + (rd l0_0 x5_1))),(wrap64 (x5_1 - 1)),(by first|rfl|(simp;done)|(simp [*];done)|(simp;rw [Bool.eq_iff_iff];simp;done)|(rw [Bool.eq_iff_iff];simp;done)),(by first|rfl|(simp;done)|(simp [*];done)|(simp;rw [Bool.eq_iff_iff];simp;done)|(rw [Bool.eq_iff_iff];simp;done)),H',⟨by have:=HK1.out;omega⟩,⟨by (with_reducible repeat (first|refine blk_drewN ?_ _|refine blk_drew ?_|refine blk_alloc ?_ _));exact BK251.out⟩,⟨by repeat (first|(with_reducible first|exact HB.out|apply below_alloc|apply pw_below_drewN|apply below_drew1|refine below_set ?_ GE251.out)|exact HB.out)⟩⟩
end Go.Proofs.YtejgbdclhlolkaaGreatDoor.Q
