/- What the statement QuantParsesUptoCardSaid rests on, part 6 of 7: walks and plain laws; what of the printer's words it leans on. -/
import Derived.Test.YtejgbdclhlolkaaGreatDoorMQPa3
import Derived.Test.YtejgbdclhlolkaaGreatDoorMQPa4
import Derived.Test.YtejgbdclhlolkaaGreatDoorMQPa5
namespace Go.Proofs.YtejgbdclhlolkaaGreatDoor.Q
open Go.RowKit Go.Proofs.YtejgbdclhlolkaaGreatDoorW.PrintWords Go.Proofs.YtejgbdclhlolkaaGreatDoorW.PrintLast Go.Proofs.YtejgbdclhlolkaaGreatDoorW.PrintMore
attribute [local go_sem] max2_int min2_int max_two min_two max_three min_three max_four min_four   -- for this text's walks alone
set_option linter.unusedVariables false
set_option linter.unusedSimpArgs false
def bursarref03_parsed.l0 : Nat → List Int → Int → List Int → Int → List Int → Option (Int × Int)
|0,_,_,_,_,_ => none
|k + 1,x0,x1,x8,x9,x258000 => if x9 ≥ 0 then (if 0 ≤ x9 then (if x9 < (x0.length : Int) then (if x8.length < 17592186044416 then (bursarref03_parsed.l0 k x0 x1 (x8 ++ [rd x0 x9]) (wrap64 (x9 - 1)) x258000) else (none)) else (none)) else (none)) else ((bursarref03_cut.f k x8).bind fun t262 => ((bursarref03_Long_times.f k t262 x258000).bind fun t265 => ((bursarref03_power.f k 10 x1).bind fun t268 => ((bursarref03_Long_by.f k t265 t268).bind fun bt271 => (if (bt271.2.length : Int) > 0 then ((bursarref03_long.f k 1).bind fun t279 => ((bursarref03_Long_plus.f k bt271.1 t279).bind fun t282 => ((bursarref03_Long_value.f k t282).bind fun bt285 => (if bt285.2 = true then (some (bt285.1,0)) else (some (0,7)))))) else ((bursarref03_Long_value.f k bt271.1).bind fun bt287 => (if bt287.2 = true then (some (bt287.1,0)) else (some (0,7)))))))))
def bursarref03_parsed.f (k : Nat) (l0 : List Int) (a1 : Int) (l2_0 : List Int) : Option (Int × Int) := bursarref03_parsed.l0 k l0 a1 ([] : List Int) (wrap64 ((l0.length : Int) - 1)) l2_0
theorem bursarref03_parsed.mono_l : ∀ k, (∀ y0 y1 y2 y3 y4, LeO (bursarref03_parsed.l0 k y0 y1 y2 y3 y4) (bursarref03_parsed.l0 (k + 1) y0 y1 y2 y3 y4))
|0 => fun _ _ _ _ _ r h => by simp [bursarref03_parsed.l0] at h
|k + 1 => by
  have ih0:=bursarref03_parsed.mono_l k
  ·intro y0 y1 y2 y3 y4
   unfold bursarref03_parsed.l0
   repeat' first
  |(with_reducible exact ih0 _ _ _ _ _)
  |(with_reducible exact bursarref03_Long_by.mono _ _ _)
  |(with_reducible exact bursarref03_Long_plus.mono _ _ _)
  |(with_reducible exact bursarref03_Long_times.mono _ _ _)
  |(with_reducible exact bursarref03_Long_value.mono _ _)
  |(with_reducible exact bursarref03_cut.mono _ _)
  |(with_reducible exact bursarref03_long.mono _ _)
  |(with_reducible exact bursarref03_power.mono _ _ _)
  |(with_reducible exact LeO.refl _)
  |(with_reducible exact LeO.none _)
  |(with_reducible refine LeO.ite ?_ ?_)
  |(with_reducible refine LeO.bind ?_ (fun _ => ?_))
  |exact ih0 _ _ _ _ _
  |exact bursarref03_Long_by.mono _ _ _
  |exact bursarref03_Long_plus.mono _ _ _
  |exact bursarref03_Long_times.mono _ _ _
  |exact bursarref03_Long_value.mono _ _
  |exact bursarref03_cut.mono _ _
  |exact bursarref03_long.mono _ _
  |exact bursarref03_power.mono _ _ _
  |exact LeO.none _
  |refine LeO.ite ?_ ?_
  |refine LeO.bind ?_ (fun _ => ?_)
theorem bursarref03_parsed.mono : ∀ a0 a1 a2 k, LeO (bursarref03_parsed.f k a0 a1 a2) (bursarref03_parsed.f (k + 1) a0 a1 a2) := by
 intro a0 a1 a2 k
 have ih0:=bursarref03_parsed.mono_l k
 unfold bursarref03_parsed.f
 repeat' first
  |(with_reducible exact ih0 _ _ _ _ _)
  |(with_reducible exact bursarref03_Long_by.mono _ _ _)
  |(with_reducible exact bursarref03_Long_plus.mono _ _ _)
  |(with_reducible exact bursarref03_Long_times.mono _ _ _)
  |(with_reducible exact bursarref03_Long_value.mono _ _)
  |(with_reducible exact bursarref03_cut.mono _ _)
  |(with_reducible exact bursarref03_long.mono _ _)
  |(with_reducible exact bursarref03_power.mono _ _ _)
  |(with_reducible exact LeO.refl _)
  |(with_reducible exact LeO.none _)
  |(with_reducible refine LeO.ite ?_ ?_)
  |(with_reducible refine LeO.bind ?_ (fun _ => ?_))
  |exact ih0 _ _ _ _ _
  |exact bursarref03_Long_by.mono _ _ _
  |exact bursarref03_Long_plus.mono _ _ _
  |exact bursarref03_Long_times.mono _ _ _
  |exact bursarref03_Long_value.mono _ _
  |exact bursarref03_cut.mono _ _
  |exact bursarref03_long.mono _ _
  |exact bursarref03_power.mono _ _ _
  |exact LeO.none _
  |refine LeO.ite ?_ ?_
  |refine LeO.bind ?_ (fun _ => ?_)
def bursarref03_parsed.T6 : Bool × List (List Nat × List Nat) := (true, [([], []), ([0], [0]), ([], []), ([1, 2, 1], [1, 2]), ([], []), ([4, 3], [4]), ([3, 5, 5], [3, 5]), ([6], [6]), ([7], [7]), ([7], [7]), ([], []), ([], []), ([10, 8, 6, 0, 1, 2, 3, 4, 5, 6, 7, 8, 10, 11], [8, 10]), ([11, 9, 12, 0, 1, 2, 3, 4, 5, 6, 7, 8, 9, 10, 11, 12], [9, 11])])
def bursarref03_parsed.B6 : List Nat := [0, 1, 0, 7, 0, 31, 63, 127, 255, 255, 0, 0, 3583, 8191]
theorem bursarref03_parsed.tab6 : rtab .any (opsOf Tryz.f60 6) = bursarref03_parsed.T6 := by kernel_rfl
theorem bursarref03_parsed.bits6 : waitsOk bursarref03_parsed.T6.2 bursarref03_parsed.B6 = true := by kernel_rfl
set_option maxHeartbeats 64000000 in
set_option maxRecDepth 100000 in
theorem bursarref03_parsed.calls (k : Nat) (A0 : Option Addr) (c0 : Nat) (l0 : List Int) (a1 : Int) (A2_0 : Option Addr) (c2_0 : Nat) (l2_0 : List Int) (r1 : Int) (r2 : Int) (w : World) (hr0 : Kd.C (Kd.int .i64) w A0 l0.length l0) (hc0 : l0.length ≤ c0) (hr2_0 : Kd.C (Kd.int .i64) w A2_0 l2_0.length l2_0) (hc2_0 : l2_0.length ≤ c2_0) (h : bursarref03_parsed.f k l0 a1 l2_0 = some (r1, r2)) :
  Calls Tryz.prog 60 #[.slice A0 l0.length c0,.int .i64 a1,.agg #[.slice A2_0 l2_0.length c2_0]] w fun e w' => e = .returned (.tuple #[.int .i64 r1,.int .i64 r2]) ∧ Below w.heap.size w w':=by
 have hu85:=Tryz.underlying85
 have HR0:=Aside0.mk hr0
 have HC0:=Aside0.mk hc0
 clear hr0 hc0
 have HR2_0:=Aside0.mk hr2_0
 have HC2_0:=Aside0.mk hc2_0
 clear hr2_0 hc2_0
 have HB:=Aside0.mk (Below.refl w.heap.size w)
 have H : (bursarref03_parsed.l0 k l0 a1 ([] : List Int) (wrap64 ((l0.length : Int) - 1)) l2_0) = some (r1,r2):=h
 clear h
 have H':=Aside0.mk H
 clear H
 go_enter Tryz.func60,Tryz.ntmps60
 go_wp2_with (first|((with_reducible refine gate_dst (N:=5) rfl ?_);refine box_event ?hg (N:=5) ?hd (cs:=#[.slice A2_0 l2_0.length c2_0]) (t:=85) ?hr ?_;(case hd => rfl);(case hg => rfl);(case hr => first|(go_simp;done)|(go_simp;rfl));intro gb257 hg w4 hbox hb;have n0_:=Aside0.mk (below_step (by repeat (first|(with_reducible first|exact HB.out|apply below_alloc|apply pw_below_drewN|apply below_drew1)|exact HB.out)) hb);have n1_:=Aside0.mk (hbox);have n2_:=Aside0.mk ((by rw [hg];exact (below_size (by repeat (first|(with_reducible first|exact HB.out|apply below_alloc|apply pw_below_drewN|apply below_drew1)|exact HB.out))) : w.heap.size ≤ gb257));have n3_:=Aside0.mk ((by rw [hg];exact (below_size (by repeat (first|(with_reducible first|exact HB.out|apply below_alloc|apply pw_below_drewN|apply below_drew1)|exact HB.out))) : w.heap.size ≤ gb257));clear HB;have HB:=n0_;have BK257:=n1_;have GW257:=n2_;have GE257:=n3_;clear n0_ n1_ n2_ n3_;clear hb hbox hg))
 go_loopg [8,9] k (fun kq v8 v9 w' => ∃ (x8_1 : List Int) (x9_1 : Int),v9 = .int .i64 x9_1 ∧ Aside0 (bursarref03_parsed.l0 kq l0 a1 x8_1 x9_1 l2_0 = some (r1,r2)) ∧ Aside0 (kq ≤ k) ∧ Aside0 (Kd.R (Kd.int .i64) 3 w' w.heap.size (fun _ => True) v8 x8_1) ∧ Aside0 (w'.heap[gb257]? = some (.cells #[(.slice A2_0 l2_0.length c2_0)] 85 (0,0))) ∧ Aside0 (Below w.heap.size w w'))
 case atStart => exact ⟨(([] : List Int)),(wrap64 ((l0.length : Int) - 1)),(by first|rfl|(simp;done)|(simp [*];done)|(simp;rw [Bool.eq_iff_iff];simp;done)|(rw [Bool.eq_iff_iff];simp;done)),H',⟨Nat.le_refl _⟩,⟨by first|exact Kd.R_nil _ _ _ _ _|exact Kd.N_nil _ _ _ _ _|exact Kd.V_nil _ _ _ _ _|exact Kd.Q_nil _ _ _ _ _|exact Kd.S_nil _ _ _ _ _⟩,⟨by (with_reducible repeat (first|refine blk_drewN ?_ _|refine blk_drew ?_|refine blk_alloc ?_ _));exact BK257.out⟩,⟨by repeat (first|(with_reducible first|exact HB.out|apply below_alloc|apply pw_below_drewN|apply below_drew1|refine below_set ?_ GE257.out)|exact HB.out)⟩⟩
 case round =>
  clear H';(try clear c2);(try clear p2)
  obtain ⟨x8_1,x9_1,rfl,HA,HK1,HO_8,BK257,HB⟩:=hrel
  cases gk with
 |zero => exact absurd HA.out (by simp [bursarref03_parsed.l0])
 |succ k1 =>
   have H:=HA.out
   clear HA
   simp only [bursarref03_parsed.l0] at H
   by_cases c5 : x9_1 ≥ 0
   ·rw [if_pos c5] at H
    have c5b0 : decide (0 ≤ x9_1) = true:=decide_eq_true c5
    clear c5
    by_cases c6 : 0 ≤ x9_1
    rotate_left
    ·rw [if_neg c6] at H
     exact absurd H (by simp)
    rw [if_pos c6] at H
    have c6b0 : decide (0 ≤ x9_1) = true:=decide_eq_true c6
    clear c6
    by_cases c7 : x9_1 < (l0.length : Int)
    rotate_left
    ·rw [if_neg c7] at H
     exact absurd H (by simp)
    rw [if_pos c7] at H
    have c7b0 : decide (x9_1 < (l0.length : Int)) = true:=decide_eq_true c7
    clear c7
    by_cases c8 : x8_1.length < 17592186044416
    rotate_left
    ·rw [if_neg c8] at H
     exact absurd H (by simp)
    rw [if_pos c8] at H
    have LMc8:=Aside0.mk c8
    clear c8
    obtain ⟨y259,hy259⟩ : ∃ y_ : List Int,y_ = (x8_1 ++ [rd l0 x9_1]):=⟨_,rfl⟩
    replace H : (bursarref03_parsed.l0 k1 l0 a1 y259 (wrap64 (x9_1 - 1)) l2_0) = some (r1,r2):=by first|(rw [hy259];with_reducible exact H)|(have H2_:=(Option.bind_some _ _).symm.trans H;rw [hy259];with_reducible exact H2_)|(have H2_:=(Option.bind_some _ _).symm.trans H;with_reducible exact H2_)|with_reducible exact H|(rw [hy259];exact H)|exact H
    have Ny259:=Aside0.mk hy259
    clear hy259
    have H':=Aside0.mk H
    clear H
    have p258 : 0 ≤ (x9_1 : Int):=of_decide_eq_true (by first|(with_reducible assumption)|assumption)
    have q258 : x9_1 < (l0.length : Int):=of_decide_eq_true (by first|(with_reducible assumption)|assumption)
    obtain ⟨ad258,e258,hx258_0⟩:=Kd.at_int HR0.out x9_1 p258 q258
    cases e258
    replace hx258_0:=(HB.out.cell (World.block_lt_of_cell? w _ hx258_0)).trans hx258_0
    replace p258:=eq_true p258
    replace q258:=eq_true q258
    go_wp2_with (first|((with_reducible refine gate_builtin (b:=.append) (xs:=#[.tmp 21,.tmp 26]) rfl ?_);at_builtin;refine Kd.R_append (Kd.int .i64) (w0:=w) w.heap.size rfl (.tmp 21) (.tmp 26) 80 3 (.int .i64 0) 8 rfl Tryz.underlying80 info3 rfl (by decide) (by omega) u8 x8_1 (rd l0 x9_1) [.int .i64 (rd l0 x9_1)] (fun _ => True) (fun _ => False) rfl rfl ?aP (fun _ hk => hk.elim) ?aF ?aO ?aB ?aS ?aL ?_;(case aP => exact rfl);(case aB => exact (by repeat (first|(with_reducible first|exact HB.out|apply below_alloc|apply pw_below_drewN|apply below_drew1|refine below_set ?_ GE257.out)|exact HB.out)));(case aF => exact (fun _ _ => trivial));(case aO => exact (by (with_reducible repeat (first|apply Kd.R_alloc|apply Kd.R_drewN|apply Kd.R_drew));exact HO_8.out));(case aS => exact (below_size (by repeat (first|(with_reducible first|exact HB.out|apply below_alloc|apply pw_below_drewN|apply below_drew1|refine below_set ?_ GE257.out)|exact HB.out))));(case aL => have:=LMc8.out;omega);intro v260 w9 ho hb hg hat;rw [← Ny259.out] at ho;have n0_:=Aside0.mk (blk_grown (g:=gb257) (o:=.cells #[.slice A2_0 l2_0.length c2_0] 85 (0,0)) (by (with_reducible repeat (first|refine blk_drewN ?_ _|refine blk_drew ?_|refine blk_alloc ?_ _));exact BK257.out) hg (Kd.R_ne HO_8.out BK257.out (by decide)));have n1_:=Aside0.mk (hb);have n2_:=Aside0.mk (ho);clear BK257;clear HB;clear HO_8;have BK257:=n0_;have HB:=n1_;have HO261:=n2_;clear n0_ n1_ n2_;clear ho hb hg hat))
    go_roundg k1
    case measure => have:=HK1.out;omega
    case rel => exact ⟨(y259),(wrap64 (x9_1 - 1)),(by first|rfl|(simp;done)|(simp [*];done)|(simp;rw [Bool.eq_iff_iff];simp;done)|(rw [Bool.eq_iff_iff];simp;done)),H',⟨by have:=HK1.out;omega⟩,⟨by (with_reducible repeat (first|apply Kd.R_alloc|apply Kd.R_drewN|apply Kd.R_drew));exact HO261.out⟩,⟨by (with_reducible repeat (first|refine blk_drewN ?_ _|refine blk_drew ?_|refine blk_alloc ?_ _));exact BK257.out⟩,⟨by repeat (first|(with_reducible first|exact HB.out|apply below_alloc|apply pw_below_drewN|apply below_drew1|refine below_set ?_ GE257.out)|exact HB.out)⟩⟩
   rw [if_neg c5] at H
   have c5b0 : decide (0 ≤ x9_1) = false:=decide_eq_false c5
   clear c5
   replace H:=Option.bind_eq_some_iff.mp H
   obtain ⟨t262,A100,H⟩:=H
   replace H : ((bursarref03_Long_times.f k1 t262 l2_0).bind fun t265 => ((bursarref03_power.f k1 10 a1).bind fun t268 => ((bursarref03_Long_by.f k1 t265 t268).bind fun bt271 => (if (bt271.2.length : Int) > 0 then ((bursarref03_long.f k1 1).bind fun t279 => ((bursarref03_Long_plus.f k1 bt271.1 t279).bind fun t282 => ((bursarref03_Long_value.f k1 t282).bind fun bt285 => (if bt285.2 = true then (some (bt285.1,0)) else (some (0,7)))))) else ((bursarref03_Long_value.f k1 bt271.1).bind fun bt287 => (if bt287.2 = true then (some (bt287.1,0)) else (some (0,7)))))))) = some (r1,r2):=H
   have A10:=Aside0.mk A100
   clear A100
   replace H:=Option.bind_eq_some_iff.mp H
   obtain ⟨t265,A110,H⟩:=H
   replace H : ((bursarref03_power.f k1 10 a1).bind fun t268 => ((bursarref03_Long_by.f k1 t265 t268).bind fun bt271 => (if (bt271.2.length : Int) > 0 then ((bursarref03_long.f k1 1).bind fun t279 => ((bursarref03_Long_plus.f k1 bt271.1 t279).bind fun t282 => ((bursarref03_Long_value.f k1 t282).bind fun bt285 => (if bt285.2 = true then (some (bt285.1,0)) else (some (0,7)))))) else ((bursarref03_Long_value.f k1 bt271.1).bind fun bt287 => (if bt287.2 = true then (some (bt287.1,0)) else (some (0,7))))))) = some (r1,r2):=H
   have A11:=Aside0.mk A110
   clear A110
   replace H:=Option.bind_eq_some_iff.mp H
   obtain ⟨t268,A120,H⟩:=H
   replace H : ((bursarref03_Long_by.f k1 t265 t268).bind fun bt271 => (if (bt271.2.length : Int) > 0 then ((bursarref03_long.f k1 1).bind fun t279 => ((bursarref03_Long_plus.f k1 bt271.1 t279).bind fun t282 => ((bursarref03_Long_value.f k1 t282).bind fun bt285 => (if bt285.2 = true then (some (bt285.1,0)) else (some (0,7)))))) else ((bursarref03_Long_value.f k1 bt271.1).bind fun bt287 => (if bt287.2 = true then (some (bt287.1,0)) else (some (0,7)))))) = some (r1,r2):=H
   have A12:=Aside0.mk A120
   clear A120
   replace H:=Option.bind_eq_some_iff.mp H
   obtain ⟨⟨t271,t274⟩,A130,H⟩:=H
   replace H : (if (t274.length : Int) > 0 then ((bursarref03_long.f k1 1).bind fun t279 => ((bursarref03_Long_plus.f k1 t271 t279).bind fun t282 => ((bursarref03_Long_value.f k1 t282).bind fun bt285 => (if bt285.2 = true then (some (bt285.1,0)) else (some (0,7)))))) else ((bursarref03_Long_value.f k1 t271).bind fun bt287 => (if bt287.2 = true then (some (bt287.1,0)) else (some (0,7))))) = some (r1,r2):=H
   have A13:=Aside0.mk A130
   clear A130
   have H':=Aside0.mk H
   clear H
   obtain ⟨Ao19,co19,eo19⟩:=Kd.R_slice HO_8.out
   subst eo19
   try go_wp2
   have n0_:=Aside0.mk (Kd.R_drew HO_8.out)
   have n1_:=Aside0.mk (blk_drew BK257.out)
   have n2_:=Aside0.mk (below_drew1 HB.out)
   clear HO_8;clear BK257;clear HB;have HO_8:=n0_;have BK257:=n1_;have HB:=n2_;clear n0_ n1_ n2_
   refine start_ (n:=14) (S:=fun w' => w'.cell? ⟨gb257,0,none⟩ = some (.slice A2_0 l2_0.length c2_0)) (ds:=[]) (bl 0 14) (by kernel_rfl) rfl rfl ((blk_cell BK257.out 0).trans rfl) (fun hHeld => ?_);refine with_tabW bursarref03_parsed.tab6 bursarref03_parsed.bits6 (fun HT_ HW_ => ?_)
   generalize wr.drew = w20 at HO_8 BK257 HB hHeld ⊢
   refine pure_ (i:=0) (N:=some 29) (v:=?_) (a':=?_) (bl 1 13) rfl rfl (any_of HT_.out (by kernel_rfl)) (fun _ _ _ h => h) (Or.inl ⟨by rfl,?_⟩) ?_ ?_
   rotate_left;·intro w';go_simp;with_reducible rfl
   rotate_left;·simp only [pu_];rfl
   refine pure_ (i:=4) (N:=some 33) (v:=?_) (a':=?_) #[true,false,false,false,true,false,false,false,false,false,false,false,false,false] rfl rfl (any_of HT_.out (by kernel_rfl)) (fun _ _ _ h => h) (Or.inl ⟨by rfl,?_⟩) ?_ ?_
   rotate_left;·intro w';go_simp;with_reducible rfl
   rotate_left;·simp only [pu_];rfl
   refine take_ (i:=2) (N:=some 31) (v:=?_) (a':=?_) #[true,false,true,false,true,false,false,false,false,false,false,false,false,false] rfl rfl (take_ofW HT_.out HW_.out (by kernel_rfl)) (fun _ _ _ h => h) (Or.inl ⟨by rfl,?_⟩) hHeld ?_ ?_
   rotate_left
   ·intro w' s0
    go_simp
    with_reducible rfl
   rotate_left
   ·simp only [pu_]
    rfl
   refine join_ (σ:=Value × Value × Value × Value × Value × Nat × Nat) 2 (bl 12 2) (fun s_ => [(30,.agg #[s_.1]),(32,.agg #[s_.2.1]),(34,.agg #[s_.2.2.1]),(35,.tuple #[.agg #[s_.2.2.2.1],.agg #[s_.2.2.2.2.1]]),(10,.pointer (some ⟨s_.2.2.2.2.2.1,0,none⟩)),(11,.pointer (some ⟨s_.2.2.2.2.2.2,0,none⟩)),(28,.tuple #[.agg #[s_.2.2.2.1],.agg #[s_.2.2.2.2.1]]),(36,.agg #[s_.2.2.2.1]),(37,.agg #[s_.2.2.2.2.1])]) (fun s_ w' => (w'.cell? ⟨gb257,0,none⟩ = some (.slice A2_0 l2_0.length c2_0)) ∧ (Kd.V (Kd.int .i64) 3 w' w.heap.size (fun k_ => k_ ≠ gb257 ∧ k_ ≠ s_.2.2.2.2.2.1 ∧ k_ ≠ s_.2.2.2.2.2.2) s_.1 t262) ∧ (Kd.V (Kd.int .i64) 3 w' w.heap.size (fun k_ => some k_ ≠ (.slice Ao19 x8_1.length co19 : Value).ownBlock ∧ k_ ≠ gb257 ∧ k_ ≠ s_.2.2.2.2.2.1 ∧ k_ ≠ s_.2.2.2.2.2.2) s_.2.1 t265) ∧ (Kd.V (Kd.int .i64) 3 w' w.heap.size (fun k_ => some k_ ≠ (.slice Ao19 x8_1.length co19 : Value).ownBlock ∧ k_ ≠ gb257 ∧ k_ ≠ s_.2.2.2.2.2.1 ∧ k_ ≠ s_.2.2.2.2.2.2) s_.2.2.1 t268) ∧ (Kd.V (Kd.int .i64) 3 w' w.heap.size (fun k_ => some k_ ≠ (.slice Ao19 x8_1.length co19 : Value).ownBlock ∧ k_ ≠ gb257 ∧ k_ ≠ s_.2.2.2.2.2.1 ∧ k_ ≠ s_.2.2.2.2.2.2) s_.2.2.2.1 t271) ∧ (Kd.V (Kd.int .i64) 3 w' w.heap.size (fun k_ => some k_ ≠ (.slice Ao19 x8_1.length co19 : Value).ownBlock ∧ k_ ≠ gb257 ∧ k_ ≠ s_.2.2.2.2.2.1 ∧ k_ ≠ s_.2.2.2.2.2.2) s_.2.2.2.2.1 t274) ∧ (Kd.R (Kd.int .i64) 3 w' w.heap.size (fun _ => True) (.slice Ao19 x8_1.length co19) x8_1) ∧ (w'.heap[gb257]? = some (.cells #[.slice A2_0 l2_0.length c2_0] 85 (0,0))) ∧ (w'.heap[s_.2.2.2.2.2.1]? = some (.cells #[.slice none 0 0] 85 (0,0))) ∧ (w'.heap[s_.2.2.2.2.2.2]? = some (.cells #[.slice none 0 0] 85 (0,0))) ∧ (w.heap.size ≤ s_.2.2.2.2.2.1) ∧ (w.heap.size ≤ s_.2.2.2.2.2.1) ∧ (gb257 ≠ s_.2.2.2.2.2.1) ∧ (s_.2.2.2.2.2.1 ≠ gb257) ∧ (s_.2.2.2.2.2.2 ≠ s_.2.2.2.2.2.1) ∧ (s_.2.2.2.2.2.1 ≠ s_.2.2.2.2.2.2) ∧ (w.heap.size ≤ s_.2.2.2.2.2.2) ∧ (w.heap.size ≤ s_.2.2.2.2.2.2) ∧ (gb257 ≠ s_.2.2.2.2.2.2) ∧ (s_.2.2.2.2.2.2 ≠ gb257) ∧ (Below w.heap.size w w')) ?_ ?_
   rotate_left
   ·intro hJ1_3_5_6_10_11
    refine join_ (σ:=Value × Value × Value × Value × Value × Nat) 3 (bl 11 3) (fun s_ => [(30,.agg #[s_.1]),(32,.agg #[s_.2.1]),(34,.agg #[s_.2.2.1]),(35,.tuple #[.agg #[s_.2.2.2.1],.agg #[s_.2.2.2.2.1]]),(10,.pointer (some ⟨s_.2.2.2.2.2,0,none⟩)),(28,.tuple #[.agg #[s_.2.2.2.1],.agg #[s_.2.2.2.2.1]]),(36,.agg #[s_.2.2.2.1]),(37,.agg #[s_.2.2.2.2.1])]) (fun s_ w' => (w'.cell? ⟨gb257,0,none⟩ = some (.slice A2_0 l2_0.length c2_0)) ∧ (Kd.V (Kd.int .i64) 3 w' w.heap.size (fun k_ => k_ ≠ gb257 ∧ k_ ≠ s_.2.2.2.2.2) s_.1 t262) ∧ (Kd.V (Kd.int .i64) 3 w' w.heap.size (fun k_ => some k_ ≠ (.slice Ao19 x8_1.length co19 : Value).ownBlock ∧ k_ ≠ gb257 ∧ k_ ≠ s_.2.2.2.2.2) s_.2.1 t265) ∧ (Kd.V (Kd.int .i64) 3 w' w.heap.size (fun k_ => some k_ ≠ (.slice Ao19 x8_1.length co19 : Value).ownBlock ∧ k_ ≠ gb257 ∧ k_ ≠ s_.2.2.2.2.2) s_.2.2.1 t268) ∧ (Kd.V (Kd.int .i64) 3 w' w.heap.size (fun k_ => some k_ ≠ (.slice Ao19 x8_1.length co19 : Value).ownBlock ∧ k_ ≠ gb257 ∧ k_ ≠ s_.2.2.2.2.2) s_.2.2.2.1 t271) ∧ (Kd.V (Kd.int .i64) 3 w' w.heap.size (fun k_ => some k_ ≠ (.slice Ao19 x8_1.length co19 : Value).ownBlock ∧ k_ ≠ gb257 ∧ k_ ≠ s_.2.2.2.2.2) s_.2.2.2.2.1 t274) ∧ (Kd.R (Kd.int .i64) 3 w' w.heap.size (fun _ => True) (.slice Ao19 x8_1.length co19) x8_1) ∧ (w'.heap[gb257]? = some (.cells #[.slice A2_0 l2_0.length c2_0] 85 (0,0))) ∧ (w'.heap[s_.2.2.2.2.2]? = some (.cells #[.slice none 0 0] 85 (0,0))) ∧ (w.heap.size ≤ s_.2.2.2.2.2) ∧ (w.heap.size ≤ s_.2.2.2.2.2) ∧ (gb257 ≠ s_.2.2.2.2.2) ∧ (s_.2.2.2.2.2 ≠ gb257) ∧ (Below w.heap.size w w')) ?_ ?_
    rotate_left
    ·intro hJ1_3_5_6_10
     refine join_ (σ:=Value × Value × Value × Value × Value × Nat) 3 #[true,true,true,true,true,true,true,true,true,true,false,true,false,false] (fun s_ => [(30,.agg #[s_.1]),(32,.agg #[s_.2.1]),(34,.agg #[s_.2.2.1]),(35,.tuple #[.agg #[s_.2.2.2.1],.agg #[s_.2.2.2.2.1]]),(11,.pointer (some ⟨s_.2.2.2.2.2,0,none⟩)),(28,.tuple #[.agg #[s_.2.2.2.1],.agg #[s_.2.2.2.2.1]]),(36,.agg #[s_.2.2.2.1]),(37,.agg #[s_.2.2.2.2.1])]) (fun s_ w' => (w'.cell? ⟨gb257,0,none⟩ = some (.slice A2_0 l2_0.length c2_0)) ∧ (Kd.V (Kd.int .i64) 3 w' w.heap.size (fun k_ => k_ ≠ gb257 ∧ k_ ≠ s_.2.2.2.2.2) s_.1 t262) ∧ (Kd.V (Kd.int .i64) 3 w' w.heap.size (fun k_ => some k_ ≠ (.slice Ao19 x8_1.length co19 : Value).ownBlock ∧ k_ ≠ gb257 ∧ k_ ≠ s_.2.2.2.2.2) s_.2.1 t265) ∧ (Kd.V (Kd.int .i64) 3 w' w.heap.size (fun k_ => some k_ ≠ (.slice Ao19 x8_1.length co19 : Value).ownBlock ∧ k_ ≠ gb257 ∧ k_ ≠ s_.2.2.2.2.2) s_.2.2.1 t268) ∧ (Kd.V (Kd.int .i64) 3 w' w.heap.size (fun k_ => some k_ ≠ (.slice Ao19 x8_1.length co19 : Value).ownBlock ∧ k_ ≠ gb257 ∧ k_ ≠ s_.2.2.2.2.2) s_.2.2.2.1 t271) ∧ (Kd.V (Kd.int .i64) 3 w' w.heap.size (fun k_ => some k_ ≠ (.slice Ao19 x8_1.length co19 : Value).ownBlock ∧ k_ ≠ gb257 ∧ k_ ≠ s_.2.2.2.2.2) s_.2.2.2.2.1 t274) ∧ (Kd.R (Kd.int .i64) 3 w' w.heap.size (fun _ => True) (.slice Ao19 x8_1.length co19) x8_1) ∧ (w'.heap[gb257]? = some (.cells #[.slice A2_0 l2_0.length c2_0] 85 (0,0))) ∧ (w'.heap[s_.2.2.2.2.2]? = some (.cells #[.slice none 0 0] 85 (0,0))) ∧ (w.heap.size ≤ s_.2.2.2.2.2) ∧ (w.heap.size ≤ s_.2.2.2.2.2) ∧ (gb257 ≠ s_.2.2.2.2.2) ∧ (s_.2.2.2.2.2 ≠ gb257) ∧ (Below w.heap.size w w')) ?_ ?_
     rotate_left
     ·intro hJ1_3_5_6_11
      refine join_ (σ:=Value × Value × Value × Nat × Nat) 6 #[true,true,true,true,true,true,false,false,false,false,true,true,false,false] (fun s_ => [(30,.agg #[s_.1]),(32,.agg #[s_.2.1]),(34,.agg #[s_.2.2.1]),(10,.pointer (some ⟨s_.2.2.2.1,0,none⟩)),(11,.pointer (some ⟨s_.2.2.2.2,0,none⟩))]) (fun s_ w' => (w'.cell? ⟨gb257,0,none⟩ = some (.slice A2_0 l2_0.length c2_0)) ∧ (Kd.V (Kd.int .i64) 3 w' w.heap.size (fun k_ => k_ ≠ gb257 ∧ k_ ≠ s_.2.2.2.1 ∧ k_ ≠ s_.2.2.2.2) s_.1 t262) ∧ (Kd.V (Kd.int .i64) 3 w' w.heap.size (fun k_ => some k_ ≠ (.slice Ao19 x8_1.length co19 : Value).ownBlock ∧ k_ ≠ gb257 ∧ k_ ≠ s_.2.2.2.1 ∧ k_ ≠ s_.2.2.2.2) s_.2.1 t265) ∧ (Kd.V (Kd.int .i64) 3 w' w.heap.size (fun k_ => some k_ ≠ (.slice Ao19 x8_1.length co19 : Value).ownBlock ∧ k_ ≠ gb257 ∧ k_ ≠ s_.2.2.2.1 ∧ k_ ≠ s_.2.2.2.2) s_.2.2.1 t268) ∧ (Kd.R (Kd.int .i64) 3 w' w.heap.size (fun _ => True) (.slice Ao19 x8_1.length co19) x8_1) ∧ (w'.heap[gb257]? = some (.cells #[.slice A2_0 l2_0.length c2_0] 85 (0,0))) ∧ (w'.heap[s_.2.2.2.1]? = some (.cells #[.slice none 0 0] 85 (0,0))) ∧ (w'.heap[s_.2.2.2.2]? = some (.cells #[.slice none 0 0] 85 (0,0))) ∧ (w.heap.size ≤ s_.2.2.2.1) ∧ (w.heap.size ≤ s_.2.2.2.1) ∧ (gb257 ≠ s_.2.2.2.1) ∧ (s_.2.2.2.1 ≠ gb257) ∧ (s_.2.2.2.2 ≠ s_.2.2.2.1) ∧ (s_.2.2.2.1 ≠ s_.2.2.2.2) ∧ (w.heap.size ≤ s_.2.2.2.2) ∧ (w.heap.size ≤ s_.2.2.2.2) ∧ (gb257 ≠ s_.2.2.2.2) ∧ (s_.2.2.2.2 ≠ gb257) ∧ (Below w.heap.size w w')) ?_ ?_
      rotate_left
      ·intro hJ1_3_5_10_11
       refine join_ (σ:=Value × Value × Value × Value × Value) 4 (bl 10 4) (fun s_ => [(30,.agg #[s_.1]),(32,.agg #[s_.2.1]),(34,.agg #[s_.2.2.1]),(35,.tuple #[.agg #[s_.2.2.2.1],.agg #[s_.2.2.2.2]]),(28,.tuple #[.agg #[s_.2.2.2.1],.agg #[s_.2.2.2.2]]),(36,.agg #[s_.2.2.2.1]),(37,.agg #[s_.2.2.2.2])]) (fun s_ w' => (w'.cell? ⟨gb257,0,none⟩ = some (.slice A2_0 l2_0.length c2_0)) ∧ (Kd.V (Kd.int .i64) 3 w' w.heap.size (fun k_ => k_ ≠ gb257) s_.1 t262) ∧ (Kd.V (Kd.int .i64) 3 w' w.heap.size (fun k_ => some k_ ≠ (.slice Ao19 x8_1.length co19 : Value).ownBlock ∧ k_ ≠ gb257) s_.2.1 t265) ∧ (Kd.V (Kd.int .i64) 3 w' w.heap.size (fun k_ => some k_ ≠ (.slice Ao19 x8_1.length co19 : Value).ownBlock ∧ k_ ≠ gb257) s_.2.2.1 t268) ∧ (Kd.V (Kd.int .i64) 3 w' w.heap.size (fun k_ => some k_ ≠ (.slice Ao19 x8_1.length co19 : Value).ownBlock ∧ k_ ≠ gb257) s_.2.2.2.1 t271) ∧ (Kd.V (Kd.int .i64) 3 w' w.heap.size (fun k_ => some k_ ≠ (.slice Ao19 x8_1.length co19 : Value).ownBlock ∧ k_ ≠ gb257) s_.2.2.2.2 t274) ∧ (Kd.R (Kd.int .i64) 3 w' w.heap.size (fun _ => True) (.slice Ao19 x8_1.length co19) x8_1) ∧ (w'.heap[gb257]? = some (.cells #[.slice A2_0 l2_0.length c2_0] 85 (0,0))) ∧ (Below w.heap.size w w')) ?_ ?_
       rotate_left
       ·intro hJ1_3_5_6
        refine join_ (σ:=Value × Value × Value × Nat) 7 #[true,true,true,true,true,true,false,false,false,false,true,false,false,false] (fun s_ => [(30,.agg #[s_.1]),(32,.agg #[s_.2.1]),(34,.agg #[s_.2.2.1]),(10,.pointer (some ⟨s_.2.2.2,0,none⟩))]) (fun s_ w' => (w'.cell? ⟨gb257,0,none⟩ = some (.slice A2_0 l2_0.length c2_0)) ∧ (Kd.V (Kd.int .i64) 3 w' w.heap.size (fun k_ => k_ ≠ gb257 ∧ k_ ≠ s_.2.2.2) s_.1 t262) ∧ (Kd.V (Kd.int .i64) 3 w' w.heap.size (fun k_ => some k_ ≠ (.slice Ao19 x8_1.length co19 : Value).ownBlock ∧ k_ ≠ gb257 ∧ k_ ≠ s_.2.2.2) s_.2.1 t265) ∧ (Kd.V (Kd.int .i64) 3 w' w.heap.size (fun k_ => some k_ ≠ (.slice Ao19 x8_1.length co19 : Value).ownBlock ∧ k_ ≠ gb257 ∧ k_ ≠ s_.2.2.2) s_.2.2.1 t268) ∧ (Kd.R (Kd.int .i64) 3 w' w.heap.size (fun _ => True) (.slice Ao19 x8_1.length co19) x8_1) ∧ (w'.heap[gb257]? = some (.cells #[.slice A2_0 l2_0.length c2_0] 85 (0,0))) ∧ (w'.heap[s_.2.2.2]? = some (.cells #[.slice none 0 0] 85 (0,0))) ∧ (w.heap.size ≤ s_.2.2.2) ∧ (w.heap.size ≤ s_.2.2.2) ∧ (gb257 ≠ s_.2.2.2) ∧ (s_.2.2.2 ≠ gb257) ∧ (Below w.heap.size w w')) ?_ ?_
        rotate_left
        ·intro hJ1_3_5_10
         refine join_ (σ:=Value × Value × Value × Nat) 7 #[true,true,true,true,true,true,false,false,false,false,false,true,false,false] (fun s_ => [(30,.agg #[s_.1]),(32,.agg #[s_.2.1]),(34,.agg #[s_.2.2.1]),(11,.pointer (some ⟨s_.2.2.2,0,none⟩))]) (fun s_ w' => (w'.cell? ⟨gb257,0,none⟩ = some (.slice A2_0 l2_0.length c2_0)) ∧ (Kd.V (Kd.int .i64) 3 w' w.heap.size (fun k_ => k_ ≠ gb257 ∧ k_ ≠ s_.2.2.2) s_.1 t262) ∧ (Kd.V (Kd.int .i64) 3 w' w.heap.size (fun k_ => some k_ ≠ (.slice Ao19 x8_1.length co19 : Value).ownBlock ∧ k_ ≠ gb257 ∧ k_ ≠ s_.2.2.2) s_.2.1 t265) ∧ (Kd.V (Kd.int .i64) 3 w' w.heap.size (fun k_ => some k_ ≠ (.slice Ao19 x8_1.length co19 : Value).ownBlock ∧ k_ ≠ gb257 ∧ k_ ≠ s_.2.2.2) s_.2.2.1 t268) ∧ (Kd.R (Kd.int .i64) 3 w' w.heap.size (fun _ => True) (.slice Ao19 x8_1.length co19) x8_1) ∧ (w'.heap[gb257]? = some (.cells #[.slice A2_0 l2_0.length c2_0] 85 (0,0))) ∧ (w'.heap[s_.2.2.2]? = some (.cells #[.slice none 0 0] 85 (0,0))) ∧ (w.heap.size ≤ s_.2.2.2) ∧ (w.heap.size ≤ s_.2.2.2) ∧ (gb257 ≠ s_.2.2.2) ∧ (s_.2.2.2 ≠ gb257) ∧ (Below w.heap.size w w')) ?_ ?_
         rotate_left
         ·intro hJ1_3_5_11
          refine join_ (σ:=Value × Value × Nat × Nat) 7 #[true,true,true,true,true,false,false,false,false,false,true,true,false,false] (fun s_ => [(30,.agg #[s_.1]),(32,.agg #[s_.2.1]),(10,.pointer (some ⟨s_.2.2.1,0,none⟩)),(11,.pointer (some ⟨s_.2.2.2,0,none⟩))]) (fun s_ w' => (w'.cell? ⟨gb257,0,none⟩ = some (.slice A2_0 l2_0.length c2_0)) ∧ (Kd.V (Kd.int .i64) 3 w' w.heap.size (fun k_ => k_ ≠ gb257 ∧ k_ ≠ s_.2.2.1 ∧ k_ ≠ s_.2.2.2) s_.1 t262) ∧ (Kd.V (Kd.int .i64) 3 w' w.heap.size (fun k_ => some k_ ≠ (.slice Ao19 x8_1.length co19 : Value).ownBlock ∧ k_ ≠ gb257 ∧ k_ ≠ s_.2.2.1 ∧ k_ ≠ s_.2.2.2) s_.2.1 t265) ∧ (Kd.R (Kd.int .i64) 3 w' w.heap.size (fun _ => True) (.slice Ao19 x8_1.length co19) x8_1) ∧ (w'.heap[gb257]? = some (.cells #[.slice A2_0 l2_0.length c2_0] 85 (0,0))) ∧ (w'.heap[s_.2.2.1]? = some (.cells #[.slice none 0 0] 85 (0,0))) ∧ (w'.heap[s_.2.2.2]? = some (.cells #[.slice none 0 0] 85 (0,0))) ∧ (w.heap.size ≤ s_.2.2.1) ∧ (w.heap.size ≤ s_.2.2.1) ∧ (gb257 ≠ s_.2.2.1) ∧ (s_.2.2.1 ≠ gb257) ∧ (s_.2.2.2 ≠ s_.2.2.1) ∧ (s_.2.2.1 ≠ s_.2.2.2) ∧ (w.heap.size ≤ s_.2.2.2) ∧ (w.heap.size ≤ s_.2.2.2) ∧ (gb257 ≠ s_.2.2.2) ∧ (s_.2.2.2 ≠ gb257) ∧ (Below w.heap.size w w')) ?_ ?_
          rotate_left
          ·intro hJ1_3_10_11
           refine join_ (σ:=Value × Value × Value) 8 (bl 6 8) (fun s_ => [(30,.agg #[s_.1]),(32,.agg #[s_.2.1]),(34,.agg #[s_.2.2])]) (fun s_ w' => (w'.cell? ⟨gb257,0,none⟩ = some (.slice A2_0 l2_0.length c2_0)) ∧ (Kd.V (Kd.int .i64) 3 w' w.heap.size (fun k_ => k_ ≠ gb257) s_.1 t262) ∧ (Kd.V (Kd.int .i64) 3 w' w.heap.size (fun k_ => some k_ ≠ (.slice Ao19 x8_1.length co19 : Value).ownBlock ∧ k_ ≠ gb257) s_.2.1 t265) ∧ (Kd.V (Kd.int .i64) 3 w' w.heap.size (fun k_ => some k_ ≠ (.slice Ao19 x8_1.length co19 : Value).ownBlock ∧ k_ ≠ gb257) s_.2.2 t268) ∧ (Kd.R (Kd.int .i64) 3 w' w.heap.size (fun _ => True) (.slice Ao19 x8_1.length co19) x8_1) ∧ (w'.heap[gb257]? = some (.cells #[.slice A2_0 l2_0.length c2_0] 85 (0,0))) ∧ (Below w.heap.size w w')) ?_ ?_
           rotate_left
           ·intro hJ1_3_5
            refine join_ (σ:=Value × Value × Nat) 8 #[true,true,true,true,true,false,false,false,false,false,true,false,false,false] (fun s_ => [(30,.agg #[s_.1]),(32,.agg #[s_.2.1]),(10,.pointer (some ⟨s_.2.2,0,none⟩))]) (fun s_ w' => (w'.cell? ⟨gb257,0,none⟩ = some (.slice A2_0 l2_0.length c2_0)) ∧ (Kd.V (Kd.int .i64) 3 w' w.heap.size (fun k_ => k_ ≠ gb257 ∧ k_ ≠ s_.2.2) s_.1 t262) ∧ (Kd.V (Kd.int .i64) 3 w' w.heap.size (fun k_ => some k_ ≠ (.slice Ao19 x8_1.length co19 : Value).ownBlock ∧ k_ ≠ gb257 ∧ k_ ≠ s_.2.2) s_.2.1 t265) ∧ (Kd.R (Kd.int .i64) 3 w' w.heap.size (fun _ => True) (.slice Ao19 x8_1.length co19) x8_1) ∧ (w'.heap[gb257]? = some (.cells #[.slice A2_0 l2_0.length c2_0] 85 (0,0))) ∧ (w'.heap[s_.2.2]? = some (.cells #[.slice none 0 0] 85 (0,0))) ∧ (w.heap.size ≤ s_.2.2) ∧ (w.heap.size ≤ s_.2.2) ∧ (gb257 ≠ s_.2.2) ∧ (s_.2.2 ≠ gb257) ∧ (Below w.heap.size w w')) ?_ ?_
            rotate_left
            ·intro hJ1_3_10
             refine join_ (σ:=Value × Value × Nat) 8 #[true,true,true,true,true,false,false,false,false,false,false,true,false,false] (fun s_ => [(30,.agg #[s_.1]),(32,.agg #[s_.2.1]),(11,.pointer (some ⟨s_.2.2,0,none⟩))]) (fun s_ w' => (w'.cell? ⟨gb257,0,none⟩ = some (.slice A2_0 l2_0.length c2_0)) ∧ (Kd.V (Kd.int .i64) 3 w' w.heap.size (fun k_ => k_ ≠ gb257 ∧ k_ ≠ s_.2.2) s_.1 t262) ∧ (Kd.V (Kd.int .i64) 3 w' w.heap.size (fun k_ => some k_ ≠ (.slice Ao19 x8_1.length co19 : Value).ownBlock ∧ k_ ≠ gb257 ∧ k_ ≠ s_.2.2) s_.2.1 t265) ∧ (Kd.R (Kd.int .i64) 3 w' w.heap.size (fun _ => True) (.slice Ao19 x8_1.length co19) x8_1) ∧ (w'.heap[gb257]? = some (.cells #[.slice A2_0 l2_0.length c2_0] 85 (0,0))) ∧ (w'.heap[s_.2.2]? = some (.cells #[.slice none 0 0] 85 (0,0))) ∧ (w.heap.size ≤ s_.2.2) ∧ (w.heap.size ≤ s_.2.2) ∧ (gb257 ≠ s_.2.2) ∧ (s_.2.2 ≠ gb257) ∧ (Below w.heap.size w w')) ?_ ?_
             rotate_left
             ·intro hJ1_3_11
              refine join_ (σ:=Value × Nat × Nat) 8 #[true,true,true,false,true,false,false,false,false,false,true,true,false,false] (fun s_ => [(30,.agg #[s_.1]),(10,.pointer (some ⟨s_.2.1,0,none⟩)),(11,.pointer (some ⟨s_.2.2,0,none⟩))]) (fun s_ w' => (w'.cell? ⟨gb257,0,none⟩ = some (.slice A2_0 l2_0.length c2_0)) ∧ (Kd.V (Kd.int .i64) 3 w' w.heap.size (fun k_ => k_ ≠ gb257 ∧ k_ ≠ s_.2.1 ∧ k_ ≠ s_.2.2) s_.1 t262) ∧ (Kd.R (Kd.int .i64) 3 w' w.heap.size (fun _ => True) (.slice Ao19 x8_1.length co19) x8_1) ∧ (w'.heap[gb257]? = some (.cells #[.slice A2_0 l2_0.length c2_0] 85 (0,0))) ∧ (w'.heap[s_.2.1]? = some (.cells #[.slice none 0 0] 85 (0,0))) ∧ (w'.heap[s_.2.2]? = some (.cells #[.slice none 0 0] 85 (0,0))) ∧ (w.heap.size ≤ s_.2.1) ∧ (w.heap.size ≤ s_.2.1) ∧ (gb257 ≠ s_.2.1) ∧ (s_.2.1 ≠ gb257) ∧ (s_.2.2 ≠ s_.2.1) ∧ (s_.2.1 ≠ s_.2.2) ∧ (w.heap.size ≤ s_.2.2) ∧ (w.heap.size ≤ s_.2.2) ∧ (gb257 ≠ s_.2.2) ∧ (s_.2.2 ≠ gb257) ∧ (Below w.heap.size w w')) ?_ ?_
              rotate_left
              ·intro hJ1_10_11
               refine join_ (σ:=Value × Value) 9 (bl 5 9) (fun s_ => [(30,.agg #[s_.1]),(32,.agg #[s_.2])]) (fun s_ w' => (w'.cell? ⟨gb257,0,none⟩ = some (.slice A2_0 l2_0.length c2_0)) ∧ (Kd.V (Kd.int .i64) 3 w' w.heap.size (fun k_ => k_ ≠ gb257) s_.1 t262) ∧ (Kd.V (Kd.int .i64) 3 w' w.heap.size (fun k_ => some k_ ≠ (.slice Ao19 x8_1.length co19 : Value).ownBlock ∧ k_ ≠ gb257) s_.2 t265) ∧ (Kd.R (Kd.int .i64) 3 w' w.heap.size (fun _ => True) (.slice Ao19 x8_1.length co19) x8_1) ∧ (w'.heap[gb257]? = some (.cells #[.slice A2_0 l2_0.length c2_0] 85 (0,0))) ∧ (Below w.heap.size w w')) ?_ ?_
               rotate_left
               ·intro hJ1_3
                refine join_ (σ:=Value × Nat) 9 #[true,true,true,false,true,false,false,false,false,false,true,false,false,false] (fun s_ => [(30,.agg #[s_.1]),(10,.pointer (some ⟨s_.2,0,none⟩))]) (fun s_ w' => (w'.cell? ⟨gb257,0,none⟩ = some (.slice A2_0 l2_0.length c2_0)) ∧ (Kd.V (Kd.int .i64) 3 w' w.heap.size (fun k_ => k_ ≠ gb257 ∧ k_ ≠ s_.2) s_.1 t262) ∧ (Kd.R (Kd.int .i64) 3 w' w.heap.size (fun _ => True) (.slice Ao19 x8_1.length co19) x8_1) ∧ (w'.heap[gb257]? = some (.cells #[.slice A2_0 l2_0.length c2_0] 85 (0,0))) ∧ (w'.heap[s_.2]? = some (.cells #[.slice none 0 0] 85 (0,0))) ∧ (w.heap.size ≤ s_.2) ∧ (w.heap.size ≤ s_.2) ∧ (gb257 ≠ s_.2) ∧ (s_.2 ≠ gb257) ∧ (Below w.heap.size w w')) ?_ ?_
                rotate_left
                ·intro hJ1_10
                 refine join_ (σ:=Value × Nat) 9 #[true,true,true,false,true,false,false,false,false,false,false,true,false,false] (fun s_ => [(30,.agg #[s_.1]),(11,.pointer (some ⟨s_.2,0,none⟩))]) (fun s_ w' => (w'.cell? ⟨gb257,0,none⟩ = some (.slice A2_0 l2_0.length c2_0)) ∧ (Kd.V (Kd.int .i64) 3 w' w.heap.size (fun k_ => k_ ≠ gb257 ∧ k_ ≠ s_.2) s_.1 t262) ∧ (Kd.R (Kd.int .i64) 3 w' w.heap.size (fun _ => True) (.slice Ao19 x8_1.length co19) x8_1) ∧ (w'.heap[gb257]? = some (.cells #[.slice A2_0 l2_0.length c2_0] 85 (0,0))) ∧ (w'.heap[s_.2]? = some (.cells #[.slice none 0 0] 85 (0,0))) ∧ (w.heap.size ≤ s_.2) ∧ (w.heap.size ≤ s_.2) ∧ (gb257 ≠ s_.2) ∧ (s_.2 ≠ gb257) ∧ (Below w.heap.size w w')) ?_ ?_
                 rotate_left
                 ·intro hJ1_11
                  refine join_ (σ:=Nat × Nat) 9 #[true,false,true,false,true,false,false,false,false,false,true,true,false,false] (fun s_ => [(10,.pointer (some ⟨s_.1,0,none⟩)),(11,.pointer (some ⟨s_.2,0,none⟩))]) (fun s_ w' => (w'.cell? ⟨gb257,0,none⟩ = some (.slice A2_0 l2_0.length c2_0)) ∧ (Kd.R (Kd.int .i64) 3 w' w.heap.size (fun _ => True) (.slice Ao19 x8_1.length co19) x8_1) ∧ (w'.heap[gb257]? = some (.cells #[.slice A2_0 l2_0.length c2_0] 85 (0,0))) ∧ (w'.heap[s_.1]? = some (.cells #[.slice none 0 0] 85 (0,0))) ∧ (w'.heap[s_.2]? = some (.cells #[.slice none 0 0] 85 (0,0))) ∧ (w.heap.size ≤ s_.1) ∧ (w.heap.size ≤ s_.1) ∧ (gb257 ≠ s_.1) ∧ (s_.1 ≠ gb257) ∧ (s_.2 ≠ s_.1) ∧ (s_.1 ≠ s_.2) ∧ (w.heap.size ≤ s_.2) ∧ (w.heap.size ≤ s_.2) ∧ (gb257 ≠ s_.2) ∧ (s_.2 ≠ gb257) ∧ (Below w.heap.size w w')) ?_ ?_
                  rotate_left
                  ·intro hJ10_11
                   refine join_ (σ:=Value) 10 #[true,true,true,false,true,false,false,false,false,false,false,false,false,false] (fun s_ => [(30,.agg #[s_])]) (fun s_ w' => (w'.cell? ⟨gb257,0,none⟩ = some (.slice A2_0 l2_0.length c2_0)) ∧ (Kd.V (Kd.int .i64) 3 w' w.heap.size (fun k_ => k_ ≠ gb257) s_ t262) ∧ (Kd.R (Kd.int .i64) 3 w' w.heap.size (fun _ => True) (.slice Ao19 x8_1.length co19) x8_1) ∧ (w'.heap[gb257]? = some (.cells #[.slice A2_0 l2_0.length c2_0] 85 (0,0))) ∧ (Below w.heap.size w w')) ?_ ?_
                   rotate_left
                   ·intro hJ1
                    refine join_ (σ:=Nat) 10 #[true,false,true,false,true,false,false,false,false,false,true,false,false,false] (fun s_ => [(10,.pointer (some ⟨s_,0,none⟩))]) (fun s_ w' => (w'.cell? ⟨gb257,0,none⟩ = some (.slice A2_0 l2_0.length c2_0)) ∧ (Kd.R (Kd.int .i64) 3 w' w.heap.size (fun _ => True) (.slice Ao19 x8_1.length co19) x8_1) ∧ (w'.heap[gb257]? = some (.cells #[.slice A2_0 l2_0.length c2_0] 85 (0,0))) ∧ (w'.heap[s_]? = some (.cells #[.slice none 0 0] 85 (0,0))) ∧ (w.heap.size ≤ s_) ∧ (w.heap.size ≤ s_) ∧ (gb257 ≠ s_) ∧ (s_ ≠ gb257) ∧ (Below w.heap.size w w')) ?_ ?_
                    rotate_left
                    ·intro hJ10
                     refine join_ (σ:=Nat) 10 #[true,false,true,false,true,false,false,false,false,false,false,true,false,false] (fun s_ => [(11,.pointer (some ⟨s_,0,none⟩))]) (fun s_ w' => (w'.cell? ⟨gb257,0,none⟩ = some (.slice A2_0 l2_0.length c2_0)) ∧ (Kd.R (Kd.int .i64) 3 w' w.heap.size (fun _ => True) (.slice Ao19 x8_1.length co19) x8_1) ∧ (w'.heap[gb257]? = some (.cells #[.slice A2_0 l2_0.length c2_0] 85 (0,0))) ∧ (w'.heap[s_]? = some (.cells #[.slice none 0 0] 85 (0,0))) ∧ (w.heap.size ≤ s_) ∧ (w.heap.size ≤ s_) ∧ (gb257 ≠ s_) ∧ (s_ ≠ gb257) ∧ (Below w.heap.size w w')) ?_ ?_
                     rotate_left
                     ·intro hJ11
                      refine three_ (i:=1) (j:=10) (k:=11) (Ni:=some 30) (Nj:=some 10) (Nk:=some 11) #[true,true,true,false,true,false,false,false,false,false,false,false,false,false] #[true,false,true,false,true,false,false,false,false,false,true,false,false,false] #[true,false,true,false,true,false,false,false,false,false,false,true,false,false] rfl rfl rfl rfl rfl rfl (three_of HT_.out (by kernel_rfl)) (by decide) (by decide) (by decide) (fun K hK => ?_) (fun K hK => ?_) (fun K hK => ?_)
                      ·skip
                       refine goes_ Tryz.func84 (by kernel_rfl) rfl #[.slice Ao19 x8_1.length co19] (by rfl) rfl rfl (by (try simp only [List.map_toArray,List.map_cons,List.map_nil]);first|done|rfl|(simp only [List.length_drop,List.length_take];rfl)) ?_
                       with_reducible refine (bursarref03_cut.calls k1 (fun k_ => some k_ = (.slice Ao19 x8_1.length co19 : Value).ownBlock) _ _ x8_1 t262 _ ?side1 A10.out).mono ?_
                       (case side1 => exact Kd.R_V (Kd.R_tight rfl (Kd.R_types (HO_8.out) BK257.out (by decide))))
                       rintro e w21 ⟨v263,rfl,ho0,hb⟩
                       refine ⟨_,rfl,?_⟩
                       have n0_:=Aside0.mk (Kd.R_below (HO_8.out) hb)
                       have n1_:=Aside0.mk (Kd.V_lower (Kd.V_mono (ok':=fun k_ => k_ ≠ gb257) ho0 (fun k_ hk_ => Or.elim hk_ (fun hs_ => ((Kd.R_types (HO_8.out) BK257.out (by decide)).1 k_ hs_.symm).2) (fun hn_ => (Kd.freshB (g:=gb257) (o:=.cells #[.slice A2_0 l2_0.length c2_0] 85 (0,0)) (BK257.out) k_ hn_)))) (below_size (by repeat (first|(with_reducible first|exact HB.out|apply below_alloc|apply pw_below_drewN|apply below_drew1|refine below_set ?_ GE257.out)|exact HB.out))))
                       have n2_:=Aside0.mk (blk_below (g:=gb257) (o:=.cells #[.slice A2_0 l2_0.length c2_0] 85 (0,0)) (BK257.out) hb)
                       have n3_:=Aside0.mk (below_step (by repeat (first|(with_reducible first|exact HB.out|apply below_alloc|apply pw_below_drewN|apply below_drew1|refine below_set ?_ GE257.out)|exact HB.out)) hb)
                       clear HO_8;clear BK257;clear HB;have HO_8:=n0_;have HO264:=n1_;have BK257:=n2_;have HB:=n3_;clear n0_ n1_ n2_ n3_;(try clear hb);(try clear hb2);(try clear hk);(try clear hi);(try clear ho0)
                       refine hK.out _ _ ((blk_cell BK257.out 0).trans rfl) (fun hHeld => ?_)
                       clear hK K
                       refine norm_ (a':=?_) ?_ ?_
                       rotate_left
                       ·show Act.put _ (some 30) _ = _
                        simp only [pu_]
                        rfl
                       exact norm_ (by first|(simp only [putAll,pu_];done)|(simp only [putAll,pu_];rfl)) (hJ1 (v263) _ ⟨hHeld,(HO264.out),(HO_8.out),(BK257.out),(by repeat (first|(with_reducible first|exact HB.out|apply below_alloc|apply pw_below_drewN|apply below_drew1|refine below_set ?_ GE257.out)|exact HB.out))⟩)
                      ·skip
                       refine box_step ?hg (N:=10) ?hd (cs:=#[.slice none 0 0]) (t:=85) ?hr ?_;(case hd => rfl);(case hg => rfl);(case hr => first|(go_simp;done)|(go_simp;rfl))
                       intro gb277 hg w21 hbox hb
                       have n0_:=Aside0.mk (Kd.R_below (HO_8.out) hb)
                       have n1_:=Aside0.mk (blk_below (g:=gb257) (o:=.cells #[.slice A2_0 l2_0.length c2_0] 85 (0,0)) (BK257.out) hb)
                       have n2_:=Aside0.mk (below_step (by repeat (first|(with_reducible first|exact HB.out|apply below_alloc|apply pw_below_drewN|apply below_drew1|refine below_set ?_ GE257.out)|exact HB.out)) hb)
                       have n3_:=Aside0.mk (hbox)
                       have n4_:=Aside0.mk ((by rw [hg];exact (below_size (by repeat (first|(with_reducible first|exact HB.out|apply below_alloc|apply pw_below_drewN|apply below_drew1|refine below_set ?_ GE257.out)|exact HB.out))) : w.heap.size ≤ gb277))
                       have n5_:=Aside0.mk ((by rw [hg];exact (below_size (by repeat (first|(with_reducible first|exact HB.out|apply below_alloc|apply pw_below_drewN|apply below_drew1|refine below_set ?_ GE257.out)|exact HB.out))) : w.heap.size ≤ gb277))
                       have n6_:=Aside0.mk ((by rw [hg];exact Nat.ne_of_lt (blk_lt (g:=gb257) (o:=.cells #[.slice A2_0 l2_0.length c2_0] 85 (0,0)) (BK257.out)) : gb257 ≠ gb277))
                       have n7_:=Aside0.mk ((by rw [hg];exact Nat.ne_of_gt (blk_lt (g:=gb257) (o:=.cells #[.slice A2_0 l2_0.length c2_0] 85 (0,0)) (BK257.out)) : gb277 ≠ gb257))
                       clear HO_8;clear BK257;clear HB;have HO_8:=n0_;have BK257:=n1_;have HB:=n2_;have BK277:=n3_;have GW277:=n4_;have GE277:=n5_;have NB257_277:=n6_;have NB277_257:=n7_;clear n0_ n1_ n2_ n3_ n4_ n5_ n6_ n7_;clear hb hbox hg
                       refine hK.out _ _ ((blk_cell BK257.out 0).trans rfl) (fun hHeld => ?_)
                       clear hK K
                       refine norm_ (a':=?_) ?_ ?_
                       rotate_left
                       ·show Act.put _ (some 10) _ = _
                        simp only [pu_]
                        rfl
                       exact norm_ (by first|(simp only [putAll,pu_];done)|(simp only [putAll,pu_];rfl)) (hJ10 (gb277) _ ⟨hHeld,(HO_8.out),(BK257.out),(BK277.out),GW277.out,GE277.out,NB257_277.out,NB277_257.out,(by repeat (first|(with_reducible first|exact HB.out|apply below_alloc|apply pw_below_drewN|apply below_drew1|refine below_set ?_ GE257.out|refine below_set ?_ GE277.out)|exact HB.out))⟩)
                      ·skip
                       refine box_step ?hg (N:=11) ?hd (cs:=#[.slice none 0 0]) (t:=85) ?hr ?_;(case hd => rfl);(case hg => rfl);(case hr => first|(go_simp;done)|(go_simp;rfl))
                       intro gb278 hg w21 hbox hb
                       have n0_:=Aside0.mk (Kd.R_below (HO_8.out) hb)
                       have n1_:=Aside0.mk (blk_below (g:=gb257) (o:=.cells #[.slice A2_0 l2_0.length c2_0] 85 (0,0)) (BK257.out) hb)
                       have n2_:=Aside0.mk (below_step (by repeat (first|(with_reducible first|exact HB.out|apply below_alloc|apply pw_below_drewN|apply below_drew1|refine below_set ?_ GE257.out)|exact HB.out)) hb)
                       have n3_:=Aside0.mk (hbox)
                       have n4_:=Aside0.mk ((by rw [hg];exact (below_size (by repeat (first|(with_reducible first|exact HB.out|apply below_alloc|apply pw_below_drewN|apply below_drew1|refine below_set ?_ GE257.out)|exact HB.out))) : w.heap.size ≤ gb278))
                       have n5_:=Aside0.mk ((by rw [hg];exact (below_size (by repeat (first|(with_reducible first|exact HB.out|apply below_alloc|apply pw_below_drewN|apply below_drew1|refine below_set ?_ GE257.out)|exact HB.out))) : w.heap.size ≤ gb278))
                       have n6_:=Aside0.mk ((by rw [hg];exact Nat.ne_of_lt (blk_lt (g:=gb257) (o:=.cells #[.slice A2_0 l2_0.length c2_0] 85 (0,0)) (BK257.out)) : gb257 ≠ gb278))
                       have n7_:=Aside0.mk ((by rw [hg];exact Nat.ne_of_gt (blk_lt (g:=gb257) (o:=.cells #[.slice A2_0 l2_0.length c2_0] 85 (0,0)) (BK257.out)) : gb278 ≠ gb257))
                       clear HO_8;clear BK257;clear HB;have HO_8:=n0_;have BK257:=n1_;have HB:=n2_;have BK278:=n3_;have GW278:=n4_;have GE278:=n5_;have NB257_278:=n6_;have NB278_257:=n7_;clear n0_ n1_ n2_ n3_ n4_ n5_ n6_ n7_;clear hb hbox hg
                       refine hK.out _ _ ((blk_cell BK257.out 0).trans rfl) (fun hHeld => ?_)
                       clear hK K
                       refine norm_ (a':=?_) ?_ ?_
                       rotate_left
                       ·show Act.put _ (some 11) _ = _
                        simp only [pu_]
                        rfl
                       exact norm_ (by first|(simp only [putAll,pu_];done)|(simp only [putAll,pu_];rfl)) (hJ11 (gb278) _ ⟨hHeld,(HO_8.out),(BK257.out),(BK278.out),GW278.out,GE278.out,NB257_278.out,NB278_257.out,(by repeat (first|(with_reducible first|exact HB.out|apply below_alloc|apply pw_below_drewN|apply below_drew1|refine below_set ?_ GE257.out|refine below_set ?_ GE278.out)|exact HB.out))⟩)
                     ·skip
                      rintro gb278 w22 ⟨hS_,h0_,h1_,h2_,h3_,h4_,h5_,h6_,h7_⟩
                      have n0_ : Aside0 (Kd.R (Kd.int .i64) 3 w22 w.heap.size (fun _ => True) (.slice Ao19 x8_1.length co19) x8_1):=⟨h0_⟩
                      have n1_ : Aside0 (w22.heap[gb257]? = some (.cells #[.slice A2_0 l2_0.length c2_0] 85 (0,0))):=⟨h1_⟩
                      have n2_ : Aside0 (w22.heap[gb278]? = some (.cells #[.slice none 0 0] 85 (0,0))):=⟨h2_⟩
                      have n3_ : Aside0 (w.heap.size ≤ gb278):=⟨h3_⟩
                      have n4_ : Aside0 (w.heap.size ≤ gb278):=⟨h4_⟩
                      have n5_ : Aside0 (gb257 ≠ gb278):=⟨h5_⟩
                      have n6_ : Aside0 (gb278 ≠ gb257):=⟨h6_⟩
                      have n7_ : Aside0 (Below w.heap.size w w22):=⟨h7_⟩
                      clear HO_8;clear BK257;clear HB;clear h0_ h1_ h2_ h3_ h4_ h5_ h6_ h7_;have HO_8:=n0_;have BK257:=n1_;have BK278:=n2_;have GW278:=n3_;have GE278:=n4_;have NB257_278:=n5_;have NB278_257:=n6_;have HB:=n7_;clear n0_ n1_ n2_ n3_ n4_ n5_ n6_ n7_
                      have hHeld : w22.cell? ⟨gb257,0,none⟩ = some (.slice A2_0 l2_0.length c2_0):=hS_
                      refine norm_ (a':=?_) ?_ ?_
                      rotate_left
                      ·simp only [putAll,pu_]
                       rfl
                      refine two_ (i:=1) (j:=10) (Ni:=some 30) (Nj:=some 10) #[true,true,true,false,true,false,false,false,false,false,false,true,false,false] #[true,false,true,false,true,false,false,false,false,false,true,true,false,false] rfl rfl rfl rfl (two_of HT_.out (by kernel_rfl)) (by decide) (by decide) (fun K hK => ?_) (fun K hK => ?_)
                      ·skip
                       refine goes_ Tryz.func84 (by kernel_rfl) rfl #[.slice Ao19 x8_1.length co19] (by rfl) rfl rfl (by (try simp only [List.map_toArray,List.map_cons,List.map_nil]);first|done|rfl|(simp only [List.length_drop,List.length_take];rfl)) ?_
                       with_reducible refine (bursarref03_cut.calls k1 (fun k_ => some k_ = (.slice Ao19 x8_1.length co19 : Value).ownBlock) _ _ x8_1 t262 _ ?side1 A10.out).mono ?_
                       (case side1 => exact Kd.R_V (Kd.R_tight rfl (Kd.R_types (Kd.R_types (HO_8.out) BK257.out (by decide)) BK278.out (by decide))))
                       rintro e w23 ⟨v263,rfl,ho0,hb⟩
                       refine ⟨_,rfl,?_⟩
                       have n0_:=Aside0.mk (Kd.R_below (HO_8.out) hb)
                       have n1_:=Aside0.mk (Kd.V_lower (Kd.V_mono (ok':=fun k_ => k_ ≠ gb257 ∧ k_ ≠ gb278) ho0 (fun k_ hk_ => ⟨Or.elim hk_ (fun hs_ => ((Kd.R_types (Kd.R_types (HO_8.out) BK257.out (by decide)) BK278.out (by decide)).1 k_ hs_.symm).1.2) (fun hn_ => (Kd.freshB (g:=gb257) (o:=.cells #[.slice A2_0 l2_0.length c2_0] 85 (0,0)) (BK257.out) k_ hn_)),Or.elim hk_ (fun hs_ => ((Kd.R_types (Kd.R_types (HO_8.out) BK257.out (by decide)) BK278.out (by decide)).1 k_ hs_.symm).2) (fun hn_ => (Kd.freshB (g:=gb278) (o:=.cells #[.slice none 0 0] 85 (0,0)) (BK278.out) k_ hn_))⟩)) (below_size (by repeat (first|(with_reducible first|exact HB.out|apply below_alloc|apply pw_below_drewN|apply below_drew1|refine below_set ?_ GE257.out|refine below_set ?_ GE278.out)|exact HB.out))))
                       have n2_:=Aside0.mk (blk_below (g:=gb257) (o:=.cells #[.slice A2_0 l2_0.length c2_0] 85 (0,0)) (BK257.out) hb)
                       have n3_:=Aside0.mk (blk_below (g:=gb278) (o:=.cells #[.slice none 0 0] 85 (0,0)) (BK278.out) hb)
                       have n4_:=Aside0.mk (below_step (by repeat (first|(with_reducible first|exact HB.out|apply below_alloc|apply pw_below_drewN|apply below_drew1|refine below_set ?_ GE257.out|refine below_set ?_ GE278.out)|exact HB.out)) hb)
                       clear HO_8;clear BK257;clear BK278;clear HB;have HO_8:=n0_;have HO264:=n1_;have BK257:=n2_;have BK278:=n3_;have HB:=n4_;clear n0_ n1_ n2_ n3_ n4_;(try clear hb);(try clear hb2);(try clear hk);(try clear hi);(try clear ho0)
                       refine hK.out _ _ ((blk_cell BK257.out 0).trans rfl) (fun hHeld => ?_)
                       clear hK K
                       refine norm_ (a':=?_) ?_ ?_
                       rotate_left
                       ·show Act.put _ (some 30) _ = _
                        simp only [pu_]
                        rfl
                       exact norm_ (by first|(simp only [putAll,pu_];done)|(simp only [putAll,pu_];rfl)) (hJ1_11 (v263,gb278) _ ⟨hHeld,(HO264.out),(HO_8.out),(BK257.out),(BK278.out),GW278.out,GE278.out,NB257_278.out,NB278_257.out,(by repeat (first|(with_reducible first|exact HB.out|apply below_alloc|apply pw_below_drewN|apply below_drew1|refine below_set ?_ GE257.out|refine below_set ?_ GE278.out)|exact HB.out))⟩)
                      ·skip
                       refine box_step ?hg (N:=10) ?hd (cs:=#[.slice none 0 0]) (t:=85) ?hr ?_;(case hd => rfl);(case hg => rfl);(case hr => first|(go_simp;done)|(go_simp;rfl))
                       intro gb277 hg w23 hbox hb
                       have n0_:=Aside0.mk (Kd.R_below (HO_8.out) hb)
                       have n1_:=Aside0.mk (blk_below (g:=gb257) (o:=.cells #[.slice A2_0 l2_0.length c2_0] 85 (0,0)) (BK257.out) hb)
                       have n2_:=Aside0.mk (blk_below (g:=gb278) (o:=.cells #[.slice none 0 0] 85 (0,0)) (BK278.out) hb)
                       have n3_:=Aside0.mk (below_step (by repeat (first|(with_reducible first|exact HB.out|apply below_alloc|apply pw_below_drewN|apply below_drew1|refine below_set ?_ GE257.out|refine below_set ?_ GE278.out)|exact HB.out)) hb)
                       have n4_:=Aside0.mk (hbox)
                       have n5_:=Aside0.mk ((by rw [hg];exact (below_size (by repeat (first|(with_reducible first|exact HB.out|apply below_alloc|apply pw_below_drewN|apply below_drew1|refine below_set ?_ GE257.out|refine below_set ?_ GE278.out)|exact HB.out))) : w.heap.size ≤ gb277))
                       have n6_:=Aside0.mk ((by rw [hg];exact (below_size (by repeat (first|(with_reducible first|exact HB.out|apply below_alloc|apply pw_below_drewN|apply below_drew1|refine below_set ?_ GE257.out|refine below_set ?_ GE278.out)|exact HB.out))) : w.heap.size ≤ gb277))
                       have n7_:=Aside0.mk ((by rw [hg];exact Nat.ne_of_lt (blk_lt (g:=gb257) (o:=.cells #[.slice A2_0 l2_0.length c2_0] 85 (0,0)) (BK257.out)) : gb257 ≠ gb277))
                       have n8_:=Aside0.mk ((by rw [hg];exact Nat.ne_of_gt (blk_lt (g:=gb257) (o:=.cells #[.slice A2_0 l2_0.length c2_0] 85 (0,0)) (BK257.out)) : gb277 ≠ gb257))
                       have n9_:=Aside0.mk ((by rw [hg];exact Nat.ne_of_lt (blk_lt (g:=gb278) (o:=.cells #[.slice none 0 0] 85 (0,0)) (BK278.out)) : gb278 ≠ gb277))
                       have n10_:=Aside0.mk ((by rw [hg];exact Nat.ne_of_gt (blk_lt (g:=gb278) (o:=.cells #[.slice none 0 0] 85 (0,0)) (BK278.out)) : gb277 ≠ gb278))
                       clear HO_8;clear BK257;clear BK278;clear HB;have HO_8:=n0_;have BK257:=n1_;have BK278:=n2_;have HB:=n3_;have BK277:=n4_;have GW277:=n5_;have GE277:=n6_;have NB257_277:=n7_;have NB277_257:=n8_;have NB278_277:=n9_;have NB277_278:=n10_;clear n0_ n1_ n2_ n3_ n4_ n5_ n6_ n7_ n8_ n9_ n10_;clear hb hbox hg
                       refine hK.out _ _ ((blk_cell BK257.out 0).trans rfl) (fun hHeld => ?_)
                       clear hK K
                       refine norm_ (a':=?_) ?_ ?_
                       rotate_left
                       ·show Act.put _ (some 10) _ = _
                        simp only [pu_]
                        rfl
                       exact norm_ (by first|(simp only [putAll,pu_];done)|(simp only [putAll,pu_];rfl)) (hJ10_11 (gb277,gb278) _ ⟨hHeld,(HO_8.out),(BK257.out),(BK277.out),(BK278.out),GW277.out,GE277.out,NB257_277.out,NB277_257.out,NB278_277.out,NB277_278.out,GW278.out,GE278.out,NB257_278.out,NB278_257.out,(by repeat (first|(with_reducible first|exact HB.out|apply below_alloc|apply pw_below_drewN|apply below_drew1|refine below_set ?_ GE257.out|refine below_set ?_ GE278.out|refine below_set ?_ GE277.out)|exact HB.out))⟩)
                    ·skip
                     rintro gb277 w22 ⟨hS_,h0_,h1_,h2_,h3_,h4_,h5_,h6_,h7_⟩
                     have n0_ : Aside0 (Kd.R (Kd.int .i64) 3 w22 w.heap.size (fun _ => True) (.slice Ao19 x8_1.length co19) x8_1):=⟨h0_⟩
                     have n1_ : Aside0 (w22.heap[gb257]? = some (.cells #[.slice A2_0 l2_0.length c2_0] 85 (0,0))):=⟨h1_⟩
                     have n2_ : Aside0 (w22.heap[gb277]? = some (.cells #[.slice none 0 0] 85 (0,0))):=⟨h2_⟩
                     have n3_ : Aside0 (w.heap.size ≤ gb277):=⟨h3_⟩
                     have n4_ : Aside0 (w.heap.size ≤ gb277):=⟨h4_⟩
                     have n5_ : Aside0 (gb257 ≠ gb277):=⟨h5_⟩
                     have n6_ : Aside0 (gb277 ≠ gb257):=⟨h6_⟩
                     have n7_ : Aside0 (Below w.heap.size w w22):=⟨h7_⟩
                     clear HO_8;clear BK257;clear HB;clear h0_ h1_ h2_ h3_ h4_ h5_ h6_ h7_;have HO_8:=n0_;have BK257:=n1_;have BK277:=n2_;have GW277:=n3_;have GE277:=n4_;have NB257_277:=n5_;have NB277_257:=n6_;have HB:=n7_;clear n0_ n1_ n2_ n3_ n4_ n5_ n6_ n7_
                     have hHeld : w22.cell? ⟨gb257,0,none⟩ = some (.slice A2_0 l2_0.length c2_0):=hS_
                     refine norm_ (a':=?_) ?_ ?_
                     rotate_left
                     ·simp only [putAll,pu_]
                      rfl
                     refine two_ (i:=1) (j:=11) (Ni:=some 30) (Nj:=some 11) #[true,true,true,false,true,false,false,false,false,false,true,false,false,false] #[true,false,true,false,true,false,false,false,false,false,true,true,false,false] rfl rfl rfl rfl (two_of HT_.out (by kernel_rfl)) (by decide) (by decide) (fun K hK => ?_) (fun K hK => ?_)
                     ·skip
                      refine goes_ Tryz.func84 (by kernel_rfl) rfl #[.slice Ao19 x8_1.length co19] (by rfl) rfl rfl (by (try simp only [List.map_toArray,List.map_cons,List.map_nil]);first|done|rfl|(simp only [List.length_drop,List.length_take];rfl)) ?_
                      with_reducible refine (bursarref03_cut.calls k1 (fun k_ => some k_ = (.slice Ao19 x8_1.length co19 : Value).ownBlock) _ _ x8_1 t262 _ ?side1 A10.out).mono ?_
                      (case side1 => exact Kd.R_V (Kd.R_tight rfl (Kd.R_types (Kd.R_types (HO_8.out) BK257.out (by decide)) BK277.out (by decide))))
                      rintro e w23 ⟨v263,rfl,ho0,hb⟩
                      refine ⟨_,rfl,?_⟩
                      have n0_:=Aside0.mk (Kd.R_below (HO_8.out) hb)
                      have n1_:=Aside0.mk (Kd.V_lower (Kd.V_mono (ok':=fun k_ => k_ ≠ gb257 ∧ k_ ≠ gb277) ho0 (fun k_ hk_ => ⟨Or.elim hk_ (fun hs_ => ((Kd.R_types (Kd.R_types (HO_8.out) BK257.out (by decide)) BK277.out (by decide)).1 k_ hs_.symm).1.2) (fun hn_ => (Kd.freshB (g:=gb257) (o:=.cells #[.slice A2_0 l2_0.length c2_0] 85 (0,0)) (BK257.out) k_ hn_)),Or.elim hk_ (fun hs_ => ((Kd.R_types (Kd.R_types (HO_8.out) BK257.out (by decide)) BK277.out (by decide)).1 k_ hs_.symm).2) (fun hn_ => (Kd.freshB (g:=gb277) (o:=.cells #[.slice none 0 0] 85 (0,0)) (BK277.out) k_ hn_))⟩)) (below_size (by repeat (first|(with_reducible first|exact HB.out|apply below_alloc|apply pw_below_drewN|apply below_drew1|refine below_set ?_ GE257.out|refine below_set ?_ GE277.out)|exact HB.out))))
                      have n2_:=Aside0.mk (blk_below (g:=gb257) (o:=.cells #[.slice A2_0 l2_0.length c2_0] 85 (0,0)) (BK257.out) hb)
                      have n3_:=Aside0.mk (blk_below (g:=gb277) (o:=.cells #[.slice none 0 0] 85 (0,0)) (BK277.out) hb)
                      have n4_:=Aside0.mk (below_step (by repeat (first|(with_reducible first|exact HB.out|apply below_alloc|apply pw_below_drewN|apply below_drew1|refine below_set ?_ GE257.out|refine below_set ?_ GE277.out)|exact HB.out)) hb)
                      clear HO_8;clear BK257;clear BK277;clear HB;have HO_8:=n0_;have HO264:=n1_;have BK257:=n2_;have BK277:=n3_;have HB:=n4_;clear n0_ n1_ n2_ n3_ n4_;(try clear hb);(try clear hb2);(try clear hk);(try clear hi);(try clear ho0)
                      refine hK.out _ _ ((blk_cell BK257.out 0).trans rfl) (fun hHeld => ?_)
                      clear hK K
                      refine norm_ (a':=?_) ?_ ?_
                      rotate_left
                      ·show Act.put _ (some 30) _ = _
                       simp only [pu_]
                       rfl
                      exact norm_ (by first|(simp only [putAll,pu_];done)|(simp only [putAll,pu_];rfl)) (hJ1_10 (v263,gb277) _ ⟨hHeld,(HO264.out),(HO_8.out),(BK257.out),(BK277.out),GW277.out,GE277.out,NB257_277.out,NB277_257.out,(by repeat (first|(with_reducible first|exact HB.out|apply below_alloc|apply pw_below_drewN|apply below_drew1|refine below_set ?_ GE257.out|refine below_set ?_ GE277.out)|exact HB.out))⟩)
                     ·skip
                      refine box_step ?hg (N:=11) ?hd (cs:=#[.slice none 0 0]) (t:=85) ?hr ?_;(case hd => rfl);(case hg => rfl);(case hr => first|(go_simp;done)|(go_simp;rfl))
                      intro gb278 hg w23 hbox hb
                      have n0_:=Aside0.mk (Kd.R_below (HO_8.out) hb)
                      have n1_:=Aside0.mk (blk_below (g:=gb257) (o:=.cells #[.slice A2_0 l2_0.length c2_0] 85 (0,0)) (BK257.out) hb)
                      have n2_:=Aside0.mk (blk_below (g:=gb277) (o:=.cells #[.slice none 0 0] 85 (0,0)) (BK277.out) hb)
                      have n3_:=Aside0.mk (below_step (by repeat (first|(with_reducible first|exact HB.out|apply below_alloc|apply pw_below_drewN|apply below_drew1|refine below_set ?_ GE257.out|refine below_set ?_ GE277.out)|exact HB.out)) hb)
                      have n4_:=Aside0.mk (hbox)
                      have n5_:=Aside0.mk ((by rw [hg];exact (below_size (by repeat (first|(with_reducible first|exact HB.out|apply below_alloc|apply pw_below_drewN|apply below_drew1|refine below_set ?_ GE257.out|refine below_set ?_ GE277.out)|exact HB.out))) : w.heap.size ≤ gb278))
                      have n6_:=Aside0.mk ((by rw [hg];exact (below_size (by repeat (first|(with_reducible first|exact HB.out|apply below_alloc|apply pw_below_drewN|apply below_drew1|refine below_set ?_ GE257.out|refine below_set ?_ GE277.out)|exact HB.out))) : w.heap.size ≤ gb278))
                      have n7_:=Aside0.mk ((by rw [hg];exact Nat.ne_of_lt (blk_lt (g:=gb257) (o:=.cells #[.slice A2_0 l2_0.length c2_0] 85 (0,0)) (BK257.out)) : gb257 ≠ gb278))
                      have n8_:=Aside0.mk ((by rw [hg];exact Nat.ne_of_gt (blk_lt (g:=gb257) (o:=.cells #[.slice A2_0 l2_0.length c2_0] 85 (0,0)) (BK257.out)) : gb278 ≠ gb257))
                      have n9_:=Aside0.mk ((by rw [hg];exact Nat.ne_of_lt (blk_lt (g:=gb277) (o:=.cells #[.slice none 0 0] 85 (0,0)) (BK277.out)) : gb277 ≠ gb278))
                      have n10_:=Aside0.mk ((by rw [hg];exact Nat.ne_of_gt (blk_lt (g:=gb277) (o:=.cells #[.slice none 0 0] 85 (0,0)) (BK277.out)) : gb278 ≠ gb277))
                      clear HO_8;clear BK257;clear BK277;clear HB;have HO_8:=n0_;have BK257:=n1_;have BK277:=n2_;have HB:=n3_;have BK278:=n4_;have GW278:=n5_;have GE278:=n6_;have NB257_278:=n7_;have NB278_257:=n8_;have NB277_278:=n9_;have NB278_277:=n10_;clear n0_ n1_ n2_ n3_ n4_ n5_ n6_ n7_ n8_ n9_ n10_;clear hb hbox hg
                      refine hK.out _ _ ((blk_cell BK257.out 0).trans rfl) (fun hHeld => ?_)
                      clear hK K
                      refine norm_ (a':=?_) ?_ ?_
                      rotate_left
                      ·show Act.put _ (some 11) _ = _
                       simp only [pu_]
                       rfl
                      exact norm_ (by first|(simp only [putAll,pu_];done)|(simp only [putAll,pu_];rfl)) (hJ10_11 (gb277,gb278) _ ⟨hHeld,(HO_8.out),(BK257.out),(BK277.out),(BK278.out),GW277.out,GE277.out,NB257_277.out,NB277_257.out,NB278_277.out,NB277_278.out,GW278.out,GE278.out,NB257_278.out,NB278_257.out,(by repeat (first|(with_reducible first|exact HB.out|apply below_alloc|apply pw_below_drewN|apply below_drew1|refine below_set ?_ GE257.out|refine below_set ?_ GE277.out|refine below_set ?_ GE278.out)|exact HB.out))⟩)
                   ·skip
                    rintro v263 w22 ⟨hS_,h0_,h1_,h2_,h3_⟩
                    have n0_ : Aside0 (Kd.V (Kd.int .i64) 3 w22 w.heap.size (fun k_ => k_ ≠ gb257) v263 t262):=⟨h0_⟩
                    have n1_ : Aside0 (Kd.R (Kd.int .i64) 3 w22 w.heap.size (fun _ => True) (.slice Ao19 x8_1.length co19) x8_1):=⟨h1_⟩
                    have n2_ : Aside0 (w22.heap[gb257]? = some (.cells #[.slice A2_0 l2_0.length c2_0] 85 (0,0))):=⟨h2_⟩
                    have n3_ : Aside0 (Below w.heap.size w w22):=⟨h3_⟩
                    clear HO_8;clear BK257;clear HB;clear h0_ h1_ h2_ h3_;have HO264:=n0_;have HO_8:=n1_;have BK257:=n2_;have HB:=n3_;clear n0_ n1_ n2_ n3_
                    have hHeld : w22.cell? ⟨gb257,0,none⟩ = some (.slice A2_0 l2_0.length c2_0):=hS_
                    obtain ⟨Ao23,co23,eo23⟩:=Kd.V_slice HO264.out
                    (first|subst eo23|(injection eo23 with f1_ f2_ f3_;have f4_:=f1_.symm;have f5_:=f3_.symm;clear f1_ f2_ f3_;subst f4_;subst f5_))
                    refine norm_ (a':=?_) ?_ ?_
                    rotate_left
                    ·simp only [putAll,pu_]
                     rfl
                    refine three_ (i:=3) (j:=10) (k:=11) (Ni:=some 32) (Nj:=some 10) (Nk:=some 11) (bl 5 9) #[true,true,true,false,true,false,false,false,false,false,true,false,false,false] #[true,true,true,false,true,false,false,false,false,false,false,true,false,false] rfl rfl rfl rfl rfl rfl (three_of HT_.out (by kernel_rfl)) (by decide) (by decide) (by decide) (fun K hK => ?_) (fun K hK => ?_) (fun K hK => ?_)
                    ·skip
                     refine goes_ Tryz.func70 (by kernel_rfl) rfl #[.agg #[.slice Ao23 t262.length co23],.agg #[.slice A2_0 l2_0.length c2_0]] (by rfl) rfl rfl (by (try simp only [List.map_toArray,List.map_cons,List.map_nil]);first|done|rfl|(simp only [List.length_drop,List.length_take];rfl)) ?_
                     with_reducible refine (bursarref03_Long_times.calls k1 _ _ t262 _ _ l2_0 t265 _ ?side1 ?side2 ?side3 ?side4 A11.out).mono ?_
                     (case side1 => repeat (first|exact (Kd.V_reads' HO264.out).2.2|(with_reducible refine Kd.C_alloc ?_ _)|(with_reducible refine Kd.C_drewN ?_ _)|(with_reducible refine Kd.C_drew ?_)))
                     (case side2 => exact (Kd.V_reads' HO264.out).2.1)
                     (case side3 => repeat (first|exact (Kd.C_below HR2_0.out HB.out)|(with_reducible refine Kd.C_alloc ?_ _)|(with_reducible refine Kd.C_drewN ?_ _)|(with_reducible refine Kd.C_drew ?_)))
                     (case side4 => exact HC2_0.out)
                     rintro e w24 ⟨v266,rfl,ho0,hb⟩
                     refine ⟨_,rfl,?_⟩
                     have n0_:=Aside0.mk (Kd.R_below (HO_8.out) hb)
                     have n1_:=Aside0.mk (Kd.V_below (HO264.out) hb)
                     have n2_:=Aside0.mk (Kd.V_lower (Kd.V_mono (ok':=fun k_ => some k_ ≠ (.slice Ao19 x8_1.length co19 : Value).ownBlock ∧ k_ ≠ gb257) ho0 (fun k_ hk_ => ⟨(Kd.fresh' (Kd.R_lt (HO_8.out)) k_ hk_),(Kd.freshB (g:=gb257) (o:=.cells #[.slice A2_0 l2_0.length c2_0] 85 (0,0)) (BK257.out) k_ hk_)⟩)) (below_size (by repeat (first|(with_reducible first|exact HB.out|apply below_alloc|apply pw_below_drewN|apply below_drew1|refine below_set ?_ GE257.out)|exact HB.out))))
                     have n3_:=Aside0.mk (blk_below (g:=gb257) (o:=.cells #[.slice A2_0 l2_0.length c2_0] 85 (0,0)) (BK257.out) hb)
                     have n4_:=Aside0.mk (below_step (by repeat (first|(with_reducible first|exact HB.out|apply below_alloc|apply pw_below_drewN|apply below_drew1|refine below_set ?_ GE257.out)|exact HB.out)) hb)
                     clear HO_8;clear HO264;clear BK257;clear HB;have HO_8:=n0_;have HO264:=n1_;have HO267:=n2_;have BK257:=n3_;have HB:=n4_;clear n0_ n1_ n2_ n3_ n4_;(try clear hb);(try clear hb2);(try clear hk);(try clear hi);(try clear ho0)
                     refine hK.out _ _ ((blk_cell BK257.out 0).trans rfl) (fun hHeld => ?_)
                     clear hK K
                     refine norm_ (a':=?_) ?_ ?_
                     rotate_left
                     ·show Act.put _ (some 32) _ = _
                      simp only [pu_]
                      rfl
                     exact norm_ (by first|(simp only [putAll,pu_];done)|(simp only [putAll,pu_];rfl)) (hJ1_3 (.slice Ao23 t262.length co23,v266) _ ⟨hHeld,(HO264.out),(HO267.out),(HO_8.out),(BK257.out),(by repeat (first|(with_reducible first|exact HB.out|apply below_alloc|apply pw_below_drewN|apply below_drew1|refine below_set ?_ GE257.out)|exact HB.out))⟩)
                    ·skip
                     refine box_step ?hg (N:=10) ?hd (cs:=#[.slice none 0 0]) (t:=85) ?hr ?_;(case hd => rfl);(case hg => rfl);(case hr => first|(go_simp;done)|(go_simp;rfl))
                     intro gb277 hg w23 hbox hb
                     have n0_:=Aside0.mk (Kd.R_below (HO_8.out) hb)
                     have n1_:=Aside0.mk (Kd.V_below (Kd.V_elderB (HO264.out) gb277 (Nat.le_of_eq hg.symm)) hb)
                     have n2_:=Aside0.mk (blk_below (g:=gb257) (o:=.cells #[.slice A2_0 l2_0.length c2_0] 85 (0,0)) (BK257.out) hb)
                     have n3_:=Aside0.mk (below_step (by repeat (first|(with_reducible first|exact HB.out|apply below_alloc|apply pw_below_drewN|apply below_drew1|refine below_set ?_ GE257.out)|exact HB.out)) hb)
                     have n4_:=Aside0.mk (hbox)
                     have n5_:=Aside0.mk ((by rw [hg];exact (below_size (by repeat (first|(with_reducible first|exact HB.out|apply below_alloc|apply pw_below_drewN|apply below_drew1|refine below_set ?_ GE257.out)|exact HB.out))) : w.heap.size ≤ gb277))
                     have n6_:=Aside0.mk ((by rw [hg];exact (below_size (by repeat (first|(with_reducible first|exact HB.out|apply below_alloc|apply pw_below_drewN|apply below_drew1|refine below_set ?_ GE257.out)|exact HB.out))) : w.heap.size ≤ gb277))
                     have n7_:=Aside0.mk ((by rw [hg];exact Nat.ne_of_lt (blk_lt (g:=gb257) (o:=.cells #[.slice A2_0 l2_0.length c2_0] 85 (0,0)) (BK257.out)) : gb257 ≠ gb277))
                     have n8_:=Aside0.mk ((by rw [hg];exact Nat.ne_of_gt (blk_lt (g:=gb257) (o:=.cells #[.slice A2_0 l2_0.length c2_0] 85 (0,0)) (BK257.out)) : gb277 ≠ gb257))
                     clear HO_8;clear HO264;clear BK257;clear HB;have HO_8:=n0_;have HO264:=n1_;have BK257:=n2_;have HB:=n3_;have BK277:=n4_;have GW277:=n5_;have GE277:=n6_;have NB257_277:=n7_;have NB277_257:=n8_;clear n0_ n1_ n2_ n3_ n4_ n5_ n6_ n7_ n8_;clear hb hbox hg
                     refine hK.out _ _ ((blk_cell BK257.out 0).trans rfl) (fun hHeld => ?_)
                     clear hK K
                     refine norm_ (a':=?_) ?_ ?_
                     rotate_left
                     ·show Act.put _ (some 10) _ = _
                      simp only [pu_]
                      rfl
                     exact norm_ (by first|(simp only [putAll,pu_];done)|(simp only [putAll,pu_];rfl)) (hJ1_10 ((.slice Ao23 t262.length co23),gb277) _ ⟨hHeld,(HO264.out),(HO_8.out),(BK257.out),(BK277.out),GW277.out,GE277.out,NB257_277.out,NB277_257.out,(by repeat (first|(with_reducible first|exact HB.out|apply below_alloc|apply pw_below_drewN|apply below_drew1|refine below_set ?_ GE257.out|refine below_set ?_ GE277.out)|exact HB.out))⟩)
                    ·skip
                     refine box_step ?hg (N:=11) ?hd (cs:=#[.slice none 0 0]) (t:=85) ?hr ?_;(case hd => rfl);(case hg => rfl);(case hr => first|(go_simp;done)|(go_simp;rfl))
                     intro gb278 hg w23 hbox hb
                     have n0_:=Aside0.mk (Kd.R_below (HO_8.out) hb)
                     have n1_:=Aside0.mk (Kd.V_below (Kd.V_elderB (HO264.out) gb278 (Nat.le_of_eq hg.symm)) hb)
                     have n2_:=Aside0.mk (blk_below (g:=gb257) (o:=.cells #[.slice A2_0 l2_0.length c2_0] 85 (0,0)) (BK257.out) hb)
                     have n3_:=Aside0.mk (below_step (by repeat (first|(with_reducible first|exact HB.out|apply below_alloc|apply pw_below_drewN|apply below_drew1|refine below_set ?_ GE257.out)|exact HB.out)) hb)
                     have n4_:=Aside0.mk (hbox)
                     have n5_:=Aside0.mk ((by rw [hg];exact (below_size (by repeat (first|(with_reducible first|exact HB.out|apply below_alloc|apply pw_below_drewN|apply below_drew1|refine below_set ?_ GE257.out)|exact HB.out))) : w.heap.size ≤ gb278))
                     have n6_:=Aside0.mk ((by rw [hg];exact (below_size (by repeat (first|(with_reducible first|exact HB.out|apply below_alloc|apply pw_below_drewN|apply below_drew1|refine below_set ?_ GE257.out)|exact HB.out))) : w.heap.size ≤ gb278))
                     have n7_:=Aside0.mk ((by rw [hg];exact Nat.ne_of_lt (blk_lt (g:=gb257) (o:=.cells #[.slice A2_0 l2_0.length c2_0] 85 (0,0)) (BK257.out)) : gb257 ≠ gb278))
                     have n8_:=Aside0.mk ((by rw [hg];exact Nat.ne_of_gt (blk_lt (g:=gb257) (o:=.cells #[.slice A2_0 l2_0.length c2_0] 85 (0,0)) (BK257.out)) : gb278 ≠ gb257))
                     clear HO_8;clear HO264;clear BK257;clear HB;have HO_8:=n0_;have HO264:=n1_;have BK257:=n2_;have HB:=n3_;have BK278:=n4_;have GW278:=n5_;have GE278:=n6_;have NB257_278:=n7_;have NB278_257:=n8_;clear n0_ n1_ n2_ n3_ n4_ n5_ n6_ n7_ n8_;clear hb hbox hg
                     refine hK.out _ _ ((blk_cell BK257.out 0).trans rfl) (fun hHeld => ?_)
                     clear hK K
                     refine norm_ (a':=?_) ?_ ?_
                     rotate_left
                     ·show Act.put _ (some 11) _ = _
                      simp only [pu_]
                      rfl
                     exact norm_ (by first|(simp only [putAll,pu_];done)|(simp only [putAll,pu_];rfl)) (hJ1_11 ((.slice Ao23 t262.length co23),gb278) _ ⟨hHeld,(HO264.out),(HO_8.out),(BK257.out),(BK278.out),GW278.out,GE278.out,NB257_278.out,NB278_257.out,(by repeat (first|(with_reducible first|exact HB.out|apply below_alloc|apply pw_below_drewN|apply below_drew1|refine below_set ?_ GE257.out|refine below_set ?_ GE278.out)|exact HB.out))⟩)
                  ·skip
                   rintro ⟨gb277,gb278⟩ w23 ⟨hS_,h0_,h1_,h2_,h3_,h4_,h5_,h6_,h7_,h8_,h9_,h10_,h11_,h12_,h13_,h14_⟩
                   have n0_ : Aside0 (Kd.R (Kd.int .i64) 3 w23 w.heap.size (fun _ => True) (.slice Ao19 x8_1.length co19) x8_1):=⟨h0_⟩
                   have n1_ : Aside0 (w23.heap[gb257]? = some (.cells #[.slice A2_0 l2_0.length c2_0] 85 (0,0))):=⟨h1_⟩
                   have n2_ : Aside0 (w23.heap[gb277]? = some (.cells #[.slice none 0 0] 85 (0,0))):=⟨h2_⟩
                   have n3_ : Aside0 (w23.heap[gb278]? = some (.cells #[.slice none 0 0] 85 (0,0))):=⟨h3_⟩
                   have n4_ : Aside0 (w.heap.size ≤ gb277):=⟨h4_⟩
                   have n5_ : Aside0 (w.heap.size ≤ gb277):=⟨h5_⟩
                   have n6_ : Aside0 (gb257 ≠ gb277):=⟨h6_⟩
                   have n7_ : Aside0 (gb277 ≠ gb257):=⟨h7_⟩
                   have n8_ : Aside0 (gb278 ≠ gb277):=⟨h8_⟩
                   have n9_ : Aside0 (gb277 ≠ gb278):=⟨h9_⟩
                   have n10_ : Aside0 (w.heap.size ≤ gb278):=⟨h10_⟩
                   have n11_ : Aside0 (w.heap.size ≤ gb278):=⟨h11_⟩
                   have n12_ : Aside0 (gb257 ≠ gb278):=⟨h12_⟩
                   have n13_ : Aside0 (gb278 ≠ gb257):=⟨h13_⟩
                   have n14_ : Aside0 (Below w.heap.size w w23):=⟨h14_⟩
                   clear HO_8;clear BK257;clear HB;clear h0_ h1_ h2_ h3_ h4_ h5_ h6_ h7_ h8_ h9_ h10_ h11_ h12_ h13_ h14_;have HO_8:=n0_;have BK257:=n1_;have BK277:=n2_;have BK278:=n3_;have GW277:=n4_;have GE277:=n5_;have NB257_277:=n6_;have NB277_257:=n7_;have NB278_277:=n8_;have NB277_278:=n9_;have GW278:=n10_;have GE278:=n11_;have NB257_278:=n12_;have NB278_257:=n13_;have HB:=n14_;clear n0_ n1_ n2_ n3_ n4_ n5_ n6_ n7_ n8_ n9_ n10_ n11_ n12_ n13_ n14_
                   have hHeld : w23.cell? ⟨gb257,0,none⟩ = some (.slice A2_0 l2_0.length c2_0):=hS_
                   refine norm_ (a':=?_) ?_ ?_
                   rotate_left
                   ·simp only [putAll,pu_]
                    rfl
                   refine one_ (i:=1) (N:=some 30) #[true,true,true,false,true,false,false,false,false,false,true,true,false,false] rfl rfl (one_of HT_.out (by kernel_rfl)) (by decide) (fun K hK => ?_)
                   refine goes_ Tryz.func84 (by kernel_rfl) rfl #[.slice Ao19 x8_1.length co19] (by rfl) rfl rfl (by (try simp only [List.map_toArray,List.map_cons,List.map_nil]);first|done|rfl|(simp only [List.length_drop,List.length_take];rfl)) ?_
                   with_reducible refine (bursarref03_cut.calls k1 (fun k_ => some k_ = (.slice Ao19 x8_1.length co19 : Value).ownBlock) _ _ x8_1 t262 _ ?side1 A10.out).mono ?_
                   (case side1 => exact Kd.R_V (Kd.R_tight rfl (Kd.R_types (Kd.R_types (Kd.R_types (HO_8.out) BK257.out (by decide)) BK277.out (by decide)) BK278.out (by decide))))
                   rintro e w24 ⟨v263,rfl,ho0,hb⟩
                   refine ⟨_,rfl,?_⟩
                   have n0_:=Aside0.mk (Kd.R_below (HO_8.out) hb)
                   have n1_:=Aside0.mk (Kd.V_lower (Kd.V_mono (ok':=fun k_ => k_ ≠ gb257 ∧ k_ ≠ gb277 ∧ k_ ≠ gb278) ho0 (fun k_ hk_ => ⟨Or.elim hk_ (fun hs_ => ((Kd.R_types (Kd.R_types (Kd.R_types (HO_8.out) BK257.out (by decide)) BK277.out (by decide)) BK278.out (by decide)).1 k_ hs_.symm).1.1.2) (fun hn_ => (Kd.freshB (g:=gb257) (o:=.cells #[.slice A2_0 l2_0.length c2_0] 85 (0,0)) (BK257.out) k_ hn_)),Or.elim hk_ (fun hs_ => ((Kd.R_types (Kd.R_types (Kd.R_types (HO_8.out) BK257.out (by decide)) BK277.out (by decide)) BK278.out (by decide)).1 k_ hs_.symm).1.2) (fun hn_ => (Kd.freshB (g:=gb277) (o:=.cells #[.slice none 0 0] 85 (0,0)) (BK277.out) k_ hn_)),Or.elim hk_ (fun hs_ => ((Kd.R_types (Kd.R_types (Kd.R_types (HO_8.out) BK257.out (by decide)) BK277.out (by decide)) BK278.out (by decide)).1 k_ hs_.symm).2) (fun hn_ => (Kd.freshB (g:=gb278) (o:=.cells #[.slice none 0 0] 85 (0,0)) (BK278.out) k_ hn_))⟩)) (below_size (by repeat (first|(with_reducible first|exact HB.out|apply below_alloc|apply pw_below_drewN|apply below_drew1|refine below_set ?_ GE257.out|refine below_set ?_ GE277.out|refine below_set ?_ GE278.out)|exact HB.out))))
                   have n2_:=Aside0.mk (blk_below (g:=gb257) (o:=.cells #[.slice A2_0 l2_0.length c2_0] 85 (0,0)) (BK257.out) hb)
                   have n3_:=Aside0.mk (blk_below (g:=gb277) (o:=.cells #[.slice none 0 0] 85 (0,0)) (BK277.out) hb)
                   have n4_:=Aside0.mk (blk_below (g:=gb278) (o:=.cells #[.slice none 0 0] 85 (0,0)) (BK278.out) hb)
                   have n5_:=Aside0.mk (below_step (by repeat (first|(with_reducible first|exact HB.out|apply below_alloc|apply pw_below_drewN|apply below_drew1|refine below_set ?_ GE257.out|refine below_set ?_ GE277.out|refine below_set ?_ GE278.out)|exact HB.out)) hb)
                   clear HO_8;clear BK257;clear BK277;clear BK278;clear HB;have HO_8:=n0_;have HO264:=n1_;have BK257:=n2_;have BK277:=n3_;have BK278:=n4_;have HB:=n5_;clear n0_ n1_ n2_ n3_ n4_ n5_;(try clear hb);(try clear hb2);(try clear hk);(try clear hi);(try clear ho0)
                   refine hK.out _ _ ((blk_cell BK257.out 0).trans rfl) (fun hHeld => ?_)
                   clear hK K
                   refine norm_ (a':=?_) ?_ ?_
                   rotate_left
                   ·show Act.put _ (some 30) _ = _
                    simp only [pu_]
                    rfl
                   exact norm_ (by first|(simp only [putAll,pu_];done)|(simp only [putAll,pu_];rfl)) (hJ1_10_11 (v263,gb277,gb278) _ ⟨hHeld,(HO264.out),(HO_8.out),(BK257.out),(BK277.out),(BK278.out),GW277.out,GE277.out,NB257_277.out,NB277_257.out,NB278_277.out,NB277_278.out,GW278.out,GE278.out,NB257_278.out,NB278_257.out,(by repeat (first|(with_reducible first|exact HB.out|apply below_alloc|apply pw_below_drewN|apply below_drew1|refine below_set ?_ GE257.out|refine below_set ?_ GE277.out|refine below_set ?_ GE278.out)|exact HB.out))⟩)
                 ·skip
                  rintro ⟨v263,gb278⟩ w23 ⟨hS_,h0_,h1_,h2_,h3_,h4_,h5_,h6_,h7_,h8_⟩
                  have n0_ : Aside0 (Kd.V (Kd.int .i64) 3 w23 w.heap.size (fun k_ => k_ ≠ gb257 ∧ k_ ≠ gb278) v263 t262):=⟨h0_⟩
                  have n1_ : Aside0 (Kd.R (Kd.int .i64) 3 w23 w.heap.size (fun _ => True) (.slice Ao19 x8_1.length co19) x8_1):=⟨h1_⟩
                  have n2_ : Aside0 (w23.heap[gb257]? = some (.cells #[.slice A2_0 l2_0.length c2_0] 85 (0,0))):=⟨h2_⟩
                  have n3_ : Aside0 (w23.heap[gb278]? = some (.cells #[.slice none 0 0] 85 (0,0))):=⟨h3_⟩
                  have n4_ : Aside0 (w.heap.size ≤ gb278):=⟨h4_⟩
                  have n5_ : Aside0 (w.heap.size ≤ gb278):=⟨h5_⟩
                  have n6_ : Aside0 (gb257 ≠ gb278):=⟨h6_⟩
                  have n7_ : Aside0 (gb278 ≠ gb257):=⟨h7_⟩
                  have n8_ : Aside0 (Below w.heap.size w w23):=⟨h8_⟩
                  clear HO_8;clear BK257;clear HB;clear h0_ h1_ h2_ h3_ h4_ h5_ h6_ h7_ h8_;have HO264:=n0_;have HO_8:=n1_;have BK257:=n2_;have BK278:=n3_;have GW278:=n4_;have GE278:=n5_;have NB257_278:=n6_;have NB278_257:=n7_;have HB:=n8_;clear n0_ n1_ n2_ n3_ n4_ n5_ n6_ n7_ n8_
                  have hHeld : w23.cell? ⟨gb257,0,none⟩ = some (.slice A2_0 l2_0.length c2_0):=hS_
                  obtain ⟨Ao24,co24,eo24⟩:=Kd.V_slice HO264.out
                  (first|subst eo24|(injection eo24 with f1_ f2_ f3_;have f4_:=f1_.symm;have f5_:=f3_.symm;clear f1_ f2_ f3_;subst f4_;subst f5_))
                  refine norm_ (a':=?_) ?_ ?_
                  rotate_left
                  ·simp only [putAll,pu_]
                   rfl
                  refine two_ (i:=3) (j:=10) (Ni:=some 32) (Nj:=some 10) #[true,true,true,true,true,false,false,false,false,false,false,true,false,false] #[true,true,true,false,true,false,false,false,false,false,true,true,false,false] rfl rfl rfl rfl (two_of HT_.out (by kernel_rfl)) (by decide) (by decide) (fun K hK => ?_) (fun K hK => ?_)
                  ·skip
                   refine goes_ Tryz.func70 (by kernel_rfl) rfl #[.agg #[.slice Ao24 t262.length co24],.agg #[.slice A2_0 l2_0.length c2_0]] (by rfl) rfl rfl (by (try simp only [List.map_toArray,List.map_cons,List.map_nil]);first|done|rfl|(simp only [List.length_drop,List.length_take];rfl)) ?_
                   with_reducible refine (bursarref03_Long_times.calls k1 _ _ t262 _ _ l2_0 t265 _ ?side1 ?side2 ?side3 ?side4 A11.out).mono ?_
                   (case side1 => repeat (first|exact (Kd.V_reads' HO264.out).2.2|(with_reducible refine Kd.C_alloc ?_ _)|(with_reducible refine Kd.C_drewN ?_ _)|(with_reducible refine Kd.C_drew ?_)))
                   (case side2 => exact (Kd.V_reads' HO264.out).2.1)
                   (case side3 => repeat (first|exact (Kd.C_below HR2_0.out HB.out)|(with_reducible refine Kd.C_alloc ?_ _)|(with_reducible refine Kd.C_drewN ?_ _)|(with_reducible refine Kd.C_drew ?_)))
                   (case side4 => exact HC2_0.out)
                   rintro e w25 ⟨v266,rfl,ho0,hb⟩
                   refine ⟨_,rfl,?_⟩
                   have n0_:=Aside0.mk (Kd.R_below (HO_8.out) hb)
                   have n1_:=Aside0.mk (Kd.V_below (HO264.out) hb)
                   have n2_:=Aside0.mk (Kd.V_lower (Kd.V_mono (ok':=fun k_ => some k_ ≠ (.slice Ao19 x8_1.length co19 : Value).ownBlock ∧ k_ ≠ gb257 ∧ k_ ≠ gb278) ho0 (fun k_ hk_ => ⟨(Kd.fresh' (Kd.R_lt (HO_8.out)) k_ hk_),(Kd.freshB (g:=gb257) (o:=.cells #[.slice A2_0 l2_0.length c2_0] 85 (0,0)) (BK257.out) k_ hk_),(Kd.freshB (g:=gb278) (o:=.cells #[.slice none 0 0] 85 (0,0)) (BK278.out) k_ hk_)⟩)) (below_size (by repeat (first|(with_reducible first|exact HB.out|apply below_alloc|apply pw_below_drewN|apply below_drew1|refine below_set ?_ GE257.out|refine below_set ?_ GE278.out)|exact HB.out))))
                   have n3_:=Aside0.mk (blk_below (g:=gb257) (o:=.cells #[.slice A2_0 l2_0.length c2_0] 85 (0,0)) (BK257.out) hb)
                   have n4_:=Aside0.mk (blk_below (g:=gb278) (o:=.cells #[.slice none 0 0] 85 (0,0)) (BK278.out) hb)
                   have n5_:=Aside0.mk (below_step (by repeat (first|(with_reducible first|exact HB.out|apply below_alloc|apply pw_below_drewN|apply below_drew1|refine below_set ?_ GE257.out|refine below_set ?_ GE278.out)|exact HB.out)) hb)
                   clear HO_8;clear HO264;clear BK257;clear BK278;clear HB;have HO_8:=n0_;have HO264:=n1_;have HO267:=n2_;have BK257:=n3_;have BK278:=n4_;have HB:=n5_;clear n0_ n1_ n2_ n3_ n4_ n5_;(try clear hb);(try clear hb2);(try clear hk);(try clear hi);(try clear ho0)
                   refine hK.out _ _ ((blk_cell BK257.out 0).trans rfl) (fun hHeld => ?_)
                   clear hK K
                   refine norm_ (a':=?_) ?_ ?_
                   rotate_left
                   ·show Act.put _ (some 32) _ = _
                    simp only [pu_]
                    rfl
                   exact norm_ (by first|(simp only [putAll,pu_];done)|(simp only [putAll,pu_];rfl)) (hJ1_3_11 (.slice Ao24 t262.length co24,v266,gb278) _ ⟨hHeld,(HO264.out),(HO267.out),(HO_8.out),(BK257.out),(BK278.out),GW278.out,GE278.out,NB257_278.out,NB278_257.out,(by repeat (first|(with_reducible first|exact HB.out|apply below_alloc|apply pw_below_drewN|apply below_drew1|refine below_set ?_ GE257.out|refine below_set ?_ GE278.out)|exact HB.out))⟩)
                  ·skip
                   refine box_step ?hg (N:=10) ?hd (cs:=#[.slice none 0 0]) (t:=85) ?hr ?_;(case hd => rfl);(case hg => rfl);(case hr => first|(go_simp;done)|(go_simp;rfl))
                   intro gb277 hg w24 hbox hb
                   have n0_:=Aside0.mk (Kd.R_below (HO_8.out) hb)
                   have n1_:=Aside0.mk (Kd.V_below (Kd.V_elderB (HO264.out) gb277 (Nat.le_of_eq hg.symm)) hb)
                   have n2_:=Aside0.mk (blk_below (g:=gb257) (o:=.cells #[.slice A2_0 l2_0.length c2_0] 85 (0,0)) (BK257.out) hb)
                   have n3_:=Aside0.mk (blk_below (g:=gb278) (o:=.cells #[.slice none 0 0] 85 (0,0)) (BK278.out) hb)
                   have n4_:=Aside0.mk (below_step (by repeat (first|(with_reducible first|exact HB.out|apply below_alloc|apply pw_below_drewN|apply below_drew1|refine below_set ?_ GE257.out|refine below_set ?_ GE278.out)|exact HB.out)) hb)
                   have n5_:=Aside0.mk (hbox)
                   have n6_:=Aside0.mk ((by rw [hg];exact (below_size (by repeat (first|(with_reducible first|exact HB.out|apply below_alloc|apply pw_below_drewN|apply below_drew1|refine below_set ?_ GE257.out|refine below_set ?_ GE278.out)|exact HB.out))) : w.heap.size ≤ gb277))
                   have n7_:=Aside0.mk ((by rw [hg];exact (below_size (by repeat (first|(with_reducible first|exact HB.out|apply below_alloc|apply pw_below_drewN|apply below_drew1|refine below_set ?_ GE257.out|refine below_set ?_ GE278.out)|exact HB.out))) : w.heap.size ≤ gb277))
                   have n8_:=Aside0.mk ((by rw [hg];exact Nat.ne_of_lt (blk_lt (g:=gb257) (o:=.cells #[.slice A2_0 l2_0.length c2_0] 85 (0,0)) (BK257.out)) : gb257 ≠ gb277))
                   have n9_:=Aside0.mk ((by rw [hg];exact Nat.ne_of_gt (blk_lt (g:=gb257) (o:=.cells #[.slice A2_0 l2_0.length c2_0] 85 (0,0)) (BK257.out)) : gb277 ≠ gb257))
                   have n10_:=Aside0.mk ((by rw [hg];exact Nat.ne_of_lt (blk_lt (g:=gb278) (o:=.cells #[.slice none 0 0] 85 (0,0)) (BK278.out)) : gb278 ≠ gb277))
                   have n11_:=Aside0.mk ((by rw [hg];exact Nat.ne_of_gt (blk_lt (g:=gb278) (o:=.cells #[.slice none 0 0] 85 (0,0)) (BK278.out)) : gb277 ≠ gb278))
                   clear HO_8;clear HO264;clear BK257;clear BK278;clear HB;have HO_8:=n0_;have HO264:=n1_;have BK257:=n2_;have BK278:=n3_;have HB:=n4_;have BK277:=n5_;have GW277:=n6_;have GE277:=n7_;have NB257_277:=n8_;have NB277_257:=n9_;have NB278_277:=n10_;have NB277_278:=n11_;clear n0_ n1_ n2_ n3_ n4_ n5_ n6_ n7_ n8_ n9_ n10_ n11_;clear hb hbox hg
                   refine hK.out _ _ ((blk_cell BK257.out 0).trans rfl) (fun hHeld => ?_)
                   clear hK K
                   refine norm_ (a':=?_) ?_ ?_
                   rotate_left
                   ·show Act.put _ (some 10) _ = _
                    simp only [pu_]
                    rfl
                   exact norm_ (by first|(simp only [putAll,pu_];done)|(simp only [putAll,pu_];rfl)) (hJ1_10_11 ((.slice Ao24 t262.length co24),gb277,gb278) _ ⟨hHeld,(Kd.V_mono HO264.out (fun _ hk => ⟨hk.1.1,⟨hk.2,hk.1.2⟩⟩)),(HO_8.out),(BK257.out),(BK277.out),(BK278.out),GW277.out,GE277.out,NB257_277.out,NB277_257.out,NB278_277.out,NB277_278.out,GW278.out,GE278.out,NB257_278.out,NB278_257.out,(by repeat (first|(with_reducible first|exact HB.out|apply below_alloc|apply pw_below_drewN|apply below_drew1|refine below_set ?_ GE257.out|refine below_set ?_ GE278.out|refine below_set ?_ GE277.out)|exact HB.out))⟩)
                ·skip
                 rintro ⟨v263,gb277⟩ w23 ⟨hS_,h0_,h1_,h2_,h3_,h4_,h5_,h6_,h7_,h8_⟩
                 have n0_ : Aside0 (Kd.V (Kd.int .i64) 3 w23 w.heap.size (fun k_ => k_ ≠ gb257 ∧ k_ ≠ gb277) v263 t262):=⟨h0_⟩
                 have n1_ : Aside0 (Kd.R (Kd.int .i64) 3 w23 w.heap.size (fun _ => True) (.slice Ao19 x8_1.length co19) x8_1):=⟨h1_⟩
                 have n2_ : Aside0 (w23.heap[gb257]? = some (.cells #[.slice A2_0 l2_0.length c2_0] 85 (0,0))):=⟨h2_⟩
                 have n3_ : Aside0 (w23.heap[gb277]? = some (.cells #[.slice none 0 0] 85 (0,0))):=⟨h3_⟩
                 have n4_ : Aside0 (w.heap.size ≤ gb277):=⟨h4_⟩
                 have n5_ : Aside0 (w.heap.size ≤ gb277):=⟨h5_⟩
                 have n6_ : Aside0 (gb257 ≠ gb277):=⟨h6_⟩
                 have n7_ : Aside0 (gb277 ≠ gb257):=⟨h7_⟩
                 have n8_ : Aside0 (Below w.heap.size w w23):=⟨h8_⟩
                 clear HO_8;clear BK257;clear HB;clear h0_ h1_ h2_ h3_ h4_ h5_ h6_ h7_ h8_;have HO264:=n0_;have HO_8:=n1_;have BK257:=n2_;have BK277:=n3_;have GW277:=n4_;have GE277:=n5_;have NB257_277:=n6_;have NB277_257:=n7_;have HB:=n8_;clear n0_ n1_ n2_ n3_ n4_ n5_ n6_ n7_ n8_
                 have hHeld : w23.cell? ⟨gb257,0,none⟩ = some (.slice A2_0 l2_0.length c2_0):=hS_
                 obtain ⟨Ao24,co24,eo24⟩:=Kd.V_slice HO264.out
                 (first|subst eo24|(injection eo24 with f1_ f2_ f3_;have f4_:=f1_.symm;have f5_:=f3_.symm;clear f1_ f2_ f3_;subst f4_;subst f5_))
                 refine norm_ (a':=?_) ?_ ?_
                 rotate_left
                 ·simp only [putAll,pu_]
                  rfl
                 refine two_ (i:=3) (j:=11) (Ni:=some 32) (Nj:=some 11) #[true,true,true,true,true,false,false,false,false,false,true,false,false,false] #[true,true,true,false,true,false,false,false,false,false,true,true,false,false] rfl rfl rfl rfl (two_of HT_.out (by kernel_rfl)) (by decide) (by decide) (fun K hK => ?_) (fun K hK => ?_)
                 ·skip
                  refine goes_ Tryz.func70 (by kernel_rfl) rfl #[.agg #[.slice Ao24 t262.length co24],.agg #[.slice A2_0 l2_0.length c2_0]] (by rfl) rfl rfl (by (try simp only [List.map_toArray,List.map_cons,List.map_nil]);first|done|rfl|(simp only [List.length_drop,List.length_take];rfl)) ?_
                  with_reducible refine (bursarref03_Long_times.calls k1 _ _ t262 _ _ l2_0 t265 _ ?side1 ?side2 ?side3 ?side4 A11.out).mono ?_
                  (case side1 => repeat (first|exact (Kd.V_reads' HO264.out).2.2|(with_reducible refine Kd.C_alloc ?_ _)|(with_reducible refine Kd.C_drewN ?_ _)|(with_reducible refine Kd.C_drew ?_)))
                  (case side2 => exact (Kd.V_reads' HO264.out).2.1)
                  (case side3 => repeat (first|exact (Kd.C_below HR2_0.out HB.out)|(with_reducible refine Kd.C_alloc ?_ _)|(with_reducible refine Kd.C_drewN ?_ _)|(with_reducible refine Kd.C_drew ?_)))
                  (case side4 => exact HC2_0.out)
                  rintro e w25 ⟨v266,rfl,ho0,hb⟩
                  refine ⟨_,rfl,?_⟩
                  have n0_:=Aside0.mk (Kd.R_below (HO_8.out) hb)
                  have n1_:=Aside0.mk (Kd.V_below (HO264.out) hb)
                  have n2_:=Aside0.mk (Kd.V_lower (Kd.V_mono (ok':=fun k_ => some k_ ≠ (.slice Ao19 x8_1.length co19 : Value).ownBlock ∧ k_ ≠ gb257 ∧ k_ ≠ gb277) ho0 (fun k_ hk_ => ⟨(Kd.fresh' (Kd.R_lt (HO_8.out)) k_ hk_),(Kd.freshB (g:=gb257) (o:=.cells #[.slice A2_0 l2_0.length c2_0] 85 (0,0)) (BK257.out) k_ hk_),(Kd.freshB (g:=gb277) (o:=.cells #[.slice none 0 0] 85 (0,0)) (BK277.out) k_ hk_)⟩)) (below_size (by repeat (first|(with_reducible first|exact HB.out|apply below_alloc|apply pw_below_drewN|apply below_drew1|refine below_set ?_ GE257.out|refine below_set ?_ GE277.out)|exact HB.out))))
                  have n3_:=Aside0.mk (blk_below (g:=gb257) (o:=.cells #[.slice A2_0 l2_0.length c2_0] 85 (0,0)) (BK257.out) hb)
                  have n4_:=Aside0.mk (blk_below (g:=gb277) (o:=.cells #[.slice none 0 0] 85 (0,0)) (BK277.out) hb)
                  have n5_:=Aside0.mk (below_step (by repeat (first|(with_reducible first|exact HB.out|apply below_alloc|apply pw_below_drewN|apply below_drew1|refine below_set ?_ GE257.out|refine below_set ?_ GE277.out)|exact HB.out)) hb)
                  clear HO_8;clear HO264;clear BK257;clear BK277;clear HB;have HO_8:=n0_;have HO264:=n1_;have HO267:=n2_;have BK257:=n3_;have BK277:=n4_;have HB:=n5_;clear n0_ n1_ n2_ n3_ n4_ n5_;(try clear hb);(try clear hb2);(try clear hk);(try clear hi);(try clear ho0)
                  refine hK.out _ _ ((blk_cell BK257.out 0).trans rfl) (fun hHeld => ?_)
                  clear hK K
                  refine norm_ (a':=?_) ?_ ?_
                  rotate_left
                  ·show Act.put _ (some 32) _ = _
                   simp only [pu_]
                   rfl
                  exact norm_ (by first|(simp only [putAll,pu_];done)|(simp only [putAll,pu_];rfl)) (hJ1_3_10 (.slice Ao24 t262.length co24,v266,gb277) _ ⟨hHeld,(HO264.out),(HO267.out),(HO_8.out),(BK257.out),(BK277.out),GW277.out,GE277.out,NB257_277.out,NB277_257.out,(by repeat (first|(with_reducible first|exact HB.out|apply below_alloc|apply pw_below_drewN|apply below_drew1|refine below_set ?_ GE257.out|refine below_set ?_ GE277.out)|exact HB.out))⟩)
                 ·skip
                  refine box_step ?hg (N:=11) ?hd (cs:=#[.slice none 0 0]) (t:=85) ?hr ?_;(case hd => rfl);(case hg => rfl);(case hr => first|(go_simp;done)|(go_simp;rfl))
                  intro gb278 hg w24 hbox hb
                  have n0_:=Aside0.mk (Kd.R_below (HO_8.out) hb)
                  have n1_:=Aside0.mk (Kd.V_below (Kd.V_elderB (HO264.out) gb278 (Nat.le_of_eq hg.symm)) hb)
                  have n2_:=Aside0.mk (blk_below (g:=gb257) (o:=.cells #[.slice A2_0 l2_0.length c2_0] 85 (0,0)) (BK257.out) hb)
                  have n3_:=Aside0.mk (blk_below (g:=gb277) (o:=.cells #[.slice none 0 0] 85 (0,0)) (BK277.out) hb)
                  have n4_:=Aside0.mk (below_step (by repeat (first|(with_reducible first|exact HB.out|apply below_alloc|apply pw_below_drewN|apply below_drew1|refine below_set ?_ GE257.out|refine below_set ?_ GE277.out)|exact HB.out)) hb)
                  have n5_:=Aside0.mk (hbox)
                  have n6_:=Aside0.mk ((by rw [hg];exact (below_size (by repeat (first|(with_reducible first|exact HB.out|apply below_alloc|apply pw_below_drewN|apply below_drew1|refine below_set ?_ GE257.out|refine below_set ?_ GE277.out)|exact HB.out))) : w.heap.size ≤ gb278))
                  have n7_:=Aside0.mk ((by rw [hg];exact (below_size (by repeat (first|(with_reducible first|exact HB.out|apply below_alloc|apply pw_below_drewN|apply below_drew1|refine below_set ?_ GE257.out|refine below_set ?_ GE277.out)|exact HB.out))) : w.heap.size ≤ gb278))
                  have n8_:=Aside0.mk ((by rw [hg];exact Nat.ne_of_lt (blk_lt (g:=gb257) (o:=.cells #[.slice A2_0 l2_0.length c2_0] 85 (0,0)) (BK257.out)) : gb257 ≠ gb278))
                  have n9_:=Aside0.mk ((by rw [hg];exact Nat.ne_of_gt (blk_lt (g:=gb257) (o:=.cells #[.slice A2_0 l2_0.length c2_0] 85 (0,0)) (BK257.out)) : gb278 ≠ gb257))
                  have n10_:=Aside0.mk ((by rw [hg];exact Nat.ne_of_lt (blk_lt (g:=gb277) (o:=.cells #[.slice none 0 0] 85 (0,0)) (BK277.out)) : gb277 ≠ gb278))
                  have n11_:=Aside0.mk ((by rw [hg];exact Nat.ne_of_gt (blk_lt (g:=gb277) (o:=.cells #[.slice none 0 0] 85 (0,0)) (BK277.out)) : gb278 ≠ gb277))
                  clear HO_8;clear HO264;clear BK257;clear BK277;clear HB;have HO_8:=n0_;have HO264:=n1_;have BK257:=n2_;have BK277:=n3_;have HB:=n4_;have BK278:=n5_;have GW278:=n6_;have GE278:=n7_;have NB257_278:=n8_;have NB278_257:=n9_;have NB277_278:=n10_;have NB278_277:=n11_;clear n0_ n1_ n2_ n3_ n4_ n5_ n6_ n7_ n8_ n9_ n10_ n11_;clear hb hbox hg
                  refine hK.out _ _ ((blk_cell BK257.out 0).trans rfl) (fun hHeld => ?_)
                  clear hK K
                  refine norm_ (a':=?_) ?_ ?_
                  rotate_left
                  ·show Act.put _ (some 11) _ = _
                   simp only [pu_]
                   rfl
                  exact norm_ (by first|(simp only [putAll,pu_];done)|(simp only [putAll,pu_];rfl)) (hJ1_10_11 ((.slice Ao24 t262.length co24),gb277,gb278) _ ⟨hHeld,(Kd.V_mono HO264.out (fun _ hk => ⟨hk.1.1,⟨hk.1.2,hk.2⟩⟩)),(HO_8.out),(BK257.out),(BK277.out),(BK278.out),GW277.out,GE277.out,NB257_277.out,NB277_257.out,NB278_277.out,NB277_278.out,GW278.out,GE278.out,NB257_278.out,NB278_257.out,(by repeat (first|(with_reducible first|exact HB.out|apply below_alloc|apply pw_below_drewN|apply below_drew1|refine below_set ?_ GE257.out|refine below_set ?_ GE277.out|refine below_set ?_ GE278.out)|exact HB.out))⟩)
               ·skip
                rintro ⟨v263,v266⟩ w24 ⟨hS_,h0_,h1_,h2_,h3_,h4_⟩
                have n0_ : Aside0 (Kd.V (Kd.int .i64) 3 w24 w.heap.size (fun k_ => k_ ≠ gb257) v263 t262):=⟨h0_⟩
                have n1_ : Aside0 (Kd.V (Kd.int .i64) 3 w24 w.heap.size (fun k_ => some k_ ≠ (.slice Ao19 x8_1.length co19 : Value).ownBlock ∧ k_ ≠ gb257) v266 t265):=⟨h1_⟩
                have n2_ : Aside0 (Kd.R (Kd.int .i64) 3 w24 w.heap.size (fun _ => True) (.slice Ao19 x8_1.length co19) x8_1):=⟨h2_⟩
                have n3_ : Aside0 (w24.heap[gb257]? = some (.cells #[.slice A2_0 l2_0.length c2_0] 85 (0,0))):=⟨h3_⟩
                have n4_ : Aside0 (Below w.heap.size w w24):=⟨h4_⟩
                clear HO_8;clear BK257;clear HB;clear h0_ h1_ h2_ h3_ h4_;have HO264:=n0_;have HO267:=n1_;have HO_8:=n2_;have BK257:=n3_;have HB:=n4_;clear n0_ n1_ n2_ n3_ n4_
                have hHeld : w24.cell? ⟨gb257,0,none⟩ = some (.slice A2_0 l2_0.length c2_0):=hS_
                refine norm_ (a':=?_) ?_ ?_
                rotate_left
                ·simp only [putAll,pu_]
                 rfl
                refine three_ (i:=5) (j:=10) (k:=11) (Ni:=some 34) (Nj:=some 10) (Nk:=some 11) (bl 6 8) #[true,true,true,true,true,false,false,false,false,false,true,false,false,false] #[true,true,true,true,true,false,false,false,false,false,false,true,false,false] rfl rfl rfl rfl rfl rfl (three_of HT_.out (by kernel_rfl)) (by decide) (by decide) (by decide) (fun K hK => ?_) (fun K hK => ?_) (fun K hK => ?_)
                ·skip
                 refine goes_ Tryz.func83 (by kernel_rfl) rfl #[.int .i64 10,.int .i64 a1] (by rfl) rfl rfl (by (try simp only [List.map_toArray,List.map_cons,List.map_nil]);first|done|rfl|(simp only [List.length_drop,List.length_take];rfl)) ?_
                 with_reducible refine (bursarref03_power.calls k1 10 a1 t268 _ A12.out).mono ?_
                 rintro e w25 ⟨v269,rfl,ho0,hb⟩
                 refine ⟨_,rfl,?_⟩
                 have n0_:=Aside0.mk (Kd.R_below (HO_8.out) hb)
                 have n1_:=Aside0.mk (Kd.V_below (HO264.out) hb)
                 have n2_:=Aside0.mk (Kd.V_below (HO267.out) hb)
                 have n3_:=Aside0.mk (Kd.V_lower (Kd.V_mono (ok':=fun k_ => some k_ ≠ (.slice Ao19 x8_1.length co19 : Value).ownBlock ∧ k_ ≠ gb257) ho0 (fun k_ hk_ => ⟨(Kd.fresh' (Kd.R_lt (HO_8.out)) k_ hk_),(Kd.freshB (g:=gb257) (o:=.cells #[.slice A2_0 l2_0.length c2_0] 85 (0,0)) (BK257.out) k_ hk_)⟩)) (below_size (by repeat (first|(with_reducible first|exact HB.out|apply below_alloc|apply pw_below_drewN|apply below_drew1|refine below_set ?_ GE257.out)|exact HB.out))))
                 have n4_:=Aside0.mk (blk_below (g:=gb257) (o:=.cells #[.slice A2_0 l2_0.length c2_0] 85 (0,0)) (BK257.out) hb)
                 have n5_:=Aside0.mk (below_step (by repeat (first|(with_reducible first|exact HB.out|apply below_alloc|apply pw_below_drewN|apply below_drew1|refine below_set ?_ GE257.out)|exact HB.out)) hb)
                 clear HO_8;clear HO264;clear HO267;clear BK257;clear HB;have HO_8:=n0_;have HO264:=n1_;have HO267:=n2_;have HO270:=n3_;have BK257:=n4_;have HB:=n5_;clear n0_ n1_ n2_ n3_ n4_ n5_;(try clear hb);(try clear hb2);(try clear hk);(try clear hi);(try clear ho0)
                 refine hK.out _ _ ((blk_cell BK257.out 0).trans rfl) (fun hHeld => ?_)
                 clear hK K
                 refine norm_ (a':=?_) ?_ ?_
                 rotate_left
                 ·show Act.put _ (some 34) _ = _
                  simp only [pu_]
                  rfl
                 exact norm_ (by first|(simp only [putAll,pu_];done)|(simp only [putAll,pu_];rfl)) (hJ1_3_5 (v263,v266,v269) _ ⟨hHeld,(HO264.out),(HO267.out),(HO270.out),(HO_8.out),(BK257.out),(by repeat (first|(with_reducible first|exact HB.out|apply below_alloc|apply pw_below_drewN|apply below_drew1|refine below_set ?_ GE257.out)|exact HB.out))⟩)
                ·skip
                 refine box_step ?hg (N:=10) ?hd (cs:=#[.slice none 0 0]) (t:=85) ?hr ?_;(case hd => rfl);(case hg => rfl);(case hr => first|(go_simp;done)|(go_simp;rfl))
                 intro gb277 hg w25 hbox hb
                 have n0_:=Aside0.mk (Kd.R_below (HO_8.out) hb)
                 have n1_:=Aside0.mk (Kd.V_below (Kd.V_elderB (HO264.out) gb277 (Nat.le_of_eq hg.symm)) hb)
                 have n2_:=Aside0.mk (Kd.V_below (Kd.V_elderB (HO267.out) gb277 (Nat.le_of_eq hg.symm)) hb)
                 have n3_:=Aside0.mk (blk_below (g:=gb257) (o:=.cells #[.slice A2_0 l2_0.length c2_0] 85 (0,0)) (BK257.out) hb)
                 have n4_:=Aside0.mk (below_step (by repeat (first|(with_reducible first|exact HB.out|apply below_alloc|apply pw_below_drewN|apply below_drew1|refine below_set ?_ GE257.out)|exact HB.out)) hb)
                 have n5_:=Aside0.mk (hbox)
                 have n6_:=Aside0.mk ((by rw [hg];exact (below_size (by repeat (first|(with_reducible first|exact HB.out|apply below_alloc|apply pw_below_drewN|apply below_drew1|refine below_set ?_ GE257.out)|exact HB.out))) : w.heap.size ≤ gb277))
                 have n7_:=Aside0.mk ((by rw [hg];exact (below_size (by repeat (first|(with_reducible first|exact HB.out|apply below_alloc|apply pw_below_drewN|apply below_drew1|refine below_set ?_ GE257.out)|exact HB.out))) : w.heap.size ≤ gb277))
                 have n8_:=Aside0.mk ((by rw [hg];exact Nat.ne_of_lt (blk_lt (g:=gb257) (o:=.cells #[.slice A2_0 l2_0.length c2_0] 85 (0,0)) (BK257.out)) : gb257 ≠ gb277))
                 have n9_:=Aside0.mk ((by rw [hg];exact Nat.ne_of_gt (blk_lt (g:=gb257) (o:=.cells #[.slice A2_0 l2_0.length c2_0] 85 (0,0)) (BK257.out)) : gb277 ≠ gb257))
                 clear HO_8;clear HO264;clear HO267;clear BK257;clear HB;have HO_8:=n0_;have HO264:=n1_;have HO267:=n2_;have BK257:=n3_;have HB:=n4_;have BK277:=n5_;have GW277:=n6_;have GE277:=n7_;have NB257_277:=n8_;have NB277_257:=n9_;clear n0_ n1_ n2_ n3_ n4_ n5_ n6_ n7_ n8_ n9_;clear hb hbox hg
                 refine hK.out _ _ ((blk_cell BK257.out 0).trans rfl) (fun hHeld => ?_)
                 clear hK K
                 refine norm_ (a':=?_) ?_ ?_
                 rotate_left
                 ·show Act.put _ (some 10) _ = _
                  simp only [pu_]
                  rfl
                 exact norm_ (by first|(simp only [putAll,pu_];done)|(simp only [putAll,pu_];rfl)) (hJ1_3_10 (v263,v266,gb277) _ ⟨hHeld,(HO264.out),(Kd.V_mono HO267.out (fun _ hk => ⟨hk.1.1,⟨hk.1.2,hk.2⟩⟩)),(HO_8.out),(BK257.out),(BK277.out),GW277.out,GE277.out,NB257_277.out,NB277_257.out,(by repeat (first|(with_reducible first|exact HB.out|apply below_alloc|apply pw_below_drewN|apply below_drew1|refine below_set ?_ GE257.out|refine below_set ?_ GE277.out)|exact HB.out))⟩)
                ·skip
                 refine box_step ?hg (N:=11) ?hd (cs:=#[.slice none 0 0]) (t:=85) ?hr ?_;(case hd => rfl);(case hg => rfl);(case hr => first|(go_simp;done)|(go_simp;rfl))
                 intro gb278 hg w25 hbox hb
                 have n0_:=Aside0.mk (Kd.R_below (HO_8.out) hb)
                 have n1_:=Aside0.mk (Kd.V_below (Kd.V_elderB (HO264.out) gb278 (Nat.le_of_eq hg.symm)) hb)
                 have n2_:=Aside0.mk (Kd.V_below (Kd.V_elderB (HO267.out) gb278 (Nat.le_of_eq hg.symm)) hb)
                 have n3_:=Aside0.mk (blk_below (g:=gb257) (o:=.cells #[.slice A2_0 l2_0.length c2_0] 85 (0,0)) (BK257.out) hb)
                 have n4_:=Aside0.mk (below_step (by repeat (first|(with_reducible first|exact HB.out|apply below_alloc|apply pw_below_drewN|apply below_drew1|refine below_set ?_ GE257.out)|exact HB.out)) hb)
                 have n5_:=Aside0.mk (hbox)
                 have n6_:=Aside0.mk ((by rw [hg];exact (below_size (by repeat (first|(with_reducible first|exact HB.out|apply below_alloc|apply pw_below_drewN|apply below_drew1|refine below_set ?_ GE257.out)|exact HB.out))) : w.heap.size ≤ gb278))
                 have n7_:=Aside0.mk ((by rw [hg];exact (below_size (by repeat (first|(with_reducible first|exact HB.out|apply below_alloc|apply pw_below_drewN|apply below_drew1|refine below_set ?_ GE257.out)|exact HB.out))) : w.heap.size ≤ gb278))
                 have n8_:=Aside0.mk ((by rw [hg];exact Nat.ne_of_lt (blk_lt (g:=gb257) (o:=.cells #[.slice A2_0 l2_0.length c2_0] 85 (0,0)) (BK257.out)) : gb257 ≠ gb278))
                 have n9_:=Aside0.mk ((by rw [hg];exact Nat.ne_of_gt (blk_lt (g:=gb257) (o:=.cells #[.slice A2_0 l2_0.length c2_0] 85 (0,0)) (BK257.out)) : gb278 ≠ gb257))
                 clear HO_8;clear HO264;clear HO267;clear BK257;clear HB;have HO_8:=n0_;have HO264:=n1_;have HO267:=n2_;have BK257:=n3_;have HB:=n4_;have BK278:=n5_;have GW278:=n6_;have GE278:=n7_;have NB257_278:=n8_;have NB278_257:=n9_;clear n0_ n1_ n2_ n3_ n4_ n5_ n6_ n7_ n8_ n9_;clear hb hbox hg
                 refine hK.out _ _ ((blk_cell BK257.out 0).trans rfl) (fun hHeld => ?_)
                 clear hK K
                 refine norm_ (a':=?_) ?_ ?_
                 rotate_left
                 ·show Act.put _ (some 11) _ = _
                  simp only [pu_]
                  rfl
                 exact norm_ (by first|(simp only [putAll,pu_];done)|(simp only [putAll,pu_];rfl)) (hJ1_3_11 (v263,v266,gb278) _ ⟨hHeld,(HO264.out),(Kd.V_mono HO267.out (fun _ hk => ⟨hk.1.1,⟨hk.1.2,hk.2⟩⟩)),(HO_8.out),(BK257.out),(BK278.out),GW278.out,GE278.out,NB257_278.out,NB278_257.out,(by repeat (first|(with_reducible first|exact HB.out|apply below_alloc|apply pw_below_drewN|apply below_drew1|refine below_set ?_ GE257.out|refine below_set ?_ GE278.out)|exact HB.out))⟩)
              ·skip
               rintro ⟨v263,gb277,gb278⟩ w24 ⟨hS_,h0_,h1_,h2_,h3_,h4_,h5_,h6_,h7_,h8_,h9_,h10_,h11_,h12_,h13_,h14_,h15_⟩
               have n0_ : Aside0 (Kd.V (Kd.int .i64) 3 w24 w.heap.size (fun k_ => k_ ≠ gb257 ∧ k_ ≠ gb277 ∧ k_ ≠ gb278) v263 t262):=⟨h0_⟩
               have n1_ : Aside0 (Kd.R (Kd.int .i64) 3 w24 w.heap.size (fun _ => True) (.slice Ao19 x8_1.length co19) x8_1):=⟨h1_⟩
               have n2_ : Aside0 (w24.heap[gb257]? = some (.cells #[.slice A2_0 l2_0.length c2_0] 85 (0,0))):=⟨h2_⟩
               have n3_ : Aside0 (w24.heap[gb277]? = some (.cells #[.slice none 0 0] 85 (0,0))):=⟨h3_⟩
               have n4_ : Aside0 (w24.heap[gb278]? = some (.cells #[.slice none 0 0] 85 (0,0))):=⟨h4_⟩
               have n5_ : Aside0 (w.heap.size ≤ gb277):=⟨h5_⟩
               have n6_ : Aside0 (w.heap.size ≤ gb277):=⟨h6_⟩
               have n7_ : Aside0 (gb257 ≠ gb277):=⟨h7_⟩
               have n8_ : Aside0 (gb277 ≠ gb257):=⟨h8_⟩
               have n9_ : Aside0 (gb278 ≠ gb277):=⟨h9_⟩
               have n10_ : Aside0 (gb277 ≠ gb278):=⟨h10_⟩
               have n11_ : Aside0 (w.heap.size ≤ gb278):=⟨h11_⟩
               have n12_ : Aside0 (w.heap.size ≤ gb278):=⟨h12_⟩
               have n13_ : Aside0 (gb257 ≠ gb278):=⟨h13_⟩
               have n14_ : Aside0 (gb278 ≠ gb257):=⟨h14_⟩
               have n15_ : Aside0 (Below w.heap.size w w24):=⟨h15_⟩
               clear HO_8;clear BK257;clear HB;clear h0_ h1_ h2_ h3_ h4_ h5_ h6_ h7_ h8_ h9_ h10_ h11_ h12_ h13_ h14_ h15_;have HO264:=n0_;have HO_8:=n1_;have BK257:=n2_;have BK277:=n3_;have BK278:=n4_;have GW277:=n5_;have GE277:=n6_;have NB257_277:=n7_;have NB277_257:=n8_;have NB278_277:=n9_;have NB277_278:=n10_;have GW278:=n11_;have GE278:=n12_;have NB257_278:=n13_;have NB278_257:=n14_;have HB:=n15_;clear n0_ n1_ n2_ n3_ n4_ n5_ n6_ n7_ n8_ n9_ n10_ n11_ n12_ n13_ n14_ n15_
               have hHeld : w24.cell? ⟨gb257,0,none⟩ = some (.slice A2_0 l2_0.length c2_0):=hS_
               obtain ⟨Ao25,co25,eo25⟩:=Kd.V_slice HO264.out
               (first|subst eo25|(injection eo25 with f1_ f2_ f3_;have f4_:=f1_.symm;have f5_:=f3_.symm;clear f1_ f2_ f3_;subst f4_;subst f5_))
               refine norm_ (a':=?_) ?_ ?_
               rotate_left
               ·simp only [putAll,pu_]
                rfl
               refine one_ (i:=3) (N:=some 32) #[true,true,true,true,true,false,false,false,false,false,true,true,false,false] rfl rfl (one_of HT_.out (by kernel_rfl)) (by decide) (fun K hK => ?_)
               refine goes_ Tryz.func70 (by kernel_rfl) rfl #[.agg #[.slice Ao25 t262.length co25],.agg #[.slice A2_0 l2_0.length c2_0]] (by rfl) rfl rfl (by (try simp only [List.map_toArray,List.map_cons,List.map_nil]);first|done|rfl|(simp only [List.length_drop,List.length_take];rfl)) ?_
               with_reducible refine (bursarref03_Long_times.calls k1 _ _ t262 _ _ l2_0 t265 _ ?side1 ?side2 ?side3 ?side4 A11.out).mono ?_
               (case side1 => repeat (first|exact (Kd.V_reads' HO264.out).2.2|(with_reducible refine Kd.C_alloc ?_ _)|(with_reducible refine Kd.C_drewN ?_ _)|(with_reducible refine Kd.C_drew ?_)))
               (case side2 => exact (Kd.V_reads' HO264.out).2.1)
               (case side3 => repeat (first|exact (Kd.C_below HR2_0.out HB.out)|(with_reducible refine Kd.C_alloc ?_ _)|(with_reducible refine Kd.C_drewN ?_ _)|(with_reducible refine Kd.C_drew ?_)))
               (case side4 => exact HC2_0.out)
               rintro e w26 ⟨v266,rfl,ho0,hb⟩
               refine ⟨_,rfl,?_⟩
               have n0_:=Aside0.mk (Kd.R_below (HO_8.out) hb)
               have n1_:=Aside0.mk (Kd.V_below (HO264.out) hb)
               have n2_:=Aside0.mk (Kd.V_lower (Kd.V_mono (ok':=fun k_ => some k_ ≠ (.slice Ao19 x8_1.length co19 : Value).ownBlock ∧ k_ ≠ gb257 ∧ k_ ≠ gb277 ∧ k_ ≠ gb278) ho0 (fun k_ hk_ => ⟨(Kd.fresh' (Kd.R_lt (HO_8.out)) k_ hk_),(Kd.freshB (g:=gb257) (o:=.cells #[.slice A2_0 l2_0.length c2_0] 85 (0,0)) (BK257.out) k_ hk_),(Kd.freshB (g:=gb277) (o:=.cells #[.slice none 0 0] 85 (0,0)) (BK277.out) k_ hk_),(Kd.freshB (g:=gb278) (o:=.cells #[.slice none 0 0] 85 (0,0)) (BK278.out) k_ hk_)⟩)) (below_size (by repeat (first|(with_reducible first|exact HB.out|apply below_alloc|apply pw_below_drewN|apply below_drew1|refine below_set ?_ GE257.out|refine below_set ?_ GE277.out|refine below_set ?_ GE278.out)|exact HB.out))))
               have n3_:=Aside0.mk (blk_below (g:=gb257) (o:=.cells #[.slice A2_0 l2_0.length c2_0] 85 (0,0)) (BK257.out) hb)
               have n4_:=Aside0.mk (blk_below (g:=gb277) (o:=.cells #[.slice none 0 0] 85 (0,0)) (BK277.out) hb)
               have n5_:=Aside0.mk (blk_below (g:=gb278) (o:=.cells #[.slice none 0 0] 85 (0,0)) (BK278.out) hb)
               have n6_:=Aside0.mk (below_step (by repeat (first|(with_reducible first|exact HB.out|apply below_alloc|apply pw_below_drewN|apply below_drew1|refine below_set ?_ GE257.out|refine below_set ?_ GE277.out|refine below_set ?_ GE278.out)|exact HB.out)) hb)
               clear HO_8;clear HO264;clear BK257;clear BK277;clear BK278;clear HB;have HO_8:=n0_;have HO264:=n1_;have HO267:=n2_;have BK257:=n3_;have BK277:=n4_;have BK278:=n5_;have HB:=n6_;clear n0_ n1_ n2_ n3_ n4_ n5_ n6_;(try clear hb);(try clear hb2);(try clear hk);(try clear hi);(try clear ho0)
               refine hK.out _ _ ((blk_cell BK257.out 0).trans rfl) (fun hHeld => ?_)
               clear hK K
               refine norm_ (a':=?_) ?_ ?_
               rotate_left
               ·show Act.put _ (some 32) _ = _
                simp only [pu_]
                rfl
               exact norm_ (by first|(simp only [putAll,pu_];done)|(simp only [putAll,pu_];rfl)) (hJ1_3_10_11 (.slice Ao25 t262.length co25,v266,gb277,gb278) _ ⟨hHeld,(HO264.out),(HO267.out),(HO_8.out),(BK257.out),(BK277.out),(BK278.out),GW277.out,GE277.out,NB257_277.out,NB277_257.out,NB278_277.out,NB277_278.out,GW278.out,GE278.out,NB257_278.out,NB278_257.out,(by repeat (first|(with_reducible first|exact HB.out|apply below_alloc|apply pw_below_drewN|apply below_drew1|refine below_set ?_ GE257.out|refine below_set ?_ GE277.out|refine below_set ?_ GE278.out)|exact HB.out))⟩)
             ·skip
              rintro ⟨v263,v266,gb278⟩ w25 ⟨hS_,h0_,h1_,h2_,h3_,h4_,h5_,h6_,h7_,h8_,h9_⟩
              have n0_ : Aside0 (Kd.V (Kd.int .i64) 3 w25 w.heap.size (fun k_ => k_ ≠ gb257 ∧ k_ ≠ gb278) v263 t262):=⟨h0_⟩
              have n1_ : Aside0 (Kd.V (Kd.int .i64) 3 w25 w.heap.size (fun k_ => some k_ ≠ (.slice Ao19 x8_1.length co19 : Value).ownBlock ∧ k_ ≠ gb257 ∧ k_ ≠ gb278) v266 t265):=⟨h1_⟩
              have n2_ : Aside0 (Kd.R (Kd.int .i64) 3 w25 w.heap.size (fun _ => True) (.slice Ao19 x8_1.length co19) x8_1):=⟨h2_⟩
              have n3_ : Aside0 (w25.heap[gb257]? = some (.cells #[.slice A2_0 l2_0.length c2_0] 85 (0,0))):=⟨h3_⟩
              have n4_ : Aside0 (w25.heap[gb278]? = some (.cells #[.slice none 0 0] 85 (0,0))):=⟨h4_⟩
              have n5_ : Aside0 (w.heap.size ≤ gb278):=⟨h5_⟩
              have n6_ : Aside0 (w.heap.size ≤ gb278):=⟨h6_⟩
              have n7_ : Aside0 (gb257 ≠ gb278):=⟨h7_⟩
              have n8_ : Aside0 (gb278 ≠ gb257):=⟨h8_⟩
              have n9_ : Aside0 (Below w.heap.size w w25):=⟨h9_⟩
              clear HO_8;clear BK257;clear HB;clear h0_ h1_ h2_ h3_ h4_ h5_ h6_ h7_ h8_ h9_;have HO264:=n0_;have HO267:=n1_;have HO_8:=n2_;have BK257:=n3_;have BK278:=n4_;have GW278:=n5_;have GE278:=n6_;have NB257_278:=n7_;have NB278_257:=n8_;have HB:=n9_;clear n0_ n1_ n2_ n3_ n4_ n5_ n6_ n7_ n8_ n9_
              have hHeld : w25.cell? ⟨gb257,0,none⟩ = some (.slice A2_0 l2_0.length c2_0):=hS_
              refine norm_ (a':=?_) ?_ ?_
              rotate_left
              ·simp only [putAll,pu_]
               rfl
              refine two_ (i:=5) (j:=10) (Ni:=some 34) (Nj:=some 10) #[true,true,true,true,true,true,false,false,false,false,false,true,false,false] #[true,true,true,true,true,false,false,false,false,false,true,true,false,false] rfl rfl rfl rfl (two_of HT_.out (by kernel_rfl)) (by decide) (by decide) (fun K hK => ?_) (fun K hK => ?_)
              ·skip
               refine goes_ Tryz.func83 (by kernel_rfl) rfl #[.int .i64 10,.int .i64 a1] (by rfl) rfl rfl (by (try simp only [List.map_toArray,List.map_cons,List.map_nil]);first|done|rfl|(simp only [List.length_drop,List.length_take];rfl)) ?_
               with_reducible refine (bursarref03_power.calls k1 10 a1 t268 _ A12.out).mono ?_
               rintro e w26 ⟨v269,rfl,ho0,hb⟩
               refine ⟨_,rfl,?_⟩
               have n0_:=Aside0.mk (Kd.R_below (HO_8.out) hb)
               have n1_:=Aside0.mk (Kd.V_below (HO264.out) hb)
               have n2_:=Aside0.mk (Kd.V_below (HO267.out) hb)
               have n3_:=Aside0.mk (Kd.V_lower (Kd.V_mono (ok':=fun k_ => some k_ ≠ (.slice Ao19 x8_1.length co19 : Value).ownBlock ∧ k_ ≠ gb257 ∧ k_ ≠ gb278) ho0 (fun k_ hk_ => ⟨(Kd.fresh' (Kd.R_lt (HO_8.out)) k_ hk_),(Kd.freshB (g:=gb257) (o:=.cells #[.slice A2_0 l2_0.length c2_0] 85 (0,0)) (BK257.out) k_ hk_),(Kd.freshB (g:=gb278) (o:=.cells #[.slice none 0 0] 85 (0,0)) (BK278.out) k_ hk_)⟩)) (below_size (by repeat (first|(with_reducible first|exact HB.out|apply below_alloc|apply pw_below_drewN|apply below_drew1|refine below_set ?_ GE257.out|refine below_set ?_ GE278.out)|exact HB.out))))
               have n4_:=Aside0.mk (blk_below (g:=gb257) (o:=.cells #[.slice A2_0 l2_0.length c2_0] 85 (0,0)) (BK257.out) hb)
               have n5_:=Aside0.mk (blk_below (g:=gb278) (o:=.cells #[.slice none 0 0] 85 (0,0)) (BK278.out) hb)
               have n6_:=Aside0.mk (below_step (by repeat (first|(with_reducible first|exact HB.out|apply below_alloc|apply pw_below_drewN|apply below_drew1|refine below_set ?_ GE257.out|refine below_set ?_ GE278.out)|exact HB.out)) hb)
               clear HO_8;clear HO264;clear HO267;clear BK257;clear BK278;clear HB;have HO_8:=n0_;have HO264:=n1_;have HO267:=n2_;have HO270:=n3_;have BK257:=n4_;have BK278:=n5_;have HB:=n6_;clear n0_ n1_ n2_ n3_ n4_ n5_ n6_;(try clear hb);(try clear hb2);(try clear hk);(try clear hi);(try clear ho0)
               refine hK.out _ _ ((blk_cell BK257.out 0).trans rfl) (fun hHeld => ?_)
               clear hK K
               refine norm_ (a':=?_) ?_ ?_
               rotate_left
               ·show Act.put _ (some 34) _ = _
                simp only [pu_]
                rfl
               exact norm_ (by first|(simp only [putAll,pu_];done)|(simp only [putAll,pu_];rfl)) (hJ1_3_5_11 (v263,v266,v269,gb278) _ ⟨hHeld,(HO264.out),(HO267.out),(HO270.out),(HO_8.out),(BK257.out),(BK278.out),GW278.out,GE278.out,NB257_278.out,NB278_257.out,(by repeat (first|(with_reducible first|exact HB.out|apply below_alloc|apply pw_below_drewN|apply below_drew1|refine below_set ?_ GE257.out|refine below_set ?_ GE278.out)|exact HB.out))⟩)
              ·skip
               refine box_step ?hg (N:=10) ?hd (cs:=#[.slice none 0 0]) (t:=85) ?hr ?_;(case hd => rfl);(case hg => rfl);(case hr => first|(go_simp;done)|(go_simp;rfl))
               intro gb277 hg w26 hbox hb
               have n0_:=Aside0.mk (Kd.R_below (HO_8.out) hb)
               have n1_:=Aside0.mk (Kd.V_below (Kd.V_elderB (HO264.out) gb277 (Nat.le_of_eq hg.symm)) hb)
               have n2_:=Aside0.mk (Kd.V_below (Kd.V_elderB (HO267.out) gb277 (Nat.le_of_eq hg.symm)) hb)
               have n3_:=Aside0.mk (blk_below (g:=gb257) (o:=.cells #[.slice A2_0 l2_0.length c2_0] 85 (0,0)) (BK257.out) hb)
               have n4_:=Aside0.mk (blk_below (g:=gb278) (o:=.cells #[.slice none 0 0] 85 (0,0)) (BK278.out) hb)
               have n5_:=Aside0.mk (below_step (by repeat (first|(with_reducible first|exact HB.out|apply below_alloc|apply pw_below_drewN|apply below_drew1|refine below_set ?_ GE257.out|refine below_set ?_ GE278.out)|exact HB.out)) hb)
               have n6_:=Aside0.mk (hbox)
               have n7_:=Aside0.mk ((by rw [hg];exact (below_size (by repeat (first|(with_reducible first|exact HB.out|apply below_alloc|apply pw_below_drewN|apply below_drew1|refine below_set ?_ GE257.out|refine below_set ?_ GE278.out)|exact HB.out))) : w.heap.size ≤ gb277))
               have n8_:=Aside0.mk ((by rw [hg];exact (below_size (by repeat (first|(with_reducible first|exact HB.out|apply below_alloc|apply pw_below_drewN|apply below_drew1|refine below_set ?_ GE257.out|refine below_set ?_ GE278.out)|exact HB.out))) : w.heap.size ≤ gb277))
               have n9_:=Aside0.mk ((by rw [hg];exact Nat.ne_of_lt (blk_lt (g:=gb257) (o:=.cells #[.slice A2_0 l2_0.length c2_0] 85 (0,0)) (BK257.out)) : gb257 ≠ gb277))
               have n10_:=Aside0.mk ((by rw [hg];exact Nat.ne_of_gt (blk_lt (g:=gb257) (o:=.cells #[.slice A2_0 l2_0.length c2_0] 85 (0,0)) (BK257.out)) : gb277 ≠ gb257))
               have n11_:=Aside0.mk ((by rw [hg];exact Nat.ne_of_lt (blk_lt (g:=gb278) (o:=.cells #[.slice none 0 0] 85 (0,0)) (BK278.out)) : gb278 ≠ gb277))
               have n12_:=Aside0.mk ((by rw [hg];exact Nat.ne_of_gt (blk_lt (g:=gb278) (o:=.cells #[.slice none 0 0] 85 (0,0)) (BK278.out)) : gb277 ≠ gb278))
               clear HO_8;clear HO264;clear HO267;clear BK257;clear BK278;clear HB;have HO_8:=n0_;have HO264:=n1_;have HO267:=n2_;have BK257:=n3_;have BK278:=n4_;have HB:=n5_;have BK277:=n6_;have GW277:=n7_;have GE277:=n8_;have NB257_277:=n9_;have NB277_257:=n10_;have NB278_277:=n11_;have NB277_278:=n12_;clear n0_ n1_ n2_ n3_ n4_ n5_ n6_ n7_ n8_ n9_ n10_ n11_ n12_;clear hb hbox hg
               refine hK.out _ _ ((blk_cell BK257.out 0).trans rfl) (fun hHeld => ?_)
               clear hK K
               refine norm_ (a':=?_) ?_ ?_
               rotate_left
               ·show Act.put _ (some 10) _ = _
                simp only [pu_]
                rfl
               exact norm_ (by first|(simp only [putAll,pu_];done)|(simp only [putAll,pu_];rfl)) (hJ1_3_10_11 (v263,v266,gb277,gb278) _ ⟨hHeld,(Kd.V_mono HO264.out (fun _ hk => ⟨hk.1.1,⟨hk.2,hk.1.2⟩⟩)),(Kd.V_mono HO267.out (fun _ hk => ⟨hk.1.1,⟨hk.1.2.1,⟨hk.2,hk.1.2.2⟩⟩⟩)),(HO_8.out),(BK257.out),(BK277.out),(BK278.out),GW277.out,GE277.out,NB257_277.out,NB277_257.out,NB278_277.out,NB277_278.out,GW278.out,GE278.out,NB257_278.out,NB278_257.out,(by repeat (first|(with_reducible first|exact HB.out|apply below_alloc|apply pw_below_drewN|apply below_drew1|refine below_set ?_ GE257.out|refine below_set ?_ GE278.out|refine below_set ?_ GE277.out)|exact HB.out))⟩)
            ·skip
             rintro ⟨v263,v266,gb277⟩ w25 ⟨hS_,h0_,h1_,h2_,h3_,h4_,h5_,h6_,h7_,h8_,h9_⟩
             have n0_ : Aside0 (Kd.V (Kd.int .i64) 3 w25 w.heap.size (fun k_ => k_ ≠ gb257 ∧ k_ ≠ gb277) v263 t262):=⟨h0_⟩
             have n1_ : Aside0 (Kd.V (Kd.int .i64) 3 w25 w.heap.size (fun k_ => some k_ ≠ (.slice Ao19 x8_1.length co19 : Value).ownBlock ∧ k_ ≠ gb257 ∧ k_ ≠ gb277) v266 t265):=⟨h1_⟩
             have n2_ : Aside0 (Kd.R (Kd.int .i64) 3 w25 w.heap.size (fun _ => True) (.slice Ao19 x8_1.length co19) x8_1):=⟨h2_⟩
             have n3_ : Aside0 (w25.heap[gb257]? = some (.cells #[.slice A2_0 l2_0.length c2_0] 85 (0,0))):=⟨h3_⟩
             have n4_ : Aside0 (w25.heap[gb277]? = some (.cells #[.slice none 0 0] 85 (0,0))):=⟨h4_⟩
             have n5_ : Aside0 (w.heap.size ≤ gb277):=⟨h5_⟩
             have n6_ : Aside0 (w.heap.size ≤ gb277):=⟨h6_⟩
             have n7_ : Aside0 (gb257 ≠ gb277):=⟨h7_⟩
             have n8_ : Aside0 (gb277 ≠ gb257):=⟨h8_⟩
             have n9_ : Aside0 (Below w.heap.size w w25):=⟨h9_⟩
             clear HO_8;clear BK257;clear HB;clear h0_ h1_ h2_ h3_ h4_ h5_ h6_ h7_ h8_ h9_;have HO264:=n0_;have HO267:=n1_;have HO_8:=n2_;have BK257:=n3_;have BK277:=n4_;have GW277:=n5_;have GE277:=n6_;have NB257_277:=n7_;have NB277_257:=n8_;have HB:=n9_;clear n0_ n1_ n2_ n3_ n4_ n5_ n6_ n7_ n8_ n9_
             have hHeld : w25.cell? ⟨gb257,0,none⟩ = some (.slice A2_0 l2_0.length c2_0):=hS_
             refine norm_ (a':=?_) ?_ ?_
             rotate_left
             ·simp only [putAll,pu_]
              rfl
             refine two_ (i:=5) (j:=11) (Ni:=some 34) (Nj:=some 11) #[true,true,true,true,true,true,false,false,false,false,true,false,false,false] #[true,true,true,true,true,false,false,false,false,false,true,true,false,false] rfl rfl rfl rfl (two_of HT_.out (by kernel_rfl)) (by decide) (by decide) (fun K hK => ?_) (fun K hK => ?_)
             ·skip
              refine goes_ Tryz.func83 (by kernel_rfl) rfl #[.int .i64 10,.int .i64 a1] (by rfl) rfl rfl (by (try simp only [List.map_toArray,List.map_cons,List.map_nil]);first|done|rfl|(simp only [List.length_drop,List.length_take];rfl)) ?_
              with_reducible refine (bursarref03_power.calls k1 10 a1 t268 _ A12.out).mono ?_
              rintro e w26 ⟨v269,rfl,ho0,hb⟩
              refine ⟨_,rfl,?_⟩
              have n0_:=Aside0.mk (Kd.R_below (HO_8.out) hb)
              have n1_:=Aside0.mk (Kd.V_below (HO264.out) hb)
              have n2_:=Aside0.mk (Kd.V_below (HO267.out) hb)
              have n3_:=Aside0.mk (Kd.V_lower (Kd.V_mono (ok':=fun k_ => some k_ ≠ (.slice Ao19 x8_1.length co19 : Value).ownBlock ∧ k_ ≠ gb257 ∧ k_ ≠ gb277) ho0 (fun k_ hk_ => ⟨(Kd.fresh' (Kd.R_lt (HO_8.out)) k_ hk_),(Kd.freshB (g:=gb257) (o:=.cells #[.slice A2_0 l2_0.length c2_0] 85 (0,0)) (BK257.out) k_ hk_),(Kd.freshB (g:=gb277) (o:=.cells #[.slice none 0 0] 85 (0,0)) (BK277.out) k_ hk_)⟩)) (below_size (by repeat (first|(with_reducible first|exact HB.out|apply below_alloc|apply pw_below_drewN|apply below_drew1|refine below_set ?_ GE257.out|refine below_set ?_ GE277.out)|exact HB.out))))
              have n4_:=Aside0.mk (blk_below (g:=gb257) (o:=.cells #[.slice A2_0 l2_0.length c2_0] 85 (0,0)) (BK257.out) hb)
              have n5_:=Aside0.mk (blk_below (g:=gb277) (o:=.cells #[.slice none 0 0] 85 (0,0)) (BK277.out) hb)
              have n6_:=Aside0.mk (below_step (by repeat (first|(with_reducible first|exact HB.out|apply below_alloc|apply pw_below_drewN|apply below_drew1|refine below_set ?_ GE257.out|refine below_set ?_ GE277.out)|exact HB.out)) hb)
              clear HO_8;clear HO264;clear HO267;clear BK257;clear BK277;clear HB;have HO_8:=n0_;have HO264:=n1_;have HO267:=n2_;have HO270:=n3_;have BK257:=n4_;have BK277:=n5_;have HB:=n6_;clear n0_ n1_ n2_ n3_ n4_ n5_ n6_;(try clear hb);(try clear hb2);(try clear hk);(try clear hi);(try clear ho0)
              refine hK.out _ _ ((blk_cell BK257.out 0).trans rfl) (fun hHeld => ?_)
              clear hK K
              refine norm_ (a':=?_) ?_ ?_
              rotate_left
              ·show Act.put _ (some 34) _ = _
               simp only [pu_]
               rfl
              exact norm_ (by first|(simp only [putAll,pu_];done)|(simp only [putAll,pu_];rfl)) (hJ1_3_5_10 (v263,v266,v269,gb277) _ ⟨hHeld,(HO264.out),(HO267.out),(HO270.out),(HO_8.out),(BK257.out),(BK277.out),GW277.out,GE277.out,NB257_277.out,NB277_257.out,(by repeat (first|(with_reducible first|exact HB.out|apply below_alloc|apply pw_below_drewN|apply below_drew1|refine below_set ?_ GE257.out|refine below_set ?_ GE277.out)|exact HB.out))⟩)
             ·skip
              refine box_step ?hg (N:=11) ?hd (cs:=#[.slice none 0 0]) (t:=85) ?hr ?_;(case hd => rfl);(case hg => rfl);(case hr => first|(go_simp;done)|(go_simp;rfl))
              intro gb278 hg w26 hbox hb
              have n0_:=Aside0.mk (Kd.R_below (HO_8.out) hb)
              have n1_:=Aside0.mk (Kd.V_below (Kd.V_elderB (HO264.out) gb278 (Nat.le_of_eq hg.symm)) hb)
              have n2_:=Aside0.mk (Kd.V_below (Kd.V_elderB (HO267.out) gb278 (Nat.le_of_eq hg.symm)) hb)
              have n3_:=Aside0.mk (blk_below (g:=gb257) (o:=.cells #[.slice A2_0 l2_0.length c2_0] 85 (0,0)) (BK257.out) hb)
              have n4_:=Aside0.mk (blk_below (g:=gb277) (o:=.cells #[.slice none 0 0] 85 (0,0)) (BK277.out) hb)
              have n5_:=Aside0.mk (below_step (by repeat (first|(with_reducible first|exact HB.out|apply below_alloc|apply pw_below_drewN|apply below_drew1|refine below_set ?_ GE257.out|refine below_set ?_ GE277.out)|exact HB.out)) hb)
              have n6_:=Aside0.mk (hbox)
              have n7_:=Aside0.mk ((by rw [hg];exact (below_size (by repeat (first|(with_reducible first|exact HB.out|apply below_alloc|apply pw_below_drewN|apply below_drew1|refine below_set ?_ GE257.out|refine below_set ?_ GE277.out)|exact HB.out))) : w.heap.size ≤ gb278))
              have n8_:=Aside0.mk ((by rw [hg];exact (below_size (by repeat (first|(with_reducible first|exact HB.out|apply below_alloc|apply pw_below_drewN|apply below_drew1|refine below_set ?_ GE257.out|refine below_set ?_ GE277.out)|exact HB.out))) : w.heap.size ≤ gb278))
              have n9_:=Aside0.mk ((by rw [hg];exact Nat.ne_of_lt (blk_lt (g:=gb257) (o:=.cells #[.slice A2_0 l2_0.length c2_0] 85 (0,0)) (BK257.out)) : gb257 ≠ gb278))
              have n10_:=Aside0.mk ((by rw [hg];exact Nat.ne_of_gt (blk_lt (g:=gb257) (o:=.cells #[.slice A2_0 l2_0.length c2_0] 85 (0,0)) (BK257.out)) : gb278 ≠ gb257))
              have n11_:=Aside0.mk ((by rw [hg];exact Nat.ne_of_lt (blk_lt (g:=gb277) (o:=.cells #[.slice none 0 0] 85 (0,0)) (BK277.out)) : gb277 ≠ gb278))
              have n12_:=Aside0.mk ((by rw [hg];exact Nat.ne_of_gt (blk_lt (g:=gb277) (o:=.cells #[.slice none 0 0] 85 (0,0)) (BK277.out)) : gb278 ≠ gb277))
              clear HO_8;clear HO264;clear HO267;clear BK257;clear BK277;clear HB;have HO_8:=n0_;have HO264:=n1_;have HO267:=n2_;have BK257:=n3_;have BK277:=n4_;have HB:=n5_;have BK278:=n6_;have GW278:=n7_;have GE278:=n8_;have NB257_278:=n9_;have NB278_257:=n10_;have NB277_278:=n11_;have NB278_277:=n12_;clear n0_ n1_ n2_ n3_ n4_ n5_ n6_ n7_ n8_ n9_ n10_ n11_ n12_;clear hb hbox hg
              refine hK.out _ _ ((blk_cell BK257.out 0).trans rfl) (fun hHeld => ?_)
              clear hK K
              refine norm_ (a':=?_) ?_ ?_
              rotate_left
              ·show Act.put _ (some 11) _ = _
               simp only [pu_]
               rfl
              exact norm_ (by first|(simp only [putAll,pu_];done)|(simp only [putAll,pu_];rfl)) (hJ1_3_10_11 (v263,v266,gb277,gb278) _ ⟨hHeld,(Kd.V_mono HO264.out (fun _ hk => ⟨hk.1.1,⟨hk.1.2,hk.2⟩⟩)),(Kd.V_mono HO267.out (fun _ hk => ⟨hk.1.1,⟨hk.1.2.1,⟨hk.1.2.2,hk.2⟩⟩⟩)),(HO_8.out),(BK257.out),(BK277.out),(BK278.out),GW277.out,GE277.out,NB257_277.out,NB277_257.out,NB278_277.out,NB277_278.out,GW278.out,GE278.out,NB257_278.out,NB278_257.out,(by repeat (first|(with_reducible first|exact HB.out|apply below_alloc|apply pw_below_drewN|apply below_drew1|refine below_set ?_ GE257.out|refine below_set ?_ GE277.out|refine below_set ?_ GE278.out)|exact HB.out))⟩)
           ·skip
            rintro ⟨v263,v266,v269⟩ w25 ⟨hS_,h0_,h1_,h2_,h3_,h4_,h5_⟩
            have n0_ : Aside0 (Kd.V (Kd.int .i64) 3 w25 w.heap.size (fun k_ => k_ ≠ gb257) v263 t262):=⟨h0_⟩
            have n1_ : Aside0 (Kd.V (Kd.int .i64) 3 w25 w.heap.size (fun k_ => some k_ ≠ (.slice Ao19 x8_1.length co19 : Value).ownBlock ∧ k_ ≠ gb257) v266 t265):=⟨h1_⟩
            have n2_ : Aside0 (Kd.V (Kd.int .i64) 3 w25 w.heap.size (fun k_ => some k_ ≠ (.slice Ao19 x8_1.length co19 : Value).ownBlock ∧ k_ ≠ gb257) v269 t268):=⟨h2_⟩
            have n3_ : Aside0 (Kd.R (Kd.int .i64) 3 w25 w.heap.size (fun _ => True) (.slice Ao19 x8_1.length co19) x8_1):=⟨h3_⟩
            have n4_ : Aside0 (w25.heap[gb257]? = some (.cells #[.slice A2_0 l2_0.length c2_0] 85 (0,0))):=⟨h4_⟩
            have n5_ : Aside0 (Below w.heap.size w w25):=⟨h5_⟩
            clear HO_8;clear BK257;clear HB;clear h0_ h1_ h2_ h3_ h4_ h5_;have HO264:=n0_;have HO267:=n1_;have HO270:=n2_;have HO_8:=n3_;have BK257:=n4_;have HB:=n5_;clear n0_ n1_ n2_ n3_ n4_ n5_
            have hHeld : w25.cell? ⟨gb257,0,none⟩ = some (.slice A2_0 l2_0.length c2_0):=hS_
            obtain ⟨Ao26,co26,eo26⟩:=Kd.V_slice HO267.out
            (first|subst eo26|(injection eo26 with f1_ f2_ f3_;have f4_:=f1_.symm;have f5_:=f3_.symm;clear f1_ f2_ f3_;subst f4_;subst f5_))
            obtain ⟨Ao27,co27,eo27⟩:=Kd.V_slice HO270.out
            (first|subst eo27|(injection eo27 with f1_ f2_ f3_;have f4_:=f1_.symm;have f5_:=f3_.symm;clear f1_ f2_ f3_;subst f4_;subst f5_))
            refine norm_ (a':=?_) ?_ ?_
            rotate_left
            ·simp only [putAll,pu_]
             rfl
            refine three_ (i:=6) (j:=10) (k:=11) (Ni:=some 35) (Nj:=some 10) (Nk:=some 11) (bl 7 7) #[true,true,true,true,true,true,false,false,false,false,true,false,false,false] #[true,true,true,true,true,true,false,false,false,false,false,true,false,false] rfl rfl rfl rfl rfl rfl (three_of HT_.out (by kernel_rfl)) (by decide) (by decide) (by decide) (fun K hK => ?_) (fun K hK => ?_) (fun K hK => ?_)
            ·skip
             refine goes_ Tryz.func64 (by kernel_rfl) rfl #[.agg #[.slice Ao26 t265.length co26],.agg #[.slice Ao27 t268.length co27]] (by rfl) rfl rfl (by (try simp only [List.map_toArray,List.map_cons,List.map_nil]);first|done|rfl|(simp only [List.length_drop,List.length_take];rfl)) ?_
             with_reducible refine (bursarref03_Long_by.calls k1 _ _ t265 _ _ t268 t271 t274 _ ?side1 ?side2 ?side3 ?side4 A13.out).mono ?_
             (case side1 => repeat (first|exact (Kd.V_reads' HO267.out).2.2|(with_reducible refine Kd.C_alloc ?_ _)|(with_reducible refine Kd.C_drewN ?_ _)|(with_reducible refine Kd.C_drew ?_)))
             (case side2 => exact (Kd.V_reads' HO267.out).2.1)
             (case side3 => repeat (first|exact (Kd.V_reads' HO270.out).2.2|(with_reducible refine Kd.C_alloc ?_ _)|(with_reducible refine Kd.C_drewN ?_ _)|(with_reducible refine Kd.C_drew ?_)))
             (case side4 => exact (Kd.V_reads' HO270.out).2.1)
             rintro e w28 ⟨v272,v275,rfl,ho0,ho1,hb⟩
             refine ⟨_,rfl,?_⟩
             have n0_:=Aside0.mk (Kd.R_below (HO_8.out) hb)
             have n1_:=Aside0.mk (Kd.V_below (HO264.out) hb)
             have n2_:=Aside0.mk (Kd.V_below (HO267.out) hb)
             have n3_:=Aside0.mk (Kd.V_below (HO270.out) hb)
             have n4_:=Aside0.mk (Kd.V_lower (Kd.V_mono (ok':=fun k_ => some k_ ≠ (.slice Ao19 x8_1.length co19 : Value).ownBlock ∧ k_ ≠ gb257) ho0 (fun k_ hk_ => ⟨(Kd.fresh' (Kd.R_lt (HO_8.out)) k_ hk_),(Kd.freshB (g:=gb257) (o:=.cells #[.slice A2_0 l2_0.length c2_0] 85 (0,0)) (BK257.out) k_ hk_)⟩)) (below_size (by repeat (first|(with_reducible first|exact HB.out|apply below_alloc|apply pw_below_drewN|apply below_drew1|refine below_set ?_ GE257.out)|exact HB.out))))
             have n5_:=Aside0.mk (Kd.V_lower (Kd.V_mono (ok':=fun k_ => some k_ ≠ (.slice Ao19 x8_1.length co19 : Value).ownBlock ∧ k_ ≠ gb257) ho1 (fun k_ hk_ => ⟨(Kd.fresh' (Kd.R_lt (HO_8.out)) k_ hk_),(Kd.freshB (g:=gb257) (o:=.cells #[.slice A2_0 l2_0.length c2_0] 85 (0,0)) (BK257.out) k_ hk_)⟩)) (below_size (by repeat (first|(with_reducible first|exact HB.out|apply below_alloc|apply pw_below_drewN|apply below_drew1|refine below_set ?_ GE257.out)|exact HB.out))))
             have n6_:=Aside0.mk (blk_below (g:=gb257) (o:=.cells #[.slice A2_0 l2_0.length c2_0] 85 (0,0)) (BK257.out) hb)
             have n7_:=Aside0.mk (below_step (by repeat (first|(with_reducible first|exact HB.out|apply below_alloc|apply pw_below_drewN|apply below_drew1|refine below_set ?_ GE257.out)|exact HB.out)) hb)
             clear HO_8;clear HO264;clear HO267;clear HO270;clear BK257;clear HB;have HO_8:=n0_;have HO264:=n1_;have HO267:=n2_;have HO270:=n3_;have HO273:=n4_;have HO276:=n5_;have BK257:=n6_;have HB:=n7_;clear n0_ n1_ n2_ n3_ n4_ n5_ n6_ n7_;(try clear hb);(try clear hb2);(try clear hk);(try clear hi);(try clear ho0);(try clear ho1)
             refine hK.out _ _ ((blk_cell BK257.out 0).trans rfl) (fun hHeld => ?_)
             clear hK K
             refine norm_ (a':=?_) ?_ ?_
             rotate_left
             ·show Act.put _ (some 35) _ = _
              simp only [pu_]
              rfl
             refine pure_ (i:=7) (N:=some 28) (v:=?_) (a':=?_) (bl 8 6) rfl rfl (any_of HT_.out (by kernel_rfl)) (fun _ _ _ h => h) (Or.inl ⟨by rfl,?_⟩) ?_ ?_
             rotate_left;·intro w';go_simp;with_reducible rfl
             rotate_left;·simp only [pu_];rfl
             refine pure_ (i:=8) (N:=some 36) (v:=?_) (a':=?_) (bl 9 5) rfl rfl (any_of HT_.out (by kernel_rfl)) (fun _ _ _ h => h) (Or.inl ⟨by rfl,?_⟩) ?_ ?_
             rotate_left;·intro w';go_simp;with_reducible rfl
             rotate_left;·simp only [pu_];rfl
             refine pure_ (i:=9) (N:=some 37) (v:=?_) (a':=?_) (bl 10 4) rfl rfl (any_of HT_.out (by kernel_rfl)) (fun _ _ _ h => h) (Or.inl ⟨by rfl,?_⟩) ?_ ?_
             rotate_left;·intro w';go_simp;with_reducible rfl
             rotate_left;·simp only [pu_];rfl
             exact norm_ (by first|(simp only [putAll,pu_];done)|(simp only [putAll,pu_];rfl)) (hJ1_3_5_6 (v263,.slice Ao26 t265.length co26,.slice Ao27 t268.length co27,v272,v275) _ ⟨hHeld,(HO264.out),(HO267.out),(HO270.out),(HO273.out),(HO276.out),(HO_8.out),(BK257.out),(by repeat (first|(with_reducible first|exact HB.out|apply below_alloc|apply pw_below_drewN|apply below_drew1|refine below_set ?_ GE257.out)|exact HB.out))⟩)
            ·skip
             refine box_step ?hg (N:=10) ?hd (cs:=#[.slice none 0 0]) (t:=85) ?hr ?_;(case hd => rfl);(case hg => rfl);(case hr => first|(go_simp;done)|(go_simp;rfl))
             intro gb277 hg w26 hbox hb
             have n0_:=Aside0.mk (Kd.R_below (HO_8.out) hb)
             have n1_:=Aside0.mk (Kd.V_below (Kd.V_elderB (HO264.out) gb277 (Nat.le_of_eq hg.symm)) hb)
             have n2_:=Aside0.mk (Kd.V_below (Kd.V_elderB (HO267.out) gb277 (Nat.le_of_eq hg.symm)) hb)
             have n3_:=Aside0.mk (Kd.V_below (Kd.V_elderB (HO270.out) gb277 (Nat.le_of_eq hg.symm)) hb)
             have n4_:=Aside0.mk (blk_below (g:=gb257) (o:=.cells #[.slice A2_0 l2_0.length c2_0] 85 (0,0)) (BK257.out) hb)
             have n5_:=Aside0.mk (below_step (by repeat (first|(with_reducible first|exact HB.out|apply below_alloc|apply pw_below_drewN|apply below_drew1|refine below_set ?_ GE257.out)|exact HB.out)) hb)
             have n6_:=Aside0.mk (hbox)
             have n7_:=Aside0.mk ((by rw [hg];exact (below_size (by repeat (first|(with_reducible first|exact HB.out|apply below_alloc|apply pw_below_drewN|apply below_drew1|refine below_set ?_ GE257.out)|exact HB.out))) : w.heap.size ≤ gb277))
             have n8_:=Aside0.mk ((by rw [hg];exact (below_size (by repeat (first|(with_reducible first|exact HB.out|apply below_alloc|apply pw_below_drewN|apply below_drew1|refine below_set ?_ GE257.out)|exact HB.out))) : w.heap.size ≤ gb277))
             have n9_:=Aside0.mk ((by rw [hg];exact Nat.ne_of_lt (blk_lt (g:=gb257) (o:=.cells #[.slice A2_0 l2_0.length c2_0] 85 (0,0)) (BK257.out)) : gb257 ≠ gb277))
             have n10_:=Aside0.mk ((by rw [hg];exact Nat.ne_of_gt (blk_lt (g:=gb257) (o:=.cells #[.slice A2_0 l2_0.length c2_0] 85 (0,0)) (BK257.out)) : gb277 ≠ gb257))
             clear HO_8;clear HO264;clear HO267;clear HO270;clear BK257;clear HB;have HO_8:=n0_;have HO264:=n1_;have HO267:=n2_;have HO270:=n3_;have BK257:=n4_;have HB:=n5_;have BK277:=n6_;have GW277:=n7_;have GE277:=n8_;have NB257_277:=n9_;have NB277_257:=n10_;clear n0_ n1_ n2_ n3_ n4_ n5_ n6_ n7_ n8_ n9_ n10_;clear hb hbox hg
             refine hK.out _ _ ((blk_cell BK257.out 0).trans rfl) (fun hHeld => ?_)
             clear hK K
             refine norm_ (a':=?_) ?_ ?_
             rotate_left
             ·show Act.put _ (some 10) _ = _
              simp only [pu_]
              rfl
             exact norm_ (by first|(simp only [putAll,pu_];done)|(simp only [putAll,pu_];rfl)) (hJ1_3_5_10 (v263,(.slice Ao26 t265.length co26),(.slice Ao27 t268.length co27),gb277) _ ⟨hHeld,(HO264.out),(Kd.V_mono HO267.out (fun _ hk => ⟨hk.1.1,⟨hk.1.2,hk.2⟩⟩)),(Kd.V_mono HO270.out (fun _ hk => ⟨hk.1.1,⟨hk.1.2,hk.2⟩⟩)),(HO_8.out),(BK257.out),(BK277.out),GW277.out,GE277.out,NB257_277.out,NB277_257.out,(by repeat (first|(with_reducible first|exact HB.out|apply below_alloc|apply pw_below_drewN|apply below_drew1|refine below_set ?_ GE257.out|refine below_set ?_ GE277.out)|exact HB.out))⟩)
            ·skip
             refine box_step ?hg (N:=11) ?hd (cs:=#[.slice none 0 0]) (t:=85) ?hr ?_;(case hd => rfl);(case hg => rfl);(case hr => first|(go_simp;done)|(go_simp;rfl))
             intro gb278 hg w26 hbox hb
             have n0_:=Aside0.mk (Kd.R_below (HO_8.out) hb)
             have n1_:=Aside0.mk (Kd.V_below (Kd.V_elderB (HO264.out) gb278 (Nat.le_of_eq hg.symm)) hb)
             have n2_:=Aside0.mk (Kd.V_below (Kd.V_elderB (HO267.out) gb278 (Nat.le_of_eq hg.symm)) hb)
             have n3_:=Aside0.mk (Kd.V_below (Kd.V_elderB (HO270.out) gb278 (Nat.le_of_eq hg.symm)) hb)
             have n4_:=Aside0.mk (blk_below (g:=gb257) (o:=.cells #[.slice A2_0 l2_0.length c2_0] 85 (0,0)) (BK257.out) hb)
             have n5_:=Aside0.mk (below_step (by repeat (first|(with_reducible first|exact HB.out|apply below_alloc|apply pw_below_drewN|apply below_drew1|refine below_set ?_ GE257.out)|exact HB.out)) hb)
             have n6_:=Aside0.mk (hbox)
             have n7_:=Aside0.mk ((by rw [hg];exact (below_size (by repeat (first|(with_reducible first|exact HB.out|apply below_alloc|apply pw_below_drewN|apply below_drew1|refine below_set ?_ GE257.out)|exact HB.out))) : w.heap.size ≤ gb278))
             have n8_:=Aside0.mk ((by rw [hg];exact (below_size (by repeat (first|(with_reducible first|exact HB.out|apply below_alloc|apply pw_below_drewN|apply below_drew1|refine below_set ?_ GE257.out)|exact HB.out))) : w.heap.size ≤ gb278))
             have n9_:=Aside0.mk ((by rw [hg];exact Nat.ne_of_lt (blk_lt (g:=gb257) (o:=.cells #[.slice A2_0 l2_0.length c2_0] 85 (0,0)) (BK257.out)) : gb257 ≠ gb278))
             have n10_:=Aside0.mk ((by rw [hg];exact Nat.ne_of_gt (blk_lt (g:=gb257) (o:=.cells #[.slice A2_0 l2_0.length c2_0] 85 (0,0)) (BK257.out)) : gb278 ≠ gb257))
             clear HO_8;clear HO264;clear HO267;clear HO270;clear BK257;clear HB;have HO_8:=n0_;have HO264:=n1_;have HO267:=n2_;have HO270:=n3_;have BK257:=n4_;have HB:=n5_;have BK278:=n6_;have GW278:=n7_;have GE278:=n8_;have NB257_278:=n9_;have NB278_257:=n10_;clear n0_ n1_ n2_ n3_ n4_ n5_ n6_ n7_ n8_ n9_ n10_;clear hb hbox hg
             refine hK.out _ _ ((blk_cell BK257.out 0).trans rfl) (fun hHeld => ?_)
             clear hK K
             refine norm_ (a':=?_) ?_ ?_
             rotate_left
             ·show Act.put _ (some 11) _ = _
              simp only [pu_]
              rfl
             exact norm_ (by first|(simp only [putAll,pu_];done)|(simp only [putAll,pu_];rfl)) (hJ1_3_5_11 (v263,(.slice Ao26 t265.length co26),(.slice Ao27 t268.length co27),gb278) _ ⟨hHeld,(HO264.out),(Kd.V_mono HO267.out (fun _ hk => ⟨hk.1.1,⟨hk.1.2,hk.2⟩⟩)),(Kd.V_mono HO270.out (fun _ hk => ⟨hk.1.1,⟨hk.1.2,hk.2⟩⟩)),(HO_8.out),(BK257.out),(BK278.out),GW278.out,GE278.out,NB257_278.out,NB278_257.out,(by repeat (first|(with_reducible first|exact HB.out|apply below_alloc|apply pw_below_drewN|apply below_drew1|refine below_set ?_ GE257.out|refine below_set ?_ GE278.out)|exact HB.out))⟩)
          ·skip
           rintro ⟨v263,v266,gb277,gb278⟩ w26 ⟨hS_,h0_,h1_,h2_,h3_,h4_,h5_,h6_,h7_,h8_,h9_,h10_,h11_,h12_,h13_,h14_,h15_,h16_⟩
           have n0_ : Aside0 (Kd.V (Kd.int .i64) 3 w26 w.heap.size (fun k_ => k_ ≠ gb257 ∧ k_ ≠ gb277 ∧ k_ ≠ gb278) v263 t262):=⟨h0_⟩
           have n1_ : Aside0 (Kd.V (Kd.int .i64) 3 w26 w.heap.size (fun k_ => some k_ ≠ (.slice Ao19 x8_1.length co19 : Value).ownBlock ∧ k_ ≠ gb257 ∧ k_ ≠ gb277 ∧ k_ ≠ gb278) v266 t265):=⟨h1_⟩
           have n2_ : Aside0 (Kd.R (Kd.int .i64) 3 w26 w.heap.size (fun _ => True) (.slice Ao19 x8_1.length co19) x8_1):=⟨h2_⟩
           have n3_ : Aside0 (w26.heap[gb257]? = some (.cells #[.slice A2_0 l2_0.length c2_0] 85 (0,0))):=⟨h3_⟩
           have n4_ : Aside0 (w26.heap[gb277]? = some (.cells #[.slice none 0 0] 85 (0,0))):=⟨h4_⟩
           have n5_ : Aside0 (w26.heap[gb278]? = some (.cells #[.slice none 0 0] 85 (0,0))):=⟨h5_⟩
           have n6_ : Aside0 (w.heap.size ≤ gb277):=⟨h6_⟩
           have n7_ : Aside0 (w.heap.size ≤ gb277):=⟨h7_⟩
           have n8_ : Aside0 (gb257 ≠ gb277):=⟨h8_⟩
           have n9_ : Aside0 (gb277 ≠ gb257):=⟨h9_⟩
           have n10_ : Aside0 (gb278 ≠ gb277):=⟨h10_⟩
           have n11_ : Aside0 (gb277 ≠ gb278):=⟨h11_⟩
           have n12_ : Aside0 (w.heap.size ≤ gb278):=⟨h12_⟩
           have n13_ : Aside0 (w.heap.size ≤ gb278):=⟨h13_⟩
           have n14_ : Aside0 (gb257 ≠ gb278):=⟨h14_⟩
           have n15_ : Aside0 (gb278 ≠ gb257):=⟨h15_⟩
           have n16_ : Aside0 (Below w.heap.size w w26):=⟨h16_⟩
           clear HO_8;clear BK257;clear HB;clear h0_ h1_ h2_ h3_ h4_ h5_ h6_ h7_ h8_ h9_ h10_ h11_ h12_ h13_ h14_ h15_ h16_;have HO264:=n0_;have HO267:=n1_;have HO_8:=n2_;have BK257:=n3_;have BK277:=n4_;have BK278:=n5_;have GW277:=n6_;have GE277:=n7_;have NB257_277:=n8_;have NB277_257:=n9_;have NB278_277:=n10_;have NB277_278:=n11_;have GW278:=n12_;have GE278:=n13_;have NB257_278:=n14_;have NB278_257:=n15_;have HB:=n16_;clear n0_ n1_ n2_ n3_ n4_ n5_ n6_ n7_ n8_ n9_ n10_ n11_ n12_ n13_ n14_ n15_ n16_
           have hHeld : w26.cell? ⟨gb257,0,none⟩ = some (.slice A2_0 l2_0.length c2_0):=hS_
           refine norm_ (a':=?_) ?_ ?_
           rotate_left
           ·simp only [putAll,pu_]
            rfl
           refine one_ (i:=5) (N:=some 34) #[true,true,true,true,true,true,false,false,false,false,true,true,false,false] rfl rfl (one_of HT_.out (by kernel_rfl)) (by decide) (fun K hK => ?_)
           refine goes_ Tryz.func83 (by kernel_rfl) rfl #[.int .i64 10,.int .i64 a1] (by rfl) rfl rfl (by (try simp only [List.map_toArray,List.map_cons,List.map_nil]);first|done|rfl|(simp only [List.length_drop,List.length_take];rfl)) ?_
           with_reducible refine (bursarref03_power.calls k1 10 a1 t268 _ A12.out).mono ?_
           rintro e w27 ⟨v269,rfl,ho0,hb⟩
           refine ⟨_,rfl,?_⟩
           have n0_:=Aside0.mk (Kd.R_below (HO_8.out) hb)
           have n1_:=Aside0.mk (Kd.V_below (HO264.out) hb)
           have n2_:=Aside0.mk (Kd.V_below (HO267.out) hb)
           have n3_:=Aside0.mk (Kd.V_lower (Kd.V_mono (ok':=fun k_ => some k_ ≠ (.slice Ao19 x8_1.length co19 : Value).ownBlock ∧ k_ ≠ gb257 ∧ k_ ≠ gb277 ∧ k_ ≠ gb278) ho0 (fun k_ hk_ => ⟨(Kd.fresh' (Kd.R_lt (HO_8.out)) k_ hk_),(Kd.freshB (g:=gb257) (o:=.cells #[.slice A2_0 l2_0.length c2_0] 85 (0,0)) (BK257.out) k_ hk_),(Kd.freshB (g:=gb277) (o:=.cells #[.slice none 0 0] 85 (0,0)) (BK277.out) k_ hk_),(Kd.freshB (g:=gb278) (o:=.cells #[.slice none 0 0] 85 (0,0)) (BK278.out) k_ hk_)⟩)) (below_size (by repeat (first|(with_reducible first|exact HB.out|apply below_alloc|apply pw_below_drewN|apply below_drew1|refine below_set ?_ GE257.out|refine below_set ?_ GE277.out|refine below_set ?_ GE278.out)|exact HB.out))))
           have n4_:=Aside0.mk (blk_below (g:=gb257) (o:=.cells #[.slice A2_0 l2_0.length c2_0] 85 (0,0)) (BK257.out) hb)
           have n5_:=Aside0.mk (blk_below (g:=gb277) (o:=.cells #[.slice none 0 0] 85 (0,0)) (BK277.out) hb)
           have n6_:=Aside0.mk (blk_below (g:=gb278) (o:=.cells #[.slice none 0 0] 85 (0,0)) (BK278.out) hb)
           have n7_:=Aside0.mk (below_step (by repeat (first|(with_reducible first|exact HB.out|apply below_alloc|apply pw_below_drewN|apply below_drew1|refine below_set ?_ GE257.out|refine below_set ?_ GE277.out|refine below_set ?_ GE278.out)|exact HB.out)) hb)
           clear HO_8;clear HO264;clear HO267;clear BK257;clear BK277;clear BK278;clear HB;have HO_8:=n0_;have HO264:=n1_;have HO267:=n2_;have HO270:=n3_;have BK257:=n4_;have BK277:=n5_;have BK278:=n6_;have HB:=n7_;clear n0_ n1_ n2_ n3_ n4_ n5_ n6_ n7_;(try clear hb);(try clear hb2);(try clear hk);(try clear hi);(try clear ho0)
           refine hK.out _ _ ((blk_cell BK257.out 0).trans rfl) (fun hHeld => ?_)
           clear hK K
           refine norm_ (a':=?_) ?_ ?_
           rotate_left
           ·show Act.put _ (some 34) _ = _
            simp only [pu_]
            rfl
           exact norm_ (by first|(simp only [putAll,pu_];done)|(simp only [putAll,pu_];rfl)) (hJ1_3_5_10_11 (v263,v266,v269,gb277,gb278) _ ⟨hHeld,(HO264.out),(HO267.out),(HO270.out),(HO_8.out),(BK257.out),(BK277.out),(BK278.out),GW277.out,GE277.out,NB257_277.out,NB277_257.out,NB278_277.out,NB277_278.out,GW278.out,GE278.out,NB257_278.out,NB278_257.out,(by repeat (first|(with_reducible first|exact HB.out|apply below_alloc|apply pw_below_drewN|apply below_drew1|refine below_set ?_ GE257.out|refine below_set ?_ GE277.out|refine below_set ?_ GE278.out)|exact HB.out))⟩)
         ·skip
          rintro ⟨v263,v266,v269,gb278⟩ w26 ⟨hS_,h0_,h1_,h2_,h3_,h4_,h5_,h6_,h7_,h8_,h9_,h10_⟩
          have n0_ : Aside0 (Kd.V (Kd.int .i64) 3 w26 w.heap.size (fun k_ => k_ ≠ gb257 ∧ k_ ≠ gb278) v263 t262):=⟨h0_⟩
          have n1_ : Aside0 (Kd.V (Kd.int .i64) 3 w26 w.heap.size (fun k_ => some k_ ≠ (.slice Ao19 x8_1.length co19 : Value).ownBlock ∧ k_ ≠ gb257 ∧ k_ ≠ gb278) v266 t265):=⟨h1_⟩
          have n2_ : Aside0 (Kd.V (Kd.int .i64) 3 w26 w.heap.size (fun k_ => some k_ ≠ (.slice Ao19 x8_1.length co19 : Value).ownBlock ∧ k_ ≠ gb257 ∧ k_ ≠ gb278) v269 t268):=⟨h2_⟩
          have n3_ : Aside0 (Kd.R (Kd.int .i64) 3 w26 w.heap.size (fun _ => True) (.slice Ao19 x8_1.length co19) x8_1):=⟨h3_⟩
          have n4_ : Aside0 (w26.heap[gb257]? = some (.cells #[.slice A2_0 l2_0.length c2_0] 85 (0,0))):=⟨h4_⟩
          have n5_ : Aside0 (w26.heap[gb278]? = some (.cells #[.slice none 0 0] 85 (0,0))):=⟨h5_⟩
          have n6_ : Aside0 (w.heap.size ≤ gb278):=⟨h6_⟩
          have n7_ : Aside0 (w.heap.size ≤ gb278):=⟨h7_⟩
          have n8_ : Aside0 (gb257 ≠ gb278):=⟨h8_⟩
          have n9_ : Aside0 (gb278 ≠ gb257):=⟨h9_⟩
          have n10_ : Aside0 (Below w.heap.size w w26):=⟨h10_⟩
          clear HO_8;clear BK257;clear HB;clear h0_ h1_ h2_ h3_ h4_ h5_ h6_ h7_ h8_ h9_ h10_;have HO264:=n0_;have HO267:=n1_;have HO270:=n2_;have HO_8:=n3_;have BK257:=n4_;have BK278:=n5_;have GW278:=n6_;have GE278:=n7_;have NB257_278:=n8_;have NB278_257:=n9_;have HB:=n10_;clear n0_ n1_ n2_ n3_ n4_ n5_ n6_ n7_ n8_ n9_ n10_
          have hHeld : w26.cell? ⟨gb257,0,none⟩ = some (.slice A2_0 l2_0.length c2_0):=hS_
          obtain ⟨Ao27,co27,eo27⟩:=Kd.V_slice HO267.out
          (first|subst eo27|(injection eo27 with f1_ f2_ f3_;have f4_:=f1_.symm;have f5_:=f3_.symm;clear f1_ f2_ f3_;subst f4_;subst f5_))
          obtain ⟨Ao28,co28,eo28⟩:=Kd.V_slice HO270.out
          (first|subst eo28|(injection eo28 with f1_ f2_ f3_;have f4_:=f1_.symm;have f5_:=f3_.symm;clear f1_ f2_ f3_;subst f4_;subst f5_))
          refine norm_ (a':=?_) ?_ ?_
          rotate_left
          ·simp only [putAll,pu_]
           rfl
          refine two_ (i:=6) (j:=10) (Ni:=some 35) (Nj:=some 10) #[true,true,true,true,true,true,true,false,false,false,false,true,false,false] #[true,true,true,true,true,true,false,false,false,false,true,true,false,false] rfl rfl rfl rfl (two_of HT_.out (by kernel_rfl)) (by decide) (by decide) (fun K hK => ?_) (fun K hK => ?_)
          ·skip
           refine goes_ Tryz.func64 (by kernel_rfl) rfl #[.agg #[.slice Ao27 t265.length co27],.agg #[.slice Ao28 t268.length co28]] (by rfl) rfl rfl (by (try simp only [List.map_toArray,List.map_cons,List.map_nil]);first|done|rfl|(simp only [List.length_drop,List.length_take];rfl)) ?_
           with_reducible refine (bursarref03_Long_by.calls k1 _ _ t265 _ _ t268 t271 t274 _ ?side1 ?side2 ?side3 ?side4 A13.out).mono ?_
           (case side1 => repeat (first|exact (Kd.V_reads' HO267.out).2.2|(with_reducible refine Kd.C_alloc ?_ _)|(with_reducible refine Kd.C_drewN ?_ _)|(with_reducible refine Kd.C_drew ?_)))
           (case side2 => exact (Kd.V_reads' HO267.out).2.1)
           (case side3 => repeat (first|exact (Kd.V_reads' HO270.out).2.2|(with_reducible refine Kd.C_alloc ?_ _)|(with_reducible refine Kd.C_drewN ?_ _)|(with_reducible refine Kd.C_drew ?_)))
           (case side4 => exact (Kd.V_reads' HO270.out).2.1)
           rintro e w29 ⟨v272,v275,rfl,ho0,ho1,hb⟩
           refine ⟨_,rfl,?_⟩
           have n0_:=Aside0.mk (Kd.R_below (HO_8.out) hb)
           have n1_:=Aside0.mk (Kd.V_below (HO264.out) hb)
           have n2_:=Aside0.mk (Kd.V_below (HO267.out) hb)
           have n3_:=Aside0.mk (Kd.V_below (HO270.out) hb)
           have n4_:=Aside0.mk (Kd.V_lower (Kd.V_mono (ok':=fun k_ => some k_ ≠ (.slice Ao19 x8_1.length co19 : Value).ownBlock ∧ k_ ≠ gb257 ∧ k_ ≠ gb278) ho0 (fun k_ hk_ => ⟨(Kd.fresh' (Kd.R_lt (HO_8.out)) k_ hk_),(Kd.freshB (g:=gb257) (o:=.cells #[.slice A2_0 l2_0.length c2_0] 85 (0,0)) (BK257.out) k_ hk_),(Kd.freshB (g:=gb278) (o:=.cells #[.slice none 0 0] 85 (0,0)) (BK278.out) k_ hk_)⟩)) (below_size (by repeat (first|(with_reducible first|exact HB.out|apply below_alloc|apply pw_below_drewN|apply below_drew1|refine below_set ?_ GE257.out|refine below_set ?_ GE278.out)|exact HB.out))))
           have n5_:=Aside0.mk (Kd.V_lower (Kd.V_mono (ok':=fun k_ => some k_ ≠ (.slice Ao19 x8_1.length co19 : Value).ownBlock ∧ k_ ≠ gb257 ∧ k_ ≠ gb278) ho1 (fun k_ hk_ => ⟨(Kd.fresh' (Kd.R_lt (HO_8.out)) k_ hk_),(Kd.freshB (g:=gb257) (o:=.cells #[.slice A2_0 l2_0.length c2_0] 85 (0,0)) (BK257.out) k_ hk_),(Kd.freshB (g:=gb278) (o:=.cells #[.slice none 0 0] 85 (0,0)) (BK278.out) k_ hk_)⟩)) (below_size (by repeat (first|(with_reducible first|exact HB.out|apply below_alloc|apply pw_below_drewN|apply below_drew1|refine below_set ?_ GE257.out|refine below_set ?_ GE278.out)|exact HB.out))))
           have n6_:=Aside0.mk (blk_below (g:=gb257) (o:=.cells #[.slice A2_0 l2_0.length c2_0] 85 (0,0)) (BK257.out) hb)
           have n7_:=Aside0.mk (blk_below (g:=gb278) (o:=.cells #[.slice none 0 0] 85 (0,0)) (BK278.out) hb)
           have n8_:=Aside0.mk (below_step (by repeat (first|(with_reducible first|exact HB.out|apply below_alloc|apply pw_below_drewN|apply below_drew1|refine below_set ?_ GE257.out|refine below_set ?_ GE278.out)|exact HB.out)) hb)
           clear HO_8;clear HO264;clear HO267;clear HO270;clear BK257;clear BK278;clear HB;have HO_8:=n0_;have HO264:=n1_;have HO267:=n2_;have HO270:=n3_;have HO273:=n4_;have HO276:=n5_;have BK257:=n6_;have BK278:=n7_;have HB:=n8_;clear n0_ n1_ n2_ n3_ n4_ n5_ n6_ n7_ n8_;(try clear hb);(try clear hb2);(try clear hk);(try clear hi);(try clear ho0);(try clear ho1)
           refine hK.out _ _ ((blk_cell BK257.out 0).trans rfl) (fun hHeld => ?_)
           clear hK K
           refine norm_ (a':=?_) ?_ ?_
           rotate_left
           ·show Act.put _ (some 35) _ = _
            simp only [pu_]
            rfl
           refine pure_ (i:=7) (N:=some 28) (v:=?_) (a':=?_) #[true,true,true,true,true,true,true,true,false,false,false,true,false,false] rfl rfl (any_of HT_.out (by kernel_rfl)) (fun _ _ _ h => h) (Or.inl ⟨by rfl,?_⟩) ?_ ?_
           rotate_left;·intro w';go_simp;with_reducible rfl
           rotate_left;·simp only [pu_];rfl
           refine pure_ (i:=8) (N:=some 36) (v:=?_) (a':=?_) #[true,true,true,true,true,true,true,true,true,false,false,true,false,false] rfl rfl (any_of HT_.out (by kernel_rfl)) (fun _ _ _ h => h) (Or.inl ⟨by rfl,?_⟩) ?_ ?_
           rotate_left;·intro w';go_simp;with_reducible rfl
           rotate_left;·simp only [pu_];rfl
           refine pure_ (i:=9) (N:=some 37) (v:=?_) (a':=?_) #[true,true,true,true,true,true,true,true,true,true,false,true,false,false] rfl rfl (any_of HT_.out (by kernel_rfl)) (fun _ _ _ h => h) (Or.inl ⟨by rfl,?_⟩) ?_ ?_
           rotate_left;·intro w';go_simp;with_reducible rfl
           rotate_left;·simp only [pu_];rfl
           exact norm_ (by first|(simp only [putAll,pu_];done)|(simp only [putAll,pu_];rfl)) (hJ1_3_5_6_11 (v263,.slice Ao27 t265.length co27,.slice Ao28 t268.length co28,v272,v275,gb278) _ ⟨hHeld,(HO264.out),(HO267.out),(HO270.out),(HO273.out),(HO276.out),(HO_8.out),(BK257.out),(BK278.out),GW278.out,GE278.out,NB257_278.out,NB278_257.out,(by repeat (first|(with_reducible first|exact HB.out|apply below_alloc|apply pw_below_drewN|apply below_drew1|refine below_set ?_ GE257.out|refine below_set ?_ GE278.out)|exact HB.out))⟩)
          ·skip
           refine box_step ?hg (N:=10) ?hd (cs:=#[.slice none 0 0]) (t:=85) ?hr ?_;(case hd => rfl);(case hg => rfl);(case hr => first|(go_simp;done)|(go_simp;rfl))
           intro gb277 hg w27 hbox hb
           have n0_:=Aside0.mk (Kd.R_below (HO_8.out) hb)
           have n1_:=Aside0.mk (Kd.V_below (Kd.V_elderB (HO264.out) gb277 (Nat.le_of_eq hg.symm)) hb)
           have n2_:=Aside0.mk (Kd.V_below (Kd.V_elderB (HO267.out) gb277 (Nat.le_of_eq hg.symm)) hb)
           have n3_:=Aside0.mk (Kd.V_below (Kd.V_elderB (HO270.out) gb277 (Nat.le_of_eq hg.symm)) hb)
           have n4_:=Aside0.mk (blk_below (g:=gb257) (o:=.cells #[.slice A2_0 l2_0.length c2_0] 85 (0,0)) (BK257.out) hb)
           have n5_:=Aside0.mk (blk_below (g:=gb278) (o:=.cells #[.slice none 0 0] 85 (0,0)) (BK278.out) hb)
           have n6_:=Aside0.mk (below_step (by repeat (first|(with_reducible first|exact HB.out|apply below_alloc|apply pw_below_drewN|apply below_drew1|refine below_set ?_ GE257.out|refine below_set ?_ GE278.out)|exact HB.out)) hb)
           have n7_:=Aside0.mk (hbox)
           have n8_:=Aside0.mk ((by rw [hg];exact (below_size (by repeat (first|(with_reducible first|exact HB.out|apply below_alloc|apply pw_below_drewN|apply below_drew1|refine below_set ?_ GE257.out|refine below_set ?_ GE278.out)|exact HB.out))) : w.heap.size ≤ gb277))
           have n9_:=Aside0.mk ((by rw [hg];exact (below_size (by repeat (first|(with_reducible first|exact HB.out|apply below_alloc|apply pw_below_drewN|apply below_drew1|refine below_set ?_ GE257.out|refine below_set ?_ GE278.out)|exact HB.out))) : w.heap.size ≤ gb277))
           have n10_:=Aside0.mk ((by rw [hg];exact Nat.ne_of_lt (blk_lt (g:=gb257) (o:=.cells #[.slice A2_0 l2_0.length c2_0] 85 (0,0)) (BK257.out)) : gb257 ≠ gb277))
           have n11_:=Aside0.mk ((by rw [hg];exact Nat.ne_of_gt (blk_lt (g:=gb257) (o:=.cells #[.slice A2_0 l2_0.length c2_0] 85 (0,0)) (BK257.out)) : gb277 ≠ gb257))
           have n12_:=Aside0.mk ((by rw [hg];exact Nat.ne_of_lt (blk_lt (g:=gb278) (o:=.cells #[.slice none 0 0] 85 (0,0)) (BK278.out)) : gb278 ≠ gb277))
           have n13_:=Aside0.mk ((by rw [hg];exact Nat.ne_of_gt (blk_lt (g:=gb278) (o:=.cells #[.slice none 0 0] 85 (0,0)) (BK278.out)) : gb277 ≠ gb278))
           clear HO_8;clear HO264;clear HO267;clear HO270;clear BK257;clear BK278;clear HB;have HO_8:=n0_;have HO264:=n1_;have HO267:=n2_;have HO270:=n3_;have BK257:=n4_;have BK278:=n5_;have HB:=n6_;have BK277:=n7_;have GW277:=n8_;have GE277:=n9_;have NB257_277:=n10_;have NB277_257:=n11_;have NB278_277:=n12_;have NB277_278:=n13_;clear n0_ n1_ n2_ n3_ n4_ n5_ n6_ n7_ n8_ n9_ n10_ n11_ n12_ n13_;clear hb hbox hg
           refine hK.out _ _ ((blk_cell BK257.out 0).trans rfl) (fun hHeld => ?_)
           clear hK K
           refine norm_ (a':=?_) ?_ ?_
           rotate_left
           ·show Act.put _ (some 10) _ = _
            simp only [pu_]
            rfl
           exact norm_ (by first|(simp only [putAll,pu_];done)|(simp only [putAll,pu_];rfl)) (hJ1_3_5_10_11 (v263,(.slice Ao27 t265.length co27),(.slice Ao28 t268.length co28),gb277,gb278) _ ⟨hHeld,(Kd.V_mono HO264.out (fun _ hk => ⟨hk.1.1,⟨hk.2,hk.1.2⟩⟩)),(Kd.V_mono HO267.out (fun _ hk => ⟨hk.1.1,⟨hk.1.2.1,⟨hk.2,hk.1.2.2⟩⟩⟩)),(Kd.V_mono HO270.out (fun _ hk => ⟨hk.1.1,⟨hk.1.2.1,⟨hk.2,hk.1.2.2⟩⟩⟩)),(HO_8.out),(BK257.out),(BK277.out),(BK278.out),GW277.out,GE277.out,NB257_277.out,NB277_257.out,NB278_277.out,NB277_278.out,GW278.out,GE278.out,NB257_278.out,NB278_257.out,(by repeat (first|(with_reducible first|exact HB.out|apply below_alloc|apply pw_below_drewN|apply below_drew1|refine below_set ?_ GE257.out|refine below_set ?_ GE278.out|refine below_set ?_ GE277.out)|exact HB.out))⟩)
        ·skip
         rintro ⟨v263,v266,v269,gb277⟩ w26 ⟨hS_,h0_,h1_,h2_,h3_,h4_,h5_,h6_,h7_,h8_,h9_,h10_⟩
         have n0_ : Aside0 (Kd.V (Kd.int .i64) 3 w26 w.heap.size (fun k_ => k_ ≠ gb257 ∧ k_ ≠ gb277) v263 t262):=⟨h0_⟩
         have n1_ : Aside0 (Kd.V (Kd.int .i64) 3 w26 w.heap.size (fun k_ => some k_ ≠ (.slice Ao19 x8_1.length co19 : Value).ownBlock ∧ k_ ≠ gb257 ∧ k_ ≠ gb277) v266 t265):=⟨h1_⟩
         have n2_ : Aside0 (Kd.V (Kd.int .i64) 3 w26 w.heap.size (fun k_ => some k_ ≠ (.slice Ao19 x8_1.length co19 : Value).ownBlock ∧ k_ ≠ gb257 ∧ k_ ≠ gb277) v269 t268):=⟨h2_⟩
         have n3_ : Aside0 (Kd.R (Kd.int .i64) 3 w26 w.heap.size (fun _ => True) (.slice Ao19 x8_1.length co19) x8_1):=⟨h3_⟩
         have n4_ : Aside0 (w26.heap[gb257]? = some (.cells #[.slice A2_0 l2_0.length c2_0] 85 (0,0))):=⟨h4_⟩
         have n5_ : Aside0 (w26.heap[gb277]? = some (.cells #[.slice none 0 0] 85 (0,0))):=⟨h5_⟩
         have n6_ : Aside0 (w.heap.size ≤ gb277):=⟨h6_⟩
         have n7_ : Aside0 (w.heap.size ≤ gb277):=⟨h7_⟩
         have n8_ : Aside0 (gb257 ≠ gb277):=⟨h8_⟩
         have n9_ : Aside0 (gb277 ≠ gb257):=⟨h9_⟩
         have n10_ : Aside0 (Below w.heap.size w w26):=⟨h10_⟩
         clear HO_8;clear BK257;clear HB;clear h0_ h1_ h2_ h3_ h4_ h5_ h6_ h7_ h8_ h9_ h10_;have HO264:=n0_;have HO267:=n1_;have HO270:=n2_;have HO_8:=n3_;have BK257:=n4_;have BK277:=n5_;have GW277:=n6_;have GE277:=n7_;have NB257_277:=n8_;have NB277_257:=n9_;have HB:=n10_;clear n0_ n1_ n2_ n3_ n4_ n5_ n6_ n7_ n8_ n9_ n10_
         have hHeld : w26.cell? ⟨gb257,0,none⟩ = some (.slice A2_0 l2_0.length c2_0):=hS_
         obtain ⟨Ao27,co27,eo27⟩:=Kd.V_slice HO267.out
         (first|subst eo27|(injection eo27 with f1_ f2_ f3_;have f4_:=f1_.symm;have f5_:=f3_.symm;clear f1_ f2_ f3_;subst f4_;subst f5_))
         obtain ⟨Ao28,co28,eo28⟩:=Kd.V_slice HO270.out
         (first|subst eo28|(injection eo28 with f1_ f2_ f3_;have f4_:=f1_.symm;have f5_:=f3_.symm;clear f1_ f2_ f3_;subst f4_;subst f5_))
         refine norm_ (a':=?_) ?_ ?_
         rotate_left
         ·simp only [putAll,pu_]
          rfl
         refine two_ (i:=6) (j:=11) (Ni:=some 35) (Nj:=some 11) #[true,true,true,true,true,true,true,false,false,false,true,false,false,false] #[true,true,true,true,true,true,false,false,false,false,true,true,false,false] rfl rfl rfl rfl (two_of HT_.out (by kernel_rfl)) (by decide) (by decide) (fun K hK => ?_) (fun K hK => ?_)
         ·skip
          refine goes_ Tryz.func64 (by kernel_rfl) rfl #[.agg #[.slice Ao27 t265.length co27],.agg #[.slice Ao28 t268.length co28]] (by rfl) rfl rfl (by (try simp only [List.map_toArray,List.map_cons,List.map_nil]);first|done|rfl|(simp only [List.length_drop,List.length_take];rfl)) ?_
          with_reducible refine (bursarref03_Long_by.calls k1 _ _ t265 _ _ t268 t271 t274 _ ?side1 ?side2 ?side3 ?side4 A13.out).mono ?_
          (case side1 => repeat (first|exact (Kd.V_reads' HO267.out).2.2|(with_reducible refine Kd.C_alloc ?_ _)|(with_reducible refine Kd.C_drewN ?_ _)|(with_reducible refine Kd.C_drew ?_)))
          (case side2 => exact (Kd.V_reads' HO267.out).2.1)
          (case side3 => repeat (first|exact (Kd.V_reads' HO270.out).2.2|(with_reducible refine Kd.C_alloc ?_ _)|(with_reducible refine Kd.C_drewN ?_ _)|(with_reducible refine Kd.C_drew ?_)))
          (case side4 => exact (Kd.V_reads' HO270.out).2.1)
          rintro e w29 ⟨v272,v275,rfl,ho0,ho1,hb⟩
          refine ⟨_,rfl,?_⟩
          have n0_:=Aside0.mk (Kd.R_below (HO_8.out) hb)
          have n1_:=Aside0.mk (Kd.V_below (HO264.out) hb)
          have n2_:=Aside0.mk (Kd.V_below (HO267.out) hb)
          have n3_:=Aside0.mk (Kd.V_below (HO270.out) hb)
          have n4_:=Aside0.mk (Kd.V_lower (Kd.V_mono (ok':=fun k_ => some k_ ≠ (.slice Ao19 x8_1.length co19 : Value).ownBlock ∧ k_ ≠ gb257 ∧ k_ ≠ gb277) ho0 (fun k_ hk_ => ⟨(Kd.fresh' (Kd.R_lt (HO_8.out)) k_ hk_),(Kd.freshB (g:=gb257) (o:=.cells #[.slice A2_0 l2_0.length c2_0] 85 (0,0)) (BK257.out) k_ hk_),(Kd.freshB (g:=gb277) (o:=.cells #[.slice none 0 0] 85 (0,0)) (BK277.out) k_ hk_)⟩)) (below_size (by repeat (first|(with_reducible first|exact HB.out|apply below_alloc|apply pw_below_drewN|apply below_drew1|refine below_set ?_ GE257.out|refine below_set ?_ GE277.out)|exact HB.out))))
          have n5_:=Aside0.mk (Kd.V_lower (Kd.V_mono (ok':=fun k_ => some k_ ≠ (.slice Ao19 x8_1.length co19 : Value).ownBlock ∧ k_ ≠ gb257 ∧ k_ ≠ gb277) ho1 (fun k_ hk_ => ⟨(Kd.fresh' (Kd.R_lt (HO_8.out)) k_ hk_),(Kd.freshB (g:=gb257) (o:=.cells #[.slice A2_0 l2_0.length c2_0] 85 (0,0)) (BK257.out) k_ hk_),(Kd.freshB (g:=gb277) (o:=.cells #[.slice none 0 0] 85 (0,0)) (BK277.out) k_ hk_)⟩)) (below_size (by repeat (first|(with_reducible first|exact HB.out|apply below_alloc|apply pw_below_drewN|apply below_drew1|refine below_set ?_ GE257.out|refine below_set ?_ GE277.out)|exact HB.out))))
          have n6_:=Aside0.mk (blk_below (g:=gb257) (o:=.cells #[.slice A2_0 l2_0.length c2_0] 85 (0,0)) (BK257.out) hb)
          have n7_:=Aside0.mk (blk_below (g:=gb277) (o:=.cells #[.slice none 0 0] 85 (0,0)) (BK277.out) hb)
          have n8_:=Aside0.mk (below_step (by repeat (first|(with_reducible first|exact HB.out|apply below_alloc|apply pw_below_drewN|apply below_drew1|refine below_set ?_ GE257.out|refine below_set ?_ GE277.out)|exact HB.out)) hb)
          clear HO_8;clear HO264;clear HO267;clear HO270;clear BK257;clear BK277;clear HB;have HO_8:=n0_;have HO264:=n1_;have HO267:=n2_;have HO270:=n3_;have HO273:=n4_;have HO276:=n5_;have BK257:=n6_;have BK277:=n7_;have HB:=n8_;clear n0_ n1_ n2_ n3_ n4_ n5_ n6_ n7_ n8_;(try clear hb);(try clear hb2);(try clear hk);(try clear hi);(try clear ho0);(try clear ho1)
          refine hK.out _ _ ((blk_cell BK257.out 0).trans rfl) (fun hHeld => ?_)
          clear hK K
          refine norm_ (a':=?_) ?_ ?_
          rotate_left
          ·show Act.put _ (some 35) _ = _
           simp only [pu_]
           rfl
          refine pure_ (i:=7) (N:=some 28) (v:=?_) (a':=?_) #[true,true,true,true,true,true,true,true,false,false,true,false,false,false] rfl rfl (any_of HT_.out (by kernel_rfl)) (fun _ _ _ h => h) (Or.inl ⟨by rfl,?_⟩) ?_ ?_
          rotate_left;·intro w';go_simp;with_reducible rfl
          rotate_left;·simp only [pu_];rfl
          refine pure_ (i:=8) (N:=some 36) (v:=?_) (a':=?_) #[true,true,true,true,true,true,true,true,true,false,true,false,false,false] rfl rfl (any_of HT_.out (by kernel_rfl)) (fun _ _ _ h => h) (Or.inl ⟨by rfl,?_⟩) ?_ ?_
          rotate_left;·intro w';go_simp;with_reducible rfl
          rotate_left;·simp only [pu_];rfl
          refine pure_ (i:=9) (N:=some 37) (v:=?_) (a':=?_) (bl 11 3) rfl rfl (any_of HT_.out (by kernel_rfl)) (fun _ _ _ h => h) (Or.inl ⟨by rfl,?_⟩) ?_ ?_
          rotate_left;·intro w';go_simp;with_reducible rfl
          rotate_left;·simp only [pu_];rfl
          exact norm_ (by first|(simp only [putAll,pu_];done)|(simp only [putAll,pu_];rfl)) (hJ1_3_5_6_10 (v263,.slice Ao27 t265.length co27,.slice Ao28 t268.length co28,v272,v275,gb277) _ ⟨hHeld,(HO264.out),(HO267.out),(HO270.out),(HO273.out),(HO276.out),(HO_8.out),(BK257.out),(BK277.out),GW277.out,GE277.out,NB257_277.out,NB277_257.out,(by repeat (first|(with_reducible first|exact HB.out|apply below_alloc|apply pw_below_drewN|apply below_drew1|refine below_set ?_ GE257.out|refine below_set ?_ GE277.out)|exact HB.out))⟩)
         ·skip
          refine box_step ?hg (N:=11) ?hd (cs:=#[.slice none 0 0]) (t:=85) ?hr ?_;(case hd => rfl);(case hg => rfl);(case hr => first|(go_simp;done)|(go_simp;rfl))
          intro gb278 hg w27 hbox hb
          have n0_:=Aside0.mk (Kd.R_below (HO_8.out) hb)
          have n1_:=Aside0.mk (Kd.V_below (Kd.V_elderB (HO264.out) gb278 (Nat.le_of_eq hg.symm)) hb)
          have n2_:=Aside0.mk (Kd.V_below (Kd.V_elderB (HO267.out) gb278 (Nat.le_of_eq hg.symm)) hb)
          have n3_:=Aside0.mk (Kd.V_below (Kd.V_elderB (HO270.out) gb278 (Nat.le_of_eq hg.symm)) hb)
          have n4_:=Aside0.mk (blk_below (g:=gb257) (o:=.cells #[.slice A2_0 l2_0.length c2_0] 85 (0,0)) (BK257.out) hb)
          have n5_:=Aside0.mk (blk_below (g:=gb277) (o:=.cells #[.slice none 0 0] 85 (0,0)) (BK277.out) hb)
          have n6_:=Aside0.mk (below_step (by repeat (first|(with_reducible first|exact HB.out|apply below_alloc|apply pw_below_drewN|apply below_drew1|refine below_set ?_ GE257.out|refine below_set ?_ GE277.out)|exact HB.out)) hb)
          have n7_:=Aside0.mk (hbox)
          have n8_:=Aside0.mk ((by rw [hg];exact (below_size (by repeat (first|(with_reducible first|exact HB.out|apply below_alloc|apply pw_below_drewN|apply below_drew1|refine below_set ?_ GE257.out|refine below_set ?_ GE277.out)|exact HB.out))) : w.heap.size ≤ gb278))
          have n9_:=Aside0.mk ((by rw [hg];exact (below_size (by repeat (first|(with_reducible first|exact HB.out|apply below_alloc|apply pw_below_drewN|apply below_drew1|refine below_set ?_ GE257.out|refine below_set ?_ GE277.out)|exact HB.out))) : w.heap.size ≤ gb278))
          have n10_:=Aside0.mk ((by rw [hg];exact Nat.ne_of_lt (blk_lt (g:=gb257) (o:=.cells #[.slice A2_0 l2_0.length c2_0] 85 (0,0)) (BK257.out)) : gb257 ≠ gb278))
          have n11_:=Aside0.mk ((by rw [hg];exact Nat.ne_of_gt (blk_lt (g:=gb257) (o:=.cells #[.slice A2_0 l2_0.length c2_0] 85 (0,0)) (BK257.out)) : gb278 ≠ gb257))
          have n12_:=Aside0.mk ((by rw [hg];exact Nat.ne_of_lt (blk_lt (g:=gb277) (o:=.cells #[.slice none 0 0] 85 (0,0)) (BK277.out)) : gb277 ≠ gb278))
          have n13_:=Aside0.mk ((by rw [hg];exact Nat.ne_of_gt (blk_lt (g:=gb277) (o:=.cells #[.slice none 0 0] 85 (0,0)) (BK277.out)) : gb278 ≠ gb277))
          clear HO_8;clear HO264;clear HO267;clear HO270;clear BK257;clear BK277;clear HB;have HO_8:=n0_;have HO264:=n1_;have HO267:=n2_;have HO270:=n3_;have BK257:=n4_;have BK277:=n5_;have HB:=n6_;have BK278:=n7_;have GW278:=n8_;have GE278:=n9_;have NB257_278:=n10_;have NB278_257:=n11_;have NB277_278:=n12_;have NB278_277:=n13_;clear n0_ n1_ n2_ n3_ n4_ n5_ n6_ n7_ n8_ n9_ n10_ n11_ n12_ n13_;clear hb hbox hg
          refine hK.out _ _ ((blk_cell BK257.out 0).trans rfl) (fun hHeld => ?_)
          clear hK K
          refine norm_ (a':=?_) ?_ ?_
          rotate_left
          ·show Act.put _ (some 11) _ = _
           simp only [pu_]
           rfl
          exact norm_ (by first|(simp only [putAll,pu_];done)|(simp only [putAll,pu_];rfl)) (hJ1_3_5_10_11 (v263,(.slice Ao27 t265.length co27),(.slice Ao28 t268.length co28),gb277,gb278) _ ⟨hHeld,(Kd.V_mono HO264.out (fun _ hk => ⟨hk.1.1,⟨hk.1.2,hk.2⟩⟩)),(Kd.V_mono HO267.out (fun _ hk => ⟨hk.1.1,⟨hk.1.2.1,⟨hk.1.2.2,hk.2⟩⟩⟩)),(Kd.V_mono HO270.out (fun _ hk => ⟨hk.1.1,⟨hk.1.2.1,⟨hk.1.2.2,hk.2⟩⟩⟩)),(HO_8.out),(BK257.out),(BK277.out),(BK278.out),GW277.out,GE277.out,NB257_277.out,NB277_257.out,NB278_277.out,NB277_278.out,GW278.out,GE278.out,NB257_278.out,NB278_257.out,(by repeat (first|(with_reducible first|exact HB.out|apply below_alloc|apply pw_below_drewN|apply below_drew1|refine below_set ?_ GE257.out|refine below_set ?_ GE277.out|refine below_set ?_ GE278.out)|exact HB.out))⟩)
       ·skip
        rintro ⟨v263,v266,v269,v272,v275⟩ w28 ⟨hS_,h0_,h1_,h2_,h3_,h4_,h5_,h6_,h7_⟩
        have n0_ : Aside0 (Kd.V (Kd.int .i64) 3 w28 w.heap.size (fun k_ => k_ ≠ gb257) v263 t262):=⟨h0_⟩
        have n1_ : Aside0 (Kd.V (Kd.int .i64) 3 w28 w.heap.size (fun k_ => some k_ ≠ (.slice Ao19 x8_1.length co19 : Value).ownBlock ∧ k_ ≠ gb257) v266 t265):=⟨h1_⟩
        have n2_ : Aside0 (Kd.V (Kd.int .i64) 3 w28 w.heap.size (fun k_ => some k_ ≠ (.slice Ao19 x8_1.length co19 : Value).ownBlock ∧ k_ ≠ gb257) v269 t268):=⟨h2_⟩
        have n3_ : Aside0 (Kd.V (Kd.int .i64) 3 w28 w.heap.size (fun k_ => some k_ ≠ (.slice Ao19 x8_1.length co19 : Value).ownBlock ∧ k_ ≠ gb257) v272 t271):=⟨h3_⟩
        have n4_ : Aside0 (Kd.V (Kd.int .i64) 3 w28 w.heap.size (fun k_ => some k_ ≠ (.slice Ao19 x8_1.length co19 : Value).ownBlock ∧ k_ ≠ gb257) v275 t274):=⟨h4_⟩
        have n5_ : Aside0 (Kd.R (Kd.int .i64) 3 w28 w.heap.size (fun _ => True) (.slice Ao19 x8_1.length co19) x8_1):=⟨h5_⟩
        have n6_ : Aside0 (w28.heap[gb257]? = some (.cells #[.slice A2_0 l2_0.length c2_0] 85 (0,0))):=⟨h6_⟩
        have n7_ : Aside0 (Below w.heap.size w w28):=⟨h7_⟩
        clear HO_8;clear BK257;clear HB;clear h0_ h1_ h2_ h3_ h4_ h5_ h6_ h7_;have HO264:=n0_;have HO267:=n1_;have HO270:=n2_;have HO273:=n3_;have HO276:=n4_;have HO_8:=n5_;have BK257:=n6_;have HB:=n7_;clear n0_ n1_ n2_ n3_ n4_ n5_ n6_ n7_
        have hHeld : w28.cell? ⟨gb257,0,none⟩ = some (.slice A2_0 l2_0.length c2_0):=hS_
        refine norm_ (a':=?_) ?_ ?_
        rotate_left
        ·simp only [putAll,pu_]
         rfl
        refine two_ (i:=10) (j:=11) (Ni:=some 10) (Nj:=some 11) (bl 11 3) #[true,true,true,true,true,true,true,true,true,true,false,true,false,false] rfl rfl rfl rfl (two_of HT_.out (by kernel_rfl)) (by decide) (by decide) (fun K hK => ?_) (fun K hK => ?_)
        ·skip
         refine box_step ?hg (N:=10) ?hd (cs:=#[.slice none 0 0]) (t:=85) ?hr ?_;(case hd => rfl);(case hg => rfl);(case hr => first|(go_simp;done)|(go_simp;rfl))
         intro gb277 hg w29 hbox hb
         have n0_:=Aside0.mk (Kd.R_below (HO_8.out) hb)
         have n1_:=Aside0.mk (Kd.V_below (Kd.V_elderB (HO264.out) gb277 (Nat.le_of_eq hg.symm)) hb)
         have n2_:=Aside0.mk (Kd.V_below (Kd.V_elderB (HO267.out) gb277 (Nat.le_of_eq hg.symm)) hb)
         have n3_:=Aside0.mk (Kd.V_below (Kd.V_elderB (HO270.out) gb277 (Nat.le_of_eq hg.symm)) hb)
         have n4_:=Aside0.mk (Kd.V_below (Kd.V_elderB (HO273.out) gb277 (Nat.le_of_eq hg.symm)) hb)
         have n5_:=Aside0.mk (Kd.V_below (Kd.V_elderB (HO276.out) gb277 (Nat.le_of_eq hg.symm)) hb)
         have n6_:=Aside0.mk (blk_below (g:=gb257) (o:=.cells #[.slice A2_0 l2_0.length c2_0] 85 (0,0)) (BK257.out) hb)
         have n7_:=Aside0.mk (below_step (by repeat (first|(with_reducible first|exact HB.out|apply below_alloc|apply pw_below_drewN|apply below_drew1|refine below_set ?_ GE257.out)|exact HB.out)) hb)
         have n8_:=Aside0.mk (hbox)
         have n9_:=Aside0.mk ((by rw [hg];exact (below_size (by repeat (first|(with_reducible first|exact HB.out|apply below_alloc|apply pw_below_drewN|apply below_drew1|refine below_set ?_ GE257.out)|exact HB.out))) : w.heap.size ≤ gb277))
         have n10_:=Aside0.mk ((by rw [hg];exact (below_size (by repeat (first|(with_reducible first|exact HB.out|apply below_alloc|apply pw_below_drewN|apply below_drew1|refine below_set ?_ GE257.out)|exact HB.out))) : w.heap.size ≤ gb277))
         have n11_:=Aside0.mk ((by rw [hg];exact Nat.ne_of_lt (blk_lt (g:=gb257) (o:=.cells #[.slice A2_0 l2_0.length c2_0] 85 (0,0)) (BK257.out)) : gb257 ≠ gb277))
         have n12_:=Aside0.mk ((by rw [hg];exact Nat.ne_of_gt (blk_lt (g:=gb257) (o:=.cells #[.slice A2_0 l2_0.length c2_0] 85 (0,0)) (BK257.out)) : gb277 ≠ gb257))
         clear HO_8;clear HO264;clear HO267;clear HO270;clear HO273;clear HO276;clear BK257;clear HB;have HO_8:=n0_;have HO264:=n1_;have HO267:=n2_;have HO270:=n3_;have HO273:=n4_;have HO276:=n5_;have BK257:=n6_;have HB:=n7_;have BK277:=n8_;have GW277:=n9_;have GE277:=n10_;have NB257_277:=n11_;have NB277_257:=n12_;clear n0_ n1_ n2_ n3_ n4_ n5_ n6_ n7_ n8_ n9_ n10_ n11_ n12_;clear hb hbox hg
         refine hK.out _ _ ((blk_cell BK257.out 0).trans rfl) (fun hHeld => ?_)
         clear hK K
         refine norm_ (a':=?_) ?_ ?_
         rotate_left
         ·show Act.put _ (some 10) _ = _
          simp only [pu_]
          rfl
         exact norm_ (by first|(simp only [putAll,pu_];done)|(simp only [putAll,pu_];rfl)) (hJ1_3_5_6_10 (v263,v266,v269,v272,v275,gb277) _ ⟨hHeld,(HO264.out),(Kd.V_mono HO267.out (fun _ hk => ⟨hk.1.1,⟨hk.1.2,hk.2⟩⟩)),(Kd.V_mono HO270.out (fun _ hk => ⟨hk.1.1,⟨hk.1.2,hk.2⟩⟩)),(Kd.V_mono HO273.out (fun _ hk => ⟨hk.1.1,⟨hk.1.2,hk.2⟩⟩)),(Kd.V_mono HO276.out (fun _ hk => ⟨hk.1.1,⟨hk.1.2,hk.2⟩⟩)),(HO_8.out),(BK257.out),(BK277.out),GW277.out,GE277.out,NB257_277.out,NB277_257.out,(by repeat (first|(with_reducible first|exact HB.out|apply below_alloc|apply pw_below_drewN|apply below_drew1|refine below_set ?_ GE257.out|refine below_set ?_ GE277.out)|exact HB.out))⟩)
        ·skip
         refine box_step ?hg (N:=11) ?hd (cs:=#[.slice none 0 0]) (t:=85) ?hr ?_;(case hd => rfl);(case hg => rfl);(case hr => first|(go_simp;done)|(go_simp;rfl))
         intro gb278 hg w29 hbox hb
         have n0_:=Aside0.mk (Kd.R_below (HO_8.out) hb)
         have n1_:=Aside0.mk (Kd.V_below (Kd.V_elderB (HO264.out) gb278 (Nat.le_of_eq hg.symm)) hb)
         have n2_:=Aside0.mk (Kd.V_below (Kd.V_elderB (HO267.out) gb278 (Nat.le_of_eq hg.symm)) hb)
         have n3_:=Aside0.mk (Kd.V_below (Kd.V_elderB (HO270.out) gb278 (Nat.le_of_eq hg.symm)) hb)
         have n4_:=Aside0.mk (Kd.V_below (Kd.V_elderB (HO273.out) gb278 (Nat.le_of_eq hg.symm)) hb)
         have n5_:=Aside0.mk (Kd.V_below (Kd.V_elderB (HO276.out) gb278 (Nat.le_of_eq hg.symm)) hb)
         have n6_:=Aside0.mk (blk_below (g:=gb257) (o:=.cells #[.slice A2_0 l2_0.length c2_0] 85 (0,0)) (BK257.out) hb)
         have n7_:=Aside0.mk (below_step (by repeat (first|(with_reducible first|exact HB.out|apply below_alloc|apply pw_below_drewN|apply below_drew1|refine below_set ?_ GE257.out)|exact HB.out)) hb)
         have n8_:=Aside0.mk (hbox)
         have n9_:=Aside0.mk ((by rw [hg];exact (below_size (by repeat (first|(with_reducible first|exact HB.out|apply below_alloc|apply pw_below_drewN|apply below_drew1|refine below_set ?_ GE257.out)|exact HB.out))) : w.heap.size ≤ gb278))
         have n10_:=Aside0.mk ((by rw [hg];exact (below_size (by repeat (first|(with_reducible first|exact HB.out|apply below_alloc|apply pw_below_drewN|apply below_drew1|refine below_set ?_ GE257.out)|exact HB.out))) : w.heap.size ≤ gb278))
         have n11_:=Aside0.mk ((by rw [hg];exact Nat.ne_of_lt (blk_lt (g:=gb257) (o:=.cells #[.slice A2_0 l2_0.length c2_0] 85 (0,0)) (BK257.out)) : gb257 ≠ gb278))
         have n12_:=Aside0.mk ((by rw [hg];exact Nat.ne_of_gt (blk_lt (g:=gb257) (o:=.cells #[.slice A2_0 l2_0.length c2_0] 85 (0,0)) (BK257.out)) : gb278 ≠ gb257))
         clear HO_8;clear HO264;clear HO267;clear HO270;clear HO273;clear HO276;clear BK257;clear HB;have HO_8:=n0_;have HO264:=n1_;have HO267:=n2_;have HO270:=n3_;have HO273:=n4_;have HO276:=n5_;have BK257:=n6_;have HB:=n7_;have BK278:=n8_;have GW278:=n9_;have GE278:=n10_;have NB257_278:=n11_;have NB278_257:=n12_;clear n0_ n1_ n2_ n3_ n4_ n5_ n6_ n7_ n8_ n9_ n10_ n11_ n12_;clear hb hbox hg
         refine hK.out _ _ ((blk_cell BK257.out 0).trans rfl) (fun hHeld => ?_)
         clear hK K
         refine norm_ (a':=?_) ?_ ?_
         rotate_left
         ·show Act.put _ (some 11) _ = _
          simp only [pu_]
          rfl
         exact norm_ (by first|(simp only [putAll,pu_];done)|(simp only [putAll,pu_];rfl)) (hJ1_3_5_6_11 (v263,v266,v269,v272,v275,gb278) _ ⟨hHeld,(HO264.out),(Kd.V_mono HO267.out (fun _ hk => ⟨hk.1.1,⟨hk.1.2,hk.2⟩⟩)),(Kd.V_mono HO270.out (fun _ hk => ⟨hk.1.1,⟨hk.1.2,hk.2⟩⟩)),(Kd.V_mono HO273.out (fun _ hk => ⟨hk.1.1,⟨hk.1.2,hk.2⟩⟩)),(Kd.V_mono HO276.out (fun _ hk => ⟨hk.1.1,⟨hk.1.2,hk.2⟩⟩)),(HO_8.out),(BK257.out),(BK278.out),GW278.out,GE278.out,NB257_278.out,NB278_257.out,(by repeat (first|(with_reducible first|exact HB.out|apply below_alloc|apply pw_below_drewN|apply below_drew1|refine below_set ?_ GE257.out|refine below_set ?_ GE278.out)|exact HB.out))⟩)
      ·skip
       rintro ⟨v263,v266,v269,gb277,gb278⟩ w27 ⟨hS_,h0_,h1_,h2_,h3_,h4_,h5_,h6_,h7_,h8_,h9_,h10_,h11_,h12_,h13_,h14_,h15_,h16_,h17_⟩
       have n0_ : Aside0 (Kd.V (Kd.int .i64) 3 w27 w.heap.size (fun k_ => k_ ≠ gb257 ∧ k_ ≠ gb277 ∧ k_ ≠ gb278) v263 t262):=⟨h0_⟩
       have n1_ : Aside0 (Kd.V (Kd.int .i64) 3 w27 w.heap.size (fun k_ => some k_ ≠ (.slice Ao19 x8_1.length co19 : Value).ownBlock ∧ k_ ≠ gb257 ∧ k_ ≠ gb277 ∧ k_ ≠ gb278) v266 t265):=⟨h1_⟩
       have n2_ : Aside0 (Kd.V (Kd.int .i64) 3 w27 w.heap.size (fun k_ => some k_ ≠ (.slice Ao19 x8_1.length co19 : Value).ownBlock ∧ k_ ≠ gb257 ∧ k_ ≠ gb277 ∧ k_ ≠ gb278) v269 t268):=⟨h2_⟩
       have n3_ : Aside0 (Kd.R (Kd.int .i64) 3 w27 w.heap.size (fun _ => True) (.slice Ao19 x8_1.length co19) x8_1):=⟨h3_⟩
       have n4_ : Aside0 (w27.heap[gb257]? = some (.cells #[.slice A2_0 l2_0.length c2_0] 85 (0,0))):=⟨h4_⟩
       have n5_ : Aside0 (w27.heap[gb277]? = some (.cells #[.slice none 0 0] 85 (0,0))):=⟨h5_⟩
       have n6_ : Aside0 (w27.heap[gb278]? = some (.cells #[.slice none 0 0] 85 (0,0))):=⟨h6_⟩
       have n7_ : Aside0 (w.heap.size ≤ gb277):=⟨h7_⟩
       have n8_ : Aside0 (w.heap.size ≤ gb277):=⟨h8_⟩
       have n9_ : Aside0 (gb257 ≠ gb277):=⟨h9_⟩
       have n10_ : Aside0 (gb277 ≠ gb257):=⟨h10_⟩
       have n11_ : Aside0 (gb278 ≠ gb277):=⟨h11_⟩
       have n12_ : Aside0 (gb277 ≠ gb278):=⟨h12_⟩
       have n13_ : Aside0 (w.heap.size ≤ gb278):=⟨h13_⟩
       have n14_ : Aside0 (w.heap.size ≤ gb278):=⟨h14_⟩
       have n15_ : Aside0 (gb257 ≠ gb278):=⟨h15_⟩
       have n16_ : Aside0 (gb278 ≠ gb257):=⟨h16_⟩
       have n17_ : Aside0 (Below w.heap.size w w27):=⟨h17_⟩
       clear HO_8;clear BK257;clear HB;clear h0_ h1_ h2_ h3_ h4_ h5_ h6_ h7_ h8_ h9_ h10_ h11_ h12_ h13_ h14_ h15_ h16_ h17_;have HO264:=n0_;have HO267:=n1_;have HO270:=n2_;have HO_8:=n3_;have BK257:=n4_;have BK277:=n5_;have BK278:=n6_;have GW277:=n7_;have GE277:=n8_;have NB257_277:=n9_;have NB277_257:=n10_;have NB278_277:=n11_;have NB277_278:=n12_;have GW278:=n13_;have GE278:=n14_;have NB257_278:=n15_;have NB278_257:=n16_;have HB:=n17_;clear n0_ n1_ n2_ n3_ n4_ n5_ n6_ n7_ n8_ n9_ n10_ n11_ n12_ n13_ n14_ n15_ n16_ n17_
       have hHeld : w27.cell? ⟨gb257,0,none⟩ = some (.slice A2_0 l2_0.length c2_0):=hS_
       obtain ⟨Ao28,co28,eo28⟩:=Kd.V_slice HO267.out
       (first|subst eo28|(injection eo28 with f1_ f2_ f3_;have f4_:=f1_.symm;have f5_:=f3_.symm;clear f1_ f2_ f3_;subst f4_;subst f5_))
       obtain ⟨Ao29,co29,eo29⟩:=Kd.V_slice HO270.out
       (first|subst eo29|(injection eo29 with f1_ f2_ f3_;have f4_:=f1_.symm;have f5_:=f3_.symm;clear f1_ f2_ f3_;subst f4_;subst f5_))
       refine norm_ (a':=?_) ?_ ?_
       rotate_left
       ·simp only [putAll,pu_]
        rfl
       refine one_ (i:=6) (N:=some 35) #[true,true,true,true,true,true,true,false,false,false,true,true,false,false] rfl rfl (one_of HT_.out (by kernel_rfl)) (by decide) (fun K hK => ?_)
       refine goes_ Tryz.func64 (by kernel_rfl) rfl #[.agg #[.slice Ao28 t265.length co28],.agg #[.slice Ao29 t268.length co29]] (by rfl) rfl rfl (by (try simp only [List.map_toArray,List.map_cons,List.map_nil]);first|done|rfl|(simp only [List.length_drop,List.length_take];rfl)) ?_
       with_reducible refine (bursarref03_Long_by.calls k1 _ _ t265 _ _ t268 t271 t274 _ ?side1 ?side2 ?side3 ?side4 A13.out).mono ?_
       (case side1 => repeat (first|exact (Kd.V_reads' HO267.out).2.2|(with_reducible refine Kd.C_alloc ?_ _)|(with_reducible refine Kd.C_drewN ?_ _)|(with_reducible refine Kd.C_drew ?_)))
       (case side2 => exact (Kd.V_reads' HO267.out).2.1)
       (case side3 => repeat (first|exact (Kd.V_reads' HO270.out).2.2|(with_reducible refine Kd.C_alloc ?_ _)|(with_reducible refine Kd.C_drewN ?_ _)|(with_reducible refine Kd.C_drew ?_)))
       (case side4 => exact (Kd.V_reads' HO270.out).2.1)
       rintro e w30 ⟨v272,v275,rfl,ho0,ho1,hb⟩
       refine ⟨_,rfl,?_⟩
       have n0_:=Aside0.mk (Kd.R_below (HO_8.out) hb)
       have n1_:=Aside0.mk (Kd.V_below (HO264.out) hb)
       have n2_:=Aside0.mk (Kd.V_below (HO267.out) hb)
       have n3_:=Aside0.mk (Kd.V_below (HO270.out) hb)
       have n4_:=Aside0.mk (Kd.V_lower (Kd.V_mono (ok':=fun k_ => some k_ ≠ (.slice Ao19 x8_1.length co19 : Value).ownBlock ∧ k_ ≠ gb257 ∧ k_ ≠ gb277 ∧ k_ ≠ gb278) ho0 (fun k_ hk_ => ⟨(Kd.fresh' (Kd.R_lt (HO_8.out)) k_ hk_),(Kd.freshB (g:=gb257) (o:=.cells #[.slice A2_0 l2_0.length c2_0] 85 (0,0)) (BK257.out) k_ hk_),(Kd.freshB (g:=gb277) (o:=.cells #[.slice none 0 0] 85 (0,0)) (BK277.out) k_ hk_),(Kd.freshB (g:=gb278) (o:=.cells #[.slice none 0 0] 85 (0,0)) (BK278.out) k_ hk_)⟩)) (below_size (by repeat (first|(with_reducible first|exact HB.out|apply below_alloc|apply pw_below_drewN|apply below_drew1|refine below_set ?_ GE257.out|refine below_set ?_ GE277.out|refine below_set ?_ GE278.out)|exact HB.out))))
       have n5_:=Aside0.mk (Kd.V_lower (Kd.V_mono (ok':=fun k_ => some k_ ≠ (.slice Ao19 x8_1.length co19 : Value).ownBlock ∧ k_ ≠ gb257 ∧ k_ ≠ gb277 ∧ k_ ≠ gb278) ho1 (fun k_ hk_ => ⟨(Kd.fresh' (Kd.R_lt (HO_8.out)) k_ hk_),(Kd.freshB (g:=gb257) (o:=.cells #[.slice A2_0 l2_0.length c2_0] 85 (0,0)) (BK257.out) k_ hk_),(Kd.freshB (g:=gb277) (o:=.cells #[.slice none 0 0] 85 (0,0)) (BK277.out) k_ hk_),(Kd.freshB (g:=gb278) (o:=.cells #[.slice none 0 0] 85 (0,0)) (BK278.out) k_ hk_)⟩)) (below_size (by repeat (first|(with_reducible first|exact HB.out|apply below_alloc|apply pw_below_drewN|apply below_drew1|refine below_set ?_ GE257.out|refine below_set ?_ GE277.out|refine below_set ?_ GE278.out)|exact HB.out))))
       have n6_:=Aside0.mk (blk_below (g:=gb257) (o:=.cells #[.slice A2_0 l2_0.length c2_0] 85 (0,0)) (BK257.out) hb)
       have n7_:=Aside0.mk (blk_below (g:=gb277) (o:=.cells #[.slice none 0 0] 85 (0,0)) (BK277.out) hb)
       have n8_:=Aside0.mk (blk_below (g:=gb278) (o:=.cells #[.slice none 0 0] 85 (0,0)) (BK278.out) hb)
       have n9_:=Aside0.mk (below_step (by repeat (first|(with_reducible first|exact HB.out|apply below_alloc|apply pw_below_drewN|apply below_drew1|refine below_set ?_ GE257.out|refine below_set ?_ GE277.out|refine below_set ?_ GE278.out)|exact HB.out)) hb)
       clear HO_8;clear HO264;clear HO267;clear HO270;clear BK257;clear BK277;clear BK278;clear HB;have HO_8:=n0_;have HO264:=n1_;have HO267:=n2_;have HO270:=n3_;have HO273:=n4_;have HO276:=n5_;have BK257:=n6_;have BK277:=n7_;have BK278:=n8_;have HB:=n9_;clear n0_ n1_ n2_ n3_ n4_ n5_ n6_ n7_ n8_ n9_;(try clear hb);(try clear hb2);(try clear hk);(try clear hi);(try clear ho0);(try clear ho1)
       refine hK.out _ _ ((blk_cell BK257.out 0).trans rfl) (fun hHeld => ?_)
       clear hK K
       refine norm_ (a':=?_) ?_ ?_
       rotate_left
       ·show Act.put _ (some 35) _ = _
        simp only [pu_]
        rfl
       refine pure_ (i:=7) (N:=some 28) (v:=?_) (a':=?_) #[true,true,true,true,true,true,true,true,false,false,true,true,false,false] rfl rfl (any_of HT_.out (by kernel_rfl)) (fun _ _ _ h => h) (Or.inl ⟨by rfl,?_⟩) ?_ ?_
       rotate_left;·intro w';go_simp;with_reducible rfl
       rotate_left;·simp only [pu_];rfl
       refine pure_ (i:=8) (N:=some 36) (v:=?_) (a':=?_) #[true,true,true,true,true,true,true,true,true,false,true,true,false,false] rfl rfl (any_of HT_.out (by kernel_rfl)) (fun _ _ _ h => h) (Or.inl ⟨by rfl,?_⟩) ?_ ?_
       rotate_left;·intro w';go_simp;with_reducible rfl
       rotate_left;·simp only [pu_];rfl
       refine pure_ (i:=9) (N:=some 37) (v:=?_) (a':=?_) (bl 12 2) rfl rfl (any_of HT_.out (by kernel_rfl)) (fun _ _ _ h => h) (Or.inl ⟨by rfl,?_⟩) ?_ ?_
       rotate_left;·intro w';go_simp;with_reducible rfl
       rotate_left;·simp only [pu_];rfl
       exact norm_ (by first|(simp only [putAll,pu_];done)|(simp only [putAll,pu_];rfl)) (hJ1_3_5_6_10_11 (v263,.slice Ao28 t265.length co28,.slice Ao29 t268.length co29,v272,v275,gb277,gb278) _ ⟨hHeld,(HO264.out),(HO267.out),(HO270.out),(HO273.out),(HO276.out),(HO_8.out),(BK257.out),(BK277.out),(BK278.out),GW277.out,GE277.out,NB257_277.out,NB277_257.out,NB278_277.out,NB277_278.out,GW278.out,GE278.out,NB257_278.out,NB278_257.out,(by repeat (first|(with_reducible first|exact HB.out|apply below_alloc|apply pw_below_drewN|apply below_drew1|refine below_set ?_ GE257.out|refine below_set ?_ GE277.out|refine below_set ?_ GE278.out)|exact HB.out))⟩)
     ·skip
      rintro ⟨v263,v266,v269,v272,v275,gb278⟩ w29 ⟨hS_,h0_,h1_,h2_,h3_,h4_,h5_,h6_,h7_,h8_,h9_,h10_,h11_,h12_⟩
      have n0_ : Aside0 (Kd.V (Kd.int .i64) 3 w29 w.heap.size (fun k_ => k_ ≠ gb257 ∧ k_ ≠ gb278) v263 t262):=⟨h0_⟩
      have n1_ : Aside0 (Kd.V (Kd.int .i64) 3 w29 w.heap.size (fun k_ => some k_ ≠ (.slice Ao19 x8_1.length co19 : Value).ownBlock ∧ k_ ≠ gb257 ∧ k_ ≠ gb278) v266 t265):=⟨h1_⟩
      have n2_ : Aside0 (Kd.V (Kd.int .i64) 3 w29 w.heap.size (fun k_ => some k_ ≠ (.slice Ao19 x8_1.length co19 : Value).ownBlock ∧ k_ ≠ gb257 ∧ k_ ≠ gb278) v269 t268):=⟨h2_⟩
      have n3_ : Aside0 (Kd.V (Kd.int .i64) 3 w29 w.heap.size (fun k_ => some k_ ≠ (.slice Ao19 x8_1.length co19 : Value).ownBlock ∧ k_ ≠ gb257 ∧ k_ ≠ gb278) v272 t271):=⟨h3_⟩
      have n4_ : Aside0 (Kd.V (Kd.int .i64) 3 w29 w.heap.size (fun k_ => some k_ ≠ (.slice Ao19 x8_1.length co19 : Value).ownBlock ∧ k_ ≠ gb257 ∧ k_ ≠ gb278) v275 t274):=⟨h4_⟩
      have n5_ : Aside0 (Kd.R (Kd.int .i64) 3 w29 w.heap.size (fun _ => True) (.slice Ao19 x8_1.length co19) x8_1):=⟨h5_⟩
      have n6_ : Aside0 (w29.heap[gb257]? = some (.cells #[.slice A2_0 l2_0.length c2_0] 85 (0,0))):=⟨h6_⟩
      have n7_ : Aside0 (w29.heap[gb278]? = some (.cells #[.slice none 0 0] 85 (0,0))):=⟨h7_⟩
      have n8_ : Aside0 (w.heap.size ≤ gb278):=⟨h8_⟩
      have n9_ : Aside0 (w.heap.size ≤ gb278):=⟨h9_⟩
      have n10_ : Aside0 (gb257 ≠ gb278):=⟨h10_⟩
      have n11_ : Aside0 (gb278 ≠ gb257):=⟨h11_⟩
      have n12_ : Aside0 (Below w.heap.size w w29):=⟨h12_⟩
      clear HO_8;clear BK257;clear HB;clear h0_ h1_ h2_ h3_ h4_ h5_ h6_ h7_ h8_ h9_ h10_ h11_ h12_;have HO264:=n0_;have HO267:=n1_;have HO270:=n2_;have HO273:=n3_;have HO276:=n4_;have HO_8:=n5_;have BK257:=n6_;have BK278:=n7_;have GW278:=n8_;have GE278:=n9_;have NB257_278:=n10_;have NB278_257:=n11_;have HB:=n12_;clear n0_ n1_ n2_ n3_ n4_ n5_ n6_ n7_ n8_ n9_ n10_ n11_ n12_
      have hHeld : w29.cell? ⟨gb257,0,none⟩ = some (.slice A2_0 l2_0.length c2_0):=hS_
      refine norm_ (a':=?_) ?_ ?_
      rotate_left
      ·simp only [putAll,pu_]
       rfl
      refine one_ (i:=10) (N:=some 10) (bl 12 2) rfl rfl (one_of HT_.out (by kernel_rfl)) (by decide) (fun K hK => ?_)
      refine box_step ?hg (N:=10) ?hd (cs:=#[.slice none 0 0]) (t:=85) ?hr ?_;(case hd => rfl);(case hg => rfl);(case hr => first|(go_simp;done)|(go_simp;rfl))
      intro gb277 hg w30 hbox hb
      have n0_:=Aside0.mk (Kd.R_below (HO_8.out) hb)
      have n1_:=Aside0.mk (Kd.V_below (Kd.V_elderB (HO264.out) gb277 (Nat.le_of_eq hg.symm)) hb)
      have n2_:=Aside0.mk (Kd.V_below (Kd.V_elderB (HO267.out) gb277 (Nat.le_of_eq hg.symm)) hb)
      have n3_:=Aside0.mk (Kd.V_below (Kd.V_elderB (HO270.out) gb277 (Nat.le_of_eq hg.symm)) hb)
      have n4_:=Aside0.mk (Kd.V_below (Kd.V_elderB (HO273.out) gb277 (Nat.le_of_eq hg.symm)) hb)
      have n5_:=Aside0.mk (Kd.V_below (Kd.V_elderB (HO276.out) gb277 (Nat.le_of_eq hg.symm)) hb)
      have n6_:=Aside0.mk (blk_below (g:=gb257) (o:=.cells #[.slice A2_0 l2_0.length c2_0] 85 (0,0)) (BK257.out) hb)
      have n7_:=Aside0.mk (blk_below (g:=gb278) (o:=.cells #[.slice none 0 0] 85 (0,0)) (BK278.out) hb)
      have n8_:=Aside0.mk (below_step (by repeat (first|(with_reducible first|exact HB.out|apply below_alloc|apply pw_below_drewN|apply below_drew1|refine below_set ?_ GE257.out|refine below_set ?_ GE278.out)|exact HB.out)) hb)
      have n9_:=Aside0.mk (hbox)
      have n10_:=Aside0.mk ((by rw [hg];exact (below_size (by repeat (first|(with_reducible first|exact HB.out|apply below_alloc|apply pw_below_drewN|apply below_drew1|refine below_set ?_ GE257.out|refine below_set ?_ GE278.out)|exact HB.out))) : w.heap.size ≤ gb277))
      have n11_:=Aside0.mk ((by rw [hg];exact (below_size (by repeat (first|(with_reducible first|exact HB.out|apply below_alloc|apply pw_below_drewN|apply below_drew1|refine below_set ?_ GE257.out|refine below_set ?_ GE278.out)|exact HB.out))) : w.heap.size ≤ gb277))
      have n12_:=Aside0.mk ((by rw [hg];exact Nat.ne_of_lt (blk_lt (g:=gb257) (o:=.cells #[.slice A2_0 l2_0.length c2_0] 85 (0,0)) (BK257.out)) : gb257 ≠ gb277))
      have n13_:=Aside0.mk ((by rw [hg];exact Nat.ne_of_gt (blk_lt (g:=gb257) (o:=.cells #[.slice A2_0 l2_0.length c2_0] 85 (0,0)) (BK257.out)) : gb277 ≠ gb257))
      have n14_:=Aside0.mk ((by rw [hg];exact Nat.ne_of_lt (blk_lt (g:=gb278) (o:=.cells #[.slice none 0 0] 85 (0,0)) (BK278.out)) : gb278 ≠ gb277))
      have n15_:=Aside0.mk ((by rw [hg];exact Nat.ne_of_gt (blk_lt (g:=gb278) (o:=.cells #[.slice none 0 0] 85 (0,0)) (BK278.out)) : gb277 ≠ gb278))
      clear HO_8;clear HO264;clear HO267;clear HO270;clear HO273;clear HO276;clear BK257;clear BK278;clear HB;have HO_8:=n0_;have HO264:=n1_;have HO267:=n2_;have HO270:=n3_;have HO273:=n4_;have HO276:=n5_;have BK257:=n6_;have BK278:=n7_;have HB:=n8_;have BK277:=n9_;have GW277:=n10_;have GE277:=n11_;have NB257_277:=n12_;have NB277_257:=n13_;have NB278_277:=n14_;have NB277_278:=n15_;clear n0_ n1_ n2_ n3_ n4_ n5_ n6_ n7_ n8_ n9_ n10_ n11_ n12_ n13_ n14_ n15_;clear hb hbox hg
      refine hK.out _ _ ((blk_cell BK257.out 0).trans rfl) (fun hHeld => ?_)
      clear hK K
      refine norm_ (a':=?_) ?_ ?_
      rotate_left
      ·show Act.put _ (some 10) _ = _
       simp only [pu_]
       rfl
      exact norm_ (by first|(simp only [putAll,pu_];done)|(simp only [putAll,pu_];rfl)) (hJ1_3_5_6_10_11 (v263,v266,v269,v272,v275,gb277,gb278) _ ⟨hHeld,(Kd.V_mono HO264.out (fun _ hk => ⟨hk.1.1,⟨hk.2,hk.1.2⟩⟩)),(Kd.V_mono HO267.out (fun _ hk => ⟨hk.1.1,⟨hk.1.2.1,⟨hk.2,hk.1.2.2⟩⟩⟩)),(Kd.V_mono HO270.out (fun _ hk => ⟨hk.1.1,⟨hk.1.2.1,⟨hk.2,hk.1.2.2⟩⟩⟩)),(Kd.V_mono HO273.out (fun _ hk => ⟨hk.1.1,⟨hk.1.2.1,⟨hk.2,hk.1.2.2⟩⟩⟩)),(Kd.V_mono HO276.out (fun _ hk => ⟨hk.1.1,⟨hk.1.2.1,⟨hk.2,hk.1.2.2⟩⟩⟩)),(HO_8.out),(BK257.out),(BK277.out),(BK278.out),GW277.out,GE277.out,NB257_277.out,NB277_257.out,NB278_277.out,NB277_278.out,GW278.out,GE278.out,NB257_278.out,NB278_257.out,(by repeat (first|(with_reducible first|exact HB.out|apply below_alloc|apply pw_below_drewN|apply below_drew1|refine below_set ?_ GE257.out|refine below_set ?_ GE278.out|refine below_set ?_ GE277.out)|exact HB.out))⟩)
    ·skip
     rintro ⟨v263,v266,v269,v272,v275,gb277⟩ w29 ⟨hS_,h0_,h1_,h2_,h3_,h4_,h5_,h6_,h7_,h8_,h9_,h10_,h11_,h12_⟩
     have n0_ : Aside0 (Kd.V (Kd.int .i64) 3 w29 w.heap.size (fun k_ => k_ ≠ gb257 ∧ k_ ≠ gb277) v263 t262):=⟨h0_⟩
     have n1_ : Aside0 (Kd.V (Kd.int .i64) 3 w29 w.heap.size (fun k_ => some k_ ≠ (.slice Ao19 x8_1.length co19 : Value).ownBlock ∧ k_ ≠ gb257 ∧ k_ ≠ gb277) v266 t265):=⟨h1_⟩
     have n2_ : Aside0 (Kd.V (Kd.int .i64) 3 w29 w.heap.size (fun k_ => some k_ ≠ (.slice Ao19 x8_1.length co19 : Value).ownBlock ∧ k_ ≠ gb257 ∧ k_ ≠ gb277) v269 t268):=⟨h2_⟩
     have n3_ : Aside0 (Kd.V (Kd.int .i64) 3 w29 w.heap.size (fun k_ => some k_ ≠ (.slice Ao19 x8_1.length co19 : Value).ownBlock ∧ k_ ≠ gb257 ∧ k_ ≠ gb277) v272 t271):=⟨h3_⟩
     have n4_ : Aside0 (Kd.V (Kd.int .i64) 3 w29 w.heap.size (fun k_ => some k_ ≠ (.slice Ao19 x8_1.length co19 : Value).ownBlock ∧ k_ ≠ gb257 ∧ k_ ≠ gb277) v275 t274):=⟨h4_⟩
     have n5_ : Aside0 (Kd.R (Kd.int .i64) 3 w29 w.heap.size (fun _ => True) (.slice Ao19 x8_1.length co19) x8_1):=⟨h5_⟩
     have n6_ : Aside0 (w29.heap[gb257]? = some (.cells #[.slice A2_0 l2_0.length c2_0] 85 (0,0))):=⟨h6_⟩
     have n7_ : Aside0 (w29.heap[gb277]? = some (.cells #[.slice none 0 0] 85 (0,0))):=⟨h7_⟩
     have n8_ : Aside0 (w.heap.size ≤ gb277):=⟨h8_⟩
     have n9_ : Aside0 (w.heap.size ≤ gb277):=⟨h9_⟩
     have n10_ : Aside0 (gb257 ≠ gb277):=⟨h10_⟩
     have n11_ : Aside0 (gb277 ≠ gb257):=⟨h11_⟩
     have n12_ : Aside0 (Below w.heap.size w w29):=⟨h12_⟩
     clear HO_8;clear BK257;clear HB;clear h0_ h1_ h2_ h3_ h4_ h5_ h6_ h7_ h8_ h9_ h10_ h11_ h12_;have HO264:=n0_;have HO267:=n1_;have HO270:=n2_;have HO273:=n3_;have HO276:=n4_;have HO_8:=n5_;have BK257:=n6_;have BK277:=n7_;have GW277:=n8_;have GE277:=n9_;have NB257_277:=n10_;have NB277_257:=n11_;have HB:=n12_;clear n0_ n1_ n2_ n3_ n4_ n5_ n6_ n7_ n8_ n9_ n10_ n11_ n12_
     have hHeld : w29.cell? ⟨gb257,0,none⟩ = some (.slice A2_0 l2_0.length c2_0):=hS_
     refine norm_ (a':=?_) ?_ ?_
     rotate_left
     ·simp only [putAll,pu_]
      rfl
     refine one_ (i:=11) (N:=some 11) (bl 12 2) rfl rfl (one_of HT_.out (by kernel_rfl)) (by decide) (fun K hK => ?_)
     refine box_step ?hg (N:=11) ?hd (cs:=#[.slice none 0 0]) (t:=85) ?hr ?_;(case hd => rfl);(case hg => rfl);(case hr => first|(go_simp;done)|(go_simp;rfl))
     intro gb278 hg w30 hbox hb
     have n0_:=Aside0.mk (Kd.R_below (HO_8.out) hb)
     have n1_:=Aside0.mk (Kd.V_below (Kd.V_elderB (HO264.out) gb278 (Nat.le_of_eq hg.symm)) hb)
     have n2_:=Aside0.mk (Kd.V_below (Kd.V_elderB (HO267.out) gb278 (Nat.le_of_eq hg.symm)) hb)
     have n3_:=Aside0.mk (Kd.V_below (Kd.V_elderB (HO270.out) gb278 (Nat.le_of_eq hg.symm)) hb)
     have n4_:=Aside0.mk (Kd.V_below (Kd.V_elderB (HO273.out) gb278 (Nat.le_of_eq hg.symm)) hb)
     have n5_:=Aside0.mk (Kd.V_below (Kd.V_elderB (HO276.out) gb278 (Nat.le_of_eq hg.symm)) hb)
     have n6_:=Aside0.mk (blk_below (g:=gb257) (o:=.cells #[.slice A2_0 l2_0.length c2_0] 85 (0,0)) (BK257.out) hb)
     have n7_:=Aside0.mk (blk_below (g:=gb277) (o:=.cells #[.slice none 0 0] 85 (0,0)) (BK277.out) hb)
     have n8_:=Aside0.mk (below_step (by repeat (first|(with_reducible first|exact HB.out|apply below_alloc|apply pw_below_drewN|apply below_drew1|refine below_set ?_ GE257.out|refine below_set ?_ GE277.out)|exact HB.out)) hb)
     have n9_:=Aside0.mk (hbox)
     have n10_:=Aside0.mk ((by rw [hg];exact (below_size (by repeat (first|(with_reducible first|exact HB.out|apply below_alloc|apply pw_below_drewN|apply below_drew1|refine below_set ?_ GE257.out|refine below_set ?_ GE277.out)|exact HB.out))) : w.heap.size ≤ gb278))
     have n11_:=Aside0.mk ((by rw [hg];exact (below_size (by repeat (first|(with_reducible first|exact HB.out|apply below_alloc|apply pw_below_drewN|apply below_drew1|refine below_set ?_ GE257.out|refine below_set ?_ GE277.out)|exact HB.out))) : w.heap.size ≤ gb278))
     have n12_:=Aside0.mk ((by rw [hg];exact Nat.ne_of_lt (blk_lt (g:=gb257) (o:=.cells #[.slice A2_0 l2_0.length c2_0] 85 (0,0)) (BK257.out)) : gb257 ≠ gb278))
     have n13_:=Aside0.mk ((by rw [hg];exact Nat.ne_of_gt (blk_lt (g:=gb257) (o:=.cells #[.slice A2_0 l2_0.length c2_0] 85 (0,0)) (BK257.out)) : gb278 ≠ gb257))
     have n14_:=Aside0.mk ((by rw [hg];exact Nat.ne_of_lt (blk_lt (g:=gb277) (o:=.cells #[.slice none 0 0] 85 (0,0)) (BK277.out)) : gb277 ≠ gb278))
     have n15_:=Aside0.mk ((by rw [hg];exact Nat.ne_of_gt (blk_lt (g:=gb277) (o:=.cells #[.slice none 0 0] 85 (0,0)) (BK277.out)) : gb278 ≠ gb277))
     clear HO_8;clear HO264;clear HO267;clear HO270;clear HO273;clear HO276;clear BK257;clear BK277;clear HB;have HO_8:=n0_;have HO264:=n1_;have HO267:=n2_;have HO270:=n3_;have HO273:=n4_;have HO276:=n5_;have BK257:=n6_;have BK277:=n7_;have HB:=n8_;have BK278:=n9_;have GW278:=n10_;have GE278:=n11_;have NB257_278:=n12_;have NB278_257:=n13_;have NB277_278:=n14_;have NB278_277:=n15_;clear n0_ n1_ n2_ n3_ n4_ n5_ n6_ n7_ n8_ n9_ n10_ n11_ n12_ n13_ n14_ n15_;clear hb hbox hg
     refine hK.out _ _ ((blk_cell BK257.out 0).trans rfl) (fun hHeld => ?_)
     clear hK K
     refine norm_ (a':=?_) ?_ ?_
     rotate_left
     ·show Act.put _ (some 11) _ = _
      simp only [pu_]
      rfl
     exact norm_ (by first|(simp only [putAll,pu_];done)|(simp only [putAll,pu_];rfl)) (hJ1_3_5_6_10_11 (v263,v266,v269,v272,v275,gb277,gb278) _ ⟨hHeld,(Kd.V_mono HO264.out (fun _ hk => ⟨hk.1.1,⟨hk.1.2,hk.2⟩⟩)),(Kd.V_mono HO267.out (fun _ hk => ⟨hk.1.1,⟨hk.1.2.1,⟨hk.1.2.2,hk.2⟩⟩⟩)),(Kd.V_mono HO270.out (fun _ hk => ⟨hk.1.1,⟨hk.1.2.1,⟨hk.1.2.2,hk.2⟩⟩⟩)),(Kd.V_mono HO273.out (fun _ hk => ⟨hk.1.1,⟨hk.1.2.1,⟨hk.1.2.2,hk.2⟩⟩⟩)),(Kd.V_mono HO276.out (fun _ hk => ⟨hk.1.1,⟨hk.1.2.1,⟨hk.1.2.2,hk.2⟩⟩⟩)),(HO_8.out),(BK257.out),(BK277.out),(BK278.out),GW277.out,GE277.out,NB257_277.out,NB277_257.out,NB278_277.out,NB277_278.out,GW278.out,GE278.out,NB257_278.out,NB278_257.out,(by repeat (first|(with_reducible first|exact HB.out|apply below_alloc|apply pw_below_drewN|apply below_drew1|refine below_set ?_ GE257.out|refine below_set ?_ GE277.out|refine below_set ?_ GE278.out)|exact HB.out))⟩)
   rintro ⟨v263,v266,v269,v272,v275,gb277,gb278⟩ w30 ⟨hS_,h0_,h1_,h2_,h3_,h4_,h5_,h6_,h7_,h8_,h9_,h10_,h11_,h12_,h13_,h14_,h15_,h16_,h17_,h18_,h19_⟩
   have n0_ : Aside0 (Kd.V (Kd.int .i64) 3 w30 w.heap.size (fun k_ => k_ ≠ gb257 ∧ k_ ≠ gb277 ∧ k_ ≠ gb278) v263 t262):=⟨h0_⟩
   have n1_ : Aside0 (Kd.V (Kd.int .i64) 3 w30 w.heap.size (fun k_ => some k_ ≠ (.slice Ao19 x8_1.length co19 : Value).ownBlock ∧ k_ ≠ gb257 ∧ k_ ≠ gb277 ∧ k_ ≠ gb278) v266 t265):=⟨h1_⟩
   have n2_ : Aside0 (Kd.V (Kd.int .i64) 3 w30 w.heap.size (fun k_ => some k_ ≠ (.slice Ao19 x8_1.length co19 : Value).ownBlock ∧ k_ ≠ gb257 ∧ k_ ≠ gb277 ∧ k_ ≠ gb278) v269 t268):=⟨h2_⟩
   have n3_ : Aside0 (Kd.V (Kd.int .i64) 3 w30 w.heap.size (fun k_ => some k_ ≠ (.slice Ao19 x8_1.length co19 : Value).ownBlock ∧ k_ ≠ gb257 ∧ k_ ≠ gb277 ∧ k_ ≠ gb278) v272 t271):=⟨h3_⟩
   have n4_ : Aside0 (Kd.V (Kd.int .i64) 3 w30 w.heap.size (fun k_ => some k_ ≠ (.slice Ao19 x8_1.length co19 : Value).ownBlock ∧ k_ ≠ gb257 ∧ k_ ≠ gb277 ∧ k_ ≠ gb278) v275 t274):=⟨h4_⟩
   have n5_ : Aside0 (Kd.R (Kd.int .i64) 3 w30 w.heap.size (fun _ => True) (.slice Ao19 x8_1.length co19) x8_1):=⟨h5_⟩
   have n6_ : Aside0 (w30.heap[gb257]? = some (.cells #[.slice A2_0 l2_0.length c2_0] 85 (0,0))):=⟨h6_⟩
   have n7_ : Aside0 (w30.heap[gb277]? = some (.cells #[.slice none 0 0] 85 (0,0))):=⟨h7_⟩
   have n8_ : Aside0 (w30.heap[gb278]? = some (.cells #[.slice none 0 0] 85 (0,0))):=⟨h8_⟩
   have n9_ : Aside0 (w.heap.size ≤ gb277):=⟨h9_⟩
   have n10_ : Aside0 (w.heap.size ≤ gb277):=⟨h10_⟩
   have n11_ : Aside0 (gb257 ≠ gb277):=⟨h11_⟩
   have n12_ : Aside0 (gb277 ≠ gb257):=⟨h12_⟩
   have n13_ : Aside0 (gb278 ≠ gb277):=⟨h13_⟩
   have n14_ : Aside0 (gb277 ≠ gb278):=⟨h14_⟩
   have n15_ : Aside0 (w.heap.size ≤ gb278):=⟨h15_⟩
   have n16_ : Aside0 (w.heap.size ≤ gb278):=⟨h16_⟩
   have n17_ : Aside0 (gb257 ≠ gb278):=⟨h17_⟩
   have n18_ : Aside0 (gb278 ≠ gb257):=⟨h18_⟩
   have n19_ : Aside0 (Below w.heap.size w w30):=⟨h19_⟩
   clear HO_8;clear BK257;clear HB;clear h0_ h1_ h2_ h3_ h4_ h5_ h6_ h7_ h8_ h9_ h10_ h11_ h12_ h13_ h14_ h15_ h16_ h17_ h18_ h19_;have HO264:=n0_;have HO267:=n1_;have HO270:=n2_;have HO273:=n3_;have HO276:=n4_;have HO_8:=n5_;have BK257:=n6_;have BK277:=n7_;have BK278:=n8_;have GW277:=n9_;have GE277:=n10_;have NB257_277:=n11_;have NB277_257:=n12_;have NB278_277:=n13_;have NB277_278:=n14_;have GW278:=n15_;have GE278:=n16_;have NB257_278:=n17_;have NB278_257:=n18_;have HB:=n19_;clear n0_ n1_ n2_ n3_ n4_ n5_ n6_ n7_ n8_ n9_ n10_ n11_ n12_ n13_ n14_ n15_ n16_ n17_ n18_ n19_
   have hHeld : w30.cell? ⟨gb257,0,none⟩ = some (.slice A2_0 l2_0.length c2_0):=hS_
   obtain ⟨Ao31,co31,eo31⟩:=Kd.V_slice HO273.out
   (first|subst eo31|(injection eo31 with f1_ f2_ f3_;have f4_:=f1_.symm;have f5_:=f3_.symm;clear f1_ f2_ f3_;subst f4_;subst f5_))
   obtain ⟨Ao33,co33,eo33⟩:=Kd.V_slice HO276.out
   (first|subst eo33|(injection eo33 with f1_ f2_ f3_;have f4_:=f1_.symm;have f5_:=f3_.symm;clear f1_ f2_ f3_;subst f4_;subst f5_))
   refine norm_ (a':=?_) ?_ ?_
   rotate_left
   ·simp only [putAll,pu_]
    rfl
   refine one_ (i:=12) (N:=none) (bl 13 1) rfl rfl (one_of HT_.out (by kernel_rfl)) (by decide) (fun K hK => ?_)
   have hs32 : w30.cell? ⟨gb277,0,none⟩ = some (.slice none 0 0):=(blk_cell BK277.out 0).trans rfl
   have hfs32:=blk_frozen BK277.out 0
   have hns32_0:=NB257_277.out
   have hns32_2:=NB278_277.out
   have hms32_0:=NB277_257.out
   have hms32_2:=NB277_278.out
   refine skip_ (w1:=?_) (by rfl) rfl ?_ ?_
   rotate_left
   ·go_simp
    rfl
   refine hK.out _ _ (((cell_far (p:=⟨gb277,_,none⟩) NB257_277.out _).trans (hHeld))) (fun hHeld => ?_)
   clear hK K
   refine one_ (i:=13) (N:=none) (bl 14 0) rfl rfl (one_of HT_.out (by kernel_rfl)) (by decide) (fun K hK => ?_)
   have hs34 : w30.cell? ⟨gb278,0,none⟩ = some (.slice none 0 0):=(blk_cell BK278.out 0).trans rfl
   have hfs34:=blk_frozen BK278.out 0
   have hns34_0:=NB257_278.out
   have hns34_1:=NB277_278.out
   have hms34_0:=NB278_257.out
   have hms34_1:=NB278_277.out
   refine skip_ (w1:=?_) (by rfl) rfl ?_ ?_
   rotate_left
   ·go_simp
    rfl
   refine hK.out _ _ (((cell_far (p:=⟨gb278,_,none⟩) NB257_278.out _).trans (hHeld))) (fun hHeld => ?_)
   clear hK K
   refine done_ (done_of HT_.out (by kernel_rfl)) ?_
   have hnb35:=NB278_257.out
   have hnc35:=NB257_278.out
   have hnb36:=NB278_277.out
   have hnc36:=NB277_278.out
   have hcz37_0 : w30.cell? ⟨gb278,0,none⟩ = some (.slice none 0 0):=(blk_cell BK278.out 0).trans rfl
   have hfz37_0:=blk_frozen BK278.out 0
   have H:=H'.out
   clear H'
   by_cases c14 : (t274.length : Int) > 0
   rotate_left
   ·rw [if_neg c14] at H
    have c14b0 : decide (0 < (t274.length : Int)) = false:=decide_eq_false c14
    have c14b1 : decide (0 < t274.length) = false:=decide_eq_false (by omega)
    clear c14
    replace H:=Option.bind_eq_some_iff.mp H
    obtain ⟨⟨t287,t288⟩,A770,H⟩:=H
    replace H : (if t288 = true then (some (t287,0)) else (some (0,7))) = some (r1,r2):=H
    have A77:=Aside0.mk A770
    clear A770
    by_cases c78 : t288 = true
    ·subst c78
     have H1 : (some (t287,0)) = some (r1,r2):=by rw [if_pos rfl] at H;exact H
     clear H;have H:=H1;clear H1
     simp only [Option.some.injEq,Prod.mk.injEq] at H
     obtain ⟨rfl,rfl⟩:=H
     try go_wp2_with (first|((with_reducible refine gate_callee (f:=69) rfl ?_);refine goesL_ (some 47) rfl rfl Tryz.func69 (by kernel_rfl) rfl #[.agg #[.slice Ao31 t271.length co31]] rfl (by (try simp only [List.map_toArray,List.map_cons,List.map_nil]);first|done|rfl|(simp only [List.length_drop,List.length_take];rfl)) ?_;(with_reducible refine (bursarref03_Long_value.calls k1 _ _ t271 t287 true _ ?side1 ?side2 A77.out).mono ?_);(case side1 => refine (Kd.V_reads' (e:=3) (base:=w.heap.size) (ok:=fun k_ => (some k_ ≠ (.slice Ao19 x8_1.length co19 : Value).ownBlock ∧ (k_ ≠ gb257 ∧ (k_ ≠ gb277 ∧ k_ ≠ gb278)))) (n:=t271.length) (c:=co31) ?_).2.2;exact (by (with_reducible repeat (first|apply Kd.V_alloc|apply Kd.V_drewN|apply Kd.V_drew));exact (Kd.V_mono (Kd.V_mono (Kd.V_far (p:=⟨gb278,0,none⟩) (Kd.V_far (p:=⟨gb277,0,none⟩) (Kd.V_mono (Kd.V_mono HO273.out (fun k_ hk => (⟨hk,hk.2.2.1⟩ : _ ∧ k_ ≠ gb277))) (fun k_ hk => (⟨hk,hk.1.2.2.2⟩ : _ ∧ k_ ≠ gb278))) (fun _ hk => hk.1.2) (.slice Ao31 t271.length co31)) (fun _ hk => hk.2) (.slice Ao33 t274.length co33)) (fun _ h_ => h_.1)) (fun _ h_ => h_.1))));(case side2 => exact (Kd.V_reads' HO273.out).2.1);rintro e w100 ⟨rfl,hb⟩;refine ⟨_,rfl,?_⟩;have n0_:=Aside0.mk (Kd.R_below (by (with_reducible repeat (first|apply Kd.R_alloc|apply Kd.R_drewN|apply Kd.R_drew));exact (Kd.R_mono (Kd.R_mono (Kd.R_far (p:=⟨gb278,0,none⟩) (Kd.R_far (p:=⟨gb277,0,none⟩) (Kd.R_types (Kd.R_types HO_8.out BK277.out (by decide)) BK278.out (by decide)) (fun _ hk => hk.1.2) (.slice Ao31 t271.length co31)) (fun _ hk => hk.2) (.slice Ao33 t274.length co33)) (fun _ h_ => h_.1)) (fun _ h_ => h_.1))) hb);have n1_:=Aside0.mk (Kd.V_below (by (with_reducible repeat (first|apply Kd.V_alloc|apply Kd.V_drewN|apply Kd.V_drew));exact (Kd.V_mono (Kd.V_mono (Kd.V_far (p:=⟨gb278,0,none⟩) (Kd.V_far (p:=⟨gb277,0,none⟩) (Kd.V_mono (Kd.V_mono HO264.out (fun k_ hk => (⟨hk,hk.2.1⟩ : _ ∧ k_ ≠ gb277))) (fun k_ hk => (⟨hk,hk.1.2.2⟩ : _ ∧ k_ ≠ gb278))) (fun _ hk => hk.1.2) (.slice Ao31 t271.length co31)) (fun _ hk => hk.2) (.slice Ao33 t274.length co33)) (fun _ h_ => h_.1)) (fun _ h_ => h_.1))) hb);have n2_:=Aside0.mk (Kd.V_below (by (with_reducible repeat (first|apply Kd.V_alloc|apply Kd.V_drewN|apply Kd.V_drew));exact (Kd.V_mono (Kd.V_mono (Kd.V_far (p:=⟨gb278,0,none⟩) (Kd.V_far (p:=⟨gb277,0,none⟩) (Kd.V_mono (Kd.V_mono HO267.out (fun k_ hk => (⟨hk,hk.2.2.1⟩ : _ ∧ k_ ≠ gb277))) (fun k_ hk => (⟨hk,hk.1.2.2.2⟩ : _ ∧ k_ ≠ gb278))) (fun _ hk => hk.1.2) (.slice Ao31 t271.length co31)) (fun _ hk => hk.2) (.slice Ao33 t274.length co33)) (fun _ h_ => h_.1)) (fun _ h_ => h_.1))) hb);have n3_:=Aside0.mk (Kd.V_below (by (with_reducible repeat (first|apply Kd.V_alloc|apply Kd.V_drewN|apply Kd.V_drew));exact (Kd.V_mono (Kd.V_mono (Kd.V_far (p:=⟨gb278,0,none⟩) (Kd.V_far (p:=⟨gb277,0,none⟩) (Kd.V_mono (Kd.V_mono HO270.out (fun k_ hk => (⟨hk,hk.2.2.1⟩ : _ ∧ k_ ≠ gb277))) (fun k_ hk => (⟨hk,hk.1.2.2.2⟩ : _ ∧ k_ ≠ gb278))) (fun _ hk => hk.1.2) (.slice Ao31 t271.length co31)) (fun _ hk => hk.2) (.slice Ao33 t274.length co33)) (fun _ h_ => h_.1)) (fun _ h_ => h_.1))) hb);have n4_:=Aside0.mk (Kd.V_below (by (with_reducible repeat (first|apply Kd.V_alloc|apply Kd.V_drewN|apply Kd.V_drew));exact (Kd.V_mono (Kd.V_mono (Kd.V_far (p:=⟨gb278,0,none⟩) (Kd.V_far (p:=⟨gb277,0,none⟩) (Kd.V_mono (Kd.V_mono HO273.out (fun k_ hk => (⟨hk,hk.2.2.1⟩ : _ ∧ k_ ≠ gb277))) (fun k_ hk => (⟨hk,hk.1.2.2.2⟩ : _ ∧ k_ ≠ gb278))) (fun _ hk => hk.1.2) (.slice Ao31 t271.length co31)) (fun _ hk => hk.2) (.slice Ao33 t274.length co33)) (fun _ h_ => h_.1)) (fun _ h_ => h_.1))) hb);have n5_:=Aside0.mk (Kd.V_below (by (with_reducible repeat (first|apply Kd.V_alloc|apply Kd.V_drewN|apply Kd.V_drew));exact (Kd.V_mono (Kd.V_mono (Kd.V_far (p:=⟨gb278,0,none⟩) (Kd.V_far (p:=⟨gb277,0,none⟩) (Kd.V_mono (Kd.V_mono HO276.out (fun k_ hk => (⟨hk,hk.2.2.1⟩ : _ ∧ k_ ≠ gb277))) (fun k_ hk => (⟨hk,hk.1.2.2.2⟩ : _ ∧ k_ ≠ gb278))) (fun _ hk => hk.1.2) (.slice Ao31 t271.length co31)) (fun _ hk => hk.2) (.slice Ao33 t274.length co33)) (fun _ h_ => h_.1)) (fun _ h_ => h_.1))) hb);have n6_:=Aside0.mk (blk_below (g:=gb257) (o:=.cells #[.slice A2_0 l2_0.length c2_0] 85 (0,0)) (by (with_reducible repeat (first|refine blk_drewN ?_ _|refine blk_drew ?_|refine blk_alloc ?_ _));refine blk_far ?_ NB257_278.out _;(with_reducible repeat (first|refine blk_drewN ?_ _|refine blk_drew ?_|refine blk_alloc ?_ _));refine blk_far ?_ NB257_277.out _;(with_reducible repeat (first|refine blk_drewN ?_ _|refine blk_drew ?_|refine blk_alloc ?_ _));exact BK257.out) hb);have n7_:=Aside0.mk (blk_below (g:=gb277) (o:=.cells #[.slice Ao31 t271.length co31] 85 (0,0)) (by (with_reducible repeat (first|refine blk_drewN ?_ _|refine blk_drew ?_|refine blk_alloc ?_ _));refine blk_far ?_ NB277_278.out _;(with_reducible repeat (first|refine blk_drewN ?_ _|refine blk_drew ?_|refine blk_alloc ?_ _));refine blk_put (cs:=#[.slice none 0 0]) ?_ 0 _ rfl;(with_reducible repeat (first|refine blk_drewN ?_ _|refine blk_drew ?_|refine blk_alloc ?_ _));exact BK277.out) hb);have n8_:=Aside0.mk (blk_below (g:=gb278) (o:=.cells #[.slice Ao33 t274.length co33] 85 (0,0)) (by (with_reducible repeat (first|refine blk_drewN ?_ _|refine blk_drew ?_|refine blk_alloc ?_ _));refine blk_put (cs:=#[.slice none 0 0]) ?_ 0 _ rfl;(with_reducible repeat (first|refine blk_drewN ?_ _|refine blk_drew ?_|refine blk_alloc ?_ _));refine blk_far ?_ NB278_277.out _;(with_reducible repeat (first|refine blk_drewN ?_ _|refine blk_drew ?_|refine blk_alloc ?_ _));exact BK278.out) hb);have n9_:=Aside0.mk (below_step (by repeat (first|(with_reducible first|exact HB.out|apply below_alloc|apply pw_below_drewN|apply below_drew1|refine below_set ?_ GE257.out|refine below_set ?_ GE277.out|refine below_set ?_ GE278.out)|exact HB.out)) hb);clear HO_8;clear HO264;clear HO267;clear HO270;clear HO273;clear HO276;clear BK257;clear BK277;clear BK278;clear HB;have HO_8:=n0_;have HO264:=n1_;have HO267:=n2_;have HO270:=n3_;have HO273:=n4_;have HO276:=n5_;have BK257:=n6_;have BK277:=n7_;have BK278:=n8_;have HB:=n9_;clear n0_ n1_ n2_ n3_ n4_ n5_ n6_ n7_ n8_ n9_;(try clear hb);(try clear hb2);(try clear hk);(try clear hi)))
     go_ret2
     exact ⟨by first|rfl|(simp [errW_none,errW_some] <;> rfl)|(simp [*,errW_none,errW_some] <;> rfl),by repeat (first|(with_reducible first|exact HB.out|apply below_alloc|apply pw_below_drewN|apply below_drew1|refine below_set ?_ GE257.out|refine below_set ?_ GE277.out|refine below_set ?_ GE278.out)|exact HB.out)⟩
    replace c78:=Bool.eq_false_iff.mpr c78
    subst c78
    have H1 : (some (0,7)) = some (r1,r2):=by rw [if_neg (show ¬ (false = true) by decide)] at H;exact H
    clear H;have H:=H1;clear H1
    simp only [Option.some.injEq,Prod.mk.injEq] at H
    obtain ⟨rfl,rfl⟩:=H
    try go_wp2_with (first|((with_reducible refine gate_callee (f:=69) rfl ?_);refine goesL_ (some 47) rfl rfl Tryz.func69 (by kernel_rfl) rfl #[.agg #[.slice Ao31 t271.length co31]] rfl (by (try simp only [List.map_toArray,List.map_cons,List.map_nil]);first|done|rfl|(simp only [List.length_drop,List.length_take];rfl)) ?_;(with_reducible refine (bursarref03_Long_value.calls k1 _ _ t271 t287 false _ ?side1 ?side2 A77.out).mono ?_);(case side1 => refine (Kd.V_reads' (e:=3) (base:=w.heap.size) (ok:=fun k_ => (some k_ ≠ (.slice Ao19 x8_1.length co19 : Value).ownBlock ∧ (k_ ≠ gb257 ∧ (k_ ≠ gb277 ∧ k_ ≠ gb278)))) (n:=t271.length) (c:=co31) ?_).2.2;exact (by (with_reducible repeat (first|apply Kd.V_alloc|apply Kd.V_drewN|apply Kd.V_drew));exact (Kd.V_mono (Kd.V_mono (Kd.V_far (p:=⟨gb278,0,none⟩) (Kd.V_far (p:=⟨gb277,0,none⟩) (Kd.V_mono (Kd.V_mono HO273.out (fun k_ hk => (⟨hk,hk.2.2.1⟩ : _ ∧ k_ ≠ gb277))) (fun k_ hk => (⟨hk,hk.1.2.2.2⟩ : _ ∧ k_ ≠ gb278))) (fun _ hk => hk.1.2) (.slice Ao31 t271.length co31)) (fun _ hk => hk.2) (.slice Ao33 t274.length co33)) (fun _ h_ => h_.1)) (fun _ h_ => h_.1))));(case side2 => exact (Kd.V_reads' HO273.out).2.1);rintro e w122 ⟨rfl,hb⟩;refine ⟨_,rfl,?_⟩;have n0_:=Aside0.mk (Kd.R_below (by (with_reducible repeat (first|apply Kd.R_alloc|apply Kd.R_drewN|apply Kd.R_drew));exact (Kd.R_mono (Kd.R_mono (Kd.R_far (p:=⟨gb278,0,none⟩) (Kd.R_far (p:=⟨gb277,0,none⟩) (Kd.R_types (Kd.R_types HO_8.out BK277.out (by decide)) BK278.out (by decide)) (fun _ hk => hk.1.2) (.slice Ao31 t271.length co31)) (fun _ hk => hk.2) (.slice Ao33 t274.length co33)) (fun _ h_ => h_.1)) (fun _ h_ => h_.1))) hb);have n1_:=Aside0.mk (Kd.V_below (by (with_reducible repeat (first|apply Kd.V_alloc|apply Kd.V_drewN|apply Kd.V_drew));exact (Kd.V_mono (Kd.V_mono (Kd.V_far (p:=⟨gb278,0,none⟩) (Kd.V_far (p:=⟨gb277,0,none⟩) (Kd.V_mono (Kd.V_mono HO264.out (fun k_ hk => (⟨hk,hk.2.1⟩ : _ ∧ k_ ≠ gb277))) (fun k_ hk => (⟨hk,hk.1.2.2⟩ : _ ∧ k_ ≠ gb278))) (fun _ hk => hk.1.2) (.slice Ao31 t271.length co31)) (fun _ hk => hk.2) (.slice Ao33 t274.length co33)) (fun _ h_ => h_.1)) (fun _ h_ => h_.1))) hb);have n2_:=Aside0.mk (Kd.V_below (by (with_reducible repeat (first|apply Kd.V_alloc|apply Kd.V_drewN|apply Kd.V_drew));exact (Kd.V_mono (Kd.V_mono (Kd.V_far (p:=⟨gb278,0,none⟩) (Kd.V_far (p:=⟨gb277,0,none⟩) (Kd.V_mono (Kd.V_mono HO267.out (fun k_ hk => (⟨hk,hk.2.2.1⟩ : _ ∧ k_ ≠ gb277))) (fun k_ hk => (⟨hk,hk.1.2.2.2⟩ : _ ∧ k_ ≠ gb278))) (fun _ hk => hk.1.2) (.slice Ao31 t271.length co31)) (fun _ hk => hk.2) (.slice Ao33 t274.length co33)) (fun _ h_ => h_.1)) (fun _ h_ => h_.1))) hb);have n3_:=Aside0.mk (Kd.V_below (by (with_reducible repeat (first|apply Kd.V_alloc|apply Kd.V_drewN|apply Kd.V_drew));exact (Kd.V_mono (Kd.V_mono (Kd.V_far (p:=⟨gb278,0,none⟩) (Kd.V_far (p:=⟨gb277,0,none⟩) (Kd.V_mono (Kd.V_mono HO270.out (fun k_ hk => (⟨hk,hk.2.2.1⟩ : _ ∧ k_ ≠ gb277))) (fun k_ hk => (⟨hk,hk.1.2.2.2⟩ : _ ∧ k_ ≠ gb278))) (fun _ hk => hk.1.2) (.slice Ao31 t271.length co31)) (fun _ hk => hk.2) (.slice Ao33 t274.length co33)) (fun _ h_ => h_.1)) (fun _ h_ => h_.1))) hb);have n4_:=Aside0.mk (Kd.V_below (by (with_reducible repeat (first|apply Kd.V_alloc|apply Kd.V_drewN|apply Kd.V_drew));exact (Kd.V_mono (Kd.V_mono (Kd.V_far (p:=⟨gb278,0,none⟩) (Kd.V_far (p:=⟨gb277,0,none⟩) (Kd.V_mono (Kd.V_mono HO273.out (fun k_ hk => (⟨hk,hk.2.2.1⟩ : _ ∧ k_ ≠ gb277))) (fun k_ hk => (⟨hk,hk.1.2.2.2⟩ : _ ∧ k_ ≠ gb278))) (fun _ hk => hk.1.2) (.slice Ao31 t271.length co31)) (fun _ hk => hk.2) (.slice Ao33 t274.length co33)) (fun _ h_ => h_.1)) (fun _ h_ => h_.1))) hb);have n5_:=Aside0.mk (Kd.V_below (by (with_reducible repeat (first|apply Kd.V_alloc|apply Kd.V_drewN|apply Kd.V_drew));exact (Kd.V_mono (Kd.V_mono (Kd.V_far (p:=⟨gb278,0,none⟩) (Kd.V_far (p:=⟨gb277,0,none⟩) (Kd.V_mono (Kd.V_mono HO276.out (fun k_ hk => (⟨hk,hk.2.2.1⟩ : _ ∧ k_ ≠ gb277))) (fun k_ hk => (⟨hk,hk.1.2.2.2⟩ : _ ∧ k_ ≠ gb278))) (fun _ hk => hk.1.2) (.slice Ao31 t271.length co31)) (fun _ hk => hk.2) (.slice Ao33 t274.length co33)) (fun _ h_ => h_.1)) (fun _ h_ => h_.1))) hb);have n6_:=Aside0.mk (blk_below (g:=gb257) (o:=.cells #[.slice A2_0 l2_0.length c2_0] 85 (0,0)) (by (with_reducible repeat (first|refine blk_drewN ?_ _|refine blk_drew ?_|refine blk_alloc ?_ _));refine blk_far ?_ NB257_278.out _;(with_reducible repeat (first|refine blk_drewN ?_ _|refine blk_drew ?_|refine blk_alloc ?_ _));refine blk_far ?_ NB257_277.out _;(with_reducible repeat (first|refine blk_drewN ?_ _|refine blk_drew ?_|refine blk_alloc ?_ _));exact BK257.out) hb);have n7_:=Aside0.mk (blk_below (g:=gb277) (o:=.cells #[.slice Ao31 t271.length co31] 85 (0,0)) (by (with_reducible repeat (first|refine blk_drewN ?_ _|refine blk_drew ?_|refine blk_alloc ?_ _));refine blk_far ?_ NB277_278.out _;(with_reducible repeat (first|refine blk_drewN ?_ _|refine blk_drew ?_|refine blk_alloc ?_ _));refine blk_put (cs:=#[.slice none 0 0]) ?_ 0 _ rfl;(with_reducible repeat (first|refine blk_drewN ?_ _|refine blk_drew ?_|refine blk_alloc ?_ _));exact BK277.out) hb);have n8_:=Aside0.mk (blk_below (g:=gb278) (o:=.cells #[.slice Ao33 t274.length co33] 85 (0,0)) (by (with_reducible repeat (first|refine blk_drewN ?_ _|refine blk_drew ?_|refine blk_alloc ?_ _));refine blk_put (cs:=#[.slice none 0 0]) ?_ 0 _ rfl;(with_reducible repeat (first|refine blk_drewN ?_ _|refine blk_drew ?_|refine blk_alloc ?_ _));refine blk_far ?_ NB278_277.out _;(with_reducible repeat (first|refine blk_drewN ?_ _|refine blk_drew ?_|refine blk_alloc ?_ _));exact BK278.out) hb);have n9_:=Aside0.mk (below_step (by repeat (first|(with_reducible first|exact HB.out|apply below_alloc|apply pw_below_drewN|apply below_drew1|refine below_set ?_ GE257.out|refine below_set ?_ GE277.out|refine below_set ?_ GE278.out)|exact HB.out)) hb);clear HO_8;clear HO264;clear HO267;clear HO270;clear HO273;clear HO276;clear BK257;clear BK277;clear BK278;clear HB;have HO_8:=n0_;have HO264:=n1_;have HO267:=n2_;have HO270:=n3_;have HO273:=n4_;have HO276:=n5_;have BK257:=n6_;have BK277:=n7_;have BK278:=n8_;have HB:=n9_;clear n0_ n1_ n2_ n3_ n4_ n5_ n6_ n7_ n8_ n9_;(try clear hb);(try clear hb2);(try clear hk);(try clear hi)))
    go_ret2
    exact ⟨by first|rfl|(simp [errW_none,errW_some] <;> rfl)|(simp [*,errW_none,errW_some] <;> rfl),by repeat (first|(with_reducible first|exact HB.out|apply below_alloc|apply pw_below_drewN|apply below_drew1|refine below_set ?_ GE257.out|refine below_set ?_ GE277.out|refine below_set ?_ GE278.out)|exact HB.out)⟩
   rw [if_pos c14] at H
   have c14b0 : decide (0 < (t274.length : Int)) = true:=decide_eq_true c14
   have c14b1 : decide (0 < t274.length) = true:=decide_eq_true (by omega)
   clear c14
   replace H:=Option.bind_eq_some_iff.mp H
   obtain ⟨t279,A150,H⟩:=H
   replace H : ((bursarref03_Long_plus.f k1 t271 t279).bind fun t282 => ((bursarref03_Long_value.f k1 t282).bind fun bt285 => (if bt285.2 = true then (some (bt285.1,0)) else (some (0,7))))) = some (r1,r2):=H
   have A15:=Aside0.mk A150
   clear A150
   replace H:=Option.bind_eq_some_iff.mp H
   obtain ⟨t282,A160,H⟩:=H
   replace H : ((bursarref03_Long_value.f k1 t282).bind fun bt285 => (if bt285.2 = true then (some (bt285.1,0)) else (some (0,7)))) = some (r1,r2):=H
   have A16:=Aside0.mk A160
   clear A160
   replace H:=Option.bind_eq_some_iff.mp H
   obtain ⟨⟨t285,t286⟩,A170,H⟩:=H
   replace H : (if t286 = true then (some (t285,0)) else (some (0,7))) = some (r1,r2):=H
   have A17:=Aside0.mk A170
   clear A170
   have H':=Aside0.mk H
   clear H
   try go_wp2
   have n0_ : Aside0 (Kd.R (Kd.int .i64) 3 ((w30.setCell ⟨gb277,0,none⟩ (.slice Ao31 t271.length co31)).setCell ⟨gb278,0,none⟩ (.slice Ao33 t274.length co33)) w.heap.size (fun _ => True) (.slice Ao19 x8_1.length co19) x8_1):=⟨by (with_reducible repeat (first|apply Kd.R_alloc|apply Kd.R_drewN|apply Kd.R_drew));exact Kd.R_mono (Kd.R_far (p:=⟨gb278,0,none⟩) (Kd.R_far (p:=⟨gb277,0,none⟩) (Kd.R_types (Kd.R_types HO_8.out BK277.out (by decide)) BK278.out (by decide)) (fun _ hk => hk.1.2) (.slice Ao31 t271.length co31)) (fun _ hk => hk.2) (.slice Ao33 t274.length co33)) (fun _ hk => trivial)⟩
   have n1_ : Aside0 (Kd.V (Kd.int .i64) 3 ((w30.setCell ⟨gb277,0,none⟩ (.slice Ao31 t271.length co31)).setCell ⟨gb278,0,none⟩ (.slice Ao33 t274.length co33)) w.heap.size (fun k_ => k_ ≠ gb257 ∧ k_ ≠ gb277 ∧ k_ ≠ gb278) v263 t262):=⟨by (with_reducible repeat (first|apply Kd.V_alloc|apply Kd.V_drewN|apply Kd.V_drew));exact Kd.V_mono (Kd.V_far (p:=⟨gb278,0,none⟩) (Kd.V_far (p:=⟨gb277,0,none⟩) (Kd.V_mono (Kd.V_mono HO264.out (fun k_ hk => (⟨hk,hk.2.1⟩ : _ ∧ k_ ≠ gb277))) (fun k_ hk => (⟨hk,hk.1.2.2⟩ : _ ∧ k_ ≠ gb278))) (fun _ hk => hk.1.2) (.slice Ao31 t271.length co31)) (fun _ hk => hk.2) (.slice Ao33 t274.length co33)) (fun _ hk => ⟨hk.1.1.1,⟨hk.1.1.2.1,hk.1.1.2.2⟩⟩)⟩
   have n2_ : Aside0 (Kd.V (Kd.int .i64) 3 ((w30.setCell ⟨gb277,0,none⟩ (.slice Ao31 t271.length co31)).setCell ⟨gb278,0,none⟩ (.slice Ao33 t274.length co33)) w.heap.size (fun k_ => some k_ ≠ (.slice Ao19 x8_1.length co19 : Value).ownBlock ∧ k_ ≠ gb257 ∧ k_ ≠ gb277 ∧ k_ ≠ gb278) v266 t265):=⟨by (with_reducible repeat (first|apply Kd.V_alloc|apply Kd.V_drewN|apply Kd.V_drew));exact Kd.V_mono (Kd.V_far (p:=⟨gb278,0,none⟩) (Kd.V_far (p:=⟨gb277,0,none⟩) (Kd.V_mono (Kd.V_mono HO267.out (fun k_ hk => (⟨hk,hk.2.2.1⟩ : _ ∧ k_ ≠ gb277))) (fun k_ hk => (⟨hk,hk.1.2.2.2⟩ : _ ∧ k_ ≠ gb278))) (fun _ hk => hk.1.2) (.slice Ao31 t271.length co31)) (fun _ hk => hk.2) (.slice Ao33 t274.length co33)) (fun _ hk => ⟨hk.1.1.1,⟨hk.1.1.2.1,⟨hk.1.1.2.2.1,hk.1.1.2.2.2⟩⟩⟩)⟩
   have n3_ : Aside0 (Kd.V (Kd.int .i64) 3 ((w30.setCell ⟨gb277,0,none⟩ (.slice Ao31 t271.length co31)).setCell ⟨gb278,0,none⟩ (.slice Ao33 t274.length co33)) w.heap.size (fun k_ => some k_ ≠ (.slice Ao19 x8_1.length co19 : Value).ownBlock ∧ k_ ≠ gb257 ∧ k_ ≠ gb277 ∧ k_ ≠ gb278) v269 t268):=⟨by (with_reducible repeat (first|apply Kd.V_alloc|apply Kd.V_drewN|apply Kd.V_drew));exact Kd.V_mono (Kd.V_far (p:=⟨gb278,0,none⟩) (Kd.V_far (p:=⟨gb277,0,none⟩) (Kd.V_mono (Kd.V_mono HO270.out (fun k_ hk => (⟨hk,hk.2.2.1⟩ : _ ∧ k_ ≠ gb277))) (fun k_ hk => (⟨hk,hk.1.2.2.2⟩ : _ ∧ k_ ≠ gb278))) (fun _ hk => hk.1.2) (.slice Ao31 t271.length co31)) (fun _ hk => hk.2) (.slice Ao33 t274.length co33)) (fun _ hk => ⟨hk.1.1.1,⟨hk.1.1.2.1,⟨hk.1.1.2.2.1,hk.1.1.2.2.2⟩⟩⟩)⟩
   have n4_ : Aside0 (Kd.V (Kd.int .i64) 3 ((w30.setCell ⟨gb277,0,none⟩ (.slice Ao31 t271.length co31)).setCell ⟨gb278,0,none⟩ (.slice Ao33 t274.length co33)) w.heap.size (fun k_ => some k_ ≠ (.slice Ao19 x8_1.length co19 : Value).ownBlock ∧ k_ ≠ gb257 ∧ k_ ≠ gb277 ∧ k_ ≠ gb278) (.slice Ao31 t271.length co31) t271):=⟨by (with_reducible repeat (first|apply Kd.V_alloc|apply Kd.V_drewN|apply Kd.V_drew));exact Kd.V_mono (Kd.V_far (p:=⟨gb278,0,none⟩) (Kd.V_far (p:=⟨gb277,0,none⟩) (Kd.V_mono (Kd.V_mono HO273.out (fun k_ hk => (⟨hk,hk.2.2.1⟩ : _ ∧ k_ ≠ gb277))) (fun k_ hk => (⟨hk,hk.1.2.2.2⟩ : _ ∧ k_ ≠ gb278))) (fun _ hk => hk.1.2) (.slice Ao31 t271.length co31)) (fun _ hk => hk.2) (.slice Ao33 t274.length co33)) (fun _ hk => ⟨hk.1.1.1,⟨hk.1.1.2.1,⟨hk.1.1.2.2.1,hk.1.1.2.2.2⟩⟩⟩)⟩
   have n5_ : Aside0 (Kd.V (Kd.int .i64) 3 ((w30.setCell ⟨gb277,0,none⟩ (.slice Ao31 t271.length co31)).setCell ⟨gb278,0,none⟩ (.slice Ao33 t274.length co33)) w.heap.size (fun k_ => some k_ ≠ (.slice Ao19 x8_1.length co19 : Value).ownBlock ∧ k_ ≠ gb257 ∧ k_ ≠ gb277 ∧ k_ ≠ gb278) (.slice Ao33 t274.length co33) t274):=⟨by (with_reducible repeat (first|apply Kd.V_alloc|apply Kd.V_drewN|apply Kd.V_drew));exact Kd.V_mono (Kd.V_far (p:=⟨gb278,0,none⟩) (Kd.V_far (p:=⟨gb277,0,none⟩) (Kd.V_mono (Kd.V_mono HO276.out (fun k_ hk => (⟨hk,hk.2.2.1⟩ : _ ∧ k_ ≠ gb277))) (fun k_ hk => (⟨hk,hk.1.2.2.2⟩ : _ ∧ k_ ≠ gb278))) (fun _ hk => hk.1.2) (.slice Ao31 t271.length co31)) (fun _ hk => hk.2) (.slice Ao33 t274.length co33)) (fun _ hk => ⟨hk.1.1.1,⟨hk.1.1.2.1,⟨hk.1.1.2.2.1,hk.1.1.2.2.2⟩⟩⟩)⟩
   have n6_ : Aside0 (((w30.setCell ⟨gb277,0,none⟩ (.slice Ao31 t271.length co31)).setCell ⟨gb278,0,none⟩ (.slice Ao33 t274.length co33)).heap[gb257]? = some (.cells #[.slice A2_0 l2_0.length c2_0] 85 (0,0))):=⟨by (with_reducible repeat (first|refine blk_drewN ?_ _|refine blk_drew ?_|refine blk_alloc ?_ _));refine blk_far ?_ NB257_278.out _;(with_reducible repeat (first|refine blk_drewN ?_ _|refine blk_drew ?_|refine blk_alloc ?_ _));refine blk_far ?_ NB257_277.out _;(with_reducible repeat (first|refine blk_drewN ?_ _|refine blk_drew ?_|refine blk_alloc ?_ _));exact BK257.out⟩
   have n7_ : Aside0 (((w30.setCell ⟨gb277,0,none⟩ (.slice Ao31 t271.length co31)).setCell ⟨gb278,0,none⟩ (.slice Ao33 t274.length co33)).heap[gb277]? = some (.cells #[.slice Ao31 t271.length co31] 85 (0,0))):=⟨by (with_reducible repeat (first|refine blk_drewN ?_ _|refine blk_drew ?_|refine blk_alloc ?_ _));refine blk_far ?_ NB277_278.out _;(with_reducible repeat (first|refine blk_drewN ?_ _|refine blk_drew ?_|refine blk_alloc ?_ _));refine blk_put (cs:=#[.slice none 0 0]) ?_ 0 _ rfl;(with_reducible repeat (first|refine blk_drewN ?_ _|refine blk_drew ?_|refine blk_alloc ?_ _));exact BK277.out⟩
   have n8_ : Aside0 (((w30.setCell ⟨gb277,0,none⟩ (.slice Ao31 t271.length co31)).setCell ⟨gb278,0,none⟩ (.slice Ao33 t274.length co33)).heap[gb278]? = some (.cells #[.slice Ao33 t274.length co33] 85 (0,0))):=⟨by (with_reducible repeat (first|refine blk_drewN ?_ _|refine blk_drew ?_|refine blk_alloc ?_ _));refine blk_put (cs:=#[.slice none 0 0]) ?_ 0 _ rfl;(with_reducible repeat (first|refine blk_drewN ?_ _|refine blk_drew ?_|refine blk_alloc ?_ _));refine blk_far ?_ NB278_277.out _;(with_reducible repeat (first|refine blk_drewN ?_ _|refine blk_drew ?_|refine blk_alloc ?_ _));exact BK278.out⟩
   have n9_ : Aside0 (Below w.heap.size w ((w30.setCell ⟨gb277,0,none⟩ (.slice Ao31 t271.length co31)).setCell ⟨gb278,0,none⟩ (.slice Ao33 t274.length co33))):=⟨by repeat (first|(with_reducible first|exact HB.out|apply below_alloc|apply pw_below_drewN|apply below_drew1|refine below_set ?_ GE257.out|refine below_set ?_ GE277.out|refine below_set ?_ GE278.out)|exact HB.out)⟩
   (try clear HO_8);(try clear HO264);(try clear HO267);(try clear HO270);(try clear HO273);(try clear HO276);(try clear BK257);(try clear BK277);(try clear BK278);(try clear HB)
   generalize ((w30.setCell ⟨gb277,0,none⟩ (.slice Ao31 t271.length co31)).setCell ⟨gb278,0,none⟩ (.slice Ao33 t274.length co33)) = w38 at n0_ n1_ n2_ n3_ n4_ n5_ n6_ n7_ n8_ n9_ ⊢
   have HO_8:=n0_;have HO264:=n1_;have HO267:=n2_;have HO270:=n3_;have HO273:=n4_;have HO276:=n5_;have BK257:=n6_;have BK277:=n7_;have BK278:=n8_;have HB:=n9_;clear n0_ n1_ n2_ n3_ n4_ n5_ n6_ n7_ n8_ n9_
   have n0_:=Aside0.mk (Kd.R_drew HO_8.out)
   have n1_:=Aside0.mk (Kd.V_drew HO264.out)
   have n2_:=Aside0.mk (Kd.V_drew HO267.out)
   have n3_:=Aside0.mk (Kd.V_drew HO270.out)
   have n4_:=Aside0.mk (Kd.V_drew HO273.out)
   have n5_:=Aside0.mk (Kd.V_drew HO276.out)
   have n6_:=Aside0.mk (blk_drew BK257.out)
   have n7_:=Aside0.mk (blk_drew BK277.out)
   have n8_:=Aside0.mk (blk_drew BK278.out)
   have n9_:=Aside0.mk (below_drew1 HB.out)
   clear HO_8;clear HO264;clear HO267;clear HO270;clear HO273;clear HO276;clear BK257;clear BK277;clear BK278;clear HB;have HO_8:=n0_;have HO264:=n1_;have HO267:=n2_;have HO270:=n3_;have HO273:=n4_;have HO276:=n5_;have BK257:=n6_;have BK277:=n7_;have BK278:=n8_;have HB:=n9_;clear n0_ n1_ n2_ n3_ n4_ n5_ n6_ n7_ n8_ n9_
   refine start_ (n:=4) (S:=fun w' => w'.cell? ⟨gb277,0,none⟩ = some (.slice Ao31 t271.length co31)) (ds:=[3]) #[false,false,false,false] (by kernel_rfl) rfl rfl ((blk_cell BK277.out 0).trans rfl) (fun hHeld => ?_)
   generalize w38.drew = w39 at HO_8 HO264 HO267 HO270 HO273 HO276 BK257 BK277 BK278 HB hHeld ⊢
   refine take_ (i:=0) (N:=some 42) (v:=?_) (a':=?_) #[true,false,false,false] rfl rfl (by kernel_rfl) (fun _ _ _ h => h) (Or.inl ⟨by rfl,?_⟩) hHeld ?_ ?_
   rotate_left
   ·intro w' s0
    go_simp
    with_reducible rfl
   rotate_left
   ·simp only [pu_]
    rfl
   refine one_ (i:=1) (N:=some 43) #[true,true,false,false] rfl rfl (by kernel_rfl) (by decide) (fun K hK => ?_)
   refine goes_ Tryz.func62 (by kernel_rfl) rfl #[.int .i64 1] (by rfl) rfl rfl (by (try simp only [List.map_toArray,List.map_cons,List.map_nil]);first|done|rfl|(simp only [List.length_drop,List.length_take];rfl)) ?_
   with_reducible refine (bursarref03_long.calls k1 1 t279 _ A15.out).mono ?_
   rintro e w40 ⟨v280,rfl,ho0,hb⟩
   refine ⟨_,rfl,?_⟩
   have n0_:=Aside0.mk (Kd.R_elder' (HO_8.out) (Kd.R_base ho0) hb)
   have n1_:=Aside0.mk (Kd.V_elder' (HO264.out) (Kd.R_base ho0) hb)
   have n2_:=Aside0.mk (Kd.V_elder' (HO267.out) (Kd.R_base ho0) hb)
   have n3_:=Aside0.mk (Kd.V_elder' (HO270.out) (Kd.R_base ho0) hb)
   have n4_:=Aside0.mk (Kd.V_elder' (HO273.out) (Kd.R_base ho0) hb)
   have n5_:=Aside0.mk (Kd.V_elder' (HO276.out) (Kd.R_base ho0) hb)
   have n6_:=Aside0.mk (Kd.R_lower (Kd.R_new' ho0 (Kd.R_lt (HO_8.out))) (below_size (by repeat (first|(with_reducible first|exact HB.out|apply below_alloc|apply pw_below_drewN|apply below_drew1|refine below_set ?_ GE257.out|refine below_set ?_ GE277.out|refine below_set ?_ GE278.out)|exact HB.out))))
   have n7_:=Aside0.mk (blk_below (g:=gb257) (o:=.cells #[.slice A2_0 l2_0.length c2_0] 85 (0,0)) (BK257.out) hb)
   have n8_:=Aside0.mk (blk_below (g:=gb277) (o:=.cells #[.slice Ao31 t271.length co31] 85 (0,0)) (BK277.out) hb)
   have n9_:=Aside0.mk (blk_below (g:=gb278) (o:=.cells #[.slice Ao33 t274.length co33] 85 (0,0)) (BK278.out) hb)
   have n10_:=Aside0.mk (below_step (by repeat (first|(with_reducible first|exact HB.out|apply below_alloc|apply pw_below_drewN|apply below_drew1|refine below_set ?_ GE257.out|refine below_set ?_ GE277.out|refine below_set ?_ GE278.out)|exact HB.out)) hb)
   clear HO_8;clear HO264;clear HO267;clear HO270;clear HO273;clear HO276;clear BK257;clear BK277;clear BK278;clear HB;have HO_8:=n0_;have HO264:=n1_;have HO267:=n2_;have HO270:=n3_;have HO273:=n4_;have HO276:=n5_;have HO281:=n6_;have BK257:=n7_;have BK277:=n8_;have BK278:=n9_;have HB:=n10_;clear n0_ n1_ n2_ n3_ n4_ n5_ n6_ n7_ n8_ n9_ n10_;(try clear hb);(try clear hb2);(try clear hk);(try clear hi);(try clear ho0)
   obtain ⟨Ao41,co41,eo41⟩:=Kd.R_slice HO281.out
   (first|subst eo41|(injection eo41 with f1_ f2_ f3_;have f4_:=f1_.symm;have f5_:=f3_.symm;clear f1_ f2_ f3_;subst f4_;subst f5_))
   refine hK.out _ _ ((blk_cell BK277.out 0).trans rfl) (fun hHeld => ?_)
   clear hK K
   refine norm_ (a':=?_) ?_ ?_
   rotate_left
   ·show Act.put _ (some 43) _ = _
    simp only [pu_]
    rfl
   refine one_ (i:=2) (N:=some 44) #[true,true,true,false] rfl rfl (by kernel_rfl) (by decide) (fun K hK => ?_)
   refine goes_ Tryz.func68 (by kernel_rfl) rfl #[.agg #[.slice Ao31 t271.length co31],.agg #[.slice Ao41 t279.length co41]] (by rfl) rfl rfl (by (try simp only [List.map_toArray,List.map_cons,List.map_nil]);first|done|rfl|(simp only [List.length_drop,List.length_take];rfl)) ?_
   with_reducible refine (bursarref03_Long_plus.calls k1 _ _ t271 _ _ t279 t282 _ ?side1 ?side2 ?side3 ?side4 A16.out).mono ?_
   (case side1 => repeat (first|exact (Kd.V_reads' HO273.out).2.2|(with_reducible refine Kd.C_alloc ?_ _)|(with_reducible refine Kd.C_drewN ?_ _)|(with_reducible refine Kd.C_drew ?_)))
   (case side2 => exact (Kd.V_reads' HO273.out).2.1)
   (case side3 => repeat (first|exact (Kd.R_reads' HO281.out).2.2|(with_reducible refine Kd.C_alloc ?_ _)|(with_reducible refine Kd.C_drewN ?_ _)|(with_reducible refine Kd.C_drew ?_)))
   (case side4 => exact (Kd.R_reads' HO281.out).2.1)
   rintro e w42 ⟨v283,rfl,ho0,hb⟩
   refine ⟨_,rfl,?_⟩
   have n0_:=Aside0.mk (Kd.R_below (HO_8.out) hb)
   have n1_:=Aside0.mk (Kd.V_below (HO264.out) hb)
   have n2_:=Aside0.mk (Kd.V_below (HO267.out) hb)
   have n3_:=Aside0.mk (Kd.V_below (HO270.out) hb)
   have n4_:=Aside0.mk (Kd.V_below (HO273.out) hb)
   have n5_:=Aside0.mk (Kd.V_below (HO276.out) hb)
   have n6_:=Aside0.mk (Kd.R_below (HO281.out) hb)
   have n7_:=Aside0.mk (Kd.V_lower (Kd.V_mono (ok':=fun k_ => some k_ ≠ (.slice Ao19 x8_1.length co19 : Value).ownBlock ∧ some k_ ≠ (.slice Ao41 t279.length co41 : Value).ownBlock ∧ k_ ≠ gb257 ∧ k_ ≠ gb277 ∧ k_ ≠ gb278) ho0 (fun k_ hk_ => ⟨(Kd.fresh' (Kd.R_lt (HO_8.out)) k_ hk_),(Kd.fresh' (Kd.R_lt (HO281.out)) k_ hk_),(Kd.freshB (g:=gb257) (o:=.cells #[.slice A2_0 l2_0.length c2_0] 85 (0,0)) (BK257.out) k_ hk_),(Kd.freshB (g:=gb277) (o:=.cells #[.slice Ao31 t271.length co31] 85 (0,0)) (BK277.out) k_ hk_),(Kd.freshB (g:=gb278) (o:=.cells #[.slice Ao33 t274.length co33] 85 (0,0)) (BK278.out) k_ hk_)⟩)) (below_size (by repeat (first|(with_reducible first|exact HB.out|apply below_alloc|apply pw_below_drewN|apply below_drew1|refine below_set ?_ GE257.out|refine below_set ?_ GE277.out|refine below_set ?_ GE278.out)|exact HB.out))))
   have n8_:=Aside0.mk (blk_below (g:=gb257) (o:=.cells #[.slice A2_0 l2_0.length c2_0] 85 (0,0)) (BK257.out) hb)
   have n9_:=Aside0.mk (blk_below (g:=gb277) (o:=.cells #[.slice Ao31 t271.length co31] 85 (0,0)) (BK277.out) hb)
   have n10_:=Aside0.mk (blk_below (g:=gb278) (o:=.cells #[.slice Ao33 t274.length co33] 85 (0,0)) (BK278.out) hb)
   have n11_:=Aside0.mk (below_step (by repeat (first|(with_reducible first|exact HB.out|apply below_alloc|apply pw_below_drewN|apply below_drew1|refine below_set ?_ GE257.out|refine below_set ?_ GE277.out|refine below_set ?_ GE278.out)|exact HB.out)) hb)
   clear HO_8;clear HO264;clear HO267;clear HO270;clear HO273;clear HO276;clear HO281;clear BK257;clear BK277;clear BK278;clear HB;have HO_8:=n0_;have HO264:=n1_;have HO267:=n2_;have HO270:=n3_;have HO273:=n4_;have HO276:=n5_;have HO281:=n6_;have HO284:=n7_;have BK257:=n8_;have BK277:=n9_;have BK278:=n10_;have HB:=n11_;clear n0_ n1_ n2_ n3_ n4_ n5_ n6_ n7_ n8_ n9_ n10_ n11_;(try clear hb);(try clear hb2);(try clear hk);(try clear hi);(try clear ho0)
   obtain ⟨Ao43,co43,eo43⟩:=Kd.V_slice HO284.out
   (first|subst eo43|(injection eo43 with f1_ f2_ f3_;have f4_:=f1_.symm;have f5_:=f3_.symm;clear f1_ f2_ f3_;subst f4_;subst f5_))
   refine hK.out _ _ ((blk_cell BK277.out 0).trans rfl) (fun hHeld => ?_)
   clear hK K
   refine norm_ (a':=?_) ?_ ?_
   rotate_left
   ·show Act.put _ (some 44) _ = _
    simp only [pu_]
    rfl
   refine last_ (i:=3) (N:=none) #[true,true,true,true] rfl rfl (by kernel_rfl) (by decide) (fun K hK => ?_)
   have hs44 : w42.cell? ⟨gb277,0,none⟩ = some (.slice Ao31 t271.length co31):=(blk_cell BK277.out 0).trans rfl
   have hfs44:=blk_frozen BK277.out 0
   have hns44_0:=NB257_277.out
   have hns44_2:=NB278_277.out
   have hms44_0:=NB277_257.out
   have hms44_2:=NB277_278.out
   refine skip_ (w1:=?_) (by rfl) rfl ?_ ?_
   rotate_left
   ·go_simp
    rfl
   refine hK.out _ _ ?_
   clear hK K
   refine done_ (by kernel_rfl) ?_
   have hnb45:=NB277_257.out
   have hnc45:=NB257_277.out
   have hcz46_0 : w42.cell? ⟨gb277,0,none⟩ = some (.slice Ao31 t271.length co31):=(blk_cell BK277.out 0).trans rfl
   have hfz46_0:=blk_frozen BK277.out 0
   have H:=H'.out
   clear H'
   by_cases c18 : t286 = true
   ·subst c18
    have H1 : (some (t285,0)) = some (r1,r2):=by rw [if_pos rfl] at H;exact H
    clear H;have H:=H1;clear H1
    simp only [Option.some.injEq,Prod.mk.injEq] at H
    obtain ⟨rfl,rfl⟩:=H
    try go_wp2_with (first|((with_reducible refine gate_callee (f:=69) rfl ?_);refine goesL_ (some 47) rfl rfl Tryz.func69 (by kernel_rfl) rfl #[.agg #[.slice Ao43 t282.length co43]] rfl (by (try simp only [List.map_toArray,List.map_cons,List.map_nil]);first|done|rfl|(simp only [List.length_drop,List.length_take];rfl)) ?_;(with_reducible refine (bursarref03_Long_value.calls k1 _ _ t282 t285 true _ ?side1 ?side2 A17.out).mono ?_);(case side1 => refine (Kd.V_reads' (e:=3) (base:=w.heap.size) (ok:=fun k_ => (some k_ ≠ (.slice Ao19 x8_1.length co19 : Value).ownBlock ∧ (some k_ ≠ (.slice Ao41 t279.length co41 : Value).ownBlock ∧ (k_ ≠ gb257 ∧ (k_ ≠ gb277 ∧ k_ ≠ gb278))))) (n:=t282.length) (c:=co43) ?_).2.2;exact (by (with_reducible repeat (first|apply Kd.V_alloc|apply Kd.V_drewN|apply Kd.V_drew));exact (Kd.V_mono (Kd.V_far (p:=⟨gb277,0,none⟩) (Kd.V_mono HO284.out (fun k_ hk => (⟨hk,hk.2.2.2.1⟩ : _ ∧ k_ ≠ gb277))) (fun _ hk => hk.2) (.slice Ao43 t282.length co43)) (fun _ h_ => h_.1))));(case side2 => exact (Kd.V_reads' HO284.out).2.1);rintro e w47 ⟨rfl,hb⟩;refine ⟨_,rfl,?_⟩;have n0_:=Aside0.mk (Kd.R_below (by (with_reducible repeat (first|apply Kd.R_alloc|apply Kd.R_drewN|apply Kd.R_drew));exact (Kd.R_mono (Kd.R_far (p:=⟨gb277,0,none⟩) (Kd.R_types HO_8.out BK277.out (by decide)) (fun _ hk => hk.2) (.slice Ao43 t282.length co43)) (fun _ h_ => h_.1))) hb);have n1_:=Aside0.mk (Kd.V_below (by (with_reducible repeat (first|apply Kd.V_alloc|apply Kd.V_drewN|apply Kd.V_drew));exact (Kd.V_mono (Kd.V_far (p:=⟨gb277,0,none⟩) (Kd.V_mono HO264.out (fun k_ hk => (⟨hk,hk.1.2.1⟩ : _ ∧ k_ ≠ gb277))) (fun _ hk => hk.2) (.slice Ao43 t282.length co43)) (fun _ h_ => h_.1))) hb);have n2_:=Aside0.mk (Kd.V_below (by (with_reducible repeat (first|apply Kd.V_alloc|apply Kd.V_drewN|apply Kd.V_drew));exact (Kd.V_mono (Kd.V_far (p:=⟨gb277,0,none⟩) (Kd.V_mono HO267.out (fun k_ hk => (⟨hk,hk.1.2.2.1⟩ : _ ∧ k_ ≠ gb277))) (fun _ hk => hk.2) (.slice Ao43 t282.length co43)) (fun _ h_ => h_.1))) hb);have n3_:=Aside0.mk (Kd.V_below (by (with_reducible repeat (first|apply Kd.V_alloc|apply Kd.V_drewN|apply Kd.V_drew));exact (Kd.V_mono (Kd.V_far (p:=⟨gb277,0,none⟩) (Kd.V_mono HO270.out (fun k_ hk => (⟨hk,hk.1.2.2.1⟩ : _ ∧ k_ ≠ gb277))) (fun _ hk => hk.2) (.slice Ao43 t282.length co43)) (fun _ h_ => h_.1))) hb);have n4_:=Aside0.mk (Kd.V_below (by (with_reducible repeat (first|apply Kd.V_alloc|apply Kd.V_drewN|apply Kd.V_drew));exact (Kd.V_mono (Kd.V_far (p:=⟨gb277,0,none⟩) (Kd.V_mono HO273.out (fun k_ hk => (⟨hk,hk.1.2.2.1⟩ : _ ∧ k_ ≠ gb277))) (fun _ hk => hk.2) (.slice Ao43 t282.length co43)) (fun _ h_ => h_.1))) hb);have n5_:=Aside0.mk (Kd.V_below (by (with_reducible repeat (first|apply Kd.V_alloc|apply Kd.V_drewN|apply Kd.V_drew));exact (Kd.V_mono (Kd.V_far (p:=⟨gb277,0,none⟩) (Kd.V_mono HO276.out (fun k_ hk => (⟨hk,hk.1.2.2.1⟩ : _ ∧ k_ ≠ gb277))) (fun _ hk => hk.2) (.slice Ao43 t282.length co43)) (fun _ h_ => h_.1))) hb);have n6_:=Aside0.mk (Kd.R_below (by (with_reducible repeat (first|apply Kd.R_alloc|apply Kd.R_drewN|apply Kd.R_drew));exact (Kd.R_mono (Kd.R_far (p:=⟨gb277,0,none⟩) (Kd.R_types HO281.out BK277.out (by decide)) (fun _ hk => hk.2) (.slice Ao43 t282.length co43)) (fun _ h_ => h_.1))) hb);have n7_:=Aside0.mk (Kd.V_below (by (with_reducible repeat (first|apply Kd.V_alloc|apply Kd.V_drewN|apply Kd.V_drew));exact (Kd.V_mono (Kd.V_far (p:=⟨gb277,0,none⟩) (Kd.V_mono HO284.out (fun k_ hk => (⟨hk,hk.2.2.2.1⟩ : _ ∧ k_ ≠ gb277))) (fun _ hk => hk.2) (.slice Ao43 t282.length co43)) (fun _ h_ => h_.1))) hb);have n8_:=Aside0.mk (blk_below (g:=gb257) (o:=.cells #[.slice A2_0 l2_0.length c2_0] 85 (0,0)) (by (with_reducible repeat (first|refine blk_drewN ?_ _|refine blk_drew ?_|refine blk_alloc ?_ _));refine blk_far ?_ NB257_277.out _;(with_reducible repeat (first|refine blk_drewN ?_ _|refine blk_drew ?_|refine blk_alloc ?_ _));exact BK257.out) hb);have n9_:=Aside0.mk (blk_below (g:=gb277) (o:=.cells #[.slice Ao43 t282.length co43] 85 (0,0)) (by (with_reducible repeat (first|refine blk_drewN ?_ _|refine blk_drew ?_|refine blk_alloc ?_ _));refine blk_put (cs:=#[.slice Ao31 t271.length co31]) ?_ 0 _ rfl;(with_reducible repeat (first|refine blk_drewN ?_ _|refine blk_drew ?_|refine blk_alloc ?_ _));exact BK277.out) hb);have n10_:=Aside0.mk (blk_below (g:=gb278) (o:=.cells #[.slice Ao33 t274.length co33] 85 (0,0)) (by (with_reducible repeat (first|refine blk_drewN ?_ _|refine blk_drew ?_|refine blk_alloc ?_ _));refine blk_far ?_ NB278_277.out _;(with_reducible repeat (first|refine blk_drewN ?_ _|refine blk_drew ?_|refine blk_alloc ?_ _));exact BK278.out) hb);have n11_:=Aside0.mk (below_step (by repeat (first|(with_reducible first|exact HB.out|apply below_alloc|apply pw_below_drewN|apply below_drew1|refine below_set ?_ GE257.out|refine below_set ?_ GE277.out|refine below_set ?_ GE278.out)|exact HB.out)) hb);clear HO_8;clear HO264;clear HO267;clear HO270;clear HO273;clear HO276;clear HO281;clear HO284;clear BK257;clear BK277;clear BK278;clear HB;have HO_8:=n0_;have HO264:=n1_;have HO267:=n2_;have HO270:=n3_;have HO273:=n4_;have HO276:=n5_;have HO281:=n6_;have HO284:=n7_;have BK257:=n8_;have BK277:=n9_;have BK278:=n10_;have HB:=n11_;clear n0_ n1_ n2_ n3_ n4_ n5_ n6_ n7_ n8_ n9_ n10_ n11_;(try clear hb);(try clear hb2);(try clear hk);(try clear hi)))
    go_ret2
    exact ⟨by first|rfl|(simp [errW_none,errW_some] <;> rfl)|(simp [*,errW_none,errW_some] <;> rfl),by repeat (first|(with_reducible first|exact HB.out|apply below_alloc|apply pw_below_drewN|apply below_drew1|refine below_set ?_ GE257.out|refine below_set ?_ GE277.out|refine below_set ?_ GE278.out)|exact HB.out)⟩
   replace c18:=Bool.eq_false_iff.mpr c18
   subst c18
   have H1 : (some (0,7)) = some (r1,r2):=by rw [if_neg (show ¬ (false = true) by decide)] at H;exact H
   clear H;have H:=H1;clear H1
   simp only [Option.some.injEq,Prod.mk.injEq] at H
   obtain ⟨rfl,rfl⟩:=H
   try go_wp2_with (first|((with_reducible refine gate_callee (f:=69) rfl ?_);refine goesL_ (some 47) rfl rfl Tryz.func69 (by kernel_rfl) rfl #[.agg #[.slice Ao43 t282.length co43]] rfl (by (try simp only [List.map_toArray,List.map_cons,List.map_nil]);first|done|rfl|(simp only [List.length_drop,List.length_take];rfl)) ?_;(with_reducible refine (bursarref03_Long_value.calls k1 _ _ t282 t285 false _ ?side1 ?side2 A17.out).mono ?_);(case side1 => refine (Kd.V_reads' (e:=3) (base:=w.heap.size) (ok:=fun k_ => (some k_ ≠ (.slice Ao19 x8_1.length co19 : Value).ownBlock ∧ (some k_ ≠ (.slice Ao41 t279.length co41 : Value).ownBlock ∧ (k_ ≠ gb257 ∧ (k_ ≠ gb277 ∧ k_ ≠ gb278))))) (n:=t282.length) (c:=co43) ?_).2.2;exact (by (with_reducible repeat (first|apply Kd.V_alloc|apply Kd.V_drewN|apply Kd.V_drew));exact (Kd.V_mono (Kd.V_far (p:=⟨gb277,0,none⟩) (Kd.V_mono HO284.out (fun k_ hk => (⟨hk,hk.2.2.2.1⟩ : _ ∧ k_ ≠ gb277))) (fun _ hk => hk.2) (.slice Ao43 t282.length co43)) (fun _ h_ => h_.1))));(case side2 => exact (Kd.V_reads' HO284.out).2.1);rintro e w76 ⟨rfl,hb⟩;refine ⟨_,rfl,?_⟩;have n0_:=Aside0.mk (Kd.R_below (by (with_reducible repeat (first|apply Kd.R_alloc|apply Kd.R_drewN|apply Kd.R_drew));exact (Kd.R_mono (Kd.R_far (p:=⟨gb277,0,none⟩) (Kd.R_types HO_8.out BK277.out (by decide)) (fun _ hk => hk.2) (.slice Ao43 t282.length co43)) (fun _ h_ => h_.1))) hb);have n1_:=Aside0.mk (Kd.V_below (by (with_reducible repeat (first|apply Kd.V_alloc|apply Kd.V_drewN|apply Kd.V_drew));exact (Kd.V_mono (Kd.V_far (p:=⟨gb277,0,none⟩) (Kd.V_mono HO264.out (fun k_ hk => (⟨hk,hk.1.2.1⟩ : _ ∧ k_ ≠ gb277))) (fun _ hk => hk.2) (.slice Ao43 t282.length co43)) (fun _ h_ => h_.1))) hb);have n2_:=Aside0.mk (Kd.V_below (by (with_reducible repeat (first|apply Kd.V_alloc|apply Kd.V_drewN|apply Kd.V_drew));exact (Kd.V_mono (Kd.V_far (p:=⟨gb277,0,none⟩) (Kd.V_mono HO267.out (fun k_ hk => (⟨hk,hk.1.2.2.1⟩ : _ ∧ k_ ≠ gb277))) (fun _ hk => hk.2) (.slice Ao43 t282.length co43)) (fun _ h_ => h_.1))) hb);have n3_:=Aside0.mk (Kd.V_below (by (with_reducible repeat (first|apply Kd.V_alloc|apply Kd.V_drewN|apply Kd.V_drew));exact (Kd.V_mono (Kd.V_far (p:=⟨gb277,0,none⟩) (Kd.V_mono HO270.out (fun k_ hk => (⟨hk,hk.1.2.2.1⟩ : _ ∧ k_ ≠ gb277))) (fun _ hk => hk.2) (.slice Ao43 t282.length co43)) (fun _ h_ => h_.1))) hb);have n4_:=Aside0.mk (Kd.V_below (by (with_reducible repeat (first|apply Kd.V_alloc|apply Kd.V_drewN|apply Kd.V_drew));exact (Kd.V_mono (Kd.V_far (p:=⟨gb277,0,none⟩) (Kd.V_mono HO273.out (fun k_ hk => (⟨hk,hk.1.2.2.1⟩ : _ ∧ k_ ≠ gb277))) (fun _ hk => hk.2) (.slice Ao43 t282.length co43)) (fun _ h_ => h_.1))) hb);have n5_:=Aside0.mk (Kd.V_below (by (with_reducible repeat (first|apply Kd.V_alloc|apply Kd.V_drewN|apply Kd.V_drew));exact (Kd.V_mono (Kd.V_far (p:=⟨gb277,0,none⟩) (Kd.V_mono HO276.out (fun k_ hk => (⟨hk,hk.1.2.2.1⟩ : _ ∧ k_ ≠ gb277))) (fun _ hk => hk.2) (.slice Ao43 t282.length co43)) (fun _ h_ => h_.1))) hb);have n6_:=Aside0.mk (Kd.R_below (by (with_reducible repeat (first|apply Kd.R_alloc|apply Kd.R_drewN|apply Kd.R_drew));exact (Kd.R_mono (Kd.R_far (p:=⟨gb277,0,none⟩) (Kd.R_types HO281.out BK277.out (by decide)) (fun _ hk => hk.2) (.slice Ao43 t282.length co43)) (fun _ h_ => h_.1))) hb);have n7_:=Aside0.mk (Kd.V_below (by (with_reducible repeat (first|apply Kd.V_alloc|apply Kd.V_drewN|apply Kd.V_drew));exact (Kd.V_mono (Kd.V_far (p:=⟨gb277,0,none⟩) (Kd.V_mono HO284.out (fun k_ hk => (⟨hk,hk.2.2.2.1⟩ : _ ∧ k_ ≠ gb277))) (fun _ hk => hk.2) (.slice Ao43 t282.length co43)) (fun _ h_ => h_.1))) hb);have n8_:=Aside0.mk (blk_below (g:=gb257) (o:=.cells #[.slice A2_0 l2_0.length c2_0] 85 (0,0)) (by (with_reducible repeat (first|refine blk_drewN ?_ _|refine blk_drew ?_|refine blk_alloc ?_ _));refine blk_far ?_ NB257_277.out _;(with_reducible repeat (first|refine blk_drewN ?_ _|refine blk_drew ?_|refine blk_alloc ?_ _));exact BK257.out) hb);have n9_:=Aside0.mk (blk_below (g:=gb277) (o:=.cells #[.slice Ao43 t282.length co43] 85 (0,0)) (by (with_reducible repeat (first|refine blk_drewN ?_ _|refine blk_drew ?_|refine blk_alloc ?_ _));refine blk_put (cs:=#[.slice Ao31 t271.length co31]) ?_ 0 _ rfl;(with_reducible repeat (first|refine blk_drewN ?_ _|refine blk_drew ?_|refine blk_alloc ?_ _));exact BK277.out) hb);have n10_:=Aside0.mk (blk_below (g:=gb278) (o:=.cells #[.slice Ao33 t274.length co33] 85 (0,0)) (by (with_reducible repeat (first|refine blk_drewN ?_ _|refine blk_drew ?_|refine blk_alloc ?_ _));refine blk_far ?_ NB278_277.out _;(with_reducible repeat (first|refine blk_drewN ?_ _|refine blk_drew ?_|refine blk_alloc ?_ _));exact BK278.out) hb);have n11_:=Aside0.mk (below_step (by repeat (first|(with_reducible first|exact HB.out|apply below_alloc|apply pw_below_drewN|apply below_drew1|refine below_set ?_ GE257.out|refine below_set ?_ GE277.out|refine below_set ?_ GE278.out)|exact HB.out)) hb);clear HO_8;clear HO264;clear HO267;clear HO270;clear HO273;clear HO276;clear HO281;clear HO284;clear BK257;clear BK277;clear BK278;clear HB;have HO_8:=n0_;have HO264:=n1_;have HO267:=n2_;have HO270:=n3_;have HO273:=n4_;have HO276:=n5_;have HO281:=n6_;have HO284:=n7_;have BK257:=n8_;have BK277:=n9_;have BK278:=n10_;have HB:=n11_;clear n0_ n1_ n2_ n3_ n4_ n5_ n6_ n7_ n8_ n9_ n10_ n11_;(try clear hb);(try clear hb2);(try clear hk);(try clear hi)))
   go_ret2
   exact ⟨by first|rfl|(simp [errW_none,errW_some] <;> rfl)|(simp [*,errW_none,errW_some] <;> rfl),by repeat (first|(with_reducible first|exact HB.out|apply below_alloc|apply pw_below_drewN|apply below_drew1|refine below_set ?_ GE257.out|refine below_set ?_ GE277.out|refine below_set ?_ GE278.out)|exact HB.out)⟩
end Go.Proofs.YtejgbdclhlolkaaGreatDoor.Q
