/- What the statement ObjectPlacesUptoCardSaid rests on, part 6 of 7: walks and plain laws; what of the printer's words it leans on. -/
import Derived.Test.YtniolbolfclhkaaDoorMOP3
import Derived.Test.YtniolbolfclhkaaDoorMOP4
import Derived.Test.YtniolbolfclhkaaDoorMOP5
namespace Go.Proofs.YtniolbolfclhkaaDoor.Q
open Go.RowKit Go.Proofs.YtniolbolfclhkaaDoorW.PrintWords Go.Proofs.YtniolbolfclhkaaDoorW.PrintLast Go.Proofs.YtniolbolfclhkaaDoorW.PrintMore
attribute [local go_sem] max2_int min2_int max_two min_two max_three min_three max_four min_four   -- for this text's walks alone
set_option linter.unusedVariables false
set_option linter.unusedSimpArgs false
def bursarlaw13_fixed.f  : Option (Bool) := (bursarlaw13_small.f).bind fun bt108 => ((object_EncodeObject.f bt108.1 bt108.2.1 bt108.2.2.1 bt108.2.2.2.1 bt108.2.2.2.2.1 bt108.2.2.2.2.2.1 bt108.2.2.2.2.2.2).bind fun bt119 => ((object_DecodeObject.f (⟨#[79, 1, 2, 47, 97, 1, 120, 0, 3, 0, 1, 4, 109, 97, 105, 110, 1, 3, 99, 112, 117, 244, 3, 0, 7]⟩ : ByteArray)).bind fun bt121 => ((object_Key.f 3 (⟨#[47, 97]⟩ : ByteArray) (⟨#[120]⟩ : ByteArray)).bind fun bt134 => (if bt119.2 = 0 then (if bt119.1.toList = ([79, 1, 2, 47, 97, 1, 120, 0, 3, 0, 1, 4, 109, 97, 105, 110, 1, 3, 99, 112, 117, 244, 3, 0, 7] : List UInt8) then (if bt121.2.2.2.2.2.2.2 = 0 then ((bursarlaw13_small.f).bind fun bt136 => ((bursarlaw13_sameObject.f bt121.1 bt121.2.1 bt121.2.2.1 bt121.2.2.2.1 bt121.2.2.2.2.1 bt121.2.2.2.2.2.1 bt121.2.2.2.2.2.2.1 bt136.1 bt136.2.1 bt136.2.2.1 bt136.2.2.2.1 bt136.2.2.2.2.1 bt136.2.2.2.2.2.1 bt136.2.2.2.2.2.2).bind fun t147 => (if t147 = true then (if bt134.2 = 0 then (some (bt134.1.toList == ([111, 0, 1, 47, 97, 0, 1, 120, 0, 1] : List UInt8))) else (some false)) else (some false)))) else (some false)) else (some false)) else (some false)))))
def bursarlaw13_fixed.T4 : Bool × List (List Nat × List Nat) := (true, [([], []), ([0], [0]), ([1], [1]), ([2], [2]), ([3, 2], [2, 3]), ([2, 4], [2, 4]), ([5, 2], [5]), ([6], [6]), ([7, 6], [6, 7]), ([6, 8], [6, 8]), ([9, 6], [9]), ([10], [10]), ([10, 10], [10]), ([11, 12, 12, 10], [10, 11, 12]), ([10, 13], [10, 13]), ([14, 13], [14]), ([15], [15]), ([16, 15], [15, 16]), ([15, 17], [15, 17]), ([18, 15], [18]), ([19], [19]), ([20, 19], [19, 20]), ([19, 21], [19, 21]), ([22, 19, 0, 1, 2, 3, 4, 5, 6, 7, 8, 9, 10, 11, 12, 13, 14, 15, 16, 17, 18, 19, 20, 21, 22], [22])])
def bursarlaw13_fixed.B4 : List Nat := [0, 1, 3, 7, 15, 31, 63, 127, 255, 511, 1023, 2047, 2047, 8191, 16383, 32767, 65535, 131071, 262143, 524287, 1048575, 2097151, 4194303, 8388607]
theorem bursarlaw13_fixed.tab4 : rtab .any (opsOf Tryd.f6 4) = bursarlaw13_fixed.T4 := by kernel_rfl
theorem bursarlaw13_fixed.bits4 : waitsOk bursarlaw13_fixed.T4.2 bursarlaw13_fixed.B4 = true := by kernel_rfl
set_option maxHeartbeats 64000000 in
set_option maxRecDepth 100000 in
theorem bursarlaw13_fixed.calls  (r : Bool) (w : World) (h : bursarlaw13_fixed.f  = some r) (hG : Glob w) :
  Calls Tryd.prog 6 #[] w fun e w' => e = .returned (.bool r) ∧ Below w.heap.size w w':=by
 have hu25:=Tryd.underlying25
 have HB:=Aside0.mk (Below.refl w.heap.size w)
 have H : ((bursarlaw13_small.f).bind fun bt108 => ((object_EncodeObject.f bt108.1 bt108.2.1 bt108.2.2.1 bt108.2.2.2.1 bt108.2.2.2.2.1 bt108.2.2.2.2.2.1 bt108.2.2.2.2.2.2).bind fun bt119 => ((object_DecodeObject.f (⟨#[79,1,2,47,97,1,120,0,3,0,1,4,109,97,105,110,1,3,99,112,117,244,3,0,7]⟩ : ByteArray)).bind fun bt121 => ((object_Key.f 3 (⟨#[47,97]⟩ : ByteArray) (⟨#[120]⟩ : ByteArray)).bind fun bt134 => (if bt119.2 = 0 then (if bt119.1.toList = ([79,1,2,47,97,1,120,0,3,0,1,4,109,97,105,110,1,3,99,112,117,244,3,0,7] : List UInt8) then (if bt121.2.2.2.2.2.2.2 = 0 then ((bursarlaw13_small.f).bind fun bt136 => ((bursarlaw13_sameObject.f bt121.1 bt121.2.1 bt121.2.2.1 bt121.2.2.2.1 bt121.2.2.2.2.1 bt121.2.2.2.2.2.1 bt121.2.2.2.2.2.2.1 bt136.1 bt136.2.1 bt136.2.2.1 bt136.2.2.2.1 bt136.2.2.2.2.1 bt136.2.2.2.2.2.1 bt136.2.2.2.2.2.2).bind fun t147 => (if t147 = true then (if bt134.2 = 0 then (some (bt134.1.toList == ([111,0,1,47,97,0,1,120,0,1] : List UInt8))) else (some false)) else (some false)))) else (some false)) else (some false)) else (some false)))))) = some r:=h
 clear h
 replace H:=Option.bind_eq_some_iff.mp H
 obtain ⟨⟨t108,t109,t110,t113,t114,t115,t118⟩,A10,H⟩:=H
 replace H : ((object_EncodeObject.f t108 t109 t110 t113 t114 t115 t118).bind fun bt119 => ((object_DecodeObject.f (⟨#[79,1,2,47,97,1,120,0,3,0,1,4,109,97,105,110,1,3,99,112,117,244,3,0,7]⟩ : ByteArray)).bind fun bt121 => ((object_Key.f 3 (⟨#[47,97]⟩ : ByteArray) (⟨#[120]⟩ : ByteArray)).bind fun bt134 => (if bt119.2 = 0 then (if bt119.1.toList = ([79,1,2,47,97,1,120,0,3,0,1,4,109,97,105,110,1,3,99,112,117,244,3,0,7] : List UInt8) then (if bt121.2.2.2.2.2.2.2 = 0 then ((bursarlaw13_small.f).bind fun bt136 => ((bursarlaw13_sameObject.f bt121.1 bt121.2.1 bt121.2.2.1 bt121.2.2.2.1 bt121.2.2.2.2.1 bt121.2.2.2.2.2.1 bt121.2.2.2.2.2.2.1 bt136.1 bt136.2.1 bt136.2.2.1 bt136.2.2.2.1 bt136.2.2.2.2.1 bt136.2.2.2.2.2.1 bt136.2.2.2.2.2.2).bind fun t147 => (if t147 = true then (if bt134.2 = 0 then (some (bt134.1.toList == ([111,0,1,47,97,0,1,120,0,1] : List UInt8))) else (some false)) else (some false)))) else (some false)) else (some false)) else (some false))))) = some r:=H
 have A1:=Aside0.mk A10
 clear A10
 replace H:=Option.bind_eq_some_iff.mp H
 obtain ⟨⟨t119,t120⟩,A20,H⟩:=H
 replace H : ((object_DecodeObject.f (⟨#[79,1,2,47,97,1,120,0,3,0,1,4,109,97,105,110,1,3,99,112,117,244,3,0,7]⟩ : ByteArray)).bind fun bt121 => ((object_Key.f 3 (⟨#[47,97]⟩ : ByteArray) (⟨#[120]⟩ : ByteArray)).bind fun bt134 => (if t120 = 0 then (if t119.toList = ([79,1,2,47,97,1,120,0,3,0,1,4,109,97,105,110,1,3,99,112,117,244,3,0,7] : List UInt8) then (if bt121.2.2.2.2.2.2.2 = 0 then ((bursarlaw13_small.f).bind fun bt136 => ((bursarlaw13_sameObject.f bt121.1 bt121.2.1 bt121.2.2.1 bt121.2.2.2.1 bt121.2.2.2.2.1 bt121.2.2.2.2.2.1 bt121.2.2.2.2.2.2.1 bt136.1 bt136.2.1 bt136.2.2.1 bt136.2.2.2.1 bt136.2.2.2.2.1 bt136.2.2.2.2.2.1 bt136.2.2.2.2.2.2).bind fun t147 => (if t147 = true then (if bt134.2 = 0 then (some (bt134.1.toList == ([111,0,1,47,97,0,1,120,0,1] : List UInt8))) else (some false)) else (some false)))) else (some false)) else (some false)) else (some false)))) = some r:=H
 have A2:=Aside0.mk A20
 clear A20
 replace H:=Option.bind_eq_some_iff.mp H
 obtain ⟨⟨t121,t122,t123,t126,t127,t128,t131,t132⟩,A30,H⟩:=H
 replace H : ((object_Key.f 3 (⟨#[47,97]⟩ : ByteArray) (⟨#[120]⟩ : ByteArray)).bind fun bt134 => (if t120 = 0 then (if t119.toList = ([79,1,2,47,97,1,120,0,3,0,1,4,109,97,105,110,1,3,99,112,117,244,3,0,7] : List UInt8) then (if t132 = 0 then ((bursarlaw13_small.f).bind fun bt136 => ((bursarlaw13_sameObject.f t121 t122 t123 t126 t127 t128 t131 bt136.1 bt136.2.1 bt136.2.2.1 bt136.2.2.2.1 bt136.2.2.2.2.1 bt136.2.2.2.2.2.1 bt136.2.2.2.2.2.2).bind fun t147 => (if t147 = true then (if bt134.2 = 0 then (some (bt134.1.toList == ([111,0,1,47,97,0,1,120,0,1] : List UInt8))) else (some false)) else (some false)))) else (some false)) else (some false)) else (some false))) = some r:=H
 have A3:=Aside0.mk A30
 clear A30
 replace H:=Option.bind_eq_some_iff.mp H
 obtain ⟨⟨t134,t135⟩,A40,H⟩:=H
 replace H : (if t120 = 0 then (if t119.toList = ([79,1,2,47,97,1,120,0,3,0,1,4,109,97,105,110,1,3,99,112,117,244,3,0,7] : List UInt8) then (if t132 = 0 then ((bursarlaw13_small.f).bind fun bt136 => ((bursarlaw13_sameObject.f t121 t122 t123 t126 t127 t128 t131 bt136.1 bt136.2.1 bt136.2.2.1 bt136.2.2.2.1 bt136.2.2.2.2.1 bt136.2.2.2.2.2.1 bt136.2.2.2.2.2.2).bind fun t147 => (if t147 = true then (if t135 = 0 then (some (t134.toList == ([111,0,1,47,97,0,1,120,0,1] : List UInt8))) else (some false)) else (some false)))) else (some false)) else (some false)) else (some false)) = some r:=H
 have A4:=Aside0.mk A40
 clear A40
 by_cases c5 : t120 = 0
 rotate_left
 ·rw [if_neg c5] at H
  have c5b0 : (t120 == 0) = false:=beq_eq_false_iff_ne.mpr c5
  have c5b1 : (t120 != 0) = true:=bne_iff_ne.mpr c5
  obtain rfl:=Option.some.inj H
  go_enter Tryd.func6,Tryd.ntmps6
  try go_wp2_with (first|((with_reducible refine gate_callee (f:=16) rfl ?_);refine goesL_ (some 8) rfl rfl Tryd.func16 (by kernel_rfl) rfl #[] rfl (by (try simp only [List.map_toArray,List.map_cons,List.map_nil]);first|done|rfl|(simp only [List.length_drop,List.length_take];rfl)) ?_;(with_reducible refine (bursarlaw13_small.calls  t108 t109 t110 t113 t114 t115 t118 _ A1.out).mono ?_);rintro e w79 ⟨v111,v116,rfl,ho0,ho1,hb⟩;refine ⟨_,rfl,?_⟩;have n0_:=Aside0.mk (Kd.R_lower (Kd.R_mono (ok':=fun k_ => True) ho0 (fun _ hk_ => trivial)) (below_size (by repeat (first|(with_reducible first|exact HB.out|apply below_alloc|apply pw_below_drewN|apply below_drew1)|exact HB.out))));have n1_:=Aside0.mk (Kd.N_lower (Kd.N_mono (ok':=fun k_ => some k_ ≠ (v111 : Value).ownBlock) ho1 (fun k_ hk_ => hk_.2)) (below_size (by repeat (first|(with_reducible first|exact HB.out|apply below_alloc|apply pw_below_drewN|apply below_drew1)|exact HB.out))));have n2_:=Aside0.mk (below_step (by repeat (first|(with_reducible first|exact HB.out|apply below_alloc|apply pw_below_drewN|apply below_drew1)|exact HB.out)) hb);clear HB;have HO112:=n0_;have HO117:=n1_;have HB:=n2_;clear n0_ n1_ n2_;(try clear hb);(try clear hb2);(try clear hk);(try clear hi);(try clear ho0);(try clear ho1);obtain ⟨Ao80,co80,eo80⟩:=Kd.R_slice HO112.out;subst eo80;obtain ⟨Ao81,co81,eo81⟩:=Kd.N_slice HO117.out;subst eo81)|((with_reducible refine gate_callee (f:=9) rfl ?_);refine goesL_ (some 9) rfl rfl Tryd.func9 (by kernel_rfl) rfl #[.agg #[.string t108,.string t109,.slice Ao80 t110.length co80,.int .i64 t113,.int .i64 t114,.slice Ao81 t115.length co81,.int .i64 t118]] rfl (by (try simp only [List.map_toArray,List.map_cons,List.map_nil]);first|done|rfl|(simp only [List.length_drop,List.length_take];rfl)) ?_;(with_reducible refine (object_EncodeObject.calls t108 t109 _ _ t110 t113 t114 _ _ t115 t118 t119 t120 _ ?side1 ?side2 ?side3 ?side4 A2.out (Glob.below hG (by repeat (first|(with_reducible first|exact HB.out|refine below_set ?_ GE133.out|apply below_alloc|apply pw_below_drewN|apply below_drew1)|exact HB.out)))).mono ?_);(case side1 => repeat (first|exact (Kd.R_reads' HO112.out).2.2|(with_reducible refine Kd.C_alloc ?_ _)|(with_reducible refine Kd.C_drewN ?_ _)|(with_reducible refine Kd.C_drew ?_)));(case side2 => exact (Kd.R_reads' HO112.out).2.1);(case side3 => repeat (first|exact (Kd.N_reads' HO117.out).2.2|(with_reducible refine Kd.C_alloc ?_ _)|(with_reducible refine Kd.C_drewN ?_ _)|(with_reducible refine Kd.C_drew ?_)));(case side4 => exact (Kd.N_reads' HO117.out).2.1);rintro e w82 ⟨rfl,hb⟩;refine ⟨_,rfl,?_⟩;have n0_:=Aside0.mk (Kd.R_below (by (with_reducible repeat (first|apply Kd.R_alloc|apply Kd.R_drewN|apply Kd.R_drew));exact HO112.out) hb);have n1_:=Aside0.mk (Kd.N_below (by (with_reducible repeat (first|apply Kd.N_alloc|apply Kd.N_drewN|apply Kd.N_drew));exact HO117.out) hb);have n2_:=Aside0.mk (below_step (by repeat (first|(with_reducible first|exact HB.out|apply below_alloc|apply pw_below_drewN|apply below_drew1)|exact HB.out)) hb);clear HO112;clear HO117;clear HB;have HO112:=n0_;have HO117:=n1_;have HB:=n2_;clear n0_ n1_ n2_;(try clear hb);(try clear hb2);(try clear hk);(try clear hi))|((with_reducible refine gate_callee (f:=17) rfl ?_);refine goesL_ (some 13) rfl rfl Tryd.func17 (by kernel_rfl) rfl #[.string (⟨#[79,1,2,47,97,1,120,0,3,0,1,4,109,97,105,110,1,3,99,112,117,244,3,0,7]⟩ : ByteArray)] rfl (by (try simp only [List.map_toArray,List.map_cons,List.map_nil]);first|done|rfl|(simp only [List.length_drop,List.length_take];rfl)) ?_;(with_reducible refine (object_DecodeObject.calls (⟨#[79,1,2,47,97,1,120,0,3,0,1,4,109,97,105,110,1,3,99,112,117,244,3,0,7]⟩ : ByteArray) t121 t122 t123 t126 t127 t128 t131 t132 _ A3.out (Glob.below hG (by repeat (first|(with_reducible first|exact HB.out|refine below_set ?_ GE133.out|apply below_alloc|apply pw_below_drewN|apply below_drew1)|exact HB.out)))).mono ?_);rintro e w83 ⟨v124,v129,rfl,ho0,ho1,hb⟩;refine ⟨_,rfl,?_⟩;have n0_:=Aside0.mk (Kd.R_elder' (by (with_reducible repeat (first|apply Kd.R_alloc|apply Kd.R_drewN|apply Kd.R_drew));exact HO112.out) (Kd.R_base ho0) hb);have n1_:=Aside0.mk (Kd.N_mono (Kd.N_told (Kd.N_told (Kd.N_old (by (with_reducible repeat (first|apply Kd.N_alloc|apply Kd.N_drewN|apply Kd.N_drew));exact HO117.out) hb) (Kd.R_base ho0)) (Kd.N_base ho1)) (fun _ h_ => h_.1));have n2_:=Aside0.mk (Kd.R_lower (Kd.R_new' (Kd.R_mono (ok':=fun k_ => True) ho0 (fun _ hk_ => trivial)) (Kd.R_lt (by (with_reducible repeat (first|apply Kd.R_alloc|apply Kd.R_drewN|apply Kd.R_drew));exact HO112.out))) (below_size (by repeat (first|(with_reducible first|exact HB.out|apply below_alloc|apply pw_below_drewN|apply below_drew1)|exact HB.out))));have n3_:=Aside0.mk (Kd.N_lower (Kd.N_mono (ok':=fun k_ => some k_ ≠ (v124 : Value).ownBlock ∧ some k_ ≠ (.slice Ao80 t110.length co80 : Value).ownBlock ∧ some k_ ≠ (.slice Ao81 t115.length co81 : Value).ownBlock) ho1 (fun k_ hk_ => ⟨hk_.2,(Kd.fresh' (Kd.R_lt (by (with_reducible repeat (first|apply Kd.R_alloc|apply Kd.R_drewN|apply Kd.R_drew));exact HO112.out)) k_ hk_.1),(Kd.fresh' (Kd.N_lt (by (with_reducible repeat (first|apply Kd.N_alloc|apply Kd.N_drewN|apply Kd.N_drew));exact HO117.out)) k_ hk_.1)⟩)) (below_size (by repeat (first|(with_reducible first|exact HB.out|apply below_alloc|apply pw_below_drewN|apply below_drew1)|exact HB.out))));have n4_:=Aside0.mk (below_step (by repeat (first|(with_reducible first|exact HB.out|apply below_alloc|apply pw_below_drewN|apply below_drew1)|exact HB.out)) hb);clear HO112;clear HO117;clear HB;have HO112:=n0_;have HO117:=n1_;have HO125:=n2_;have HO130:=n3_;have HB:=n4_;clear n0_ n1_ n2_ n3_ n4_;(try clear hb);(try clear hb2);(try clear hk);(try clear hi);(try clear ho0);(try clear ho1))|((with_reducible refine gate_dst (N:=3) rfl ?_);refine box_event ?hg (N:=3) ?hd (cs:=#[.string (⟨#[]⟩ : ByteArray),.string (⟨#[]⟩ : ByteArray),.slice none 0 0,.int .i64 0,.int .i64 0,.slice none 0 0,.int .i64 0]) (t:=25) ?hr ?_;(case hd => rfl);(case hg => rfl);(case hr => first|(go_simp;done)|(go_simp;rfl));intro gb133 hg w84 hbox hb;have n0_:=Aside0.mk (Kd.R_below (by (with_reducible repeat (first|apply Kd.R_alloc|apply Kd.R_drewN|apply Kd.R_drew));exact HO112.out) hb);have n1_:=Aside0.mk (Kd.N_below (Kd.N_elderB (by (with_reducible repeat (first|apply Kd.N_alloc|apply Kd.N_drewN|apply Kd.N_drew));exact HO117.out) gb133 (Nat.le_of_eq hg.symm)) hb);have n2_:=Aside0.mk (Kd.R_below (by (with_reducible repeat (first|apply Kd.R_alloc|apply Kd.R_drewN|apply Kd.R_drew));exact HO125.out) hb);have n3_:=Aside0.mk (Kd.N_below (Kd.N_elderB (by (with_reducible repeat (first|apply Kd.N_alloc|apply Kd.N_drewN|apply Kd.N_drew));exact HO130.out) gb133 (Nat.le_of_eq hg.symm)) hb);have n4_:=Aside0.mk (below_step (by repeat (first|(with_reducible first|exact HB.out|apply below_alloc|apply pw_below_drewN|apply below_drew1)|exact HB.out)) hb);have n5_:=Aside0.mk (hbox);have n6_:=Aside0.mk ((by rw [hg];exact (below_size (by repeat (first|(with_reducible first|exact HB.out|apply below_alloc|apply pw_below_drewN|apply below_drew1)|exact HB.out))) : w.heap.size ≤ gb133));have n7_:=Aside0.mk ((by rw [hg];exact (below_size (by repeat (first|(with_reducible first|exact HB.out|apply below_alloc|apply pw_below_drewN|apply below_drew1)|exact HB.out))) : w.heap.size ≤ gb133));clear HO112;clear HO117;clear HO125;clear HO130;clear HB;have HO112:=n0_;have HO117:=n1_;have HO125:=n2_;have HO130:=n3_;have HB:=n4_;have BK133:=n5_;have GW133:=n6_;have GE133:=n7_;clear n0_ n1_ n2_ n3_ n4_ n5_ n6_ n7_;clear hb hbox hg;have hcz85_0 : w84.cell? ⟨gb133,0,none⟩ = some (.string (⟨#[]⟩ : ByteArray)):=(blk_cell BK133.out 0).trans rfl;have hcz85_1 : w84.cell? ⟨gb133,1,none⟩ = some (.string (⟨#[]⟩ : ByteArray)):=(blk_cell BK133.out 1).trans rfl;have hcz85_2 : w84.cell? ⟨gb133,2,none⟩ = some (.slice none 0 0):=(blk_cell BK133.out 2).trans rfl;have hcz85_3 : w84.cell? ⟨gb133,3,none⟩ = some (.int .i64 0):=(blk_cell BK133.out 3).trans rfl;have hcz85_4 : w84.cell? ⟨gb133,4,none⟩ = some (.int .i64 0):=(blk_cell BK133.out 4).trans rfl;have hcz85_5 : w84.cell? ⟨gb133,5,none⟩ = some (.slice none 0 0):=(blk_cell BK133.out 5).trans rfl;have hcz85_6 : w84.cell? ⟨gb133,6,none⟩ = some (.int .i64 0):=(blk_cell BK133.out 6).trans rfl;have hfz85_0:=blk_frozen BK133.out 0;have hfz85_1:=blk_frozen BK133.out 1;have hfz85_2:=blk_frozen BK133.out 2;have hfz85_3:=blk_frozen BK133.out 3;have hfz85_4:=blk_frozen BK133.out 4;have hfz85_5:=blk_frozen BK133.out 5;have hfz85_6:=blk_frozen BK133.out 6;obtain ⟨Ao86,co86,eo86⟩:=Kd.R_slice HO125.out;subst eo86;obtain ⟨Ao87,co87,eo87⟩:=Kd.N_slice HO130.out;subst eo87)|((with_reducible refine gate_callee (f:=11) rfl ?_);refine goesL_ (some 17) rfl rfl Tryd.func11 (by kernel_rfl) rfl #[.int .i64 3,.string (⟨#[47,97]⟩ : ByteArray),.string (⟨#[120]⟩ : ByteArray)] rfl (by (try simp only [List.map_toArray,List.map_cons,List.map_nil]);first|done|rfl|(simp only [List.length_drop,List.length_take];rfl)) ?_;(with_reducible refine (object_Key.calls 3 (⟨#[47,97]⟩ : ByteArray) (⟨#[120]⟩ : ByteArray) t134 t135 _ A4.out (Glob.below hG (by repeat (first|(with_reducible first|exact HB.out|refine below_set ?_ GE133.out|apply below_alloc|apply pw_below_drewN|apply below_drew1)|exact HB.out)))).mono ?_);rintro e w88 ⟨rfl,hb⟩;refine ⟨_,rfl,?_⟩;have n0_:=Aside0.mk (Kd.R_below (by (with_reducible repeat (first|apply Kd.R_alloc|apply Kd.R_drewN|apply Kd.R_drew));exact (Kd.R_mono (Kd.R_far (p:=⟨gb133,6,none⟩) (Kd.R_far (p:=⟨gb133,5,none⟩) (Kd.R_far (p:=⟨gb133,4,none⟩) (Kd.R_far (p:=⟨gb133,3,none⟩) (Kd.R_far (p:=⟨gb133,2,none⟩) (Kd.R_far (p:=⟨gb133,1,none⟩) (Kd.R_far (p:=⟨gb133,0,none⟩) (Kd.R_types HO112.out BK133.out (by decide)) (fun _ hk => hk.2) (.string t121)) (fun _ hk => hk.2) (.string t122)) (fun _ hk => hk.2) (.slice Ao86 t123.length co86)) (fun _ hk => hk.2) (.int .i64 t126)) (fun _ hk => hk.2) (.int .i64 t127)) (fun _ hk => hk.2) (.slice Ao87 t128.length co87)) (fun _ hk => hk.2) (.int .i64 t131)) (fun _ h_ => h_.1))) hb);have n1_:=Aside0.mk (Kd.N_below (by (with_reducible repeat (first|apply Kd.N_alloc|apply Kd.N_drewN|apply Kd.N_drew));exact (Kd.N_mono (Kd.N_far (p:=⟨gb133,6,none⟩) (Kd.N_far (p:=⟨gb133,5,none⟩) (Kd.N_far (p:=⟨gb133,4,none⟩) (Kd.N_far (p:=⟨gb133,3,none⟩) (Kd.N_far (p:=⟨gb133,2,none⟩) (Kd.N_far (p:=⟨gb133,1,none⟩) (Kd.N_far (p:=⟨gb133,0,none⟩) (Kd.N_mono HO117.out (fun k_ hk => (⟨hk,hk.2⟩ : _ ∧ k_ ≠ gb133))) (fun _ hk => hk.2) (.string t121)) (fun _ hk => hk.2) (.string t122)) (fun _ hk => hk.2) (.slice Ao86 t123.length co86)) (fun _ hk => hk.2) (.int .i64 t126)) (fun _ hk => hk.2) (.int .i64 t127)) (fun _ hk => hk.2) (.slice Ao87 t128.length co87)) (fun _ hk => hk.2) (.int .i64 t131)) (fun _ h_ => h_.1))) hb);have n2_:=Aside0.mk (Kd.R_below (by (with_reducible repeat (first|apply Kd.R_alloc|apply Kd.R_drewN|apply Kd.R_drew));exact (Kd.R_mono (Kd.R_far (p:=⟨gb133,6,none⟩) (Kd.R_far (p:=⟨gb133,5,none⟩) (Kd.R_far (p:=⟨gb133,4,none⟩) (Kd.R_far (p:=⟨gb133,3,none⟩) (Kd.R_far (p:=⟨gb133,2,none⟩) (Kd.R_far (p:=⟨gb133,1,none⟩) (Kd.R_far (p:=⟨gb133,0,none⟩) (Kd.R_types HO125.out BK133.out (by decide)) (fun _ hk => hk.2) (.string t121)) (fun _ hk => hk.2) (.string t122)) (fun _ hk => hk.2) (.slice Ao86 t123.length co86)) (fun _ hk => hk.2) (.int .i64 t126)) (fun _ hk => hk.2) (.int .i64 t127)) (fun _ hk => hk.2) (.slice Ao87 t128.length co87)) (fun _ hk => hk.2) (.int .i64 t131)) (fun _ h_ => h_.1))) hb);have n3_:=Aside0.mk (Kd.N_below (by (with_reducible repeat (first|apply Kd.N_alloc|apply Kd.N_drewN|apply Kd.N_drew));exact (Kd.N_mono (Kd.N_far (p:=⟨gb133,6,none⟩) (Kd.N_far (p:=⟨gb133,5,none⟩) (Kd.N_far (p:=⟨gb133,4,none⟩) (Kd.N_far (p:=⟨gb133,3,none⟩) (Kd.N_far (p:=⟨gb133,2,none⟩) (Kd.N_far (p:=⟨gb133,1,none⟩) (Kd.N_far (p:=⟨gb133,0,none⟩) (Kd.N_mono HO130.out (fun k_ hk => (⟨hk,hk.2⟩ : _ ∧ k_ ≠ gb133))) (fun _ hk => hk.2) (.string t121)) (fun _ hk => hk.2) (.string t122)) (fun _ hk => hk.2) (.slice Ao86 t123.length co86)) (fun _ hk => hk.2) (.int .i64 t126)) (fun _ hk => hk.2) (.int .i64 t127)) (fun _ hk => hk.2) (.slice Ao87 t128.length co87)) (fun _ hk => hk.2) (.int .i64 t131)) (fun _ h_ => h_.1))) hb);have n4_:=Aside0.mk (blk_below (g:=gb133) (o:=.cells #[.string t121,.string t122,.slice Ao86 t123.length co86,.int .i64 t126,.int .i64 t127,.slice Ao87 t128.length co87,.int .i64 t131] 25 (0,0)) (by (with_reducible repeat (first|refine blk_drewN ?_ _|refine blk_drew ?_|refine blk_alloc ?_ _));refine blk_put (cs:=#[.string t121,.string t122,.slice Ao86 t123.length co86,.int .i64 t126,.int .i64 t127,.slice Ao87 t128.length co87,.int .i64 0]) ?_ 6 _ rfl;(with_reducible repeat (first|refine blk_drewN ?_ _|refine blk_drew ?_|refine blk_alloc ?_ _));refine blk_put (cs:=#[.string t121,.string t122,.slice Ao86 t123.length co86,.int .i64 t126,.int .i64 t127,.slice none 0 0,.int .i64 0]) ?_ 5 _ rfl;(with_reducible repeat (first|refine blk_drewN ?_ _|refine blk_drew ?_|refine blk_alloc ?_ _));refine blk_put (cs:=#[.string t121,.string t122,.slice Ao86 t123.length co86,.int .i64 t126,.int .i64 0,.slice none 0 0,.int .i64 0]) ?_ 4 _ rfl;(with_reducible repeat (first|refine blk_drewN ?_ _|refine blk_drew ?_|refine blk_alloc ?_ _));refine blk_put (cs:=#[.string t121,.string t122,.slice Ao86 t123.length co86,.int .i64 0,.int .i64 0,.slice none 0 0,.int .i64 0]) ?_ 3 _ rfl;(with_reducible repeat (first|refine blk_drewN ?_ _|refine blk_drew ?_|refine blk_alloc ?_ _));refine blk_put (cs:=#[.string t121,.string t122,.slice none 0 0,.int .i64 0,.int .i64 0,.slice none 0 0,.int .i64 0]) ?_ 2 _ rfl;(with_reducible repeat (first|refine blk_drewN ?_ _|refine blk_drew ?_|refine blk_alloc ?_ _));refine blk_put (cs:=#[.string t121,.string (⟨#[]⟩ : ByteArray),.slice none 0 0,.int .i64 0,.int .i64 0,.slice none 0 0,.int .i64 0]) ?_ 1 _ rfl;(with_reducible repeat (first|refine blk_drewN ?_ _|refine blk_drew ?_|refine blk_alloc ?_ _));refine blk_put (cs:=#[.string (⟨#[]⟩ : ByteArray),.string (⟨#[]⟩ : ByteArray),.slice none 0 0,.int .i64 0,.int .i64 0,.slice none 0 0,.int .i64 0]) ?_ 0 _ rfl;(with_reducible repeat (first|refine blk_drewN ?_ _|refine blk_drew ?_|refine blk_alloc ?_ _));exact BK133.out) hb);have n5_:=Aside0.mk (below_step (by repeat (first|(with_reducible first|exact HB.out|apply below_alloc|apply pw_below_drewN|apply below_drew1|refine below_set ?_ GE133.out)|exact HB.out)) hb);clear HO112;clear HO117;clear HO125;clear HO130;clear BK133;clear HB;have HO112:=n0_;have HO117:=n1_;have HO125:=n2_;have HO130:=n3_;have BK133:=n4_;have HB:=n5_;clear n0_ n1_ n2_ n3_ n4_ n5_;(try clear hb);(try clear hb2);(try clear hk);(try clear hi)))
  have n0_:=Aside0.mk (Kd.R_drew HO112.out)
  have n1_:=Aside0.mk (Kd.N_drew HO117.out)
  have n2_:=Aside0.mk (Kd.R_drew HO125.out)
  have n3_:=Aside0.mk (Kd.N_drew HO130.out)
  have n4_:=Aside0.mk (blk_drew BK133.out)
  have n5_:=Aside0.mk (below_drew1 HB.out)
  clear HO112;clear HO117;clear HO125;clear HO130;clear BK133;clear HB;have HO112:=n0_;have HO117:=n1_;have HO125:=n2_;have HO130:=n3_;have BK133:=n4_;have HB:=n5_;clear n0_ n1_ n2_ n3_ n4_ n5_
  refine start_ (n:=24) (S:=fun w' => True) (ds:=[]) (bl 0 24) (by kernel_rfl) rfl rfl trivial (fun hHeld => ?_);refine with_tabW bursarlaw13_fixed.tab4 bursarlaw13_fixed.bits4 (fun HT_ HW_ => ?_)
  generalize w88.drew = w89 at HO112 HO117 HO125 HO130 BK133 HB hHeld ⊢
  refine pure_ (i:=0) (N:=some 20) (v:=?_) (a':=?_) (bl 1 23) rfl rfl (any_of HT_.out (by kernel_rfl)) (fun _ _ _ h => h) (Or.inl ⟨by rfl,?_⟩) ?_ ?_
  rotate_left;·intro w';go_simp;with_reducible rfl
  rotate_left;·simp only [pu_];rfl
  refine pure_ (i:=1) (N:=some 21) (v:=?_) (a':=?_) (bl 2 22) rfl rfl (any_of HT_.out (by kernel_rfl)) (fun _ _ _ h => h) (Or.inl ⟨by rfl,?_⟩) ?_ ?_
  rotate_left;·intro w';go_simp;with_reducible rfl
  rotate_left;·simp only [pu_];rfl
  refine pure_ (i:=2) (N:=some 22) (v:=?_) (a':=?_) (bl 3 21) rfl rfl (any_of HT_.out (by kernel_rfl)) (fun _ _ _ h => h) (Or.inl ⟨by rfl,?_⟩) ?_ ?_
  rotate_left;·intro w';go_simp;with_reducible rfl
  rotate_left;·simp only [pu_];rfl
  refine pure_ (i:=3) (N:=some 23) (v:=undef) (a':=?_) (bl 4 20) rfl rfl (any_of HT_.out (by kernel_rfl)) (fun _ _ _ h => h) (Or.inr ⟨by rfl,rfl⟩) ?_ ?_
  rotate_left
  ·simp only [pu_]
   rfl
  refine pure_ (i:=4) (N:=some 24) (v:=undef) (a':=?_) (bl 5 19) rfl rfl (any_of HT_.out (by kernel_rfl)) (fun _ _ _ h => h) (Or.inr ⟨by rfl,rfl⟩) ?_ ?_
  rotate_left
  ·simp only [pu_]
   rfl
  refine pure_ (i:=5) (N:=some 25) (v:=?_) (a':=?_) (bl 6 18) rfl rfl (any_of HT_.out (by kernel_rfl)) (fun _ _ _ h => h) (Or.inl ⟨by rfl,?_⟩) ?_ ?_
  rotate_left;·intro w';go_simp;with_reducible rfl
  rotate_left;·simp only [pu_];rfl
  refine pure_ (i:=6) (N:=some 26) (v:=?_) (a':=?_) (bl 7 17) rfl rfl (any_of HT_.out (by kernel_rfl)) (fun _ _ _ h => h) (Or.inl ⟨by rfl,?_⟩) ?_ ?_
  rotate_left;·intro w';go_simp;with_reducible rfl
  rotate_left;·simp only [pu_];rfl
  refine pure_ (i:=7) (N:=some 27) (v:=undef) (a':=?_) (bl 8 16) rfl rfl (any_of HT_.out (by kernel_rfl)) (fun _ _ _ h => h) (Or.inr ⟨by rfl,rfl⟩) ?_ ?_
  rotate_left
  ·simp only [pu_]
   rfl
  refine pure_ (i:=8) (N:=some 28) (v:=undef) (a':=?_) (bl 9 15) rfl rfl (any_of HT_.out (by kernel_rfl)) (fun _ _ _ h => h) (Or.inr ⟨by rfl,rfl⟩) ?_ ?_
  rotate_left
  ·simp only [pu_]
   rfl
  refine pure_ (i:=9) (N:=some 29) (v:=?_) (a':=?_) (bl 10 14) rfl rfl (any_of HT_.out (by kernel_rfl)) (fun _ _ _ h => h) (Or.inl ⟨by rfl,?_⟩) ?_ ?_
  rotate_left;·intro w';go_simp;with_reducible rfl
  rotate_left;·simp only [pu_];rfl
  refine pure_ (i:=10) (N:=some 30) (v:=?_) (a':=?_) (bl 11 13) rfl rfl (any_of HT_.out (by kernel_rfl)) (fun _ _ _ h => h) (Or.inl ⟨by rfl,?_⟩) ?_ ?_
  rotate_left;·intro w';go_simp;with_reducible rfl
  rotate_left;·simp only [pu_];rfl
  refine pure_ (i:=11) (N:=some 31) (v:=undef) (a':=?_) (bl 12 12) rfl rfl (any_of HT_.out (by kernel_rfl)) (fun _ _ _ h => h) (Or.inr ⟨by rfl,rfl⟩) ?_ ?_
  rotate_left
  ·simp only [pu_]
   rfl
  refine pure_ (i:=12) (N:=some 32) (v:=undef) (a':=?_) (bl 13 11) rfl rfl (any_of HT_.out (by kernel_rfl)) (fun _ _ _ h => h) (Or.inr ⟨by rfl,rfl⟩) ?_ ?_
  rotate_left
  ·simp only [pu_]
   rfl
  refine pure_ (i:=13) (N:=some 33) (v:=undef) (a':=?_) (bl 14 10) rfl rfl (any_of HT_.out (by kernel_rfl)) (fun _ _ _ h => h) (Or.inr ⟨by rfl,rfl⟩) ?_ ?_
  rotate_left
  ·simp only [pu_]
   rfl
  refine pure_ (i:=14) (N:=some 34) (v:=?_) (a':=?_) (bl 15 9) rfl rfl (any_of HT_.out (by kernel_rfl)) (fun _ _ _ h => h) (Or.inl ⟨by rfl,?_⟩) ?_ ?_
  rotate_left;·intro w';go_simp;with_reducible rfl
  rotate_left;·simp only [pu_];rfl
  refine pure_ (i:=15) (N:=some 35) (v:=?_) (a':=?_) (bl 16 8) rfl rfl (any_of HT_.out (by kernel_rfl)) (fun _ _ _ h => h) (Or.inl ⟨by rfl,?_⟩) ?_ ?_
  rotate_left;·intro w';go_simp;with_reducible rfl
  rotate_left;·simp only [pu_];rfl
  refine pure_ (i:=16) (N:=some 36) (v:=undef) (a':=?_) (bl 17 7) rfl rfl (any_of HT_.out (by kernel_rfl)) (fun _ _ _ h => h) (Or.inr ⟨by rfl,rfl⟩) ?_ ?_
  rotate_left
  ·simp only [pu_]
   rfl
  refine pure_ (i:=17) (N:=some 37) (v:=undef) (a':=?_) (bl 18 6) rfl rfl (any_of HT_.out (by kernel_rfl)) (fun _ _ _ h => h) (Or.inr ⟨by rfl,rfl⟩) ?_ ?_
  rotate_left
  ·simp only [pu_]
   rfl
  refine pure_ (i:=18) (N:=some 38) (v:=?_) (a':=?_) (bl 19 5) rfl rfl (any_of HT_.out (by kernel_rfl)) (fun _ _ _ h => h) (Or.inl ⟨by rfl,?_⟩) ?_ ?_
  rotate_left;·intro w';go_simp;with_reducible rfl
  rotate_left;·simp only [pu_];rfl
  refine pure_ (i:=19) (N:=some 39) (v:=?_) (a':=?_) (bl 20 4) rfl rfl (any_of HT_.out (by kernel_rfl)) (fun _ _ _ h => h) (Or.inl ⟨by rfl,?_⟩) ?_ ?_
  rotate_left;·intro w';go_simp;with_reducible rfl
  rotate_left;·simp only [pu_];rfl
  refine pure_ (i:=20) (N:=some 40) (v:=undef) (a':=?_) (bl 21 3) rfl rfl (any_of HT_.out (by kernel_rfl)) (fun _ _ _ h => h) (Or.inr ⟨by rfl,rfl⟩) ?_ ?_
  rotate_left
  ·simp only [pu_]
   rfl
  refine pure_ (i:=21) (N:=some 41) (v:=undef) (a':=?_) (bl 22 2) rfl rfl (any_of HT_.out (by kernel_rfl)) (fun _ _ _ h => h) (Or.inr ⟨by rfl,rfl⟩) ?_ ?_
  rotate_left
  ·simp only [pu_]
   rfl
  refine pure_ (i:=22) (N:=some 42) (v:=?_) (a':=?_) (bl 23 1) rfl rfl (any_of HT_.out (by kernel_rfl)) (fun _ _ _ h => h) (Or.inl ⟨by rfl,?_⟩) ?_ ?_
  rotate_left;·intro w';go_simp;with_reducible rfl
  rotate_left;·simp only [pu_];rfl
  refine pure_ (i:=23) (N:=some 0) (v:=?_) (a':=?_) (bl 24 0) rfl rfl (any_of HT_.out (by kernel_rfl)) (fun _ _ _ h => h) (Or.inl ⟨by rfl,?_⟩) ?_ ?_
  rotate_left;·intro w';go_simp;with_reducible rfl
  rotate_left;·simp only [pu_];rfl
  refine done_ (done_of HT_.out (by kernel_rfl)) ?_
  try go_wp2
  go_ret
  exact ⟨by first|rfl|(simp [errW_none,errW_some] <;> rfl)|(simp [*,errW_none,errW_some] <;> rfl),by repeat (first|(with_reducible first|exact HB.out|apply below_alloc|apply pw_below_drewN|apply below_drew1|refine below_set ?_ GE133.out)|exact HB.out)⟩
 rw [if_pos c5] at H
 have c5b0 : (t120 == 0) = true:=beq_iff_eq.mpr c5
 have c5b1 : (t120 != 0) = false:=bne_eq_false_iff_eq.mpr c5
 clear c5
 by_cases c6 : t119.toList = ([79,1,2,47,97,1,120,0,3,0,1,4,109,97,105,110,1,3,99,112,117,244,3,0,7] : List UInt8)
 rotate_left
 ·rw [if_neg c6] at H
  have c6b0 : (t119.toList == ([79,1,2,47,97,1,120,0,3,0,1,4,109,97,105,110,1,3,99,112,117,244,3,0,7] : List UInt8)) = false:=beq_eq_false_iff_ne.mpr c6
  have c6b1 : (t119.toList != ([79,1,2,47,97,1,120,0,3,0,1,4,109,97,105,110,1,3,99,112,117,244,3,0,7] : List UInt8)) = true:=bne_iff_ne.mpr c6
  obtain rfl:=Option.some.inj H
  go_enter Tryd.func6,Tryd.ntmps6
  try go_wp2_with (first|((with_reducible refine gate_callee (f:=16) rfl ?_);refine goesL_ (some 8) rfl rfl Tryd.func16 (by kernel_rfl) rfl #[] rfl (by (try simp only [List.map_toArray,List.map_cons,List.map_nil]);first|done|rfl|(simp only [List.length_drop,List.length_take];rfl)) ?_;(with_reducible refine (bursarlaw13_small.calls  t108 t109 t110 t113 t114 t115 t118 _ A1.out).mono ?_);rintro e w68 ⟨v111,v116,rfl,ho0,ho1,hb⟩;refine ⟨_,rfl,?_⟩;have n0_:=Aside0.mk (Kd.R_lower (Kd.R_mono (ok':=fun k_ => True) ho0 (fun _ hk_ => trivial)) (below_size (by repeat (first|(with_reducible first|exact HB.out|apply below_alloc|apply pw_below_drewN|apply below_drew1)|exact HB.out))));have n1_:=Aside0.mk (Kd.N_lower (Kd.N_mono (ok':=fun k_ => some k_ ≠ (v111 : Value).ownBlock) ho1 (fun k_ hk_ => hk_.2)) (below_size (by repeat (first|(with_reducible first|exact HB.out|apply below_alloc|apply pw_below_drewN|apply below_drew1)|exact HB.out))));have n2_:=Aside0.mk (below_step (by repeat (first|(with_reducible first|exact HB.out|apply below_alloc|apply pw_below_drewN|apply below_drew1)|exact HB.out)) hb);clear HB;have HO112:=n0_;have HO117:=n1_;have HB:=n2_;clear n0_ n1_ n2_;(try clear hb);(try clear hb2);(try clear hk);(try clear hi);(try clear ho0);(try clear ho1);obtain ⟨Ao69,co69,eo69⟩:=Kd.R_slice HO112.out;subst eo69;obtain ⟨Ao70,co70,eo70⟩:=Kd.N_slice HO117.out;subst eo70)|((with_reducible refine gate_callee (f:=9) rfl ?_);refine goesL_ (some 9) rfl rfl Tryd.func9 (by kernel_rfl) rfl #[.agg #[.string t108,.string t109,.slice Ao69 t110.length co69,.int .i64 t113,.int .i64 t114,.slice Ao70 t115.length co70,.int .i64 t118]] rfl (by (try simp only [List.map_toArray,List.map_cons,List.map_nil]);first|done|rfl|(simp only [List.length_drop,List.length_take];rfl)) ?_;(with_reducible refine (object_EncodeObject.calls t108 t109 _ _ t110 t113 t114 _ _ t115 t118 t119 t120 _ ?side1 ?side2 ?side3 ?side4 A2.out (Glob.below hG (by repeat (first|(with_reducible first|exact HB.out|refine below_set ?_ GE133.out|apply below_alloc|apply pw_below_drewN|apply below_drew1)|exact HB.out)))).mono ?_);(case side1 => repeat (first|exact (Kd.R_reads' HO112.out).2.2|(with_reducible refine Kd.C_alloc ?_ _)|(with_reducible refine Kd.C_drewN ?_ _)|(with_reducible refine Kd.C_drew ?_)));(case side2 => exact (Kd.R_reads' HO112.out).2.1);(case side3 => repeat (first|exact (Kd.N_reads' HO117.out).2.2|(with_reducible refine Kd.C_alloc ?_ _)|(with_reducible refine Kd.C_drewN ?_ _)|(with_reducible refine Kd.C_drew ?_)));(case side4 => exact (Kd.N_reads' HO117.out).2.1);rintro e w71 ⟨rfl,hb⟩;refine ⟨_,rfl,?_⟩;have n0_:=Aside0.mk (Kd.R_below (by (with_reducible repeat (first|apply Kd.R_alloc|apply Kd.R_drewN|apply Kd.R_drew));exact HO112.out) hb);have n1_:=Aside0.mk (Kd.N_below (by (with_reducible repeat (first|apply Kd.N_alloc|apply Kd.N_drewN|apply Kd.N_drew));exact HO117.out) hb);have n2_:=Aside0.mk (below_step (by repeat (first|(with_reducible first|exact HB.out|apply below_alloc|apply pw_below_drewN|apply below_drew1)|exact HB.out)) hb);clear HO112;clear HO117;clear HB;have HO112:=n0_;have HO117:=n1_;have HB:=n2_;clear n0_ n1_ n2_;(try clear hb);(try clear hb2);(try clear hk);(try clear hi))|((with_reducible refine gate_callee (f:=17) rfl ?_);refine goesL_ (some 13) rfl rfl Tryd.func17 (by kernel_rfl) rfl #[.string (⟨#[79,1,2,47,97,1,120,0,3,0,1,4,109,97,105,110,1,3,99,112,117,244,3,0,7]⟩ : ByteArray)] rfl (by (try simp only [List.map_toArray,List.map_cons,List.map_nil]);first|done|rfl|(simp only [List.length_drop,List.length_take];rfl)) ?_;(with_reducible refine (object_DecodeObject.calls (⟨#[79,1,2,47,97,1,120,0,3,0,1,4,109,97,105,110,1,3,99,112,117,244,3,0,7]⟩ : ByteArray) t121 t122 t123 t126 t127 t128 t131 t132 _ A3.out (Glob.below hG (by repeat (first|(with_reducible first|exact HB.out|refine below_set ?_ GE133.out|apply below_alloc|apply pw_below_drewN|apply below_drew1)|exact HB.out)))).mono ?_);rintro e w72 ⟨v124,v129,rfl,ho0,ho1,hb⟩;refine ⟨_,rfl,?_⟩;have n0_:=Aside0.mk (Kd.R_elder' (by (with_reducible repeat (first|apply Kd.R_alloc|apply Kd.R_drewN|apply Kd.R_drew));exact HO112.out) (Kd.R_base ho0) hb);have n1_:=Aside0.mk (Kd.N_mono (Kd.N_told (Kd.N_told (Kd.N_old (by (with_reducible repeat (first|apply Kd.N_alloc|apply Kd.N_drewN|apply Kd.N_drew));exact HO117.out) hb) (Kd.R_base ho0)) (Kd.N_base ho1)) (fun _ h_ => h_.1));have n2_:=Aside0.mk (Kd.R_lower (Kd.R_new' (Kd.R_mono (ok':=fun k_ => True) ho0 (fun _ hk_ => trivial)) (Kd.R_lt (by (with_reducible repeat (first|apply Kd.R_alloc|apply Kd.R_drewN|apply Kd.R_drew));exact HO112.out))) (below_size (by repeat (first|(with_reducible first|exact HB.out|apply below_alloc|apply pw_below_drewN|apply below_drew1)|exact HB.out))));have n3_:=Aside0.mk (Kd.N_lower (Kd.N_mono (ok':=fun k_ => some k_ ≠ (v124 : Value).ownBlock ∧ some k_ ≠ (.slice Ao69 t110.length co69 : Value).ownBlock ∧ some k_ ≠ (.slice Ao70 t115.length co70 : Value).ownBlock) ho1 (fun k_ hk_ => ⟨hk_.2,(Kd.fresh' (Kd.R_lt (by (with_reducible repeat (first|apply Kd.R_alloc|apply Kd.R_drewN|apply Kd.R_drew));exact HO112.out)) k_ hk_.1),(Kd.fresh' (Kd.N_lt (by (with_reducible repeat (first|apply Kd.N_alloc|apply Kd.N_drewN|apply Kd.N_drew));exact HO117.out)) k_ hk_.1)⟩)) (below_size (by repeat (first|(with_reducible first|exact HB.out|apply below_alloc|apply pw_below_drewN|apply below_drew1)|exact HB.out))));have n4_:=Aside0.mk (below_step (by repeat (first|(with_reducible first|exact HB.out|apply below_alloc|apply pw_below_drewN|apply below_drew1)|exact HB.out)) hb);clear HO112;clear HO117;clear HB;have HO112:=n0_;have HO117:=n1_;have HO125:=n2_;have HO130:=n3_;have HB:=n4_;clear n0_ n1_ n2_ n3_ n4_;(try clear hb);(try clear hb2);(try clear hk);(try clear hi);(try clear ho0);(try clear ho1))|((with_reducible refine gate_dst (N:=3) rfl ?_);refine box_event ?hg (N:=3) ?hd (cs:=#[.string (⟨#[]⟩ : ByteArray),.string (⟨#[]⟩ : ByteArray),.slice none 0 0,.int .i64 0,.int .i64 0,.slice none 0 0,.int .i64 0]) (t:=25) ?hr ?_;(case hd => rfl);(case hg => rfl);(case hr => first|(go_simp;done)|(go_simp;rfl));intro gb133 hg w73 hbox hb;have n0_:=Aside0.mk (Kd.R_below (by (with_reducible repeat (first|apply Kd.R_alloc|apply Kd.R_drewN|apply Kd.R_drew));exact HO112.out) hb);have n1_:=Aside0.mk (Kd.N_below (Kd.N_elderB (by (with_reducible repeat (first|apply Kd.N_alloc|apply Kd.N_drewN|apply Kd.N_drew));exact HO117.out) gb133 (Nat.le_of_eq hg.symm)) hb);have n2_:=Aside0.mk (Kd.R_below (by (with_reducible repeat (first|apply Kd.R_alloc|apply Kd.R_drewN|apply Kd.R_drew));exact HO125.out) hb);have n3_:=Aside0.mk (Kd.N_below (Kd.N_elderB (by (with_reducible repeat (first|apply Kd.N_alloc|apply Kd.N_drewN|apply Kd.N_drew));exact HO130.out) gb133 (Nat.le_of_eq hg.symm)) hb);have n4_:=Aside0.mk (below_step (by repeat (first|(with_reducible first|exact HB.out|apply below_alloc|apply pw_below_drewN|apply below_drew1)|exact HB.out)) hb);have n5_:=Aside0.mk (hbox);have n6_:=Aside0.mk ((by rw [hg];exact (below_size (by repeat (first|(with_reducible first|exact HB.out|apply below_alloc|apply pw_below_drewN|apply below_drew1)|exact HB.out))) : w.heap.size ≤ gb133));have n7_:=Aside0.mk ((by rw [hg];exact (below_size (by repeat (first|(with_reducible first|exact HB.out|apply below_alloc|apply pw_below_drewN|apply below_drew1)|exact HB.out))) : w.heap.size ≤ gb133));clear HO112;clear HO117;clear HO125;clear HO130;clear HB;have HO112:=n0_;have HO117:=n1_;have HO125:=n2_;have HO130:=n3_;have HB:=n4_;have BK133:=n5_;have GW133:=n6_;have GE133:=n7_;clear n0_ n1_ n2_ n3_ n4_ n5_ n6_ n7_;clear hb hbox hg;have hcz74_0 : w73.cell? ⟨gb133,0,none⟩ = some (.string (⟨#[]⟩ : ByteArray)):=(blk_cell BK133.out 0).trans rfl;have hcz74_1 : w73.cell? ⟨gb133,1,none⟩ = some (.string (⟨#[]⟩ : ByteArray)):=(blk_cell BK133.out 1).trans rfl;have hcz74_2 : w73.cell? ⟨gb133,2,none⟩ = some (.slice none 0 0):=(blk_cell BK133.out 2).trans rfl;have hcz74_3 : w73.cell? ⟨gb133,3,none⟩ = some (.int .i64 0):=(blk_cell BK133.out 3).trans rfl;have hcz74_4 : w73.cell? ⟨gb133,4,none⟩ = some (.int .i64 0):=(blk_cell BK133.out 4).trans rfl;have hcz74_5 : w73.cell? ⟨gb133,5,none⟩ = some (.slice none 0 0):=(blk_cell BK133.out 5).trans rfl;have hcz74_6 : w73.cell? ⟨gb133,6,none⟩ = some (.int .i64 0):=(blk_cell BK133.out 6).trans rfl;have hfz74_0:=blk_frozen BK133.out 0;have hfz74_1:=blk_frozen BK133.out 1;have hfz74_2:=blk_frozen BK133.out 2;have hfz74_3:=blk_frozen BK133.out 3;have hfz74_4:=blk_frozen BK133.out 4;have hfz74_5:=blk_frozen BK133.out 5;have hfz74_6:=blk_frozen BK133.out 6;obtain ⟨Ao75,co75,eo75⟩:=Kd.R_slice HO125.out;subst eo75;obtain ⟨Ao76,co76,eo76⟩:=Kd.N_slice HO130.out;subst eo76)|((with_reducible refine gate_callee (f:=11) rfl ?_);refine goesL_ (some 17) rfl rfl Tryd.func11 (by kernel_rfl) rfl #[.int .i64 3,.string (⟨#[47,97]⟩ : ByteArray),.string (⟨#[120]⟩ : ByteArray)] rfl (by (try simp only [List.map_toArray,List.map_cons,List.map_nil]);first|done|rfl|(simp only [List.length_drop,List.length_take];rfl)) ?_;(with_reducible refine (object_Key.calls 3 (⟨#[47,97]⟩ : ByteArray) (⟨#[120]⟩ : ByteArray) t134 t135 _ A4.out (Glob.below hG (by repeat (first|(with_reducible first|exact HB.out|refine below_set ?_ GE133.out|apply below_alloc|apply pw_below_drewN|apply below_drew1)|exact HB.out)))).mono ?_);rintro e w77 ⟨rfl,hb⟩;refine ⟨_,rfl,?_⟩;have n0_:=Aside0.mk (Kd.R_below (by (with_reducible repeat (first|apply Kd.R_alloc|apply Kd.R_drewN|apply Kd.R_drew));exact (Kd.R_mono (Kd.R_far (p:=⟨gb133,6,none⟩) (Kd.R_far (p:=⟨gb133,5,none⟩) (Kd.R_far (p:=⟨gb133,4,none⟩) (Kd.R_far (p:=⟨gb133,3,none⟩) (Kd.R_far (p:=⟨gb133,2,none⟩) (Kd.R_far (p:=⟨gb133,1,none⟩) (Kd.R_far (p:=⟨gb133,0,none⟩) (Kd.R_types HO112.out BK133.out (by decide)) (fun _ hk => hk.2) (.string t121)) (fun _ hk => hk.2) (.string t122)) (fun _ hk => hk.2) (.slice Ao75 t123.length co75)) (fun _ hk => hk.2) (.int .i64 t126)) (fun _ hk => hk.2) (.int .i64 t127)) (fun _ hk => hk.2) (.slice Ao76 t128.length co76)) (fun _ hk => hk.2) (.int .i64 t131)) (fun _ h_ => h_.1))) hb);have n1_:=Aside0.mk (Kd.N_below (by (with_reducible repeat (first|apply Kd.N_alloc|apply Kd.N_drewN|apply Kd.N_drew));exact (Kd.N_mono (Kd.N_far (p:=⟨gb133,6,none⟩) (Kd.N_far (p:=⟨gb133,5,none⟩) (Kd.N_far (p:=⟨gb133,4,none⟩) (Kd.N_far (p:=⟨gb133,3,none⟩) (Kd.N_far (p:=⟨gb133,2,none⟩) (Kd.N_far (p:=⟨gb133,1,none⟩) (Kd.N_far (p:=⟨gb133,0,none⟩) (Kd.N_mono HO117.out (fun k_ hk => (⟨hk,hk.2⟩ : _ ∧ k_ ≠ gb133))) (fun _ hk => hk.2) (.string t121)) (fun _ hk => hk.2) (.string t122)) (fun _ hk => hk.2) (.slice Ao75 t123.length co75)) (fun _ hk => hk.2) (.int .i64 t126)) (fun _ hk => hk.2) (.int .i64 t127)) (fun _ hk => hk.2) (.slice Ao76 t128.length co76)) (fun _ hk => hk.2) (.int .i64 t131)) (fun _ h_ => h_.1))) hb);have n2_:=Aside0.mk (Kd.R_below (by (with_reducible repeat (first|apply Kd.R_alloc|apply Kd.R_drewN|apply Kd.R_drew));exact (Kd.R_mono (Kd.R_far (p:=⟨gb133,6,none⟩) (Kd.R_far (p:=⟨gb133,5,none⟩) (Kd.R_far (p:=⟨gb133,4,none⟩) (Kd.R_far (p:=⟨gb133,3,none⟩) (Kd.R_far (p:=⟨gb133,2,none⟩) (Kd.R_far (p:=⟨gb133,1,none⟩) (Kd.R_far (p:=⟨gb133,0,none⟩) (Kd.R_types HO125.out BK133.out (by decide)) (fun _ hk => hk.2) (.string t121)) (fun _ hk => hk.2) (.string t122)) (fun _ hk => hk.2) (.slice Ao75 t123.length co75)) (fun _ hk => hk.2) (.int .i64 t126)) (fun _ hk => hk.2) (.int .i64 t127)) (fun _ hk => hk.2) (.slice Ao76 t128.length co76)) (fun _ hk => hk.2) (.int .i64 t131)) (fun _ h_ => h_.1))) hb);have n3_:=Aside0.mk (Kd.N_below (by (with_reducible repeat (first|apply Kd.N_alloc|apply Kd.N_drewN|apply Kd.N_drew));exact (Kd.N_mono (Kd.N_far (p:=⟨gb133,6,none⟩) (Kd.N_far (p:=⟨gb133,5,none⟩) (Kd.N_far (p:=⟨gb133,4,none⟩) (Kd.N_far (p:=⟨gb133,3,none⟩) (Kd.N_far (p:=⟨gb133,2,none⟩) (Kd.N_far (p:=⟨gb133,1,none⟩) (Kd.N_far (p:=⟨gb133,0,none⟩) (Kd.N_mono HO130.out (fun k_ hk => (⟨hk,hk.2⟩ : _ ∧ k_ ≠ gb133))) (fun _ hk => hk.2) (.string t121)) (fun _ hk => hk.2) (.string t122)) (fun _ hk => hk.2) (.slice Ao75 t123.length co75)) (fun _ hk => hk.2) (.int .i64 t126)) (fun _ hk => hk.2) (.int .i64 t127)) (fun _ hk => hk.2) (.slice Ao76 t128.length co76)) (fun _ hk => hk.2) (.int .i64 t131)) (fun _ h_ => h_.1))) hb);have n4_:=Aside0.mk (blk_below (g:=gb133) (o:=.cells #[.string t121,.string t122,.slice Ao75 t123.length co75,.int .i64 t126,.int .i64 t127,.slice Ao76 t128.length co76,.int .i64 t131] 25 (0,0)) (by (with_reducible repeat (first|refine blk_drewN ?_ _|refine blk_drew ?_|refine blk_alloc ?_ _));refine blk_put (cs:=#[.string t121,.string t122,.slice Ao75 t123.length co75,.int .i64 t126,.int .i64 t127,.slice Ao76 t128.length co76,.int .i64 0]) ?_ 6 _ rfl;(with_reducible repeat (first|refine blk_drewN ?_ _|refine blk_drew ?_|refine blk_alloc ?_ _));refine blk_put (cs:=#[.string t121,.string t122,.slice Ao75 t123.length co75,.int .i64 t126,.int .i64 t127,.slice none 0 0,.int .i64 0]) ?_ 5 _ rfl;(with_reducible repeat (first|refine blk_drewN ?_ _|refine blk_drew ?_|refine blk_alloc ?_ _));refine blk_put (cs:=#[.string t121,.string t122,.slice Ao75 t123.length co75,.int .i64 t126,.int .i64 0,.slice none 0 0,.int .i64 0]) ?_ 4 _ rfl;(with_reducible repeat (first|refine blk_drewN ?_ _|refine blk_drew ?_|refine blk_alloc ?_ _));refine blk_put (cs:=#[.string t121,.string t122,.slice Ao75 t123.length co75,.int .i64 0,.int .i64 0,.slice none 0 0,.int .i64 0]) ?_ 3 _ rfl;(with_reducible repeat (first|refine blk_drewN ?_ _|refine blk_drew ?_|refine blk_alloc ?_ _));refine blk_put (cs:=#[.string t121,.string t122,.slice none 0 0,.int .i64 0,.int .i64 0,.slice none 0 0,.int .i64 0]) ?_ 2 _ rfl;(with_reducible repeat (first|refine blk_drewN ?_ _|refine blk_drew ?_|refine blk_alloc ?_ _));refine blk_put (cs:=#[.string t121,.string (⟨#[]⟩ : ByteArray),.slice none 0 0,.int .i64 0,.int .i64 0,.slice none 0 0,.int .i64 0]) ?_ 1 _ rfl;(with_reducible repeat (first|refine blk_drewN ?_ _|refine blk_drew ?_|refine blk_alloc ?_ _));refine blk_put (cs:=#[.string (⟨#[]⟩ : ByteArray),.string (⟨#[]⟩ : ByteArray),.slice none 0 0,.int .i64 0,.int .i64 0,.slice none 0 0,.int .i64 0]) ?_ 0 _ rfl;(with_reducible repeat (first|refine blk_drewN ?_ _|refine blk_drew ?_|refine blk_alloc ?_ _));exact BK133.out) hb);have n5_:=Aside0.mk (below_step (by repeat (first|(with_reducible first|exact HB.out|apply below_alloc|apply pw_below_drewN|apply below_drew1|refine below_set ?_ GE133.out)|exact HB.out)) hb);clear HO112;clear HO117;clear HO125;clear HO130;clear BK133;clear HB;have HO112:=n0_;have HO117:=n1_;have HO125:=n2_;have HO130:=n3_;have BK133:=n4_;have HB:=n5_;clear n0_ n1_ n2_ n3_ n4_ n5_;(try clear hb);(try clear hb2);(try clear hk);(try clear hi)))
  have n0_:=Aside0.mk (Kd.R_drew HO112.out)
  have n1_:=Aside0.mk (Kd.N_drew HO117.out)
  have n2_:=Aside0.mk (Kd.R_drew HO125.out)
  have n3_:=Aside0.mk (Kd.N_drew HO130.out)
  have n4_:=Aside0.mk (blk_drew BK133.out)
  have n5_:=Aside0.mk (below_drew1 HB.out)
  clear HO112;clear HO117;clear HO125;clear HO130;clear BK133;clear HB;have HO112:=n0_;have HO117:=n1_;have HO125:=n2_;have HO130:=n3_;have BK133:=n4_;have HB:=n5_;clear n0_ n1_ n2_ n3_ n4_ n5_
  refine start_ (n:=24) (S:=fun w' => True) (ds:=[]) (bl 0 24) (by kernel_rfl) rfl rfl trivial (fun hHeld => ?_);refine with_tabW bursarlaw13_fixed.tab4 bursarlaw13_fixed.bits4 (fun HT_ HW_ => ?_)
  generalize w77.drew = w78 at HO112 HO117 HO125 HO130 BK133 HB hHeld ⊢
  refine pure_ (i:=0) (N:=some 20) (v:=?_) (a':=?_) (bl 1 23) rfl rfl (any_of HT_.out (by kernel_rfl)) (fun _ _ _ h => h) (Or.inl ⟨by rfl,?_⟩) ?_ ?_
  rotate_left;·intro w';go_simp;with_reducible rfl
  rotate_left;·simp only [pu_];rfl
  refine pure_ (i:=1) (N:=some 21) (v:=?_) (a':=?_) (bl 2 22) rfl rfl (any_of HT_.out (by kernel_rfl)) (fun _ _ _ h => h) (Or.inl ⟨by rfl,?_⟩) ?_ ?_
  rotate_left;·intro w';go_simp;with_reducible rfl
  rotate_left;·simp only [pu_];rfl
  refine pure_ (i:=2) (N:=some 22) (v:=?_) (a':=?_) (bl 3 21) rfl rfl (any_of HT_.out (by kernel_rfl)) (fun _ _ _ h => h) (Or.inl ⟨by rfl,?_⟩) ?_ ?_
  rotate_left;·intro w';go_simp;with_reducible rfl
  rotate_left;·simp only [pu_];rfl
  refine pure_ (i:=3) (N:=some 23) (v:=?_) (a':=?_) (bl 4 20) rfl rfl (any_of HT_.out (by kernel_rfl)) (fun _ _ _ h => h) (Or.inl ⟨by rfl,?_⟩) ?_ ?_
  rotate_left;·intro w';go_simp;with_reducible rfl
  rotate_left;·simp only [pu_];rfl
  refine pure_ (i:=4) (N:=some 24) (v:=?_) (a':=?_) (bl 5 19) rfl rfl (any_of HT_.out (by kernel_rfl)) (fun _ _ _ h => h) (Or.inl ⟨by rfl,?_⟩) ?_ ?_
  rotate_left;·intro w';go_simp;with_reducible rfl
  rotate_left;·simp only [pu_];rfl
  refine pure_ (i:=5) (N:=some 25) (v:=?_) (a':=?_) (bl 6 18) rfl rfl (any_of HT_.out (by kernel_rfl)) (fun _ _ _ h => h) (Or.inl ⟨by rfl,?_⟩) ?_ ?_
  rotate_left;·intro w';go_simp;with_reducible rfl
  rotate_left;·simp only [pu_];rfl
  refine pure_ (i:=6) (N:=some 26) (v:=?_) (a':=?_) (bl 7 17) rfl rfl (any_of HT_.out (by kernel_rfl)) (fun _ _ _ h => h) (Or.inl ⟨by rfl,?_⟩) ?_ ?_
  rotate_left;·intro w';go_simp;with_reducible rfl
  rotate_left;·simp only [pu_];rfl
  refine pure_ (i:=7) (N:=some 27) (v:=undef) (a':=?_) (bl 8 16) rfl rfl (any_of HT_.out (by kernel_rfl)) (fun _ _ _ h => h) (Or.inr ⟨by rfl,rfl⟩) ?_ ?_
  rotate_left
  ·simp only [pu_]
   rfl
  refine pure_ (i:=8) (N:=some 28) (v:=undef) (a':=?_) (bl 9 15) rfl rfl (any_of HT_.out (by kernel_rfl)) (fun _ _ _ h => h) (Or.inr ⟨by rfl,rfl⟩) ?_ ?_
  rotate_left
  ·simp only [pu_]
   rfl
  refine pure_ (i:=9) (N:=some 29) (v:=?_) (a':=?_) (bl 10 14) rfl rfl (any_of HT_.out (by kernel_rfl)) (fun _ _ _ h => h) (Or.inl ⟨by rfl,?_⟩) ?_ ?_
  rotate_left;·intro w';go_simp;with_reducible rfl
  rotate_left;·simp only [pu_];rfl
  refine pure_ (i:=10) (N:=some 30) (v:=?_) (a':=?_) (bl 11 13) rfl rfl (any_of HT_.out (by kernel_rfl)) (fun _ _ _ h => h) (Or.inl ⟨by rfl,?_⟩) ?_ ?_
  rotate_left;·intro w';go_simp;with_reducible rfl
  rotate_left;·simp only [pu_];rfl
  refine pure_ (i:=11) (N:=some 31) (v:=undef) (a':=?_) (bl 12 12) rfl rfl (any_of HT_.out (by kernel_rfl)) (fun _ _ _ h => h) (Or.inr ⟨by rfl,rfl⟩) ?_ ?_
  rotate_left
  ·simp only [pu_]
   rfl
  refine pure_ (i:=12) (N:=some 32) (v:=undef) (a':=?_) (bl 13 11) rfl rfl (any_of HT_.out (by kernel_rfl)) (fun _ _ _ h => h) (Or.inr ⟨by rfl,rfl⟩) ?_ ?_
  rotate_left
  ·simp only [pu_]
   rfl
  refine pure_ (i:=13) (N:=some 33) (v:=undef) (a':=?_) (bl 14 10) rfl rfl (any_of HT_.out (by kernel_rfl)) (fun _ _ _ h => h) (Or.inr ⟨by rfl,rfl⟩) ?_ ?_
  rotate_left
  ·simp only [pu_]
   rfl
  refine pure_ (i:=14) (N:=some 34) (v:=?_) (a':=?_) (bl 15 9) rfl rfl (any_of HT_.out (by kernel_rfl)) (fun _ _ _ h => h) (Or.inl ⟨by rfl,?_⟩) ?_ ?_
  rotate_left;·intro w';go_simp;with_reducible rfl
  rotate_left;·simp only [pu_];rfl
  refine pure_ (i:=15) (N:=some 35) (v:=?_) (a':=?_) (bl 16 8) rfl rfl (any_of HT_.out (by kernel_rfl)) (fun _ _ _ h => h) (Or.inl ⟨by rfl,?_⟩) ?_ ?_
  rotate_left;·intro w';go_simp;with_reducible rfl
  rotate_left;·simp only [pu_];rfl
  refine pure_ (i:=16) (N:=some 36) (v:=undef) (a':=?_) (bl 17 7) rfl rfl (any_of HT_.out (by kernel_rfl)) (fun _ _ _ h => h) (Or.inr ⟨by rfl,rfl⟩) ?_ ?_
  rotate_left
  ·simp only [pu_]
   rfl
  refine pure_ (i:=17) (N:=some 37) (v:=undef) (a':=?_) (bl 18 6) rfl rfl (any_of HT_.out (by kernel_rfl)) (fun _ _ _ h => h) (Or.inr ⟨by rfl,rfl⟩) ?_ ?_
  rotate_left
  ·simp only [pu_]
   rfl
  refine pure_ (i:=18) (N:=some 38) (v:=?_) (a':=?_) (bl 19 5) rfl rfl (any_of HT_.out (by kernel_rfl)) (fun _ _ _ h => h) (Or.inl ⟨by rfl,?_⟩) ?_ ?_
  rotate_left;·intro w';go_simp;with_reducible rfl
  rotate_left;·simp only [pu_];rfl
  refine pure_ (i:=19) (N:=some 39) (v:=?_) (a':=?_) (bl 20 4) rfl rfl (any_of HT_.out (by kernel_rfl)) (fun _ _ _ h => h) (Or.inl ⟨by rfl,?_⟩) ?_ ?_
  rotate_left;·intro w';go_simp;with_reducible rfl
  rotate_left;·simp only [pu_];rfl
  refine pure_ (i:=20) (N:=some 40) (v:=undef) (a':=?_) (bl 21 3) rfl rfl (any_of HT_.out (by kernel_rfl)) (fun _ _ _ h => h) (Or.inr ⟨by rfl,rfl⟩) ?_ ?_
  rotate_left
  ·simp only [pu_]
   rfl
  refine pure_ (i:=21) (N:=some 41) (v:=undef) (a':=?_) (bl 22 2) rfl rfl (any_of HT_.out (by kernel_rfl)) (fun _ _ _ h => h) (Or.inr ⟨by rfl,rfl⟩) ?_ ?_
  rotate_left
  ·simp only [pu_]
   rfl
  refine pure_ (i:=22) (N:=some 42) (v:=?_) (a':=?_) (bl 23 1) rfl rfl (any_of HT_.out (by kernel_rfl)) (fun _ _ _ h => h) (Or.inl ⟨by rfl,?_⟩) ?_ ?_
  rotate_left;·intro w';go_simp;with_reducible rfl
  rotate_left;·simp only [pu_];rfl
  refine pure_ (i:=23) (N:=some 0) (v:=?_) (a':=?_) (bl 24 0) rfl rfl (any_of HT_.out (by kernel_rfl)) (fun _ _ _ h => h) (Or.inl ⟨by rfl,?_⟩) ?_ ?_
  rotate_left;·intro w';go_simp;with_reducible rfl
  rotate_left;·simp only [pu_];rfl
  refine done_ (done_of HT_.out (by kernel_rfl)) ?_
  try go_wp2
  go_ret
  exact ⟨by first|rfl|(simp [errW_none,errW_some] <;> rfl)|(simp [*,errW_none,errW_some] <;> rfl),by repeat (first|(with_reducible first|exact HB.out|apply below_alloc|apply pw_below_drewN|apply below_drew1|refine below_set ?_ GE133.out)|exact HB.out)⟩
 rw [if_pos c6] at H
 have c6b0 : (t119.toList == ([79,1,2,47,97,1,120,0,3,0,1,4,109,97,105,110,1,3,99,112,117,244,3,0,7] : List UInt8)) = true:=beq_iff_eq.mpr c6
 have c6b1 : (t119.toList != ([79,1,2,47,97,1,120,0,3,0,1,4,109,97,105,110,1,3,99,112,117,244,3,0,7] : List UInt8)) = false:=bne_eq_false_iff_eq.mpr c6
 clear c6
 by_cases c7 : t132 = 0
 rotate_left
 ·rw [if_neg c7] at H
  have c7b0 : (t132 == 0) = false:=beq_eq_false_iff_ne.mpr c7
  have c7b1 : (t132 != 0) = true:=bne_iff_ne.mpr c7
  obtain rfl:=Option.some.inj H
  go_enter Tryd.func6,Tryd.ntmps6
  try go_wp2_with (first|((with_reducible refine gate_callee (f:=16) rfl ?_);refine goesL_ (some 8) rfl rfl Tryd.func16 (by kernel_rfl) rfl #[] rfl (by (try simp only [List.map_toArray,List.map_cons,List.map_nil]);first|done|rfl|(simp only [List.length_drop,List.length_take];rfl)) ?_;(with_reducible refine (bursarlaw13_small.calls  t108 t109 t110 t113 t114 t115 t118 _ A1.out).mono ?_);rintro e w57 ⟨v111,v116,rfl,ho0,ho1,hb⟩;refine ⟨_,rfl,?_⟩;have n0_:=Aside0.mk (Kd.R_lower (Kd.R_mono (ok':=fun k_ => True) ho0 (fun _ hk_ => trivial)) (below_size (by repeat (first|(with_reducible first|exact HB.out|apply below_alloc|apply pw_below_drewN|apply below_drew1)|exact HB.out))));have n1_:=Aside0.mk (Kd.N_lower (Kd.N_mono (ok':=fun k_ => some k_ ≠ (v111 : Value).ownBlock) ho1 (fun k_ hk_ => hk_.2)) (below_size (by repeat (first|(with_reducible first|exact HB.out|apply below_alloc|apply pw_below_drewN|apply below_drew1)|exact HB.out))));have n2_:=Aside0.mk (below_step (by repeat (first|(with_reducible first|exact HB.out|apply below_alloc|apply pw_below_drewN|apply below_drew1)|exact HB.out)) hb);clear HB;have HO112:=n0_;have HO117:=n1_;have HB:=n2_;clear n0_ n1_ n2_;(try clear hb);(try clear hb2);(try clear hk);(try clear hi);(try clear ho0);(try clear ho1);obtain ⟨Ao58,co58,eo58⟩:=Kd.R_slice HO112.out;subst eo58;obtain ⟨Ao59,co59,eo59⟩:=Kd.N_slice HO117.out;subst eo59)|((with_reducible refine gate_callee (f:=9) rfl ?_);refine goesL_ (some 9) rfl rfl Tryd.func9 (by kernel_rfl) rfl #[.agg #[.string t108,.string t109,.slice Ao58 t110.length co58,.int .i64 t113,.int .i64 t114,.slice Ao59 t115.length co59,.int .i64 t118]] rfl (by (try simp only [List.map_toArray,List.map_cons,List.map_nil]);first|done|rfl|(simp only [List.length_drop,List.length_take];rfl)) ?_;(with_reducible refine (object_EncodeObject.calls t108 t109 _ _ t110 t113 t114 _ _ t115 t118 t119 t120 _ ?side1 ?side2 ?side3 ?side4 A2.out (Glob.below hG (by repeat (first|(with_reducible first|exact HB.out|refine below_set ?_ GE133.out|apply below_alloc|apply pw_below_drewN|apply below_drew1)|exact HB.out)))).mono ?_);(case side1 => repeat (first|exact (Kd.R_reads' HO112.out).2.2|(with_reducible refine Kd.C_alloc ?_ _)|(with_reducible refine Kd.C_drewN ?_ _)|(with_reducible refine Kd.C_drew ?_)));(case side2 => exact (Kd.R_reads' HO112.out).2.1);(case side3 => repeat (first|exact (Kd.N_reads' HO117.out).2.2|(with_reducible refine Kd.C_alloc ?_ _)|(with_reducible refine Kd.C_drewN ?_ _)|(with_reducible refine Kd.C_drew ?_)));(case side4 => exact (Kd.N_reads' HO117.out).2.1);rintro e w60 ⟨rfl,hb⟩;refine ⟨_,rfl,?_⟩;have n0_:=Aside0.mk (Kd.R_below (by (with_reducible repeat (first|apply Kd.R_alloc|apply Kd.R_drewN|apply Kd.R_drew));exact HO112.out) hb);have n1_:=Aside0.mk (Kd.N_below (by (with_reducible repeat (first|apply Kd.N_alloc|apply Kd.N_drewN|apply Kd.N_drew));exact HO117.out) hb);have n2_:=Aside0.mk (below_step (by repeat (first|(with_reducible first|exact HB.out|apply below_alloc|apply pw_below_drewN|apply below_drew1)|exact HB.out)) hb);clear HO112;clear HO117;clear HB;have HO112:=n0_;have HO117:=n1_;have HB:=n2_;clear n0_ n1_ n2_;(try clear hb);(try clear hb2);(try clear hk);(try clear hi))|((with_reducible refine gate_callee (f:=17) rfl ?_);refine goesL_ (some 13) rfl rfl Tryd.func17 (by kernel_rfl) rfl #[.string (⟨#[79,1,2,47,97,1,120,0,3,0,1,4,109,97,105,110,1,3,99,112,117,244,3,0,7]⟩ : ByteArray)] rfl (by (try simp only [List.map_toArray,List.map_cons,List.map_nil]);first|done|rfl|(simp only [List.length_drop,List.length_take];rfl)) ?_;(with_reducible refine (object_DecodeObject.calls (⟨#[79,1,2,47,97,1,120,0,3,0,1,4,109,97,105,110,1,3,99,112,117,244,3,0,7]⟩ : ByteArray) t121 t122 t123 t126 t127 t128 t131 t132 _ A3.out (Glob.below hG (by repeat (first|(with_reducible first|exact HB.out|refine below_set ?_ GE133.out|apply below_alloc|apply pw_below_drewN|apply below_drew1)|exact HB.out)))).mono ?_);rintro e w61 ⟨v124,v129,rfl,ho0,ho1,hb⟩;refine ⟨_,rfl,?_⟩;have n0_:=Aside0.mk (Kd.R_elder' (by (with_reducible repeat (first|apply Kd.R_alloc|apply Kd.R_drewN|apply Kd.R_drew));exact HO112.out) (Kd.R_base ho0) hb);have n1_:=Aside0.mk (Kd.N_mono (Kd.N_told (Kd.N_told (Kd.N_old (by (with_reducible repeat (first|apply Kd.N_alloc|apply Kd.N_drewN|apply Kd.N_drew));exact HO117.out) hb) (Kd.R_base ho0)) (Kd.N_base ho1)) (fun _ h_ => h_.1));have n2_:=Aside0.mk (Kd.R_lower (Kd.R_new' (Kd.R_mono (ok':=fun k_ => True) ho0 (fun _ hk_ => trivial)) (Kd.R_lt (by (with_reducible repeat (first|apply Kd.R_alloc|apply Kd.R_drewN|apply Kd.R_drew));exact HO112.out))) (below_size (by repeat (first|(with_reducible first|exact HB.out|apply below_alloc|apply pw_below_drewN|apply below_drew1)|exact HB.out))));have n3_:=Aside0.mk (Kd.N_lower (Kd.N_mono (ok':=fun k_ => some k_ ≠ (v124 : Value).ownBlock ∧ some k_ ≠ (.slice Ao58 t110.length co58 : Value).ownBlock ∧ some k_ ≠ (.slice Ao59 t115.length co59 : Value).ownBlock) ho1 (fun k_ hk_ => ⟨hk_.2,(Kd.fresh' (Kd.R_lt (by (with_reducible repeat (first|apply Kd.R_alloc|apply Kd.R_drewN|apply Kd.R_drew));exact HO112.out)) k_ hk_.1),(Kd.fresh' (Kd.N_lt (by (with_reducible repeat (first|apply Kd.N_alloc|apply Kd.N_drewN|apply Kd.N_drew));exact HO117.out)) k_ hk_.1)⟩)) (below_size (by repeat (first|(with_reducible first|exact HB.out|apply below_alloc|apply pw_below_drewN|apply below_drew1)|exact HB.out))));have n4_:=Aside0.mk (below_step (by repeat (first|(with_reducible first|exact HB.out|apply below_alloc|apply pw_below_drewN|apply below_drew1)|exact HB.out)) hb);clear HO112;clear HO117;clear HB;have HO112:=n0_;have HO117:=n1_;have HO125:=n2_;have HO130:=n3_;have HB:=n4_;clear n0_ n1_ n2_ n3_ n4_;(try clear hb);(try clear hb2);(try clear hk);(try clear hi);(try clear ho0);(try clear ho1))|((with_reducible refine gate_dst (N:=3) rfl ?_);refine box_event ?hg (N:=3) ?hd (cs:=#[.string (⟨#[]⟩ : ByteArray),.string (⟨#[]⟩ : ByteArray),.slice none 0 0,.int .i64 0,.int .i64 0,.slice none 0 0,.int .i64 0]) (t:=25) ?hr ?_;(case hd => rfl);(case hg => rfl);(case hr => first|(go_simp;done)|(go_simp;rfl));intro gb133 hg w62 hbox hb;have n0_:=Aside0.mk (Kd.R_below (by (with_reducible repeat (first|apply Kd.R_alloc|apply Kd.R_drewN|apply Kd.R_drew));exact HO112.out) hb);have n1_:=Aside0.mk (Kd.N_below (Kd.N_elderB (by (with_reducible repeat (first|apply Kd.N_alloc|apply Kd.N_drewN|apply Kd.N_drew));exact HO117.out) gb133 (Nat.le_of_eq hg.symm)) hb);have n2_:=Aside0.mk (Kd.R_below (by (with_reducible repeat (first|apply Kd.R_alloc|apply Kd.R_drewN|apply Kd.R_drew));exact HO125.out) hb);have n3_:=Aside0.mk (Kd.N_below (Kd.N_elderB (by (with_reducible repeat (first|apply Kd.N_alloc|apply Kd.N_drewN|apply Kd.N_drew));exact HO130.out) gb133 (Nat.le_of_eq hg.symm)) hb);have n4_:=Aside0.mk (below_step (by repeat (first|(with_reducible first|exact HB.out|apply below_alloc|apply pw_below_drewN|apply below_drew1)|exact HB.out)) hb);have n5_:=Aside0.mk (hbox);have n6_:=Aside0.mk ((by rw [hg];exact (below_size (by repeat (first|(with_reducible first|exact HB.out|apply below_alloc|apply pw_below_drewN|apply below_drew1)|exact HB.out))) : w.heap.size ≤ gb133));have n7_:=Aside0.mk ((by rw [hg];exact (below_size (by repeat (first|(with_reducible first|exact HB.out|apply below_alloc|apply pw_below_drewN|apply below_drew1)|exact HB.out))) : w.heap.size ≤ gb133));clear HO112;clear HO117;clear HO125;clear HO130;clear HB;have HO112:=n0_;have HO117:=n1_;have HO125:=n2_;have HO130:=n3_;have HB:=n4_;have BK133:=n5_;have GW133:=n6_;have GE133:=n7_;clear n0_ n1_ n2_ n3_ n4_ n5_ n6_ n7_;clear hb hbox hg;have hcz63_0 : w62.cell? ⟨gb133,0,none⟩ = some (.string (⟨#[]⟩ : ByteArray)):=(blk_cell BK133.out 0).trans rfl;have hcz63_1 : w62.cell? ⟨gb133,1,none⟩ = some (.string (⟨#[]⟩ : ByteArray)):=(blk_cell BK133.out 1).trans rfl;have hcz63_2 : w62.cell? ⟨gb133,2,none⟩ = some (.slice none 0 0):=(blk_cell BK133.out 2).trans rfl;have hcz63_3 : w62.cell? ⟨gb133,3,none⟩ = some (.int .i64 0):=(blk_cell BK133.out 3).trans rfl;have hcz63_4 : w62.cell? ⟨gb133,4,none⟩ = some (.int .i64 0):=(blk_cell BK133.out 4).trans rfl;have hcz63_5 : w62.cell? ⟨gb133,5,none⟩ = some (.slice none 0 0):=(blk_cell BK133.out 5).trans rfl;have hcz63_6 : w62.cell? ⟨gb133,6,none⟩ = some (.int .i64 0):=(blk_cell BK133.out 6).trans rfl;have hfz63_0:=blk_frozen BK133.out 0;have hfz63_1:=blk_frozen BK133.out 1;have hfz63_2:=blk_frozen BK133.out 2;have hfz63_3:=blk_frozen BK133.out 3;have hfz63_4:=blk_frozen BK133.out 4;have hfz63_5:=blk_frozen BK133.out 5;have hfz63_6:=blk_frozen BK133.out 6;obtain ⟨Ao64,co64,eo64⟩:=Kd.R_slice HO125.out;subst eo64;obtain ⟨Ao65,co65,eo65⟩:=Kd.N_slice HO130.out;subst eo65)|((with_reducible refine gate_callee (f:=11) rfl ?_);refine goesL_ (some 17) rfl rfl Tryd.func11 (by kernel_rfl) rfl #[.int .i64 3,.string (⟨#[47,97]⟩ : ByteArray),.string (⟨#[120]⟩ : ByteArray)] rfl (by (try simp only [List.map_toArray,List.map_cons,List.map_nil]);first|done|rfl|(simp only [List.length_drop,List.length_take];rfl)) ?_;(with_reducible refine (object_Key.calls 3 (⟨#[47,97]⟩ : ByteArray) (⟨#[120]⟩ : ByteArray) t134 t135 _ A4.out (Glob.below hG (by repeat (first|(with_reducible first|exact HB.out|refine below_set ?_ GE133.out|apply below_alloc|apply pw_below_drewN|apply below_drew1)|exact HB.out)))).mono ?_);rintro e w66 ⟨rfl,hb⟩;refine ⟨_,rfl,?_⟩;have n0_:=Aside0.mk (Kd.R_below (by (with_reducible repeat (first|apply Kd.R_alloc|apply Kd.R_drewN|apply Kd.R_drew));exact (Kd.R_mono (Kd.R_far (p:=⟨gb133,6,none⟩) (Kd.R_far (p:=⟨gb133,5,none⟩) (Kd.R_far (p:=⟨gb133,4,none⟩) (Kd.R_far (p:=⟨gb133,3,none⟩) (Kd.R_far (p:=⟨gb133,2,none⟩) (Kd.R_far (p:=⟨gb133,1,none⟩) (Kd.R_far (p:=⟨gb133,0,none⟩) (Kd.R_types HO112.out BK133.out (by decide)) (fun _ hk => hk.2) (.string t121)) (fun _ hk => hk.2) (.string t122)) (fun _ hk => hk.2) (.slice Ao64 t123.length co64)) (fun _ hk => hk.2) (.int .i64 t126)) (fun _ hk => hk.2) (.int .i64 t127)) (fun _ hk => hk.2) (.slice Ao65 t128.length co65)) (fun _ hk => hk.2) (.int .i64 t131)) (fun _ h_ => h_.1))) hb);have n1_:=Aside0.mk (Kd.N_below (by (with_reducible repeat (first|apply Kd.N_alloc|apply Kd.N_drewN|apply Kd.N_drew));exact (Kd.N_mono (Kd.N_far (p:=⟨gb133,6,none⟩) (Kd.N_far (p:=⟨gb133,5,none⟩) (Kd.N_far (p:=⟨gb133,4,none⟩) (Kd.N_far (p:=⟨gb133,3,none⟩) (Kd.N_far (p:=⟨gb133,2,none⟩) (Kd.N_far (p:=⟨gb133,1,none⟩) (Kd.N_far (p:=⟨gb133,0,none⟩) (Kd.N_mono HO117.out (fun k_ hk => (⟨hk,hk.2⟩ : _ ∧ k_ ≠ gb133))) (fun _ hk => hk.2) (.string t121)) (fun _ hk => hk.2) (.string t122)) (fun _ hk => hk.2) (.slice Ao64 t123.length co64)) (fun _ hk => hk.2) (.int .i64 t126)) (fun _ hk => hk.2) (.int .i64 t127)) (fun _ hk => hk.2) (.slice Ao65 t128.length co65)) (fun _ hk => hk.2) (.int .i64 t131)) (fun _ h_ => h_.1))) hb);have n2_:=Aside0.mk (Kd.R_below (by (with_reducible repeat (first|apply Kd.R_alloc|apply Kd.R_drewN|apply Kd.R_drew));exact (Kd.R_mono (Kd.R_far (p:=⟨gb133,6,none⟩) (Kd.R_far (p:=⟨gb133,5,none⟩) (Kd.R_far (p:=⟨gb133,4,none⟩) (Kd.R_far (p:=⟨gb133,3,none⟩) (Kd.R_far (p:=⟨gb133,2,none⟩) (Kd.R_far (p:=⟨gb133,1,none⟩) (Kd.R_far (p:=⟨gb133,0,none⟩) (Kd.R_types HO125.out BK133.out (by decide)) (fun _ hk => hk.2) (.string t121)) (fun _ hk => hk.2) (.string t122)) (fun _ hk => hk.2) (.slice Ao64 t123.length co64)) (fun _ hk => hk.2) (.int .i64 t126)) (fun _ hk => hk.2) (.int .i64 t127)) (fun _ hk => hk.2) (.slice Ao65 t128.length co65)) (fun _ hk => hk.2) (.int .i64 t131)) (fun _ h_ => h_.1))) hb);have n3_:=Aside0.mk (Kd.N_below (by (with_reducible repeat (first|apply Kd.N_alloc|apply Kd.N_drewN|apply Kd.N_drew));exact (Kd.N_mono (Kd.N_far (p:=⟨gb133,6,none⟩) (Kd.N_far (p:=⟨gb133,5,none⟩) (Kd.N_far (p:=⟨gb133,4,none⟩) (Kd.N_far (p:=⟨gb133,3,none⟩) (Kd.N_far (p:=⟨gb133,2,none⟩) (Kd.N_far (p:=⟨gb133,1,none⟩) (Kd.N_far (p:=⟨gb133,0,none⟩) (Kd.N_mono HO130.out (fun k_ hk => (⟨hk,hk.2⟩ : _ ∧ k_ ≠ gb133))) (fun _ hk => hk.2) (.string t121)) (fun _ hk => hk.2) (.string t122)) (fun _ hk => hk.2) (.slice Ao64 t123.length co64)) (fun _ hk => hk.2) (.int .i64 t126)) (fun _ hk => hk.2) (.int .i64 t127)) (fun _ hk => hk.2) (.slice Ao65 t128.length co65)) (fun _ hk => hk.2) (.int .i64 t131)) (fun _ h_ => h_.1))) hb);have n4_:=Aside0.mk (blk_below (g:=gb133) (o:=.cells #[.string t121,.string t122,.slice Ao64 t123.length co64,.int .i64 t126,.int .i64 t127,.slice Ao65 t128.length co65,.int .i64 t131] 25 (0,0)) (by (with_reducible repeat (first|refine blk_drewN ?_ _|refine blk_drew ?_|refine blk_alloc ?_ _));refine blk_put (cs:=#[.string t121,.string t122,.slice Ao64 t123.length co64,.int .i64 t126,.int .i64 t127,.slice Ao65 t128.length co65,.int .i64 0]) ?_ 6 _ rfl;(with_reducible repeat (first|refine blk_drewN ?_ _|refine blk_drew ?_|refine blk_alloc ?_ _));refine blk_put (cs:=#[.string t121,.string t122,.slice Ao64 t123.length co64,.int .i64 t126,.int .i64 t127,.slice none 0 0,.int .i64 0]) ?_ 5 _ rfl;(with_reducible repeat (first|refine blk_drewN ?_ _|refine blk_drew ?_|refine blk_alloc ?_ _));refine blk_put (cs:=#[.string t121,.string t122,.slice Ao64 t123.length co64,.int .i64 t126,.int .i64 0,.slice none 0 0,.int .i64 0]) ?_ 4 _ rfl;(with_reducible repeat (first|refine blk_drewN ?_ _|refine blk_drew ?_|refine blk_alloc ?_ _));refine blk_put (cs:=#[.string t121,.string t122,.slice Ao64 t123.length co64,.int .i64 0,.int .i64 0,.slice none 0 0,.int .i64 0]) ?_ 3 _ rfl;(with_reducible repeat (first|refine blk_drewN ?_ _|refine blk_drew ?_|refine blk_alloc ?_ _));refine blk_put (cs:=#[.string t121,.string t122,.slice none 0 0,.int .i64 0,.int .i64 0,.slice none 0 0,.int .i64 0]) ?_ 2 _ rfl;(with_reducible repeat (first|refine blk_drewN ?_ _|refine blk_drew ?_|refine blk_alloc ?_ _));refine blk_put (cs:=#[.string t121,.string (⟨#[]⟩ : ByteArray),.slice none 0 0,.int .i64 0,.int .i64 0,.slice none 0 0,.int .i64 0]) ?_ 1 _ rfl;(with_reducible repeat (first|refine blk_drewN ?_ _|refine blk_drew ?_|refine blk_alloc ?_ _));refine blk_put (cs:=#[.string (⟨#[]⟩ : ByteArray),.string (⟨#[]⟩ : ByteArray),.slice none 0 0,.int .i64 0,.int .i64 0,.slice none 0 0,.int .i64 0]) ?_ 0 _ rfl;(with_reducible repeat (first|refine blk_drewN ?_ _|refine blk_drew ?_|refine blk_alloc ?_ _));exact BK133.out) hb);have n5_:=Aside0.mk (below_step (by repeat (first|(with_reducible first|exact HB.out|apply below_alloc|apply pw_below_drewN|apply below_drew1|refine below_set ?_ GE133.out)|exact HB.out)) hb);clear HO112;clear HO117;clear HO125;clear HO130;clear BK133;clear HB;have HO112:=n0_;have HO117:=n1_;have HO125:=n2_;have HO130:=n3_;have BK133:=n4_;have HB:=n5_;clear n0_ n1_ n2_ n3_ n4_ n5_;(try clear hb);(try clear hb2);(try clear hk);(try clear hi)))
  have n0_:=Aside0.mk (Kd.R_drew HO112.out)
  have n1_:=Aside0.mk (Kd.N_drew HO117.out)
  have n2_:=Aside0.mk (Kd.R_drew HO125.out)
  have n3_:=Aside0.mk (Kd.N_drew HO130.out)
  have n4_:=Aside0.mk (blk_drew BK133.out)
  have n5_:=Aside0.mk (below_drew1 HB.out)
  clear HO112;clear HO117;clear HO125;clear HO130;clear BK133;clear HB;have HO112:=n0_;have HO117:=n1_;have HO125:=n2_;have HO130:=n3_;have BK133:=n4_;have HB:=n5_;clear n0_ n1_ n2_ n3_ n4_ n5_
  refine start_ (n:=24) (S:=fun w' => True) (ds:=[]) (bl 0 24) (by kernel_rfl) rfl rfl trivial (fun hHeld => ?_);refine with_tabW bursarlaw13_fixed.tab4 bursarlaw13_fixed.bits4 (fun HT_ HW_ => ?_)
  generalize w66.drew = w67 at HO112 HO117 HO125 HO130 BK133 HB hHeld ⊢
  refine pure_ (i:=0) (N:=some 20) (v:=?_) (a':=?_) (bl 1 23) rfl rfl (any_of HT_.out (by kernel_rfl)) (fun _ _ _ h => h) (Or.inl ⟨by rfl,?_⟩) ?_ ?_
  rotate_left;·intro w';go_simp;with_reducible rfl
  rotate_left;·simp only [pu_];rfl
  refine pure_ (i:=1) (N:=some 21) (v:=?_) (a':=?_) (bl 2 22) rfl rfl (any_of HT_.out (by kernel_rfl)) (fun _ _ _ h => h) (Or.inl ⟨by rfl,?_⟩) ?_ ?_
  rotate_left;·intro w';go_simp;with_reducible rfl
  rotate_left;·simp only [pu_];rfl
  refine pure_ (i:=2) (N:=some 22) (v:=?_) (a':=?_) (bl 3 21) rfl rfl (any_of HT_.out (by kernel_rfl)) (fun _ _ _ h => h) (Or.inl ⟨by rfl,?_⟩) ?_ ?_
  rotate_left;·intro w';go_simp;with_reducible rfl
  rotate_left;·simp only [pu_];rfl
  refine pure_ (i:=3) (N:=some 23) (v:=?_) (a':=?_) (bl 4 20) rfl rfl (any_of HT_.out (by kernel_rfl)) (fun _ _ _ h => h) (Or.inl ⟨by rfl,?_⟩) ?_ ?_
  rotate_left;·intro w';go_simp;with_reducible rfl
  rotate_left;·simp only [pu_];rfl
  refine pure_ (i:=4) (N:=some 24) (v:=?_) (a':=?_) (bl 5 19) rfl rfl (any_of HT_.out (by kernel_rfl)) (fun _ _ _ h => h) (Or.inl ⟨by rfl,?_⟩) ?_ ?_
  rotate_left;·intro w';go_simp;with_reducible rfl
  rotate_left;·simp only [pu_];rfl
  refine pure_ (i:=5) (N:=some 25) (v:=?_) (a':=?_) (bl 6 18) rfl rfl (any_of HT_.out (by kernel_rfl)) (fun _ _ _ h => h) (Or.inl ⟨by rfl,?_⟩) ?_ ?_
  rotate_left;·intro w';go_simp;with_reducible rfl
  rotate_left;·simp only [pu_];rfl
  refine pure_ (i:=6) (N:=some 26) (v:=?_) (a':=?_) (bl 7 17) rfl rfl (any_of HT_.out (by kernel_rfl)) (fun _ _ _ h => h) (Or.inl ⟨by rfl,?_⟩) ?_ ?_
  rotate_left;·intro w';go_simp;with_reducible rfl
  rotate_left;·simp only [pu_];rfl
  refine pure_ (i:=7) (N:=some 27) (v:=?_) (a':=?_) (bl 8 16) rfl rfl (any_of HT_.out (by kernel_rfl)) (fun _ _ _ h => h) (Or.inl ⟨by rfl,?_⟩) ?_ ?_
  rotate_left;·intro w';go_simp;with_reducible rfl
  rotate_left;·simp only [pu_];rfl
  refine pure_ (i:=8) (N:=some 28) (v:=?_) (a':=?_) (bl 9 15) rfl rfl (any_of HT_.out (by kernel_rfl)) (fun _ _ _ h => h) (Or.inl ⟨by rfl,?_⟩) ?_ ?_
  rotate_left;·intro w';go_simp;with_reducible rfl
  rotate_left;·simp only [pu_];rfl
  refine pure_ (i:=9) (N:=some 29) (v:=?_) (a':=?_) (bl 10 14) rfl rfl (any_of HT_.out (by kernel_rfl)) (fun _ _ _ h => h) (Or.inl ⟨by rfl,?_⟩) ?_ ?_
  rotate_left;·intro w';go_simp;with_reducible rfl
  rotate_left;·simp only [pu_];rfl
  refine pure_ (i:=10) (N:=some 30) (v:=?_) (a':=?_) (bl 11 13) rfl rfl (any_of HT_.out (by kernel_rfl)) (fun _ _ _ h => h) (Or.inl ⟨by rfl,?_⟩) ?_ ?_
  rotate_left;·intro w';go_simp;with_reducible rfl
  rotate_left;·simp only [pu_];rfl
  refine pure_ (i:=11) (N:=some 31) (v:=undef) (a':=?_) (bl 12 12) rfl rfl (any_of HT_.out (by kernel_rfl)) (fun _ _ _ h => h) (Or.inr ⟨by rfl,rfl⟩) ?_ ?_
  rotate_left
  ·simp only [pu_]
   rfl
  refine pure_ (i:=12) (N:=some 32) (v:=undef) (a':=?_) (bl 13 11) rfl rfl (any_of HT_.out (by kernel_rfl)) (fun _ _ _ h => h) (Or.inr ⟨by rfl,rfl⟩) ?_ ?_
  rotate_left
  ·simp only [pu_]
   rfl
  refine pure_ (i:=13) (N:=some 33) (v:=undef) (a':=?_) (bl 14 10) rfl rfl (any_of HT_.out (by kernel_rfl)) (fun _ _ _ h => h) (Or.inr ⟨by rfl,rfl⟩) ?_ ?_
  rotate_left
  ·simp only [pu_]
   rfl
  refine pure_ (i:=14) (N:=some 34) (v:=?_) (a':=?_) (bl 15 9) rfl rfl (any_of HT_.out (by kernel_rfl)) (fun _ _ _ h => h) (Or.inl ⟨by rfl,?_⟩) ?_ ?_
  rotate_left;·intro w';go_simp;with_reducible rfl
  rotate_left;·simp only [pu_];rfl
  refine pure_ (i:=15) (N:=some 35) (v:=?_) (a':=?_) (bl 16 8) rfl rfl (any_of HT_.out (by kernel_rfl)) (fun _ _ _ h => h) (Or.inl ⟨by rfl,?_⟩) ?_ ?_
  rotate_left;·intro w';go_simp;with_reducible rfl
  rotate_left;·simp only [pu_];rfl
  refine pure_ (i:=16) (N:=some 36) (v:=undef) (a':=?_) (bl 17 7) rfl rfl (any_of HT_.out (by kernel_rfl)) (fun _ _ _ h => h) (Or.inr ⟨by rfl,rfl⟩) ?_ ?_
  rotate_left
  ·simp only [pu_]
   rfl
  refine pure_ (i:=17) (N:=some 37) (v:=undef) (a':=?_) (bl 18 6) rfl rfl (any_of HT_.out (by kernel_rfl)) (fun _ _ _ h => h) (Or.inr ⟨by rfl,rfl⟩) ?_ ?_
  rotate_left
  ·simp only [pu_]
   rfl
  refine pure_ (i:=18) (N:=some 38) (v:=?_) (a':=?_) (bl 19 5) rfl rfl (any_of HT_.out (by kernel_rfl)) (fun _ _ _ h => h) (Or.inl ⟨by rfl,?_⟩) ?_ ?_
  rotate_left;·intro w';go_simp;with_reducible rfl
  rotate_left;·simp only [pu_];rfl
  refine pure_ (i:=19) (N:=some 39) (v:=?_) (a':=?_) (bl 20 4) rfl rfl (any_of HT_.out (by kernel_rfl)) (fun _ _ _ h => h) (Or.inl ⟨by rfl,?_⟩) ?_ ?_
  rotate_left;·intro w';go_simp;with_reducible rfl
  rotate_left;·simp only [pu_];rfl
  refine pure_ (i:=20) (N:=some 40) (v:=undef) (a':=?_) (bl 21 3) rfl rfl (any_of HT_.out (by kernel_rfl)) (fun _ _ _ h => h) (Or.inr ⟨by rfl,rfl⟩) ?_ ?_
  rotate_left
  ·simp only [pu_]
   rfl
  refine pure_ (i:=21) (N:=some 41) (v:=undef) (a':=?_) (bl 22 2) rfl rfl (any_of HT_.out (by kernel_rfl)) (fun _ _ _ h => h) (Or.inr ⟨by rfl,rfl⟩) ?_ ?_
  rotate_left
  ·simp only [pu_]
   rfl
  refine pure_ (i:=22) (N:=some 42) (v:=?_) (a':=?_) (bl 23 1) rfl rfl (any_of HT_.out (by kernel_rfl)) (fun _ _ _ h => h) (Or.inl ⟨by rfl,?_⟩) ?_ ?_
  rotate_left;·intro w';go_simp;with_reducible rfl
  rotate_left;·simp only [pu_];rfl
  refine pure_ (i:=23) (N:=some 0) (v:=?_) (a':=?_) (bl 24 0) rfl rfl (any_of HT_.out (by kernel_rfl)) (fun _ _ _ h => h) (Or.inl ⟨by rfl,?_⟩) ?_ ?_
  rotate_left;·intro w';go_simp;with_reducible rfl
  rotate_left;·simp only [pu_];rfl
  refine done_ (done_of HT_.out (by kernel_rfl)) ?_
  try go_wp2
  go_ret
  exact ⟨by first|rfl|(simp [errW_none,errW_some] <;> rfl)|(simp [*,errW_none,errW_some] <;> rfl),by repeat (first|(with_reducible first|exact HB.out|apply below_alloc|apply pw_below_drewN|apply below_drew1|refine below_set ?_ GE133.out)|exact HB.out)⟩
 rw [if_pos c7] at H
 have c7b0 : (t132 == 0) = true:=beq_iff_eq.mpr c7
 have c7b1 : (t132 != 0) = false:=bne_eq_false_iff_eq.mpr c7
 clear c7
 replace H:=Option.bind_eq_some_iff.mp H
 obtain ⟨⟨t136,t137,t138,t141,t142,t143,t146⟩,A80,H⟩:=H
 replace H : ((bursarlaw13_sameObject.f t121 t122 t123 t126 t127 t128 t131 t136 t137 t138 t141 t142 t143 t146).bind fun t147 => (if t147 = true then (if t135 = 0 then (some (t134.toList == ([111,0,1,47,97,0,1,120,0,1] : List UInt8))) else (some false)) else (some false))) = some r:=H
 have A8:=Aside0.mk A80
 clear A80
 replace H:=Option.bind_eq_some_iff.mp H
 obtain ⟨t147,A90,H⟩:=H
 replace H : (if t147 = true then (if t135 = 0 then (some (t134.toList == ([111,0,1,47,97,0,1,120,0,1] : List UInt8))) else (some false)) else (some false)) = some r:=H
 have A9:=Aside0.mk A90
 clear A90
 by_cases c10 : t147 = true
 rotate_left
 ·replace c10:=Bool.eq_false_iff.mpr c10
  subst c10
  have H1 : (some false) = some r:=by rw [if_neg (show ¬ (false = true) by decide)] at H;exact H
  clear H;have H:=H1;clear H1
  obtain rfl:=Option.some.inj H
  go_enter Tryd.func6,Tryd.ntmps6
  try go_wp2_with (first|((with_reducible refine gate_callee (f:=16) rfl ?_);refine goesL_ (some 8) rfl rfl Tryd.func16 (by kernel_rfl) rfl #[] rfl (by (try simp only [List.map_toArray,List.map_cons,List.map_nil]);first|done|rfl|(simp only [List.length_drop,List.length_take];rfl)) ?_;(with_reducible refine (bursarlaw13_small.calls  t108 t109 t110 t113 t114 t115 t118 _ A1.out).mono ?_);rintro e w42 ⟨v111,v116,rfl,ho0,ho1,hb⟩;refine ⟨_,rfl,?_⟩;have n0_:=Aside0.mk (Kd.R_lower (Kd.R_mono (ok':=fun k_ => True) ho0 (fun _ hk_ => trivial)) (below_size (by repeat (first|(with_reducible first|exact HB.out|apply below_alloc|apply pw_below_drewN|apply below_drew1)|exact HB.out))));have n1_:=Aside0.mk (Kd.N_lower (Kd.N_mono (ok':=fun k_ => some k_ ≠ (v111 : Value).ownBlock) ho1 (fun k_ hk_ => hk_.2)) (below_size (by repeat (first|(with_reducible first|exact HB.out|apply below_alloc|apply pw_below_drewN|apply below_drew1)|exact HB.out))));have n2_:=Aside0.mk (below_step (by repeat (first|(with_reducible first|exact HB.out|apply below_alloc|apply pw_below_drewN|apply below_drew1)|exact HB.out)) hb);clear HB;have HO112:=n0_;have HO117:=n1_;have HB:=n2_;clear n0_ n1_ n2_;(try clear hb);(try clear hb2);(try clear hk);(try clear hi);(try clear ho0);(try clear ho1);obtain ⟨Ao43,co43,eo43⟩:=Kd.R_slice HO112.out;subst eo43;obtain ⟨Ao44,co44,eo44⟩:=Kd.N_slice HO117.out;subst eo44)|((with_reducible refine gate_callee (f:=9) rfl ?_);refine goesL_ (some 9) rfl rfl Tryd.func9 (by kernel_rfl) rfl #[.agg #[.string t108,.string t109,.slice Ao43 t110.length co43,.int .i64 t113,.int .i64 t114,.slice Ao44 t115.length co44,.int .i64 t118]] rfl (by (try simp only [List.map_toArray,List.map_cons,List.map_nil]);first|done|rfl|(simp only [List.length_drop,List.length_take];rfl)) ?_;(with_reducible refine (object_EncodeObject.calls t108 t109 _ _ t110 t113 t114 _ _ t115 t118 t119 t120 _ ?side1 ?side2 ?side3 ?side4 A2.out (Glob.below hG (by repeat (first|(with_reducible first|exact HB.out|refine below_set ?_ GE133.out|apply below_alloc|apply pw_below_drewN|apply below_drew1)|exact HB.out)))).mono ?_);(case side1 => repeat (first|exact (Kd.R_reads' HO112.out).2.2|(with_reducible refine Kd.C_alloc ?_ _)|(with_reducible refine Kd.C_drewN ?_ _)|(with_reducible refine Kd.C_drew ?_)));(case side2 => exact (Kd.R_reads' HO112.out).2.1);(case side3 => repeat (first|exact (Kd.N_reads' HO117.out).2.2|(with_reducible refine Kd.C_alloc ?_ _)|(with_reducible refine Kd.C_drewN ?_ _)|(with_reducible refine Kd.C_drew ?_)));(case side4 => exact (Kd.N_reads' HO117.out).2.1);rintro e w45 ⟨rfl,hb⟩;refine ⟨_,rfl,?_⟩;have n0_:=Aside0.mk (Kd.R_below (by (with_reducible repeat (first|apply Kd.R_alloc|apply Kd.R_drewN|apply Kd.R_drew));exact HO112.out) hb);have n1_:=Aside0.mk (Kd.N_below (by (with_reducible repeat (first|apply Kd.N_alloc|apply Kd.N_drewN|apply Kd.N_drew));exact HO117.out) hb);have n2_:=Aside0.mk (below_step (by repeat (first|(with_reducible first|exact HB.out|apply below_alloc|apply pw_below_drewN|apply below_drew1)|exact HB.out)) hb);clear HO112;clear HO117;clear HB;have HO112:=n0_;have HO117:=n1_;have HB:=n2_;clear n0_ n1_ n2_;(try clear hb);(try clear hb2);(try clear hk);(try clear hi))|((with_reducible refine gate_callee (f:=17) rfl ?_);refine goesL_ (some 13) rfl rfl Tryd.func17 (by kernel_rfl) rfl #[.string (⟨#[79,1,2,47,97,1,120,0,3,0,1,4,109,97,105,110,1,3,99,112,117,244,3,0,7]⟩ : ByteArray)] rfl (by (try simp only [List.map_toArray,List.map_cons,List.map_nil]);first|done|rfl|(simp only [List.length_drop,List.length_take];rfl)) ?_;(with_reducible refine (object_DecodeObject.calls (⟨#[79,1,2,47,97,1,120,0,3,0,1,4,109,97,105,110,1,3,99,112,117,244,3,0,7]⟩ : ByteArray) t121 t122 t123 t126 t127 t128 t131 t132 _ A3.out (Glob.below hG (by repeat (first|(with_reducible first|exact HB.out|refine below_set ?_ GE133.out|apply below_alloc|apply pw_below_drewN|apply below_drew1)|exact HB.out)))).mono ?_);rintro e w46 ⟨v124,v129,rfl,ho0,ho1,hb⟩;refine ⟨_,rfl,?_⟩;have n0_:=Aside0.mk (Kd.R_elder' (by (with_reducible repeat (first|apply Kd.R_alloc|apply Kd.R_drewN|apply Kd.R_drew));exact HO112.out) (Kd.R_base ho0) hb);have n1_:=Aside0.mk (Kd.N_mono (Kd.N_told (Kd.N_told (Kd.N_old (by (with_reducible repeat (first|apply Kd.N_alloc|apply Kd.N_drewN|apply Kd.N_drew));exact HO117.out) hb) (Kd.R_base ho0)) (Kd.N_base ho1)) (fun _ h_ => h_.1));have n2_:=Aside0.mk (Kd.R_lower (Kd.R_new' (Kd.R_mono (ok':=fun k_ => True) ho0 (fun _ hk_ => trivial)) (Kd.R_lt (by (with_reducible repeat (first|apply Kd.R_alloc|apply Kd.R_drewN|apply Kd.R_drew));exact HO112.out))) (below_size (by repeat (first|(with_reducible first|exact HB.out|apply below_alloc|apply pw_below_drewN|apply below_drew1)|exact HB.out))));have n3_:=Aside0.mk (Kd.N_lower (Kd.N_mono (ok':=fun k_ => some k_ ≠ (v124 : Value).ownBlock ∧ some k_ ≠ (.slice Ao43 t110.length co43 : Value).ownBlock ∧ some k_ ≠ (.slice Ao44 t115.length co44 : Value).ownBlock) ho1 (fun k_ hk_ => ⟨hk_.2,(Kd.fresh' (Kd.R_lt (by (with_reducible repeat (first|apply Kd.R_alloc|apply Kd.R_drewN|apply Kd.R_drew));exact HO112.out)) k_ hk_.1),(Kd.fresh' (Kd.N_lt (by (with_reducible repeat (first|apply Kd.N_alloc|apply Kd.N_drewN|apply Kd.N_drew));exact HO117.out)) k_ hk_.1)⟩)) (below_size (by repeat (first|(with_reducible first|exact HB.out|apply below_alloc|apply pw_below_drewN|apply below_drew1)|exact HB.out))));have n4_:=Aside0.mk (below_step (by repeat (first|(with_reducible first|exact HB.out|apply below_alloc|apply pw_below_drewN|apply below_drew1)|exact HB.out)) hb);clear HO112;clear HO117;clear HB;have HO112:=n0_;have HO117:=n1_;have HO125:=n2_;have HO130:=n3_;have HB:=n4_;clear n0_ n1_ n2_ n3_ n4_;(try clear hb);(try clear hb2);(try clear hk);(try clear hi);(try clear ho0);(try clear ho1))|((with_reducible refine gate_dst (N:=3) rfl ?_);refine box_event ?hg (N:=3) ?hd (cs:=#[.string (⟨#[]⟩ : ByteArray),.string (⟨#[]⟩ : ByteArray),.slice none 0 0,.int .i64 0,.int .i64 0,.slice none 0 0,.int .i64 0]) (t:=25) ?hr ?_;(case hd => rfl);(case hg => rfl);(case hr => first|(go_simp;done)|(go_simp;rfl));intro gb133 hg w47 hbox hb;have n0_:=Aside0.mk (Kd.R_below (by (with_reducible repeat (first|apply Kd.R_alloc|apply Kd.R_drewN|apply Kd.R_drew));exact HO112.out) hb);have n1_:=Aside0.mk (Kd.N_below (Kd.N_elderB (by (with_reducible repeat (first|apply Kd.N_alloc|apply Kd.N_drewN|apply Kd.N_drew));exact HO117.out) gb133 (Nat.le_of_eq hg.symm)) hb);have n2_:=Aside0.mk (Kd.R_below (by (with_reducible repeat (first|apply Kd.R_alloc|apply Kd.R_drewN|apply Kd.R_drew));exact HO125.out) hb);have n3_:=Aside0.mk (Kd.N_below (Kd.N_elderB (by (with_reducible repeat (first|apply Kd.N_alloc|apply Kd.N_drewN|apply Kd.N_drew));exact HO130.out) gb133 (Nat.le_of_eq hg.symm)) hb);have n4_:=Aside0.mk (below_step (by repeat (first|(with_reducible first|exact HB.out|apply below_alloc|apply pw_below_drewN|apply below_drew1)|exact HB.out)) hb);have n5_:=Aside0.mk (hbox);have n6_:=Aside0.mk ((by rw [hg];exact (below_size (by repeat (first|(with_reducible first|exact HB.out|apply below_alloc|apply pw_below_drewN|apply below_drew1)|exact HB.out))) : w.heap.size ≤ gb133));have n7_:=Aside0.mk ((by rw [hg];exact (below_size (by repeat (first|(with_reducible first|exact HB.out|apply below_alloc|apply pw_below_drewN|apply below_drew1)|exact HB.out))) : w.heap.size ≤ gb133));clear HO112;clear HO117;clear HO125;clear HO130;clear HB;have HO112:=n0_;have HO117:=n1_;have HO125:=n2_;have HO130:=n3_;have HB:=n4_;have BK133:=n5_;have GW133:=n6_;have GE133:=n7_;clear n0_ n1_ n2_ n3_ n4_ n5_ n6_ n7_;clear hb hbox hg;have hcz48_0 : w47.cell? ⟨gb133,0,none⟩ = some (.string (⟨#[]⟩ : ByteArray)):=(blk_cell BK133.out 0).trans rfl;have hcz48_1 : w47.cell? ⟨gb133,1,none⟩ = some (.string (⟨#[]⟩ : ByteArray)):=(blk_cell BK133.out 1).trans rfl;have hcz48_2 : w47.cell? ⟨gb133,2,none⟩ = some (.slice none 0 0):=(blk_cell BK133.out 2).trans rfl;have hcz48_3 : w47.cell? ⟨gb133,3,none⟩ = some (.int .i64 0):=(blk_cell BK133.out 3).trans rfl;have hcz48_4 : w47.cell? ⟨gb133,4,none⟩ = some (.int .i64 0):=(blk_cell BK133.out 4).trans rfl;have hcz48_5 : w47.cell? ⟨gb133,5,none⟩ = some (.slice none 0 0):=(blk_cell BK133.out 5).trans rfl;have hcz48_6 : w47.cell? ⟨gb133,6,none⟩ = some (.int .i64 0):=(blk_cell BK133.out 6).trans rfl;have hfz48_0:=blk_frozen BK133.out 0;have hfz48_1:=blk_frozen BK133.out 1;have hfz48_2:=blk_frozen BK133.out 2;have hfz48_3:=blk_frozen BK133.out 3;have hfz48_4:=blk_frozen BK133.out 4;have hfz48_5:=blk_frozen BK133.out 5;have hfz48_6:=blk_frozen BK133.out 6;obtain ⟨Ao49,co49,eo49⟩:=Kd.R_slice HO125.out;subst eo49;obtain ⟨Ao50,co50,eo50⟩:=Kd.N_slice HO130.out;subst eo50)|((with_reducible refine gate_callee (f:=11) rfl ?_);refine goesL_ (some 17) rfl rfl Tryd.func11 (by kernel_rfl) rfl #[.int .i64 3,.string (⟨#[47,97]⟩ : ByteArray),.string (⟨#[120]⟩ : ByteArray)] rfl (by (try simp only [List.map_toArray,List.map_cons,List.map_nil]);first|done|rfl|(simp only [List.length_drop,List.length_take];rfl)) ?_;(with_reducible refine (object_Key.calls 3 (⟨#[47,97]⟩ : ByteArray) (⟨#[120]⟩ : ByteArray) t134 t135 _ A4.out (Glob.below hG (by repeat (first|(with_reducible first|exact HB.out|refine below_set ?_ GE133.out|apply below_alloc|apply pw_below_drewN|apply below_drew1)|exact HB.out)))).mono ?_);rintro e w51 ⟨rfl,hb⟩;refine ⟨_,rfl,?_⟩;have n0_:=Aside0.mk (Kd.R_below (by (with_reducible repeat (first|apply Kd.R_alloc|apply Kd.R_drewN|apply Kd.R_drew));exact (Kd.R_mono (Kd.R_far (p:=⟨gb133,6,none⟩) (Kd.R_far (p:=⟨gb133,5,none⟩) (Kd.R_far (p:=⟨gb133,4,none⟩) (Kd.R_far (p:=⟨gb133,3,none⟩) (Kd.R_far (p:=⟨gb133,2,none⟩) (Kd.R_far (p:=⟨gb133,1,none⟩) (Kd.R_far (p:=⟨gb133,0,none⟩) (Kd.R_types HO112.out BK133.out (by decide)) (fun _ hk => hk.2) (.string t121)) (fun _ hk => hk.2) (.string t122)) (fun _ hk => hk.2) (.slice Ao49 t123.length co49)) (fun _ hk => hk.2) (.int .i64 t126)) (fun _ hk => hk.2) (.int .i64 t127)) (fun _ hk => hk.2) (.slice Ao50 t128.length co50)) (fun _ hk => hk.2) (.int .i64 t131)) (fun _ h_ => h_.1))) hb);have n1_:=Aside0.mk (Kd.N_below (by (with_reducible repeat (first|apply Kd.N_alloc|apply Kd.N_drewN|apply Kd.N_drew));exact (Kd.N_mono (Kd.N_far (p:=⟨gb133,6,none⟩) (Kd.N_far (p:=⟨gb133,5,none⟩) (Kd.N_far (p:=⟨gb133,4,none⟩) (Kd.N_far (p:=⟨gb133,3,none⟩) (Kd.N_far (p:=⟨gb133,2,none⟩) (Kd.N_far (p:=⟨gb133,1,none⟩) (Kd.N_far (p:=⟨gb133,0,none⟩) (Kd.N_mono HO117.out (fun k_ hk => (⟨hk,hk.2⟩ : _ ∧ k_ ≠ gb133))) (fun _ hk => hk.2) (.string t121)) (fun _ hk => hk.2) (.string t122)) (fun _ hk => hk.2) (.slice Ao49 t123.length co49)) (fun _ hk => hk.2) (.int .i64 t126)) (fun _ hk => hk.2) (.int .i64 t127)) (fun _ hk => hk.2) (.slice Ao50 t128.length co50)) (fun _ hk => hk.2) (.int .i64 t131)) (fun _ h_ => h_.1))) hb);have n2_:=Aside0.mk (Kd.R_below (by (with_reducible repeat (first|apply Kd.R_alloc|apply Kd.R_drewN|apply Kd.R_drew));exact (Kd.R_mono (Kd.R_far (p:=⟨gb133,6,none⟩) (Kd.R_far (p:=⟨gb133,5,none⟩) (Kd.R_far (p:=⟨gb133,4,none⟩) (Kd.R_far (p:=⟨gb133,3,none⟩) (Kd.R_far (p:=⟨gb133,2,none⟩) (Kd.R_far (p:=⟨gb133,1,none⟩) (Kd.R_far (p:=⟨gb133,0,none⟩) (Kd.R_types HO125.out BK133.out (by decide)) (fun _ hk => hk.2) (.string t121)) (fun _ hk => hk.2) (.string t122)) (fun _ hk => hk.2) (.slice Ao49 t123.length co49)) (fun _ hk => hk.2) (.int .i64 t126)) (fun _ hk => hk.2) (.int .i64 t127)) (fun _ hk => hk.2) (.slice Ao50 t128.length co50)) (fun _ hk => hk.2) (.int .i64 t131)) (fun _ h_ => h_.1))) hb);have n3_:=Aside0.mk (Kd.N_below (by (with_reducible repeat (first|apply Kd.N_alloc|apply Kd.N_drewN|apply Kd.N_drew));exact (Kd.N_mono (Kd.N_far (p:=⟨gb133,6,none⟩) (Kd.N_far (p:=⟨gb133,5,none⟩) (Kd.N_far (p:=⟨gb133,4,none⟩) (Kd.N_far (p:=⟨gb133,3,none⟩) (Kd.N_far (p:=⟨gb133,2,none⟩) (Kd.N_far (p:=⟨gb133,1,none⟩) (Kd.N_far (p:=⟨gb133,0,none⟩) (Kd.N_mono HO130.out (fun k_ hk => (⟨hk,hk.2⟩ : _ ∧ k_ ≠ gb133))) (fun _ hk => hk.2) (.string t121)) (fun _ hk => hk.2) (.string t122)) (fun _ hk => hk.2) (.slice Ao49 t123.length co49)) (fun _ hk => hk.2) (.int .i64 t126)) (fun _ hk => hk.2) (.int .i64 t127)) (fun _ hk => hk.2) (.slice Ao50 t128.length co50)) (fun _ hk => hk.2) (.int .i64 t131)) (fun _ h_ => h_.1))) hb);have n4_:=Aside0.mk (blk_below (g:=gb133) (o:=.cells #[.string t121,.string t122,.slice Ao49 t123.length co49,.int .i64 t126,.int .i64 t127,.slice Ao50 t128.length co50,.int .i64 t131] 25 (0,0)) (by (with_reducible repeat (first|refine blk_drewN ?_ _|refine blk_drew ?_|refine blk_alloc ?_ _));refine blk_put (cs:=#[.string t121,.string t122,.slice Ao49 t123.length co49,.int .i64 t126,.int .i64 t127,.slice Ao50 t128.length co50,.int .i64 0]) ?_ 6 _ rfl;(with_reducible repeat (first|refine blk_drewN ?_ _|refine blk_drew ?_|refine blk_alloc ?_ _));refine blk_put (cs:=#[.string t121,.string t122,.slice Ao49 t123.length co49,.int .i64 t126,.int .i64 t127,.slice none 0 0,.int .i64 0]) ?_ 5 _ rfl;(with_reducible repeat (first|refine blk_drewN ?_ _|refine blk_drew ?_|refine blk_alloc ?_ _));refine blk_put (cs:=#[.string t121,.string t122,.slice Ao49 t123.length co49,.int .i64 t126,.int .i64 0,.slice none 0 0,.int .i64 0]) ?_ 4 _ rfl;(with_reducible repeat (first|refine blk_drewN ?_ _|refine blk_drew ?_|refine blk_alloc ?_ _));refine blk_put (cs:=#[.string t121,.string t122,.slice Ao49 t123.length co49,.int .i64 0,.int .i64 0,.slice none 0 0,.int .i64 0]) ?_ 3 _ rfl;(with_reducible repeat (first|refine blk_drewN ?_ _|refine blk_drew ?_|refine blk_alloc ?_ _));refine blk_put (cs:=#[.string t121,.string t122,.slice none 0 0,.int .i64 0,.int .i64 0,.slice none 0 0,.int .i64 0]) ?_ 2 _ rfl;(with_reducible repeat (first|refine blk_drewN ?_ _|refine blk_drew ?_|refine blk_alloc ?_ _));refine blk_put (cs:=#[.string t121,.string (⟨#[]⟩ : ByteArray),.slice none 0 0,.int .i64 0,.int .i64 0,.slice none 0 0,.int .i64 0]) ?_ 1 _ rfl;(with_reducible repeat (first|refine blk_drewN ?_ _|refine blk_drew ?_|refine blk_alloc ?_ _));refine blk_put (cs:=#[.string (⟨#[]⟩ : ByteArray),.string (⟨#[]⟩ : ByteArray),.slice none 0 0,.int .i64 0,.int .i64 0,.slice none 0 0,.int .i64 0]) ?_ 0 _ rfl;(with_reducible repeat (first|refine blk_drewN ?_ _|refine blk_drew ?_|refine blk_alloc ?_ _));exact BK133.out) hb);have n5_:=Aside0.mk (below_step (by repeat (first|(with_reducible first|exact HB.out|apply below_alloc|apply pw_below_drewN|apply below_drew1|refine below_set ?_ GE133.out)|exact HB.out)) hb);clear HO112;clear HO117;clear HO125;clear HO130;clear BK133;clear HB;have HO112:=n0_;have HO117:=n1_;have HO125:=n2_;have HO130:=n3_;have BK133:=n4_;have HB:=n5_;clear n0_ n1_ n2_ n3_ n4_ n5_;(try clear hb);(try clear hb2);(try clear hk);(try clear hi)))
  have n0_:=Aside0.mk (Kd.R_drew HO112.out)
  have n1_:=Aside0.mk (Kd.N_drew HO117.out)
  have n2_:=Aside0.mk (Kd.R_drew HO125.out)
  have n3_:=Aside0.mk (Kd.N_drew HO130.out)
  have n4_:=Aside0.mk (blk_drew BK133.out)
  have n5_:=Aside0.mk (below_drew1 HB.out)
  clear HO112;clear HO117;clear HO125;clear HO130;clear BK133;clear HB;have HO112:=n0_;have HO117:=n1_;have HO125:=n2_;have HO130:=n3_;have BK133:=n4_;have HB:=n5_;clear n0_ n1_ n2_ n3_ n4_ n5_
  refine start_ (n:=24) (S:=fun w' => w'.cell? ⟨gb133,0,none⟩ = some (.string t121) ∧ w'.cell? ⟨gb133,1,none⟩ = some (.string t122) ∧ w'.cell? ⟨gb133,2,none⟩ = some (.slice Ao49 t123.length co49) ∧ w'.cell? ⟨gb133,3,none⟩ = some (.int .i64 t126) ∧ w'.cell? ⟨gb133,4,none⟩ = some (.int .i64 t127) ∧ w'.cell? ⟨gb133,5,none⟩ = some (.slice Ao50 t128.length co50) ∧ w'.cell? ⟨gb133,6,none⟩ = some (.int .i64 t131)) (ds:=[]) (bl 0 24) (by kernel_rfl) rfl rfl ⟨(blk_cell BK133.out 0).trans rfl,(blk_cell BK133.out 1).trans rfl,(blk_cell BK133.out 2).trans rfl,(blk_cell BK133.out 3).trans rfl,(blk_cell BK133.out 4).trans rfl,(blk_cell BK133.out 5).trans rfl,(blk_cell BK133.out 6).trans rfl⟩ (fun hHeld => ?_);refine with_tabW bursarlaw13_fixed.tab4 bursarlaw13_fixed.bits4 (fun HT_ HW_ => ?_)
  generalize w51.drew = w52 at HO112 HO117 HO125 HO130 BK133 HB hHeld ⊢
  refine pure_ (i:=0) (N:=some 20) (v:=?_) (a':=?_) (bl 1 23) rfl rfl (any_of HT_.out (by kernel_rfl)) (fun _ _ _ h => h) (Or.inl ⟨by rfl,?_⟩) ?_ ?_
  rotate_left;·intro w';go_simp;with_reducible rfl
  rotate_left;·simp only [pu_];rfl
  refine pure_ (i:=1) (N:=some 21) (v:=?_) (a':=?_) (bl 2 22) rfl rfl (any_of HT_.out (by kernel_rfl)) (fun _ _ _ h => h) (Or.inl ⟨by rfl,?_⟩) ?_ ?_
  rotate_left;·intro w';go_simp;with_reducible rfl
  rotate_left;·simp only [pu_];rfl
  refine pure_ (i:=2) (N:=some 22) (v:=?_) (a':=?_) (bl 3 21) rfl rfl (any_of HT_.out (by kernel_rfl)) (fun _ _ _ h => h) (Or.inl ⟨by rfl,?_⟩) ?_ ?_
  rotate_left;·intro w';go_simp;with_reducible rfl
  rotate_left;·simp only [pu_];rfl
  refine pure_ (i:=3) (N:=some 23) (v:=?_) (a':=?_) (bl 4 20) rfl rfl (any_of HT_.out (by kernel_rfl)) (fun _ _ _ h => h) (Or.inl ⟨by rfl,?_⟩) ?_ ?_
  rotate_left;·intro w';go_simp;with_reducible rfl
  rotate_left;·simp only [pu_];rfl
  refine pure_ (i:=4) (N:=some 24) (v:=?_) (a':=?_) (bl 5 19) rfl rfl (any_of HT_.out (by kernel_rfl)) (fun _ _ _ h => h) (Or.inl ⟨by rfl,?_⟩) ?_ ?_
  rotate_left;·intro w';go_simp;with_reducible rfl
  rotate_left;·simp only [pu_];rfl
  refine pure_ (i:=5) (N:=some 25) (v:=?_) (a':=?_) (bl 6 18) rfl rfl (any_of HT_.out (by kernel_rfl)) (fun _ _ _ h => h) (Or.inl ⟨by rfl,?_⟩) ?_ ?_
  rotate_left;·intro w';go_simp;with_reducible rfl
  rotate_left;·simp only [pu_];rfl
  refine pure_ (i:=6) (N:=some 26) (v:=?_) (a':=?_) (bl 7 17) rfl rfl (any_of HT_.out (by kernel_rfl)) (fun _ _ _ h => h) (Or.inl ⟨by rfl,?_⟩) ?_ ?_
  rotate_left;·intro w';go_simp;with_reducible rfl
  rotate_left;·simp only [pu_];rfl
  refine pure_ (i:=7) (N:=some 27) (v:=?_) (a':=?_) (bl 8 16) rfl rfl (any_of HT_.out (by kernel_rfl)) (fun _ _ _ h => h) (Or.inl ⟨by rfl,?_⟩) ?_ ?_
  rotate_left;·intro w';go_simp;with_reducible rfl
  rotate_left;·simp only [pu_];rfl
  refine pure_ (i:=8) (N:=some 28) (v:=?_) (a':=?_) (bl 9 15) rfl rfl (any_of HT_.out (by kernel_rfl)) (fun _ _ _ h => h) (Or.inl ⟨by rfl,?_⟩) ?_ ?_
  rotate_left;·intro w';go_simp;with_reducible rfl
  rotate_left;·simp only [pu_];rfl
  refine pure_ (i:=9) (N:=some 29) (v:=?_) (a':=?_) (bl 10 14) rfl rfl (any_of HT_.out (by kernel_rfl)) (fun _ _ _ h => h) (Or.inl ⟨by rfl,?_⟩) ?_ ?_
  rotate_left;·intro w';go_simp;with_reducible rfl
  rotate_left;·simp only [pu_];rfl
  refine pure_ (i:=10) (N:=some 30) (v:=?_) (a':=?_) (bl 11 13) rfl rfl (any_of HT_.out (by kernel_rfl)) (fun _ _ _ h => h) (Or.inl ⟨by rfl,?_⟩) ?_ ?_
  rotate_left;·intro w';go_simp;with_reducible rfl
  rotate_left;·simp only [pu_];rfl
  refine take_ (i:=11) (N:=some 31) (v:=?_) (a':=?_) (bl 12 12) rfl rfl (take_ofW HT_.out HW_.out (by kernel_rfl)) (fun _ _ _ h => h) (Or.inl ⟨by rfl,?_⟩) hHeld ?_ ?_
  rotate_left
  ·rintro w' ⟨s0,s1,s2,s3,s4,s5,s6⟩
   go_simp
   with_reducible rfl
  rotate_left
  ·simp only [pu_]
   rfl
  refine one_ (i:=12) (N:=some 32) (bl 13 11) rfl rfl (one_of HT_.out (by kernel_rfl)) (by decide) (fun K hK => ?_)
  refine goes_ Tryd.func16 (by kernel_rfl) rfl #[] (by rfl) rfl rfl (by (try simp only [List.map_toArray,List.map_cons,List.map_nil]);first|done|rfl|(simp only [List.length_drop,List.length_take];rfl)) ?_
  with_reducible refine (bursarlaw13_small.calls  t136 t137 t138 t141 t142 t143 t146 _ A8.out).mono ?_
  rintro e w53 ⟨v139,v144,rfl,ho0,ho1,hb⟩
  refine ⟨_,rfl,?_⟩
  have n0_:=Aside0.mk (Kd.R_elder' (by (with_reducible repeat (first|apply Kd.R_alloc|apply Kd.R_drewN|apply Kd.R_drew));exact HO112.out) (Kd.R_base ho0) hb)
  have n1_:=Aside0.mk (Kd.N_mono (Kd.N_told (Kd.N_told (Kd.N_old (by (with_reducible repeat (first|apply Kd.N_alloc|apply Kd.N_drewN|apply Kd.N_drew));exact HO117.out) hb) (Kd.R_base ho0)) (Kd.N_base ho1)) (fun _ h_ => h_.1))
  have n2_:=Aside0.mk (Kd.R_elder' (by (with_reducible repeat (first|apply Kd.R_alloc|apply Kd.R_drewN|apply Kd.R_drew));exact HO125.out) (Kd.R_base ho0) hb)
  have n3_:=Aside0.mk (Kd.N_mono (Kd.N_told (Kd.N_told (Kd.N_old (by (with_reducible repeat (first|apply Kd.N_alloc|apply Kd.N_drewN|apply Kd.N_drew));exact HO130.out) hb) (Kd.R_base ho0)) (Kd.N_base ho1)) (fun _ h_ => h_.1))
  have n4_:=Aside0.mk (Kd.R_lower (Kd.R_new' (Kd.R_new' (Kd.R_mono (ok':=fun k_ => True) ho0 (fun _ hk_ => trivial)) (Kd.R_lt (by (with_reducible repeat (first|apply Kd.R_alloc|apply Kd.R_drewN|apply Kd.R_drew));exact HO112.out))) (Kd.R_lt (by (with_reducible repeat (first|apply Kd.R_alloc|apply Kd.R_drewN|apply Kd.R_drew));exact HO125.out))) (below_size (by repeat (first|(with_reducible first|exact HB.out|apply below_alloc|apply pw_below_drewN|apply below_drew1|refine below_set ?_ GE133.out)|exact HB.out))))
  have n5_:=Aside0.mk (Kd.N_lower (Kd.N_mono (ok':=fun k_ => some k_ ≠ (v139 : Value).ownBlock ∧ some k_ ≠ (.slice Ao43 t110.length co43 : Value).ownBlock ∧ some k_ ≠ (.slice Ao44 t115.length co44 : Value).ownBlock ∧ some k_ ≠ (.slice Ao49 t123.length co49 : Value).ownBlock ∧ some k_ ≠ (.slice Ao50 t128.length co50 : Value).ownBlock ∧ k_ ≠ gb133) ho1 (fun k_ hk_ => ⟨hk_.2,(Kd.fresh' (Kd.R_lt (by (with_reducible repeat (first|apply Kd.R_alloc|apply Kd.R_drewN|apply Kd.R_drew));exact HO112.out)) k_ hk_.1),(Kd.fresh' (Kd.N_lt (by (with_reducible repeat (first|apply Kd.N_alloc|apply Kd.N_drewN|apply Kd.N_drew));exact HO117.out)) k_ hk_.1),(Kd.fresh' (Kd.R_lt (by (with_reducible repeat (first|apply Kd.R_alloc|apply Kd.R_drewN|apply Kd.R_drew));exact HO125.out)) k_ hk_.1),(Kd.fresh' (Kd.N_lt (by (with_reducible repeat (first|apply Kd.N_alloc|apply Kd.N_drewN|apply Kd.N_drew));exact HO130.out)) k_ hk_.1),(Kd.freshB (g:=gb133) (o:=.cells #[.string t121,.string t122,.slice Ao49 t123.length co49,.int .i64 t126,.int .i64 t127,.slice Ao50 t128.length co50,.int .i64 t131] 25 (0,0)) (by (with_reducible repeat (first|refine blk_drewN ?_ _|refine blk_drew ?_|refine blk_alloc ?_ _));exact BK133.out) k_ hk_.1)⟩)) (below_size (by repeat (first|(with_reducible first|exact HB.out|apply below_alloc|apply pw_below_drewN|apply below_drew1|refine below_set ?_ GE133.out)|exact HB.out))))
  have n6_:=Aside0.mk (blk_below (g:=gb133) (o:=.cells #[.string t121,.string t122,.slice Ao49 t123.length co49,.int .i64 t126,.int .i64 t127,.slice Ao50 t128.length co50,.int .i64 t131] 25 (0,0)) (by (with_reducible repeat (first|refine blk_drewN ?_ _|refine blk_drew ?_|refine blk_alloc ?_ _));exact BK133.out) hb)
  have n7_:=Aside0.mk (below_step (by repeat (first|(with_reducible first|exact HB.out|apply below_alloc|apply pw_below_drewN|apply below_drew1|refine below_set ?_ GE133.out)|exact HB.out)) hb)
  clear HO112;clear HO117;clear HO125;clear HO130;clear BK133;clear HB;have HO112:=n0_;have HO117:=n1_;have HO125:=n2_;have HO130:=n3_;have HO140:=n4_;have HO145:=n5_;have BK133:=n6_;have HB:=n7_;clear n0_ n1_ n2_ n3_ n4_ n5_ n6_ n7_;(try clear hb);(try clear hb2);(try clear hk);(try clear hi);(try clear ho0);(try clear ho1)
  obtain ⟨Ao54,co54,eo54⟩:=Kd.R_slice HO140.out
  (first|subst eo54|(injection eo54 with f1_ f2_ f3_;have f4_:=f1_.symm;have f5_:=f3_.symm;clear f1_ f2_ f3_;subst f4_;subst f5_))
  obtain ⟨Ao55,co55,eo55⟩:=Kd.N_slice HO145.out
  (first|subst eo55|(injection eo55 with f1_ f2_ f3_;have f4_:=f1_.symm;have f5_:=f3_.symm;clear f1_ f2_ f3_;subst f4_;subst f5_))
  refine hK.out _ _ ⟨(blk_cell BK133.out 0).trans rfl,(blk_cell BK133.out 1).trans rfl,(blk_cell BK133.out 2).trans rfl,(blk_cell BK133.out 3).trans rfl,(blk_cell BK133.out 4).trans rfl,(blk_cell BK133.out 5).trans rfl,(blk_cell BK133.out 6).trans rfl⟩ (fun hHeld => ?_)
  clear hK K
  refine norm_ (a':=?_) ?_ ?_
  rotate_left
  ·show Act.put _ (some 32) _ = _
   simp only [pu_]
   rfl
  refine one_ (i:=13) (N:=some 33) (bl 14 10) rfl rfl (one_of HT_.out (by kernel_rfl)) (by decide) (fun K hK => ?_)
  refine goes_ Tryd.func18 (by kernel_rfl) rfl #[.agg #[.string t121,.string t122,.slice Ao49 t123.length co49,.int .i64 t126,.int .i64 t127,.slice Ao50 t128.length co50,.int .i64 t131],.agg #[.string t136,.string t137,.slice Ao54 t138.length co54,.int .i64 t141,.int .i64 t142,.slice Ao55 t143.length co55,.int .i64 t146]] (by rfl) rfl rfl (by (try simp only [List.map_toArray,List.map_cons,List.map_nil]);first|done|rfl|(simp only [List.length_drop,List.length_take];rfl)) ?_
  with_reducible refine (bursarlaw13_sameObject.calls t121 t122 _ _ t123 t126 t127 _ _ t128 t131 t136 t137 _ _ t138 t141 t142 _ _ t143 t146 false _ ?side1 ?side2 ?side3 ?side4 ?side5 ?side6 ?side7 ?side8 A9.out).mono ?_
  (case side1 => repeat (first|exact (Kd.R_reads' HO125.out).2.2|(with_reducible refine Kd.C_alloc ?_ _)|(with_reducible refine Kd.C_drewN ?_ _)|(with_reducible refine Kd.C_drew ?_)))
  (case side2 => exact (Kd.R_reads' HO125.out).2.1)
  (case side3 => repeat (first|exact (Kd.N_reads' HO130.out).2.2|(with_reducible refine Kd.C_alloc ?_ _)|(with_reducible refine Kd.C_drewN ?_ _)|(with_reducible refine Kd.C_drew ?_)))
  (case side4 => exact (Kd.N_reads' HO130.out).2.1)
  (case side5 => repeat (first|exact (Kd.R_reads' HO140.out).2.2|(with_reducible refine Kd.C_alloc ?_ _)|(with_reducible refine Kd.C_drewN ?_ _)|(with_reducible refine Kd.C_drew ?_)))
  (case side6 => exact (Kd.R_reads' HO140.out).2.1)
  (case side7 => repeat (first|exact (Kd.N_reads' HO145.out).2.2|(with_reducible refine Kd.C_alloc ?_ _)|(with_reducible refine Kd.C_drewN ?_ _)|(with_reducible refine Kd.C_drew ?_)))
  (case side8 => exact (Kd.N_reads' HO145.out).2.1)
  rintro e w56 ⟨rfl,hb⟩
  refine ⟨_,rfl,?_⟩
  have n0_:=Aside0.mk (Kd.R_below (by (with_reducible repeat (first|apply Kd.R_alloc|apply Kd.R_drewN|apply Kd.R_drew));exact HO112.out) hb)
  have n1_:=Aside0.mk (Kd.N_below (by (with_reducible repeat (first|apply Kd.N_alloc|apply Kd.N_drewN|apply Kd.N_drew));exact HO117.out) hb)
  have n2_:=Aside0.mk (Kd.R_below (by (with_reducible repeat (first|apply Kd.R_alloc|apply Kd.R_drewN|apply Kd.R_drew));exact HO125.out) hb)
  have n3_:=Aside0.mk (Kd.N_below (by (with_reducible repeat (first|apply Kd.N_alloc|apply Kd.N_drewN|apply Kd.N_drew));exact HO130.out) hb)
  have n4_:=Aside0.mk (Kd.R_below (by (with_reducible repeat (first|apply Kd.R_alloc|apply Kd.R_drewN|apply Kd.R_drew));exact HO140.out) hb)
  have n5_:=Aside0.mk (Kd.N_below (by (with_reducible repeat (first|apply Kd.N_alloc|apply Kd.N_drewN|apply Kd.N_drew));exact HO145.out) hb)
  have n6_:=Aside0.mk (blk_below (g:=gb133) (o:=.cells #[.string t121,.string t122,.slice Ao49 t123.length co49,.int .i64 t126,.int .i64 t127,.slice Ao50 t128.length co50,.int .i64 t131] 25 (0,0)) (by (with_reducible repeat (first|refine blk_drewN ?_ _|refine blk_drew ?_|refine blk_alloc ?_ _));exact BK133.out) hb)
  have n7_:=Aside0.mk (below_step (by repeat (first|(with_reducible first|exact HB.out|apply below_alloc|apply pw_below_drewN|apply below_drew1|refine below_set ?_ GE133.out)|exact HB.out)) hb)
  clear HO112;clear HO117;clear HO125;clear HO130;clear HO140;clear HO145;clear BK133;clear HB;have HO112:=n0_;have HO117:=n1_;have HO125:=n2_;have HO130:=n3_;have HO140:=n4_;have HO145:=n5_;have BK133:=n6_;have HB:=n7_;clear n0_ n1_ n2_ n3_ n4_ n5_ n6_ n7_;(try clear hb);(try clear hb2);(try clear hk);(try clear hi)
  refine hK.out _ _ ⟨(blk_cell BK133.out 0).trans rfl,(blk_cell BK133.out 1).trans rfl,(blk_cell BK133.out 2).trans rfl,(blk_cell BK133.out 3).trans rfl,(blk_cell BK133.out 4).trans rfl,(blk_cell BK133.out 5).trans rfl,(blk_cell BK133.out 6).trans rfl⟩ (fun hHeld => ?_)
  clear hK K
  refine norm_ (a':=?_) ?_ ?_
  rotate_left
  ·show Act.put _ (some 33) _ = _
   simp only [pu_]
   rfl
  refine pure_ (i:=14) (N:=some 34) (v:=?_) (a':=?_) (bl 15 9) rfl rfl (any_of HT_.out (by kernel_rfl)) (fun _ _ _ h => h) (Or.inl ⟨by rfl,?_⟩) ?_ ?_
  rotate_left;·intro w';go_simp;with_reducible rfl
  rotate_left;·simp only [pu_];rfl
  refine pure_ (i:=15) (N:=some 35) (v:=?_) (a':=?_) (bl 16 8) rfl rfl (any_of HT_.out (by kernel_rfl)) (fun _ _ _ h => h) (Or.inl ⟨by rfl,?_⟩) ?_ ?_
  rotate_left;·intro w';go_simp;with_reducible rfl
  rotate_left;·simp only [pu_];rfl
  refine pure_ (i:=16) (N:=some 36) (v:=undef) (a':=?_) (bl 17 7) rfl rfl (any_of HT_.out (by kernel_rfl)) (fun _ _ _ h => h) (Or.inr ⟨by rfl,rfl⟩) ?_ ?_
  rotate_left
  ·simp only [pu_]
   rfl
  refine pure_ (i:=17) (N:=some 37) (v:=undef) (a':=?_) (bl 18 6) rfl rfl (any_of HT_.out (by kernel_rfl)) (fun _ _ _ h => h) (Or.inr ⟨by rfl,rfl⟩) ?_ ?_
  rotate_left
  ·simp only [pu_]
   rfl
  refine pure_ (i:=18) (N:=some 38) (v:=?_) (a':=?_) (bl 19 5) rfl rfl (any_of HT_.out (by kernel_rfl)) (fun _ _ _ h => h) (Or.inl ⟨by rfl,?_⟩) ?_ ?_
  rotate_left;·intro w';go_simp;with_reducible rfl
  rotate_left;·simp only [pu_];rfl
  refine pure_ (i:=19) (N:=some 39) (v:=?_) (a':=?_) (bl 20 4) rfl rfl (any_of HT_.out (by kernel_rfl)) (fun _ _ _ h => h) (Or.inl ⟨by rfl,?_⟩) ?_ ?_
  rotate_left;·intro w';go_simp;with_reducible rfl
  rotate_left;·simp only [pu_];rfl
  refine pure_ (i:=20) (N:=some 40) (v:=undef) (a':=?_) (bl 21 3) rfl rfl (any_of HT_.out (by kernel_rfl)) (fun _ _ _ h => h) (Or.inr ⟨by rfl,rfl⟩) ?_ ?_
  rotate_left
  ·simp only [pu_]
   rfl
  refine pure_ (i:=21) (N:=some 41) (v:=undef) (a':=?_) (bl 22 2) rfl rfl (any_of HT_.out (by kernel_rfl)) (fun _ _ _ h => h) (Or.inr ⟨by rfl,rfl⟩) ?_ ?_
  rotate_left
  ·simp only [pu_]
   rfl
  refine pure_ (i:=22) (N:=some 42) (v:=?_) (a':=?_) (bl 23 1) rfl rfl (any_of HT_.out (by kernel_rfl)) (fun _ _ _ h => h) (Or.inl ⟨by rfl,?_⟩) ?_ ?_
  rotate_left;·intro w';go_simp;with_reducible rfl
  rotate_left;·simp only [pu_];rfl
  refine pure_ (i:=23) (N:=some 0) (v:=?_) (a':=?_) (bl 24 0) rfl rfl (any_of HT_.out (by kernel_rfl)) (fun _ _ _ h => h) (Or.inl ⟨by rfl,?_⟩) ?_ ?_
  rotate_left;·intro w';go_simp;with_reducible rfl
  rotate_left;·simp only [pu_];rfl
  refine done_ (done_of HT_.out (by kernel_rfl)) ?_
  try go_wp2
  go_ret
  exact ⟨by first|rfl|(simp [errW_none,errW_some] <;> rfl)|(simp [*,errW_none,errW_some] <;> rfl),by repeat (first|(with_reducible first|exact HB.out|apply below_alloc|apply pw_below_drewN|apply below_drew1|refine below_set ?_ GE133.out)|exact HB.out)⟩
 subst c10
 have H1 : (if t135 = 0 then (some (t134.toList == ([111,0,1,47,97,0,1,120,0,1] : List UInt8))) else (some false)) = some r:=by rw [if_pos rfl] at H;exact H
 clear H;have H:=H1;clear H1
 by_cases c11 : t135 = 0
 rotate_left
 ·rw [if_neg c11] at H
  have c11b0 : (t135 == 0) = false:=beq_eq_false_iff_ne.mpr c11
  have c11b1 : (t135 != 0) = true:=bne_iff_ne.mpr c11
  obtain rfl:=Option.some.inj H
  go_enter Tryd.func6,Tryd.ntmps6
  try go_wp2_with (first|((with_reducible refine gate_callee (f:=16) rfl ?_);refine goesL_ (some 8) rfl rfl Tryd.func16 (by kernel_rfl) rfl #[] rfl (by (try simp only [List.map_toArray,List.map_cons,List.map_nil]);first|done|rfl|(simp only [List.length_drop,List.length_take];rfl)) ?_;(with_reducible refine (bursarlaw13_small.calls  t108 t109 t110 t113 t114 t115 t118 _ A1.out).mono ?_);rintro e w27 ⟨v111,v116,rfl,ho0,ho1,hb⟩;refine ⟨_,rfl,?_⟩;have n0_:=Aside0.mk (Kd.R_lower (Kd.R_mono (ok':=fun k_ => True) ho0 (fun _ hk_ => trivial)) (below_size (by repeat (first|(with_reducible first|exact HB.out|apply below_alloc|apply pw_below_drewN|apply below_drew1)|exact HB.out))));have n1_:=Aside0.mk (Kd.N_lower (Kd.N_mono (ok':=fun k_ => some k_ ≠ (v111 : Value).ownBlock) ho1 (fun k_ hk_ => hk_.2)) (below_size (by repeat (first|(with_reducible first|exact HB.out|apply below_alloc|apply pw_below_drewN|apply below_drew1)|exact HB.out))));have n2_:=Aside0.mk (below_step (by repeat (first|(with_reducible first|exact HB.out|apply below_alloc|apply pw_below_drewN|apply below_drew1)|exact HB.out)) hb);clear HB;have HO112:=n0_;have HO117:=n1_;have HB:=n2_;clear n0_ n1_ n2_;(try clear hb);(try clear hb2);(try clear hk);(try clear hi);(try clear ho0);(try clear ho1);obtain ⟨Ao28,co28,eo28⟩:=Kd.R_slice HO112.out;subst eo28;obtain ⟨Ao29,co29,eo29⟩:=Kd.N_slice HO117.out;subst eo29)|((with_reducible refine gate_callee (f:=9) rfl ?_);refine goesL_ (some 9) rfl rfl Tryd.func9 (by kernel_rfl) rfl #[.agg #[.string t108,.string t109,.slice Ao28 t110.length co28,.int .i64 t113,.int .i64 t114,.slice Ao29 t115.length co29,.int .i64 t118]] rfl (by (try simp only [List.map_toArray,List.map_cons,List.map_nil]);first|done|rfl|(simp only [List.length_drop,List.length_take];rfl)) ?_;(with_reducible refine (object_EncodeObject.calls t108 t109 _ _ t110 t113 t114 _ _ t115 t118 t119 t120 _ ?side1 ?side2 ?side3 ?side4 A2.out (Glob.below hG (by repeat (first|(with_reducible first|exact HB.out|refine below_set ?_ GE133.out|apply below_alloc|apply pw_below_drewN|apply below_drew1)|exact HB.out)))).mono ?_);(case side1 => repeat (first|exact (Kd.R_reads' HO112.out).2.2|(with_reducible refine Kd.C_alloc ?_ _)|(with_reducible refine Kd.C_drewN ?_ _)|(with_reducible refine Kd.C_drew ?_)));(case side2 => exact (Kd.R_reads' HO112.out).2.1);(case side3 => repeat (first|exact (Kd.N_reads' HO117.out).2.2|(with_reducible refine Kd.C_alloc ?_ _)|(with_reducible refine Kd.C_drewN ?_ _)|(with_reducible refine Kd.C_drew ?_)));(case side4 => exact (Kd.N_reads' HO117.out).2.1);rintro e w30 ⟨rfl,hb⟩;refine ⟨_,rfl,?_⟩;have n0_:=Aside0.mk (Kd.R_below (by (with_reducible repeat (first|apply Kd.R_alloc|apply Kd.R_drewN|apply Kd.R_drew));exact HO112.out) hb);have n1_:=Aside0.mk (Kd.N_below (by (with_reducible repeat (first|apply Kd.N_alloc|apply Kd.N_drewN|apply Kd.N_drew));exact HO117.out) hb);have n2_:=Aside0.mk (below_step (by repeat (first|(with_reducible first|exact HB.out|apply below_alloc|apply pw_below_drewN|apply below_drew1)|exact HB.out)) hb);clear HO112;clear HO117;clear HB;have HO112:=n0_;have HO117:=n1_;have HB:=n2_;clear n0_ n1_ n2_;(try clear hb);(try clear hb2);(try clear hk);(try clear hi))|((with_reducible refine gate_callee (f:=17) rfl ?_);refine goesL_ (some 13) rfl rfl Tryd.func17 (by kernel_rfl) rfl #[.string (⟨#[79,1,2,47,97,1,120,0,3,0,1,4,109,97,105,110,1,3,99,112,117,244,3,0,7]⟩ : ByteArray)] rfl (by (try simp only [List.map_toArray,List.map_cons,List.map_nil]);first|done|rfl|(simp only [List.length_drop,List.length_take];rfl)) ?_;(with_reducible refine (object_DecodeObject.calls (⟨#[79,1,2,47,97,1,120,0,3,0,1,4,109,97,105,110,1,3,99,112,117,244,3,0,7]⟩ : ByteArray) t121 t122 t123 t126 t127 t128 t131 t132 _ A3.out (Glob.below hG (by repeat (first|(with_reducible first|exact HB.out|refine below_set ?_ GE133.out|apply below_alloc|apply pw_below_drewN|apply below_drew1)|exact HB.out)))).mono ?_);rintro e w31 ⟨v124,v129,rfl,ho0,ho1,hb⟩;refine ⟨_,rfl,?_⟩;have n0_:=Aside0.mk (Kd.R_elder' (by (with_reducible repeat (first|apply Kd.R_alloc|apply Kd.R_drewN|apply Kd.R_drew));exact HO112.out) (Kd.R_base ho0) hb);have n1_:=Aside0.mk (Kd.N_mono (Kd.N_told (Kd.N_told (Kd.N_old (by (with_reducible repeat (first|apply Kd.N_alloc|apply Kd.N_drewN|apply Kd.N_drew));exact HO117.out) hb) (Kd.R_base ho0)) (Kd.N_base ho1)) (fun _ h_ => h_.1));have n2_:=Aside0.mk (Kd.R_lower (Kd.R_new' (Kd.R_mono (ok':=fun k_ => True) ho0 (fun _ hk_ => trivial)) (Kd.R_lt (by (with_reducible repeat (first|apply Kd.R_alloc|apply Kd.R_drewN|apply Kd.R_drew));exact HO112.out))) (below_size (by repeat (first|(with_reducible first|exact HB.out|apply below_alloc|apply pw_below_drewN|apply below_drew1)|exact HB.out))));have n3_:=Aside0.mk (Kd.N_lower (Kd.N_mono (ok':=fun k_ => some k_ ≠ (v124 : Value).ownBlock ∧ some k_ ≠ (.slice Ao28 t110.length co28 : Value).ownBlock ∧ some k_ ≠ (.slice Ao29 t115.length co29 : Value).ownBlock) ho1 (fun k_ hk_ => ⟨hk_.2,(Kd.fresh' (Kd.R_lt (by (with_reducible repeat (first|apply Kd.R_alloc|apply Kd.R_drewN|apply Kd.R_drew));exact HO112.out)) k_ hk_.1),(Kd.fresh' (Kd.N_lt (by (with_reducible repeat (first|apply Kd.N_alloc|apply Kd.N_drewN|apply Kd.N_drew));exact HO117.out)) k_ hk_.1)⟩)) (below_size (by repeat (first|(with_reducible first|exact HB.out|apply below_alloc|apply pw_below_drewN|apply below_drew1)|exact HB.out))));have n4_:=Aside0.mk (below_step (by repeat (first|(with_reducible first|exact HB.out|apply below_alloc|apply pw_below_drewN|apply below_drew1)|exact HB.out)) hb);clear HO112;clear HO117;clear HB;have HO112:=n0_;have HO117:=n1_;have HO125:=n2_;have HO130:=n3_;have HB:=n4_;clear n0_ n1_ n2_ n3_ n4_;(try clear hb);(try clear hb2);(try clear hk);(try clear hi);(try clear ho0);(try clear ho1))|((with_reducible refine gate_dst (N:=3) rfl ?_);refine box_event ?hg (N:=3) ?hd (cs:=#[.string (⟨#[]⟩ : ByteArray),.string (⟨#[]⟩ : ByteArray),.slice none 0 0,.int .i64 0,.int .i64 0,.slice none 0 0,.int .i64 0]) (t:=25) ?hr ?_;(case hd => rfl);(case hg => rfl);(case hr => first|(go_simp;done)|(go_simp;rfl));intro gb133 hg w32 hbox hb;have n0_:=Aside0.mk (Kd.R_below (by (with_reducible repeat (first|apply Kd.R_alloc|apply Kd.R_drewN|apply Kd.R_drew));exact HO112.out) hb);have n1_:=Aside0.mk (Kd.N_below (Kd.N_elderB (by (with_reducible repeat (first|apply Kd.N_alloc|apply Kd.N_drewN|apply Kd.N_drew));exact HO117.out) gb133 (Nat.le_of_eq hg.symm)) hb);have n2_:=Aside0.mk (Kd.R_below (by (with_reducible repeat (first|apply Kd.R_alloc|apply Kd.R_drewN|apply Kd.R_drew));exact HO125.out) hb);have n3_:=Aside0.mk (Kd.N_below (Kd.N_elderB (by (with_reducible repeat (first|apply Kd.N_alloc|apply Kd.N_drewN|apply Kd.N_drew));exact HO130.out) gb133 (Nat.le_of_eq hg.symm)) hb);have n4_:=Aside0.mk (below_step (by repeat (first|(with_reducible first|exact HB.out|apply below_alloc|apply pw_below_drewN|apply below_drew1)|exact HB.out)) hb);have n5_:=Aside0.mk (hbox);have n6_:=Aside0.mk ((by rw [hg];exact (below_size (by repeat (first|(with_reducible first|exact HB.out|apply below_alloc|apply pw_below_drewN|apply below_drew1)|exact HB.out))) : w.heap.size ≤ gb133));have n7_:=Aside0.mk ((by rw [hg];exact (below_size (by repeat (first|(with_reducible first|exact HB.out|apply below_alloc|apply pw_below_drewN|apply below_drew1)|exact HB.out))) : w.heap.size ≤ gb133));clear HO112;clear HO117;clear HO125;clear HO130;clear HB;have HO112:=n0_;have HO117:=n1_;have HO125:=n2_;have HO130:=n3_;have HB:=n4_;have BK133:=n5_;have GW133:=n6_;have GE133:=n7_;clear n0_ n1_ n2_ n3_ n4_ n5_ n6_ n7_;clear hb hbox hg;have hcz33_0 : w32.cell? ⟨gb133,0,none⟩ = some (.string (⟨#[]⟩ : ByteArray)):=(blk_cell BK133.out 0).trans rfl;have hcz33_1 : w32.cell? ⟨gb133,1,none⟩ = some (.string (⟨#[]⟩ : ByteArray)):=(blk_cell BK133.out 1).trans rfl;have hcz33_2 : w32.cell? ⟨gb133,2,none⟩ = some (.slice none 0 0):=(blk_cell BK133.out 2).trans rfl;have hcz33_3 : w32.cell? ⟨gb133,3,none⟩ = some (.int .i64 0):=(blk_cell BK133.out 3).trans rfl;have hcz33_4 : w32.cell? ⟨gb133,4,none⟩ = some (.int .i64 0):=(blk_cell BK133.out 4).trans rfl;have hcz33_5 : w32.cell? ⟨gb133,5,none⟩ = some (.slice none 0 0):=(blk_cell BK133.out 5).trans rfl;have hcz33_6 : w32.cell? ⟨gb133,6,none⟩ = some (.int .i64 0):=(blk_cell BK133.out 6).trans rfl;have hfz33_0:=blk_frozen BK133.out 0;have hfz33_1:=blk_frozen BK133.out 1;have hfz33_2:=blk_frozen BK133.out 2;have hfz33_3:=blk_frozen BK133.out 3;have hfz33_4:=blk_frozen BK133.out 4;have hfz33_5:=blk_frozen BK133.out 5;have hfz33_6:=blk_frozen BK133.out 6;obtain ⟨Ao34,co34,eo34⟩:=Kd.R_slice HO125.out;subst eo34;obtain ⟨Ao35,co35,eo35⟩:=Kd.N_slice HO130.out;subst eo35)|((with_reducible refine gate_callee (f:=11) rfl ?_);refine goesL_ (some 17) rfl rfl Tryd.func11 (by kernel_rfl) rfl #[.int .i64 3,.string (⟨#[47,97]⟩ : ByteArray),.string (⟨#[120]⟩ : ByteArray)] rfl (by (try simp only [List.map_toArray,List.map_cons,List.map_nil]);first|done|rfl|(simp only [List.length_drop,List.length_take];rfl)) ?_;(with_reducible refine (object_Key.calls 3 (⟨#[47,97]⟩ : ByteArray) (⟨#[120]⟩ : ByteArray) t134 t135 _ A4.out (Glob.below hG (by repeat (first|(with_reducible first|exact HB.out|refine below_set ?_ GE133.out|apply below_alloc|apply pw_below_drewN|apply below_drew1)|exact HB.out)))).mono ?_);rintro e w36 ⟨rfl,hb⟩;refine ⟨_,rfl,?_⟩;have n0_:=Aside0.mk (Kd.R_below (by (with_reducible repeat (first|apply Kd.R_alloc|apply Kd.R_drewN|apply Kd.R_drew));exact (Kd.R_mono (Kd.R_far (p:=⟨gb133,6,none⟩) (Kd.R_far (p:=⟨gb133,5,none⟩) (Kd.R_far (p:=⟨gb133,4,none⟩) (Kd.R_far (p:=⟨gb133,3,none⟩) (Kd.R_far (p:=⟨gb133,2,none⟩) (Kd.R_far (p:=⟨gb133,1,none⟩) (Kd.R_far (p:=⟨gb133,0,none⟩) (Kd.R_types HO112.out BK133.out (by decide)) (fun _ hk => hk.2) (.string t121)) (fun _ hk => hk.2) (.string t122)) (fun _ hk => hk.2) (.slice Ao34 t123.length co34)) (fun _ hk => hk.2) (.int .i64 t126)) (fun _ hk => hk.2) (.int .i64 t127)) (fun _ hk => hk.2) (.slice Ao35 t128.length co35)) (fun _ hk => hk.2) (.int .i64 t131)) (fun _ h_ => h_.1))) hb);have n1_:=Aside0.mk (Kd.N_below (by (with_reducible repeat (first|apply Kd.N_alloc|apply Kd.N_drewN|apply Kd.N_drew));exact (Kd.N_mono (Kd.N_far (p:=⟨gb133,6,none⟩) (Kd.N_far (p:=⟨gb133,5,none⟩) (Kd.N_far (p:=⟨gb133,4,none⟩) (Kd.N_far (p:=⟨gb133,3,none⟩) (Kd.N_far (p:=⟨gb133,2,none⟩) (Kd.N_far (p:=⟨gb133,1,none⟩) (Kd.N_far (p:=⟨gb133,0,none⟩) (Kd.N_mono HO117.out (fun k_ hk => (⟨hk,hk.2⟩ : _ ∧ k_ ≠ gb133))) (fun _ hk => hk.2) (.string t121)) (fun _ hk => hk.2) (.string t122)) (fun _ hk => hk.2) (.slice Ao34 t123.length co34)) (fun _ hk => hk.2) (.int .i64 t126)) (fun _ hk => hk.2) (.int .i64 t127)) (fun _ hk => hk.2) (.slice Ao35 t128.length co35)) (fun _ hk => hk.2) (.int .i64 t131)) (fun _ h_ => h_.1))) hb);have n2_:=Aside0.mk (Kd.R_below (by (with_reducible repeat (first|apply Kd.R_alloc|apply Kd.R_drewN|apply Kd.R_drew));exact (Kd.R_mono (Kd.R_far (p:=⟨gb133,6,none⟩) (Kd.R_far (p:=⟨gb133,5,none⟩) (Kd.R_far (p:=⟨gb133,4,none⟩) (Kd.R_far (p:=⟨gb133,3,none⟩) (Kd.R_far (p:=⟨gb133,2,none⟩) (Kd.R_far (p:=⟨gb133,1,none⟩) (Kd.R_far (p:=⟨gb133,0,none⟩) (Kd.R_types HO125.out BK133.out (by decide)) (fun _ hk => hk.2) (.string t121)) (fun _ hk => hk.2) (.string t122)) (fun _ hk => hk.2) (.slice Ao34 t123.length co34)) (fun _ hk => hk.2) (.int .i64 t126)) (fun _ hk => hk.2) (.int .i64 t127)) (fun _ hk => hk.2) (.slice Ao35 t128.length co35)) (fun _ hk => hk.2) (.int .i64 t131)) (fun _ h_ => h_.1))) hb);have n3_:=Aside0.mk (Kd.N_below (by (with_reducible repeat (first|apply Kd.N_alloc|apply Kd.N_drewN|apply Kd.N_drew));exact (Kd.N_mono (Kd.N_far (p:=⟨gb133,6,none⟩) (Kd.N_far (p:=⟨gb133,5,none⟩) (Kd.N_far (p:=⟨gb133,4,none⟩) (Kd.N_far (p:=⟨gb133,3,none⟩) (Kd.N_far (p:=⟨gb133,2,none⟩) (Kd.N_far (p:=⟨gb133,1,none⟩) (Kd.N_far (p:=⟨gb133,0,none⟩) (Kd.N_mono HO130.out (fun k_ hk => (⟨hk,hk.2⟩ : _ ∧ k_ ≠ gb133))) (fun _ hk => hk.2) (.string t121)) (fun _ hk => hk.2) (.string t122)) (fun _ hk => hk.2) (.slice Ao34 t123.length co34)) (fun _ hk => hk.2) (.int .i64 t126)) (fun _ hk => hk.2) (.int .i64 t127)) (fun _ hk => hk.2) (.slice Ao35 t128.length co35)) (fun _ hk => hk.2) (.int .i64 t131)) (fun _ h_ => h_.1))) hb);have n4_:=Aside0.mk (blk_below (g:=gb133) (o:=.cells #[.string t121,.string t122,.slice Ao34 t123.length co34,.int .i64 t126,.int .i64 t127,.slice Ao35 t128.length co35,.int .i64 t131] 25 (0,0)) (by (with_reducible repeat (first|refine blk_drewN ?_ _|refine blk_drew ?_|refine blk_alloc ?_ _));refine blk_put (cs:=#[.string t121,.string t122,.slice Ao34 t123.length co34,.int .i64 t126,.int .i64 t127,.slice Ao35 t128.length co35,.int .i64 0]) ?_ 6 _ rfl;(with_reducible repeat (first|refine blk_drewN ?_ _|refine blk_drew ?_|refine blk_alloc ?_ _));refine blk_put (cs:=#[.string t121,.string t122,.slice Ao34 t123.length co34,.int .i64 t126,.int .i64 t127,.slice none 0 0,.int .i64 0]) ?_ 5 _ rfl;(with_reducible repeat (first|refine blk_drewN ?_ _|refine blk_drew ?_|refine blk_alloc ?_ _));refine blk_put (cs:=#[.string t121,.string t122,.slice Ao34 t123.length co34,.int .i64 t126,.int .i64 0,.slice none 0 0,.int .i64 0]) ?_ 4 _ rfl;(with_reducible repeat (first|refine blk_drewN ?_ _|refine blk_drew ?_|refine blk_alloc ?_ _));refine blk_put (cs:=#[.string t121,.string t122,.slice Ao34 t123.length co34,.int .i64 0,.int .i64 0,.slice none 0 0,.int .i64 0]) ?_ 3 _ rfl;(with_reducible repeat (first|refine blk_drewN ?_ _|refine blk_drew ?_|refine blk_alloc ?_ _));refine blk_put (cs:=#[.string t121,.string t122,.slice none 0 0,.int .i64 0,.int .i64 0,.slice none 0 0,.int .i64 0]) ?_ 2 _ rfl;(with_reducible repeat (first|refine blk_drewN ?_ _|refine blk_drew ?_|refine blk_alloc ?_ _));refine blk_put (cs:=#[.string t121,.string (⟨#[]⟩ : ByteArray),.slice none 0 0,.int .i64 0,.int .i64 0,.slice none 0 0,.int .i64 0]) ?_ 1 _ rfl;(with_reducible repeat (first|refine blk_drewN ?_ _|refine blk_drew ?_|refine blk_alloc ?_ _));refine blk_put (cs:=#[.string (⟨#[]⟩ : ByteArray),.string (⟨#[]⟩ : ByteArray),.slice none 0 0,.int .i64 0,.int .i64 0,.slice none 0 0,.int .i64 0]) ?_ 0 _ rfl;(with_reducible repeat (first|refine blk_drewN ?_ _|refine blk_drew ?_|refine blk_alloc ?_ _));exact BK133.out) hb);have n5_:=Aside0.mk (below_step (by repeat (first|(with_reducible first|exact HB.out|apply below_alloc|apply pw_below_drewN|apply below_drew1|refine below_set ?_ GE133.out)|exact HB.out)) hb);clear HO112;clear HO117;clear HO125;clear HO130;clear BK133;clear HB;have HO112:=n0_;have HO117:=n1_;have HO125:=n2_;have HO130:=n3_;have BK133:=n4_;have HB:=n5_;clear n0_ n1_ n2_ n3_ n4_ n5_;(try clear hb);(try clear hb2);(try clear hk);(try clear hi)))
  have n0_:=Aside0.mk (Kd.R_drew HO112.out)
  have n1_:=Aside0.mk (Kd.N_drew HO117.out)
  have n2_:=Aside0.mk (Kd.R_drew HO125.out)
  have n3_:=Aside0.mk (Kd.N_drew HO130.out)
  have n4_:=Aside0.mk (blk_drew BK133.out)
  have n5_:=Aside0.mk (below_drew1 HB.out)
  clear HO112;clear HO117;clear HO125;clear HO130;clear BK133;clear HB;have HO112:=n0_;have HO117:=n1_;have HO125:=n2_;have HO130:=n3_;have BK133:=n4_;have HB:=n5_;clear n0_ n1_ n2_ n3_ n4_ n5_
  refine start_ (n:=24) (S:=fun w' => w'.cell? ⟨gb133,0,none⟩ = some (.string t121) ∧ w'.cell? ⟨gb133,1,none⟩ = some (.string t122) ∧ w'.cell? ⟨gb133,2,none⟩ = some (.slice Ao34 t123.length co34) ∧ w'.cell? ⟨gb133,3,none⟩ = some (.int .i64 t126) ∧ w'.cell? ⟨gb133,4,none⟩ = some (.int .i64 t127) ∧ w'.cell? ⟨gb133,5,none⟩ = some (.slice Ao35 t128.length co35) ∧ w'.cell? ⟨gb133,6,none⟩ = some (.int .i64 t131)) (ds:=[]) (bl 0 24) (by kernel_rfl) rfl rfl ⟨(blk_cell BK133.out 0).trans rfl,(blk_cell BK133.out 1).trans rfl,(blk_cell BK133.out 2).trans rfl,(blk_cell BK133.out 3).trans rfl,(blk_cell BK133.out 4).trans rfl,(blk_cell BK133.out 5).trans rfl,(blk_cell BK133.out 6).trans rfl⟩ (fun hHeld => ?_);refine with_tabW bursarlaw13_fixed.tab4 bursarlaw13_fixed.bits4 (fun HT_ HW_ => ?_)
  generalize w36.drew = w37 at HO112 HO117 HO125 HO130 BK133 HB hHeld ⊢
  refine pure_ (i:=0) (N:=some 20) (v:=?_) (a':=?_) (bl 1 23) rfl rfl (any_of HT_.out (by kernel_rfl)) (fun _ _ _ h => h) (Or.inl ⟨by rfl,?_⟩) ?_ ?_
  rotate_left;·intro w';go_simp;with_reducible rfl
  rotate_left;·simp only [pu_];rfl
  refine pure_ (i:=1) (N:=some 21) (v:=?_) (a':=?_) (bl 2 22) rfl rfl (any_of HT_.out (by kernel_rfl)) (fun _ _ _ h => h) (Or.inl ⟨by rfl,?_⟩) ?_ ?_
  rotate_left;·intro w';go_simp;with_reducible rfl
  rotate_left;·simp only [pu_];rfl
  refine pure_ (i:=2) (N:=some 22) (v:=?_) (a':=?_) (bl 3 21) rfl rfl (any_of HT_.out (by kernel_rfl)) (fun _ _ _ h => h) (Or.inl ⟨by rfl,?_⟩) ?_ ?_
  rotate_left;·intro w';go_simp;with_reducible rfl
  rotate_left;·simp only [pu_];rfl
  refine pure_ (i:=3) (N:=some 23) (v:=?_) (a':=?_) (bl 4 20) rfl rfl (any_of HT_.out (by kernel_rfl)) (fun _ _ _ h => h) (Or.inl ⟨by rfl,?_⟩) ?_ ?_
  rotate_left;·intro w';go_simp;with_reducible rfl
  rotate_left;·simp only [pu_];rfl
  refine pure_ (i:=4) (N:=some 24) (v:=?_) (a':=?_) (bl 5 19) rfl rfl (any_of HT_.out (by kernel_rfl)) (fun _ _ _ h => h) (Or.inl ⟨by rfl,?_⟩) ?_ ?_
  rotate_left;·intro w';go_simp;with_reducible rfl
  rotate_left;·simp only [pu_];rfl
  refine pure_ (i:=5) (N:=some 25) (v:=?_) (a':=?_) (bl 6 18) rfl rfl (any_of HT_.out (by kernel_rfl)) (fun _ _ _ h => h) (Or.inl ⟨by rfl,?_⟩) ?_ ?_
  rotate_left;·intro w';go_simp;with_reducible rfl
  rotate_left;·simp only [pu_];rfl
  refine pure_ (i:=6) (N:=some 26) (v:=?_) (a':=?_) (bl 7 17) rfl rfl (any_of HT_.out (by kernel_rfl)) (fun _ _ _ h => h) (Or.inl ⟨by rfl,?_⟩) ?_ ?_
  rotate_left;·intro w';go_simp;with_reducible rfl
  rotate_left;·simp only [pu_];rfl
  refine pure_ (i:=7) (N:=some 27) (v:=?_) (a':=?_) (bl 8 16) rfl rfl (any_of HT_.out (by kernel_rfl)) (fun _ _ _ h => h) (Or.inl ⟨by rfl,?_⟩) ?_ ?_
  rotate_left;·intro w';go_simp;with_reducible rfl
  rotate_left;·simp only [pu_];rfl
  refine pure_ (i:=8) (N:=some 28) (v:=?_) (a':=?_) (bl 9 15) rfl rfl (any_of HT_.out (by kernel_rfl)) (fun _ _ _ h => h) (Or.inl ⟨by rfl,?_⟩) ?_ ?_
  rotate_left;·intro w';go_simp;with_reducible rfl
  rotate_left;·simp only [pu_];rfl
  refine pure_ (i:=9) (N:=some 29) (v:=?_) (a':=?_) (bl 10 14) rfl rfl (any_of HT_.out (by kernel_rfl)) (fun _ _ _ h => h) (Or.inl ⟨by rfl,?_⟩) ?_ ?_
  rotate_left;·intro w';go_simp;with_reducible rfl
  rotate_left;·simp only [pu_];rfl
  refine pure_ (i:=10) (N:=some 30) (v:=?_) (a':=?_) (bl 11 13) rfl rfl (any_of HT_.out (by kernel_rfl)) (fun _ _ _ h => h) (Or.inl ⟨by rfl,?_⟩) ?_ ?_
  rotate_left;·intro w';go_simp;with_reducible rfl
  rotate_left;·simp only [pu_];rfl
  refine take_ (i:=11) (N:=some 31) (v:=?_) (a':=?_) (bl 12 12) rfl rfl (take_ofW HT_.out HW_.out (by kernel_rfl)) (fun _ _ _ h => h) (Or.inl ⟨by rfl,?_⟩) hHeld ?_ ?_
  rotate_left
  ·rintro w' ⟨s0,s1,s2,s3,s4,s5,s6⟩
   go_simp
   with_reducible rfl
  rotate_left
  ·simp only [pu_]
   rfl
  refine one_ (i:=12) (N:=some 32) (bl 13 11) rfl rfl (one_of HT_.out (by kernel_rfl)) (by decide) (fun K hK => ?_)
  refine goes_ Tryd.func16 (by kernel_rfl) rfl #[] (by rfl) rfl rfl (by (try simp only [List.map_toArray,List.map_cons,List.map_nil]);first|done|rfl|(simp only [List.length_drop,List.length_take];rfl)) ?_
  with_reducible refine (bursarlaw13_small.calls  t136 t137 t138 t141 t142 t143 t146 _ A8.out).mono ?_
  rintro e w38 ⟨v139,v144,rfl,ho0,ho1,hb⟩
  refine ⟨_,rfl,?_⟩
  have n0_:=Aside0.mk (Kd.R_elder' (by (with_reducible repeat (first|apply Kd.R_alloc|apply Kd.R_drewN|apply Kd.R_drew));exact HO112.out) (Kd.R_base ho0) hb)
  have n1_:=Aside0.mk (Kd.N_mono (Kd.N_told (Kd.N_told (Kd.N_old (by (with_reducible repeat (first|apply Kd.N_alloc|apply Kd.N_drewN|apply Kd.N_drew));exact HO117.out) hb) (Kd.R_base ho0)) (Kd.N_base ho1)) (fun _ h_ => h_.1))
  have n2_:=Aside0.mk (Kd.R_elder' (by (with_reducible repeat (first|apply Kd.R_alloc|apply Kd.R_drewN|apply Kd.R_drew));exact HO125.out) (Kd.R_base ho0) hb)
  have n3_:=Aside0.mk (Kd.N_mono (Kd.N_told (Kd.N_told (Kd.N_old (by (with_reducible repeat (first|apply Kd.N_alloc|apply Kd.N_drewN|apply Kd.N_drew));exact HO130.out) hb) (Kd.R_base ho0)) (Kd.N_base ho1)) (fun _ h_ => h_.1))
  have n4_:=Aside0.mk (Kd.R_lower (Kd.R_new' (Kd.R_new' (Kd.R_mono (ok':=fun k_ => True) ho0 (fun _ hk_ => trivial)) (Kd.R_lt (by (with_reducible repeat (first|apply Kd.R_alloc|apply Kd.R_drewN|apply Kd.R_drew));exact HO112.out))) (Kd.R_lt (by (with_reducible repeat (first|apply Kd.R_alloc|apply Kd.R_drewN|apply Kd.R_drew));exact HO125.out))) (below_size (by repeat (first|(with_reducible first|exact HB.out|apply below_alloc|apply pw_below_drewN|apply below_drew1|refine below_set ?_ GE133.out)|exact HB.out))))
  have n5_:=Aside0.mk (Kd.N_lower (Kd.N_mono (ok':=fun k_ => some k_ ≠ (v139 : Value).ownBlock ∧ some k_ ≠ (.slice Ao28 t110.length co28 : Value).ownBlock ∧ some k_ ≠ (.slice Ao29 t115.length co29 : Value).ownBlock ∧ some k_ ≠ (.slice Ao34 t123.length co34 : Value).ownBlock ∧ some k_ ≠ (.slice Ao35 t128.length co35 : Value).ownBlock ∧ k_ ≠ gb133) ho1 (fun k_ hk_ => ⟨hk_.2,(Kd.fresh' (Kd.R_lt (by (with_reducible repeat (first|apply Kd.R_alloc|apply Kd.R_drewN|apply Kd.R_drew));exact HO112.out)) k_ hk_.1),(Kd.fresh' (Kd.N_lt (by (with_reducible repeat (first|apply Kd.N_alloc|apply Kd.N_drewN|apply Kd.N_drew));exact HO117.out)) k_ hk_.1),(Kd.fresh' (Kd.R_lt (by (with_reducible repeat (first|apply Kd.R_alloc|apply Kd.R_drewN|apply Kd.R_drew));exact HO125.out)) k_ hk_.1),(Kd.fresh' (Kd.N_lt (by (with_reducible repeat (first|apply Kd.N_alloc|apply Kd.N_drewN|apply Kd.N_drew));exact HO130.out)) k_ hk_.1),(Kd.freshB (g:=gb133) (o:=.cells #[.string t121,.string t122,.slice Ao34 t123.length co34,.int .i64 t126,.int .i64 t127,.slice Ao35 t128.length co35,.int .i64 t131] 25 (0,0)) (by (with_reducible repeat (first|refine blk_drewN ?_ _|refine blk_drew ?_|refine blk_alloc ?_ _));exact BK133.out) k_ hk_.1)⟩)) (below_size (by repeat (first|(with_reducible first|exact HB.out|apply below_alloc|apply pw_below_drewN|apply below_drew1|refine below_set ?_ GE133.out)|exact HB.out))))
  have n6_:=Aside0.mk (blk_below (g:=gb133) (o:=.cells #[.string t121,.string t122,.slice Ao34 t123.length co34,.int .i64 t126,.int .i64 t127,.slice Ao35 t128.length co35,.int .i64 t131] 25 (0,0)) (by (with_reducible repeat (first|refine blk_drewN ?_ _|refine blk_drew ?_|refine blk_alloc ?_ _));exact BK133.out) hb)
  have n7_:=Aside0.mk (below_step (by repeat (first|(with_reducible first|exact HB.out|apply below_alloc|apply pw_below_drewN|apply below_drew1|refine below_set ?_ GE133.out)|exact HB.out)) hb)
  clear HO112;clear HO117;clear HO125;clear HO130;clear BK133;clear HB;have HO112:=n0_;have HO117:=n1_;have HO125:=n2_;have HO130:=n3_;have HO140:=n4_;have HO145:=n5_;have BK133:=n6_;have HB:=n7_;clear n0_ n1_ n2_ n3_ n4_ n5_ n6_ n7_;(try clear hb);(try clear hb2);(try clear hk);(try clear hi);(try clear ho0);(try clear ho1)
  obtain ⟨Ao39,co39,eo39⟩:=Kd.R_slice HO140.out
  (first|subst eo39|(injection eo39 with f1_ f2_ f3_;have f4_:=f1_.symm;have f5_:=f3_.symm;clear f1_ f2_ f3_;subst f4_;subst f5_))
  obtain ⟨Ao40,co40,eo40⟩:=Kd.N_slice HO145.out
  (first|subst eo40|(injection eo40 with f1_ f2_ f3_;have f4_:=f1_.symm;have f5_:=f3_.symm;clear f1_ f2_ f3_;subst f4_;subst f5_))
  refine hK.out _ _ ⟨(blk_cell BK133.out 0).trans rfl,(blk_cell BK133.out 1).trans rfl,(blk_cell BK133.out 2).trans rfl,(blk_cell BK133.out 3).trans rfl,(blk_cell BK133.out 4).trans rfl,(blk_cell BK133.out 5).trans rfl,(blk_cell BK133.out 6).trans rfl⟩ (fun hHeld => ?_)
  clear hK K
  refine norm_ (a':=?_) ?_ ?_
  rotate_left
  ·show Act.put _ (some 32) _ = _
   simp only [pu_]
   rfl
  refine one_ (i:=13) (N:=some 33) (bl 14 10) rfl rfl (one_of HT_.out (by kernel_rfl)) (by decide) (fun K hK => ?_)
  refine goes_ Tryd.func18 (by kernel_rfl) rfl #[.agg #[.string t121,.string t122,.slice Ao34 t123.length co34,.int .i64 t126,.int .i64 t127,.slice Ao35 t128.length co35,.int .i64 t131],.agg #[.string t136,.string t137,.slice Ao39 t138.length co39,.int .i64 t141,.int .i64 t142,.slice Ao40 t143.length co40,.int .i64 t146]] (by rfl) rfl rfl (by (try simp only [List.map_toArray,List.map_cons,List.map_nil]);first|done|rfl|(simp only [List.length_drop,List.length_take];rfl)) ?_
  with_reducible refine (bursarlaw13_sameObject.calls t121 t122 _ _ t123 t126 t127 _ _ t128 t131 t136 t137 _ _ t138 t141 t142 _ _ t143 t146 true _ ?side1 ?side2 ?side3 ?side4 ?side5 ?side6 ?side7 ?side8 A9.out).mono ?_
  (case side1 => repeat (first|exact (Kd.R_reads' HO125.out).2.2|(with_reducible refine Kd.C_alloc ?_ _)|(with_reducible refine Kd.C_drewN ?_ _)|(with_reducible refine Kd.C_drew ?_)))
  (case side2 => exact (Kd.R_reads' HO125.out).2.1)
  (case side3 => repeat (first|exact (Kd.N_reads' HO130.out).2.2|(with_reducible refine Kd.C_alloc ?_ _)|(with_reducible refine Kd.C_drewN ?_ _)|(with_reducible refine Kd.C_drew ?_)))
  (case side4 => exact (Kd.N_reads' HO130.out).2.1)
  (case side5 => repeat (first|exact (Kd.R_reads' HO140.out).2.2|(with_reducible refine Kd.C_alloc ?_ _)|(with_reducible refine Kd.C_drewN ?_ _)|(with_reducible refine Kd.C_drew ?_)))
  (case side6 => exact (Kd.R_reads' HO140.out).2.1)
  (case side7 => repeat (first|exact (Kd.N_reads' HO145.out).2.2|(with_reducible refine Kd.C_alloc ?_ _)|(with_reducible refine Kd.C_drewN ?_ _)|(with_reducible refine Kd.C_drew ?_)))
  (case side8 => exact (Kd.N_reads' HO145.out).2.1)
  rintro e w41 ⟨rfl,hb⟩
  refine ⟨_,rfl,?_⟩
  have n0_:=Aside0.mk (Kd.R_below (by (with_reducible repeat (first|apply Kd.R_alloc|apply Kd.R_drewN|apply Kd.R_drew));exact HO112.out) hb)
  have n1_:=Aside0.mk (Kd.N_below (by (with_reducible repeat (first|apply Kd.N_alloc|apply Kd.N_drewN|apply Kd.N_drew));exact HO117.out) hb)
  have n2_:=Aside0.mk (Kd.R_below (by (with_reducible repeat (first|apply Kd.R_alloc|apply Kd.R_drewN|apply Kd.R_drew));exact HO125.out) hb)
  have n3_:=Aside0.mk (Kd.N_below (by (with_reducible repeat (first|apply Kd.N_alloc|apply Kd.N_drewN|apply Kd.N_drew));exact HO130.out) hb)
  have n4_:=Aside0.mk (Kd.R_below (by (with_reducible repeat (first|apply Kd.R_alloc|apply Kd.R_drewN|apply Kd.R_drew));exact HO140.out) hb)
  have n5_:=Aside0.mk (Kd.N_below (by (with_reducible repeat (first|apply Kd.N_alloc|apply Kd.N_drewN|apply Kd.N_drew));exact HO145.out) hb)
  have n6_:=Aside0.mk (blk_below (g:=gb133) (o:=.cells #[.string t121,.string t122,.slice Ao34 t123.length co34,.int .i64 t126,.int .i64 t127,.slice Ao35 t128.length co35,.int .i64 t131] 25 (0,0)) (by (with_reducible repeat (first|refine blk_drewN ?_ _|refine blk_drew ?_|refine blk_alloc ?_ _));exact BK133.out) hb)
  have n7_:=Aside0.mk (below_step (by repeat (first|(with_reducible first|exact HB.out|apply below_alloc|apply pw_below_drewN|apply below_drew1|refine below_set ?_ GE133.out)|exact HB.out)) hb)
  clear HO112;clear HO117;clear HO125;clear HO130;clear HO140;clear HO145;clear BK133;clear HB;have HO112:=n0_;have HO117:=n1_;have HO125:=n2_;have HO130:=n3_;have HO140:=n4_;have HO145:=n5_;have BK133:=n6_;have HB:=n7_;clear n0_ n1_ n2_ n3_ n4_ n5_ n6_ n7_;(try clear hb);(try clear hb2);(try clear hk);(try clear hi)
  refine hK.out _ _ ⟨(blk_cell BK133.out 0).trans rfl,(blk_cell BK133.out 1).trans rfl,(blk_cell BK133.out 2).trans rfl,(blk_cell BK133.out 3).trans rfl,(blk_cell BK133.out 4).trans rfl,(blk_cell BK133.out 5).trans rfl,(blk_cell BK133.out 6).trans rfl⟩ (fun hHeld => ?_)
  clear hK K
  refine norm_ (a':=?_) ?_ ?_
  rotate_left
  ·show Act.put _ (some 33) _ = _
   simp only [pu_]
   rfl
  refine pure_ (i:=14) (N:=some 34) (v:=?_) (a':=?_) (bl 15 9) rfl rfl (any_of HT_.out (by kernel_rfl)) (fun _ _ _ h => h) (Or.inl ⟨by rfl,?_⟩) ?_ ?_
  rotate_left;·intro w';go_simp;with_reducible rfl
  rotate_left;·simp only [pu_];rfl
  refine pure_ (i:=15) (N:=some 35) (v:=?_) (a':=?_) (bl 16 8) rfl rfl (any_of HT_.out (by kernel_rfl)) (fun _ _ _ h => h) (Or.inl ⟨by rfl,?_⟩) ?_ ?_
  rotate_left;·intro w';go_simp;with_reducible rfl
  rotate_left;·simp only [pu_];rfl
  refine pure_ (i:=16) (N:=some 36) (v:=?_) (a':=?_) (bl 17 7) rfl rfl (any_of HT_.out (by kernel_rfl)) (fun _ _ _ h => h) (Or.inl ⟨by rfl,?_⟩) ?_ ?_
  rotate_left;·intro w';go_simp;with_reducible rfl
  rotate_left;·simp only [pu_];rfl
  refine pure_ (i:=17) (N:=some 37) (v:=?_) (a':=?_) (bl 18 6) rfl rfl (any_of HT_.out (by kernel_rfl)) (fun _ _ _ h => h) (Or.inl ⟨by rfl,?_⟩) ?_ ?_
  rotate_left;·intro w';go_simp;with_reducible rfl
  rotate_left;·simp only [pu_];rfl
  refine pure_ (i:=18) (N:=some 38) (v:=?_) (a':=?_) (bl 19 5) rfl rfl (any_of HT_.out (by kernel_rfl)) (fun _ _ _ h => h) (Or.inl ⟨by rfl,?_⟩) ?_ ?_
  rotate_left;·intro w';go_simp;with_reducible rfl
  rotate_left;·simp only [pu_];rfl
  refine pure_ (i:=19) (N:=some 39) (v:=?_) (a':=?_) (bl 20 4) rfl rfl (any_of HT_.out (by kernel_rfl)) (fun _ _ _ h => h) (Or.inl ⟨by rfl,?_⟩) ?_ ?_
  rotate_left;·intro w';go_simp;with_reducible rfl
  rotate_left;·simp only [pu_];rfl
  refine pure_ (i:=20) (N:=some 40) (v:=undef) (a':=?_) (bl 21 3) rfl rfl (any_of HT_.out (by kernel_rfl)) (fun _ _ _ h => h) (Or.inr ⟨by rfl,rfl⟩) ?_ ?_
  rotate_left
  ·simp only [pu_]
   rfl
  refine pure_ (i:=21) (N:=some 41) (v:=undef) (a':=?_) (bl 22 2) rfl rfl (any_of HT_.out (by kernel_rfl)) (fun _ _ _ h => h) (Or.inr ⟨by rfl,rfl⟩) ?_ ?_
  rotate_left
  ·simp only [pu_]
   rfl
  refine pure_ (i:=22) (N:=some 42) (v:=?_) (a':=?_) (bl 23 1) rfl rfl (any_of HT_.out (by kernel_rfl)) (fun _ _ _ h => h) (Or.inl ⟨by rfl,?_⟩) ?_ ?_
  rotate_left;·intro w';go_simp;with_reducible rfl
  rotate_left;·simp only [pu_];rfl
  refine pure_ (i:=23) (N:=some 0) (v:=?_) (a':=?_) (bl 24 0) rfl rfl (any_of HT_.out (by kernel_rfl)) (fun _ _ _ h => h) (Or.inl ⟨by rfl,?_⟩) ?_ ?_
  rotate_left;·intro w';go_simp;with_reducible rfl
  rotate_left;·simp only [pu_];rfl
  refine done_ (done_of HT_.out (by kernel_rfl)) ?_
  try go_wp2
  go_ret
  exact ⟨by first|rfl|(simp [errW_none,errW_some] <;> rfl)|(simp [*,errW_none,errW_some] <;> rfl),by repeat (first|(with_reducible first|exact HB.out|apply below_alloc|apply pw_below_drewN|apply below_drew1|refine below_set ?_ GE133.out)|exact HB.out)⟩
 rw [if_pos c11] at H
 have c11b0 : (t135 == 0) = true:=beq_iff_eq.mpr c11
 have c11b1 : (t135 != 0) = false:=bne_eq_false_iff_eq.mpr c11
 clear c11
 obtain rfl:=Option.some.inj H
 go_enter Tryd.func6,Tryd.ntmps6
 try go_wp2_with (first|((with_reducible refine gate_callee (f:=16) rfl ?_);refine goesL_ (some 8) rfl rfl Tryd.func16 (by kernel_rfl) rfl #[] rfl (by (try simp only [List.map_toArray,List.map_cons,List.map_nil]);first|done|rfl|(simp only [List.length_drop,List.length_take];rfl)) ?_;(with_reducible refine (bursarlaw13_small.calls  t108 t109 t110 t113 t114 t115 t118 _ A1.out).mono ?_);rintro e w12 ⟨v111,v116,rfl,ho0,ho1,hb⟩;refine ⟨_,rfl,?_⟩;have n0_:=Aside0.mk (Kd.R_lower (Kd.R_mono (ok':=fun k_ => True) ho0 (fun _ hk_ => trivial)) (below_size (by repeat (first|(with_reducible first|exact HB.out|apply below_alloc|apply pw_below_drewN|apply below_drew1)|exact HB.out))));have n1_:=Aside0.mk (Kd.N_lower (Kd.N_mono (ok':=fun k_ => some k_ ≠ (v111 : Value).ownBlock) ho1 (fun k_ hk_ => hk_.2)) (below_size (by repeat (first|(with_reducible first|exact HB.out|apply below_alloc|apply pw_below_drewN|apply below_drew1)|exact HB.out))));have n2_:=Aside0.mk (below_step (by repeat (first|(with_reducible first|exact HB.out|apply below_alloc|apply pw_below_drewN|apply below_drew1)|exact HB.out)) hb);clear HB;have HO112:=n0_;have HO117:=n1_;have HB:=n2_;clear n0_ n1_ n2_;(try clear hb);(try clear hb2);(try clear hk);(try clear hi);(try clear ho0);(try clear ho1);obtain ⟨Ao13,co13,eo13⟩:=Kd.R_slice HO112.out;subst eo13;obtain ⟨Ao14,co14,eo14⟩:=Kd.N_slice HO117.out;subst eo14)|((with_reducible refine gate_callee (f:=9) rfl ?_);refine goesL_ (some 9) rfl rfl Tryd.func9 (by kernel_rfl) rfl #[.agg #[.string t108,.string t109,.slice Ao13 t110.length co13,.int .i64 t113,.int .i64 t114,.slice Ao14 t115.length co14,.int .i64 t118]] rfl (by (try simp only [List.map_toArray,List.map_cons,List.map_nil]);first|done|rfl|(simp only [List.length_drop,List.length_take];rfl)) ?_;(with_reducible refine (object_EncodeObject.calls t108 t109 _ _ t110 t113 t114 _ _ t115 t118 t119 t120 _ ?side1 ?side2 ?side3 ?side4 A2.out (Glob.below hG (by repeat (first|(with_reducible first|exact HB.out|refine below_set ?_ GE133.out|apply below_alloc|apply pw_below_drewN|apply below_drew1)|exact HB.out)))).mono ?_);(case side1 => repeat (first|exact (Kd.R_reads' HO112.out).2.2|(with_reducible refine Kd.C_alloc ?_ _)|(with_reducible refine Kd.C_drewN ?_ _)|(with_reducible refine Kd.C_drew ?_)));(case side2 => exact (Kd.R_reads' HO112.out).2.1);(case side3 => repeat (first|exact (Kd.N_reads' HO117.out).2.2|(with_reducible refine Kd.C_alloc ?_ _)|(with_reducible refine Kd.C_drewN ?_ _)|(with_reducible refine Kd.C_drew ?_)));(case side4 => exact (Kd.N_reads' HO117.out).2.1);rintro e w15 ⟨rfl,hb⟩;refine ⟨_,rfl,?_⟩;have n0_:=Aside0.mk (Kd.R_below (by (with_reducible repeat (first|apply Kd.R_alloc|apply Kd.R_drewN|apply Kd.R_drew));exact HO112.out) hb);have n1_:=Aside0.mk (Kd.N_below (by (with_reducible repeat (first|apply Kd.N_alloc|apply Kd.N_drewN|apply Kd.N_drew));exact HO117.out) hb);have n2_:=Aside0.mk (below_step (by repeat (first|(with_reducible first|exact HB.out|apply below_alloc|apply pw_below_drewN|apply below_drew1)|exact HB.out)) hb);clear HO112;clear HO117;clear HB;have HO112:=n0_;have HO117:=n1_;have HB:=n2_;clear n0_ n1_ n2_;(try clear hb);(try clear hb2);(try clear hk);(try clear hi))|((with_reducible refine gate_callee (f:=17) rfl ?_);refine goesL_ (some 13) rfl rfl Tryd.func17 (by kernel_rfl) rfl #[.string (⟨#[79,1,2,47,97,1,120,0,3,0,1,4,109,97,105,110,1,3,99,112,117,244,3,0,7]⟩ : ByteArray)] rfl (by (try simp only [List.map_toArray,List.map_cons,List.map_nil]);first|done|rfl|(simp only [List.length_drop,List.length_take];rfl)) ?_;(with_reducible refine (object_DecodeObject.calls (⟨#[79,1,2,47,97,1,120,0,3,0,1,4,109,97,105,110,1,3,99,112,117,244,3,0,7]⟩ : ByteArray) t121 t122 t123 t126 t127 t128 t131 t132 _ A3.out (Glob.below hG (by repeat (first|(with_reducible first|exact HB.out|refine below_set ?_ GE133.out|apply below_alloc|apply pw_below_drewN|apply below_drew1)|exact HB.out)))).mono ?_);rintro e w16 ⟨v124,v129,rfl,ho0,ho1,hb⟩;refine ⟨_,rfl,?_⟩;have n0_:=Aside0.mk (Kd.R_elder' (by (with_reducible repeat (first|apply Kd.R_alloc|apply Kd.R_drewN|apply Kd.R_drew));exact HO112.out) (Kd.R_base ho0) hb);have n1_:=Aside0.mk (Kd.N_mono (Kd.N_told (Kd.N_told (Kd.N_old (by (with_reducible repeat (first|apply Kd.N_alloc|apply Kd.N_drewN|apply Kd.N_drew));exact HO117.out) hb) (Kd.R_base ho0)) (Kd.N_base ho1)) (fun _ h_ => h_.1));have n2_:=Aside0.mk (Kd.R_lower (Kd.R_new' (Kd.R_mono (ok':=fun k_ => True) ho0 (fun _ hk_ => trivial)) (Kd.R_lt (by (with_reducible repeat (first|apply Kd.R_alloc|apply Kd.R_drewN|apply Kd.R_drew));exact HO112.out))) (below_size (by repeat (first|(with_reducible first|exact HB.out|apply below_alloc|apply pw_below_drewN|apply below_drew1)|exact HB.out))));have n3_:=Aside0.mk (Kd.N_lower (Kd.N_mono (ok':=fun k_ => some k_ ≠ (v124 : Value).ownBlock ∧ some k_ ≠ (.slice Ao13 t110.length co13 : Value).ownBlock ∧ some k_ ≠ (.slice Ao14 t115.length co14 : Value).ownBlock) ho1 (fun k_ hk_ => ⟨hk_.2,(Kd.fresh' (Kd.R_lt (by (with_reducible repeat (first|apply Kd.R_alloc|apply Kd.R_drewN|apply Kd.R_drew));exact HO112.out)) k_ hk_.1),(Kd.fresh' (Kd.N_lt (by (with_reducible repeat (first|apply Kd.N_alloc|apply Kd.N_drewN|apply Kd.N_drew));exact HO117.out)) k_ hk_.1)⟩)) (below_size (by repeat (first|(with_reducible first|exact HB.out|apply below_alloc|apply pw_below_drewN|apply below_drew1)|exact HB.out))));have n4_:=Aside0.mk (below_step (by repeat (first|(with_reducible first|exact HB.out|apply below_alloc|apply pw_below_drewN|apply below_drew1)|exact HB.out)) hb);clear HO112;clear HO117;clear HB;have HO112:=n0_;have HO117:=n1_;have HO125:=n2_;have HO130:=n3_;have HB:=n4_;clear n0_ n1_ n2_ n3_ n4_;(try clear hb);(try clear hb2);(try clear hk);(try clear hi);(try clear ho0);(try clear ho1))|((with_reducible refine gate_dst (N:=3) rfl ?_);refine box_event ?hg (N:=3) ?hd (cs:=#[.string (⟨#[]⟩ : ByteArray),.string (⟨#[]⟩ : ByteArray),.slice none 0 0,.int .i64 0,.int .i64 0,.slice none 0 0,.int .i64 0]) (t:=25) ?hr ?_;(case hd => rfl);(case hg => rfl);(case hr => first|(go_simp;done)|(go_simp;rfl));intro gb133 hg w17 hbox hb;have n0_:=Aside0.mk (Kd.R_below (by (with_reducible repeat (first|apply Kd.R_alloc|apply Kd.R_drewN|apply Kd.R_drew));exact HO112.out) hb);have n1_:=Aside0.mk (Kd.N_below (Kd.N_elderB (by (with_reducible repeat (first|apply Kd.N_alloc|apply Kd.N_drewN|apply Kd.N_drew));exact HO117.out) gb133 (Nat.le_of_eq hg.symm)) hb);have n2_:=Aside0.mk (Kd.R_below (by (with_reducible repeat (first|apply Kd.R_alloc|apply Kd.R_drewN|apply Kd.R_drew));exact HO125.out) hb);have n3_:=Aside0.mk (Kd.N_below (Kd.N_elderB (by (with_reducible repeat (first|apply Kd.N_alloc|apply Kd.N_drewN|apply Kd.N_drew));exact HO130.out) gb133 (Nat.le_of_eq hg.symm)) hb);have n4_:=Aside0.mk (below_step (by repeat (first|(with_reducible first|exact HB.out|apply below_alloc|apply pw_below_drewN|apply below_drew1)|exact HB.out)) hb);have n5_:=Aside0.mk (hbox);have n6_:=Aside0.mk ((by rw [hg];exact (below_size (by repeat (first|(with_reducible first|exact HB.out|apply below_alloc|apply pw_below_drewN|apply below_drew1)|exact HB.out))) : w.heap.size ≤ gb133));have n7_:=Aside0.mk ((by rw [hg];exact (below_size (by repeat (first|(with_reducible first|exact HB.out|apply below_alloc|apply pw_below_drewN|apply below_drew1)|exact HB.out))) : w.heap.size ≤ gb133));clear HO112;clear HO117;clear HO125;clear HO130;clear HB;have HO112:=n0_;have HO117:=n1_;have HO125:=n2_;have HO130:=n3_;have HB:=n4_;have BK133:=n5_;have GW133:=n6_;have GE133:=n7_;clear n0_ n1_ n2_ n3_ n4_ n5_ n6_ n7_;clear hb hbox hg;have hcz18_0 : w17.cell? ⟨gb133,0,none⟩ = some (.string (⟨#[]⟩ : ByteArray)):=(blk_cell BK133.out 0).trans rfl;have hcz18_1 : w17.cell? ⟨gb133,1,none⟩ = some (.string (⟨#[]⟩ : ByteArray)):=(blk_cell BK133.out 1).trans rfl;have hcz18_2 : w17.cell? ⟨gb133,2,none⟩ = some (.slice none 0 0):=(blk_cell BK133.out 2).trans rfl;have hcz18_3 : w17.cell? ⟨gb133,3,none⟩ = some (.int .i64 0):=(blk_cell BK133.out 3).trans rfl;have hcz18_4 : w17.cell? ⟨gb133,4,none⟩ = some (.int .i64 0):=(blk_cell BK133.out 4).trans rfl;have hcz18_5 : w17.cell? ⟨gb133,5,none⟩ = some (.slice none 0 0):=(blk_cell BK133.out 5).trans rfl;have hcz18_6 : w17.cell? ⟨gb133,6,none⟩ = some (.int .i64 0):=(blk_cell BK133.out 6).trans rfl;have hfz18_0:=blk_frozen BK133.out 0;have hfz18_1:=blk_frozen BK133.out 1;have hfz18_2:=blk_frozen BK133.out 2;have hfz18_3:=blk_frozen BK133.out 3;have hfz18_4:=blk_frozen BK133.out 4;have hfz18_5:=blk_frozen BK133.out 5;have hfz18_6:=blk_frozen BK133.out 6;obtain ⟨Ao19,co19,eo19⟩:=Kd.R_slice HO125.out;subst eo19;obtain ⟨Ao20,co20,eo20⟩:=Kd.N_slice HO130.out;subst eo20)|((with_reducible refine gate_callee (f:=11) rfl ?_);refine goesL_ (some 17) rfl rfl Tryd.func11 (by kernel_rfl) rfl #[.int .i64 3,.string (⟨#[47,97]⟩ : ByteArray),.string (⟨#[120]⟩ : ByteArray)] rfl (by (try simp only [List.map_toArray,List.map_cons,List.map_nil]);first|done|rfl|(simp only [List.length_drop,List.length_take];rfl)) ?_;(with_reducible refine (object_Key.calls 3 (⟨#[47,97]⟩ : ByteArray) (⟨#[120]⟩ : ByteArray) t134 t135 _ A4.out (Glob.below hG (by repeat (first|(with_reducible first|exact HB.out|refine below_set ?_ GE133.out|apply below_alloc|apply pw_below_drewN|apply below_drew1)|exact HB.out)))).mono ?_);rintro e w21 ⟨rfl,hb⟩;refine ⟨_,rfl,?_⟩;have n0_:=Aside0.mk (Kd.R_below (by (with_reducible repeat (first|apply Kd.R_alloc|apply Kd.R_drewN|apply Kd.R_drew));exact (Kd.R_mono (Kd.R_far (p:=⟨gb133,6,none⟩) (Kd.R_far (p:=⟨gb133,5,none⟩) (Kd.R_far (p:=⟨gb133,4,none⟩) (Kd.R_far (p:=⟨gb133,3,none⟩) (Kd.R_far (p:=⟨gb133,2,none⟩) (Kd.R_far (p:=⟨gb133,1,none⟩) (Kd.R_far (p:=⟨gb133,0,none⟩) (Kd.R_types HO112.out BK133.out (by decide)) (fun _ hk => hk.2) (.string t121)) (fun _ hk => hk.2) (.string t122)) (fun _ hk => hk.2) (.slice Ao19 t123.length co19)) (fun _ hk => hk.2) (.int .i64 t126)) (fun _ hk => hk.2) (.int .i64 t127)) (fun _ hk => hk.2) (.slice Ao20 t128.length co20)) (fun _ hk => hk.2) (.int .i64 t131)) (fun _ h_ => h_.1))) hb);have n1_:=Aside0.mk (Kd.N_below (by (with_reducible repeat (first|apply Kd.N_alloc|apply Kd.N_drewN|apply Kd.N_drew));exact (Kd.N_mono (Kd.N_far (p:=⟨gb133,6,none⟩) (Kd.N_far (p:=⟨gb133,5,none⟩) (Kd.N_far (p:=⟨gb133,4,none⟩) (Kd.N_far (p:=⟨gb133,3,none⟩) (Kd.N_far (p:=⟨gb133,2,none⟩) (Kd.N_far (p:=⟨gb133,1,none⟩) (Kd.N_far (p:=⟨gb133,0,none⟩) (Kd.N_mono HO117.out (fun k_ hk => (⟨hk,hk.2⟩ : _ ∧ k_ ≠ gb133))) (fun _ hk => hk.2) (.string t121)) (fun _ hk => hk.2) (.string t122)) (fun _ hk => hk.2) (.slice Ao19 t123.length co19)) (fun _ hk => hk.2) (.int .i64 t126)) (fun _ hk => hk.2) (.int .i64 t127)) (fun _ hk => hk.2) (.slice Ao20 t128.length co20)) (fun _ hk => hk.2) (.int .i64 t131)) (fun _ h_ => h_.1))) hb);have n2_:=Aside0.mk (Kd.R_below (by (with_reducible repeat (first|apply Kd.R_alloc|apply Kd.R_drewN|apply Kd.R_drew));exact (Kd.R_mono (Kd.R_far (p:=⟨gb133,6,none⟩) (Kd.R_far (p:=⟨gb133,5,none⟩) (Kd.R_far (p:=⟨gb133,4,none⟩) (Kd.R_far (p:=⟨gb133,3,none⟩) (Kd.R_far (p:=⟨gb133,2,none⟩) (Kd.R_far (p:=⟨gb133,1,none⟩) (Kd.R_far (p:=⟨gb133,0,none⟩) (Kd.R_types HO125.out BK133.out (by decide)) (fun _ hk => hk.2) (.string t121)) (fun _ hk => hk.2) (.string t122)) (fun _ hk => hk.2) (.slice Ao19 t123.length co19)) (fun _ hk => hk.2) (.int .i64 t126)) (fun _ hk => hk.2) (.int .i64 t127)) (fun _ hk => hk.2) (.slice Ao20 t128.length co20)) (fun _ hk => hk.2) (.int .i64 t131)) (fun _ h_ => h_.1))) hb);have n3_:=Aside0.mk (Kd.N_below (by (with_reducible repeat (first|apply Kd.N_alloc|apply Kd.N_drewN|apply Kd.N_drew));exact (Kd.N_mono (Kd.N_far (p:=⟨gb133,6,none⟩) (Kd.N_far (p:=⟨gb133,5,none⟩) (Kd.N_far (p:=⟨gb133,4,none⟩) (Kd.N_far (p:=⟨gb133,3,none⟩) (Kd.N_far (p:=⟨gb133,2,none⟩) (Kd.N_far (p:=⟨gb133,1,none⟩) (Kd.N_far (p:=⟨gb133,0,none⟩) (Kd.N_mono HO130.out (fun k_ hk => (⟨hk,hk.2⟩ : _ ∧ k_ ≠ gb133))) (fun _ hk => hk.2) (.string t121)) (fun _ hk => hk.2) (.string t122)) (fun _ hk => hk.2) (.slice Ao19 t123.length co19)) (fun _ hk => hk.2) (.int .i64 t126)) (fun _ hk => hk.2) (.int .i64 t127)) (fun _ hk => hk.2) (.slice Ao20 t128.length co20)) (fun _ hk => hk.2) (.int .i64 t131)) (fun _ h_ => h_.1))) hb);have n4_:=Aside0.mk (blk_below (g:=gb133) (o:=.cells #[.string t121,.string t122,.slice Ao19 t123.length co19,.int .i64 t126,.int .i64 t127,.slice Ao20 t128.length co20,.int .i64 t131] 25 (0,0)) (by (with_reducible repeat (first|refine blk_drewN ?_ _|refine blk_drew ?_|refine blk_alloc ?_ _));refine blk_put (cs:=#[.string t121,.string t122,.slice Ao19 t123.length co19,.int .i64 t126,.int .i64 t127,.slice Ao20 t128.length co20,.int .i64 0]) ?_ 6 _ rfl;(with_reducible repeat (first|refine blk_drewN ?_ _|refine blk_drew ?_|refine blk_alloc ?_ _));refine blk_put (cs:=#[.string t121,.string t122,.slice Ao19 t123.length co19,.int .i64 t126,.int .i64 t127,.slice none 0 0,.int .i64 0]) ?_ 5 _ rfl;(with_reducible repeat (first|refine blk_drewN ?_ _|refine blk_drew ?_|refine blk_alloc ?_ _));refine blk_put (cs:=#[.string t121,.string t122,.slice Ao19 t123.length co19,.int .i64 t126,.int .i64 0,.slice none 0 0,.int .i64 0]) ?_ 4 _ rfl;(with_reducible repeat (first|refine blk_drewN ?_ _|refine blk_drew ?_|refine blk_alloc ?_ _));refine blk_put (cs:=#[.string t121,.string t122,.slice Ao19 t123.length co19,.int .i64 0,.int .i64 0,.slice none 0 0,.int .i64 0]) ?_ 3 _ rfl;(with_reducible repeat (first|refine blk_drewN ?_ _|refine blk_drew ?_|refine blk_alloc ?_ _));refine blk_put (cs:=#[.string t121,.string t122,.slice none 0 0,.int .i64 0,.int .i64 0,.slice none 0 0,.int .i64 0]) ?_ 2 _ rfl;(with_reducible repeat (first|refine blk_drewN ?_ _|refine blk_drew ?_|refine blk_alloc ?_ _));refine blk_put (cs:=#[.string t121,.string (⟨#[]⟩ : ByteArray),.slice none 0 0,.int .i64 0,.int .i64 0,.slice none 0 0,.int .i64 0]) ?_ 1 _ rfl;(with_reducible repeat (first|refine blk_drewN ?_ _|refine blk_drew ?_|refine blk_alloc ?_ _));refine blk_put (cs:=#[.string (⟨#[]⟩ : ByteArray),.string (⟨#[]⟩ : ByteArray),.slice none 0 0,.int .i64 0,.int .i64 0,.slice none 0 0,.int .i64 0]) ?_ 0 _ rfl;(with_reducible repeat (first|refine blk_drewN ?_ _|refine blk_drew ?_|refine blk_alloc ?_ _));exact BK133.out) hb);have n5_:=Aside0.mk (below_step (by repeat (first|(with_reducible first|exact HB.out|apply below_alloc|apply pw_below_drewN|apply below_drew1|refine below_set ?_ GE133.out)|exact HB.out)) hb);clear HO112;clear HO117;clear HO125;clear HO130;clear BK133;clear HB;have HO112:=n0_;have HO117:=n1_;have HO125:=n2_;have HO130:=n3_;have BK133:=n4_;have HB:=n5_;clear n0_ n1_ n2_ n3_ n4_ n5_;(try clear hb);(try clear hb2);(try clear hk);(try clear hi)))
 have n0_:=Aside0.mk (Kd.R_drew HO112.out)
 have n1_:=Aside0.mk (Kd.N_drew HO117.out)
 have n2_:=Aside0.mk (Kd.R_drew HO125.out)
 have n3_:=Aside0.mk (Kd.N_drew HO130.out)
 have n4_:=Aside0.mk (blk_drew BK133.out)
 have n5_:=Aside0.mk (below_drew1 HB.out)
 clear HO112;clear HO117;clear HO125;clear HO130;clear BK133;clear HB;have HO112:=n0_;have HO117:=n1_;have HO125:=n2_;have HO130:=n3_;have BK133:=n4_;have HB:=n5_;clear n0_ n1_ n2_ n3_ n4_ n5_
 refine start_ (n:=24) (S:=fun w' => w'.cell? ⟨gb133,0,none⟩ = some (.string t121) ∧ w'.cell? ⟨gb133,1,none⟩ = some (.string t122) ∧ w'.cell? ⟨gb133,2,none⟩ = some (.slice Ao19 t123.length co19) ∧ w'.cell? ⟨gb133,3,none⟩ = some (.int .i64 t126) ∧ w'.cell? ⟨gb133,4,none⟩ = some (.int .i64 t127) ∧ w'.cell? ⟨gb133,5,none⟩ = some (.slice Ao20 t128.length co20) ∧ w'.cell? ⟨gb133,6,none⟩ = some (.int .i64 t131)) (ds:=[]) (bl 0 24) (by kernel_rfl) rfl rfl ⟨(blk_cell BK133.out 0).trans rfl,(blk_cell BK133.out 1).trans rfl,(blk_cell BK133.out 2).trans rfl,(blk_cell BK133.out 3).trans rfl,(blk_cell BK133.out 4).trans rfl,(blk_cell BK133.out 5).trans rfl,(blk_cell BK133.out 6).trans rfl⟩ (fun hHeld => ?_);refine with_tabW bursarlaw13_fixed.tab4 bursarlaw13_fixed.bits4 (fun HT_ HW_ => ?_)
 generalize w21.drew = w22 at HO112 HO117 HO125 HO130 BK133 HB hHeld ⊢
 refine pure_ (i:=0) (N:=some 20) (v:=?_) (a':=?_) (bl 1 23) rfl rfl (any_of HT_.out (by kernel_rfl)) (fun _ _ _ h => h) (Or.inl ⟨by rfl,?_⟩) ?_ ?_
 rotate_left;·intro w';go_simp;with_reducible rfl
 rotate_left;·simp only [pu_];rfl
 refine pure_ (i:=1) (N:=some 21) (v:=?_) (a':=?_) (bl 2 22) rfl rfl (any_of HT_.out (by kernel_rfl)) (fun _ _ _ h => h) (Or.inl ⟨by rfl,?_⟩) ?_ ?_
 rotate_left;·intro w';go_simp;with_reducible rfl
 rotate_left;·simp only [pu_];rfl
 refine pure_ (i:=2) (N:=some 22) (v:=?_) (a':=?_) (bl 3 21) rfl rfl (any_of HT_.out (by kernel_rfl)) (fun _ _ _ h => h) (Or.inl ⟨by rfl,?_⟩) ?_ ?_
 rotate_left;·intro w';go_simp;with_reducible rfl
 rotate_left;·simp only [pu_];rfl
 refine pure_ (i:=3) (N:=some 23) (v:=?_) (a':=?_) (bl 4 20) rfl rfl (any_of HT_.out (by kernel_rfl)) (fun _ _ _ h => h) (Or.inl ⟨by rfl,?_⟩) ?_ ?_
 rotate_left;·intro w';go_simp;with_reducible rfl
 rotate_left;·simp only [pu_];rfl
 refine pure_ (i:=4) (N:=some 24) (v:=?_) (a':=?_) (bl 5 19) rfl rfl (any_of HT_.out (by kernel_rfl)) (fun _ _ _ h => h) (Or.inl ⟨by rfl,?_⟩) ?_ ?_
 rotate_left;·intro w';go_simp;with_reducible rfl
 rotate_left;·simp only [pu_];rfl
 refine pure_ (i:=5) (N:=some 25) (v:=?_) (a':=?_) (bl 6 18) rfl rfl (any_of HT_.out (by kernel_rfl)) (fun _ _ _ h => h) (Or.inl ⟨by rfl,?_⟩) ?_ ?_
 rotate_left;·intro w';go_simp;with_reducible rfl
 rotate_left;·simp only [pu_];rfl
 refine pure_ (i:=6) (N:=some 26) (v:=?_) (a':=?_) (bl 7 17) rfl rfl (any_of HT_.out (by kernel_rfl)) (fun _ _ _ h => h) (Or.inl ⟨by rfl,?_⟩) ?_ ?_
 rotate_left;·intro w';go_simp;with_reducible rfl
 rotate_left;·simp only [pu_];rfl
 refine pure_ (i:=7) (N:=some 27) (v:=?_) (a':=?_) (bl 8 16) rfl rfl (any_of HT_.out (by kernel_rfl)) (fun _ _ _ h => h) (Or.inl ⟨by rfl,?_⟩) ?_ ?_
 rotate_left;·intro w';go_simp;with_reducible rfl
 rotate_left;·simp only [pu_];rfl
 refine pure_ (i:=8) (N:=some 28) (v:=?_) (a':=?_) (bl 9 15) rfl rfl (any_of HT_.out (by kernel_rfl)) (fun _ _ _ h => h) (Or.inl ⟨by rfl,?_⟩) ?_ ?_
 rotate_left;·intro w';go_simp;with_reducible rfl
 rotate_left;·simp only [pu_];rfl
 refine pure_ (i:=9) (N:=some 29) (v:=?_) (a':=?_) (bl 10 14) rfl rfl (any_of HT_.out (by kernel_rfl)) (fun _ _ _ h => h) (Or.inl ⟨by rfl,?_⟩) ?_ ?_
 rotate_left;·intro w';go_simp;with_reducible rfl
 rotate_left;·simp only [pu_];rfl
 refine pure_ (i:=10) (N:=some 30) (v:=?_) (a':=?_) (bl 11 13) rfl rfl (any_of HT_.out (by kernel_rfl)) (fun _ _ _ h => h) (Or.inl ⟨by rfl,?_⟩) ?_ ?_
 rotate_left;·intro w';go_simp;with_reducible rfl
 rotate_left;·simp only [pu_];rfl
 refine take_ (i:=11) (N:=some 31) (v:=?_) (a':=?_) (bl 12 12) rfl rfl (take_ofW HT_.out HW_.out (by kernel_rfl)) (fun _ _ _ h => h) (Or.inl ⟨by rfl,?_⟩) hHeld ?_ ?_
 rotate_left
 ·rintro w' ⟨s0,s1,s2,s3,s4,s5,s6⟩
  go_simp
  with_reducible rfl
 rotate_left
 ·simp only [pu_]
  rfl
 refine one_ (i:=12) (N:=some 32) (bl 13 11) rfl rfl (one_of HT_.out (by kernel_rfl)) (by decide) (fun K hK => ?_)
 refine goes_ Tryd.func16 (by kernel_rfl) rfl #[] (by rfl) rfl rfl (by (try simp only [List.map_toArray,List.map_cons,List.map_nil]);first|done|rfl|(simp only [List.length_drop,List.length_take];rfl)) ?_
 with_reducible refine (bursarlaw13_small.calls  t136 t137 t138 t141 t142 t143 t146 _ A8.out).mono ?_
 rintro e w23 ⟨v139,v144,rfl,ho0,ho1,hb⟩
 refine ⟨_,rfl,?_⟩
 have n0_:=Aside0.mk (Kd.R_elder' (by (with_reducible repeat (first|apply Kd.R_alloc|apply Kd.R_drewN|apply Kd.R_drew));exact HO112.out) (Kd.R_base ho0) hb)
 have n1_:=Aside0.mk (Kd.N_mono (Kd.N_told (Kd.N_told (Kd.N_old (by (with_reducible repeat (first|apply Kd.N_alloc|apply Kd.N_drewN|apply Kd.N_drew));exact HO117.out) hb) (Kd.R_base ho0)) (Kd.N_base ho1)) (fun _ h_ => h_.1))
 have n2_:=Aside0.mk (Kd.R_elder' (by (with_reducible repeat (first|apply Kd.R_alloc|apply Kd.R_drewN|apply Kd.R_drew));exact HO125.out) (Kd.R_base ho0) hb)
 have n3_:=Aside0.mk (Kd.N_mono (Kd.N_told (Kd.N_told (Kd.N_old (by (with_reducible repeat (first|apply Kd.N_alloc|apply Kd.N_drewN|apply Kd.N_drew));exact HO130.out) hb) (Kd.R_base ho0)) (Kd.N_base ho1)) (fun _ h_ => h_.1))
 have n4_:=Aside0.mk (Kd.R_lower (Kd.R_new' (Kd.R_new' (Kd.R_mono (ok':=fun k_ => True) ho0 (fun _ hk_ => trivial)) (Kd.R_lt (by (with_reducible repeat (first|apply Kd.R_alloc|apply Kd.R_drewN|apply Kd.R_drew));exact HO112.out))) (Kd.R_lt (by (with_reducible repeat (first|apply Kd.R_alloc|apply Kd.R_drewN|apply Kd.R_drew));exact HO125.out))) (below_size (by repeat (first|(with_reducible first|exact HB.out|apply below_alloc|apply pw_below_drewN|apply below_drew1|refine below_set ?_ GE133.out)|exact HB.out))))
 have n5_:=Aside0.mk (Kd.N_lower (Kd.N_mono (ok':=fun k_ => some k_ ≠ (v139 : Value).ownBlock ∧ some k_ ≠ (.slice Ao13 t110.length co13 : Value).ownBlock ∧ some k_ ≠ (.slice Ao14 t115.length co14 : Value).ownBlock ∧ some k_ ≠ (.slice Ao19 t123.length co19 : Value).ownBlock ∧ some k_ ≠ (.slice Ao20 t128.length co20 : Value).ownBlock ∧ k_ ≠ gb133) ho1 (fun k_ hk_ => ⟨hk_.2,(Kd.fresh' (Kd.R_lt (by (with_reducible repeat (first|apply Kd.R_alloc|apply Kd.R_drewN|apply Kd.R_drew));exact HO112.out)) k_ hk_.1),(Kd.fresh' (Kd.N_lt (by (with_reducible repeat (first|apply Kd.N_alloc|apply Kd.N_drewN|apply Kd.N_drew));exact HO117.out)) k_ hk_.1),(Kd.fresh' (Kd.R_lt (by (with_reducible repeat (first|apply Kd.R_alloc|apply Kd.R_drewN|apply Kd.R_drew));exact HO125.out)) k_ hk_.1),(Kd.fresh' (Kd.N_lt (by (with_reducible repeat (first|apply Kd.N_alloc|apply Kd.N_drewN|apply Kd.N_drew));exact HO130.out)) k_ hk_.1),(Kd.freshB (g:=gb133) (o:=.cells #[.string t121,.string t122,.slice Ao19 t123.length co19,.int .i64 t126,.int .i64 t127,.slice Ao20 t128.length co20,.int .i64 t131] 25 (0,0)) (by (with_reducible repeat (first|refine blk_drewN ?_ _|refine blk_drew ?_|refine blk_alloc ?_ _));exact BK133.out) k_ hk_.1)⟩)) (below_size (by repeat (first|(with_reducible first|exact HB.out|apply below_alloc|apply pw_below_drewN|apply below_drew1|refine below_set ?_ GE133.out)|exact HB.out))))
 have n6_:=Aside0.mk (blk_below (g:=gb133) (o:=.cells #[.string t121,.string t122,.slice Ao19 t123.length co19,.int .i64 t126,.int .i64 t127,.slice Ao20 t128.length co20,.int .i64 t131] 25 (0,0)) (by (with_reducible repeat (first|refine blk_drewN ?_ _|refine blk_drew ?_|refine blk_alloc ?_ _));exact BK133.out) hb)
 have n7_:=Aside0.mk (below_step (by repeat (first|(with_reducible first|exact HB.out|apply below_alloc|apply pw_below_drewN|apply below_drew1|refine below_set ?_ GE133.out)|exact HB.out)) hb)
 clear HO112;clear HO117;clear HO125;clear HO130;clear BK133;clear HB;have HO112:=n0_;have HO117:=n1_;have HO125:=n2_;have HO130:=n3_;have HO140:=n4_;have HO145:=n5_;have BK133:=n6_;have HB:=n7_;clear n0_ n1_ n2_ n3_ n4_ n5_ n6_ n7_;(try clear hb);(try clear hb2);(try clear hk);(try clear hi);(try clear ho0);(try clear ho1)
 obtain ⟨Ao24,co24,eo24⟩:=Kd.R_slice HO140.out
 (first|subst eo24|(injection eo24 with f1_ f2_ f3_;have f4_:=f1_.symm;have f5_:=f3_.symm;clear f1_ f2_ f3_;subst f4_;subst f5_))
 obtain ⟨Ao25,co25,eo25⟩:=Kd.N_slice HO145.out
 (first|subst eo25|(injection eo25 with f1_ f2_ f3_;have f4_:=f1_.symm;have f5_:=f3_.symm;clear f1_ f2_ f3_;subst f4_;subst f5_))
 refine hK.out _ _ ⟨(blk_cell BK133.out 0).trans rfl,(blk_cell BK133.out 1).trans rfl,(blk_cell BK133.out 2).trans rfl,(blk_cell BK133.out 3).trans rfl,(blk_cell BK133.out 4).trans rfl,(blk_cell BK133.out 5).trans rfl,(blk_cell BK133.out 6).trans rfl⟩ (fun hHeld => ?_)
 clear hK K
 refine norm_ (a':=?_) ?_ ?_
 rotate_left
 ·show Act.put _ (some 32) _ = _
  simp only [pu_]
  rfl
 refine one_ (i:=13) (N:=some 33) (bl 14 10) rfl rfl (one_of HT_.out (by kernel_rfl)) (by decide) (fun K hK => ?_)
 refine goes_ Tryd.func18 (by kernel_rfl) rfl #[.agg #[.string t121,.string t122,.slice Ao19 t123.length co19,.int .i64 t126,.int .i64 t127,.slice Ao20 t128.length co20,.int .i64 t131],.agg #[.string t136,.string t137,.slice Ao24 t138.length co24,.int .i64 t141,.int .i64 t142,.slice Ao25 t143.length co25,.int .i64 t146]] (by rfl) rfl rfl (by (try simp only [List.map_toArray,List.map_cons,List.map_nil]);first|done|rfl|(simp only [List.length_drop,List.length_take];rfl)) ?_
 with_reducible refine (bursarlaw13_sameObject.calls t121 t122 _ _ t123 t126 t127 _ _ t128 t131 t136 t137 _ _ t138 t141 t142 _ _ t143 t146 true _ ?side1 ?side2 ?side3 ?side4 ?side5 ?side6 ?side7 ?side8 A9.out).mono ?_
 (case side1 => repeat (first|exact (Kd.R_reads' HO125.out).2.2|(with_reducible refine Kd.C_alloc ?_ _)|(with_reducible refine Kd.C_drewN ?_ _)|(with_reducible refine Kd.C_drew ?_)))
 (case side2 => exact (Kd.R_reads' HO125.out).2.1)
 (case side3 => repeat (first|exact (Kd.N_reads' HO130.out).2.2|(with_reducible refine Kd.C_alloc ?_ _)|(with_reducible refine Kd.C_drewN ?_ _)|(with_reducible refine Kd.C_drew ?_)))
 (case side4 => exact (Kd.N_reads' HO130.out).2.1)
 (case side5 => repeat (first|exact (Kd.R_reads' HO140.out).2.2|(with_reducible refine Kd.C_alloc ?_ _)|(with_reducible refine Kd.C_drewN ?_ _)|(with_reducible refine Kd.C_drew ?_)))
 (case side6 => exact (Kd.R_reads' HO140.out).2.1)
 (case side7 => repeat (first|exact (Kd.N_reads' HO145.out).2.2|(with_reducible refine Kd.C_alloc ?_ _)|(with_reducible refine Kd.C_drewN ?_ _)|(with_reducible refine Kd.C_drew ?_)))
 (case side8 => exact (Kd.N_reads' HO145.out).2.1)
 rintro e w26 ⟨rfl,hb⟩
 refine ⟨_,rfl,?_⟩
 have n0_:=Aside0.mk (Kd.R_below (by (with_reducible repeat (first|apply Kd.R_alloc|apply Kd.R_drewN|apply Kd.R_drew));exact HO112.out) hb)
 have n1_:=Aside0.mk (Kd.N_below (by (with_reducible repeat (first|apply Kd.N_alloc|apply Kd.N_drewN|apply Kd.N_drew));exact HO117.out) hb)
 have n2_:=Aside0.mk (Kd.R_below (by (with_reducible repeat (first|apply Kd.R_alloc|apply Kd.R_drewN|apply Kd.R_drew));exact HO125.out) hb)
 have n3_:=Aside0.mk (Kd.N_below (by (with_reducible repeat (first|apply Kd.N_alloc|apply Kd.N_drewN|apply Kd.N_drew));exact HO130.out) hb)
 have n4_:=Aside0.mk (Kd.R_below (by (with_reducible repeat (first|apply Kd.R_alloc|apply Kd.R_drewN|apply Kd.R_drew));exact HO140.out) hb)
 have n5_:=Aside0.mk (Kd.N_below (by (with_reducible repeat (first|apply Kd.N_alloc|apply Kd.N_drewN|apply Kd.N_drew));exact HO145.out) hb)
 have n6_:=Aside0.mk (blk_below (g:=gb133) (o:=.cells #[.string t121,.string t122,.slice Ao19 t123.length co19,.int .i64 t126,.int .i64 t127,.slice Ao20 t128.length co20,.int .i64 t131] 25 (0,0)) (by (with_reducible repeat (first|refine blk_drewN ?_ _|refine blk_drew ?_|refine blk_alloc ?_ _));exact BK133.out) hb)
 have n7_:=Aside0.mk (below_step (by repeat (first|(with_reducible first|exact HB.out|apply below_alloc|apply pw_below_drewN|apply below_drew1|refine below_set ?_ GE133.out)|exact HB.out)) hb)
 clear HO112;clear HO117;clear HO125;clear HO130;clear HO140;clear HO145;clear BK133;clear HB;have HO112:=n0_;have HO117:=n1_;have HO125:=n2_;have HO130:=n3_;have HO140:=n4_;have HO145:=n5_;have BK133:=n6_;have HB:=n7_;clear n0_ n1_ n2_ n3_ n4_ n5_ n6_ n7_;(try clear hb);(try clear hb2);(try clear hk);(try clear hi)
 refine hK.out _ _ ⟨(blk_cell BK133.out 0).trans rfl,(blk_cell BK133.out 1).trans rfl,(blk_cell BK133.out 2).trans rfl,(blk_cell BK133.out 3).trans rfl,(blk_cell BK133.out 4).trans rfl,(blk_cell BK133.out 5).trans rfl,(blk_cell BK133.out 6).trans rfl⟩ (fun hHeld => ?_)
 clear hK K
 refine norm_ (a':=?_) ?_ ?_
 rotate_left
 ·show Act.put _ (some 33) _ = _
  simp only [pu_]
  rfl
 refine pure_ (i:=14) (N:=some 34) (v:=?_) (a':=?_) (bl 15 9) rfl rfl (any_of HT_.out (by kernel_rfl)) (fun _ _ _ h => h) (Or.inl ⟨by rfl,?_⟩) ?_ ?_
 rotate_left;·intro w';go_simp;with_reducible rfl
 rotate_left;·simp only [pu_];rfl
 refine pure_ (i:=15) (N:=some 35) (v:=?_) (a':=?_) (bl 16 8) rfl rfl (any_of HT_.out (by kernel_rfl)) (fun _ _ _ h => h) (Or.inl ⟨by rfl,?_⟩) ?_ ?_
 rotate_left;·intro w';go_simp;with_reducible rfl
 rotate_left;·simp only [pu_];rfl
 refine pure_ (i:=16) (N:=some 36) (v:=?_) (a':=?_) (bl 17 7) rfl rfl (any_of HT_.out (by kernel_rfl)) (fun _ _ _ h => h) (Or.inl ⟨by rfl,?_⟩) ?_ ?_
 rotate_left;·intro w';go_simp;with_reducible rfl
 rotate_left;·simp only [pu_];rfl
 refine pure_ (i:=17) (N:=some 37) (v:=?_) (a':=?_) (bl 18 6) rfl rfl (any_of HT_.out (by kernel_rfl)) (fun _ _ _ h => h) (Or.inl ⟨by rfl,?_⟩) ?_ ?_
 rotate_left;·intro w';go_simp;with_reducible rfl
 rotate_left;·simp only [pu_];rfl
 refine pure_ (i:=18) (N:=some 38) (v:=?_) (a':=?_) (bl 19 5) rfl rfl (any_of HT_.out (by kernel_rfl)) (fun _ _ _ h => h) (Or.inl ⟨by rfl,?_⟩) ?_ ?_
 rotate_left;·intro w';go_simp;with_reducible rfl
 rotate_left;·simp only [pu_];rfl
 refine pure_ (i:=19) (N:=some 39) (v:=?_) (a':=?_) (bl 20 4) rfl rfl (any_of HT_.out (by kernel_rfl)) (fun _ _ _ h => h) (Or.inl ⟨by rfl,?_⟩) ?_ ?_
 rotate_left;·intro w';go_simp;with_reducible rfl
 rotate_left;·simp only [pu_];rfl
 refine pure_ (i:=20) (N:=some 40) (v:=?_) (a':=?_) (bl 21 3) rfl rfl (any_of HT_.out (by kernel_rfl)) (fun _ _ _ h => h) (Or.inl ⟨by rfl,?_⟩) ?_ ?_
 rotate_left;·intro w';go_simp;with_reducible rfl
 rotate_left;·simp only [pu_];rfl
 refine pure_ (i:=21) (N:=some 41) (v:=?_) (a':=?_) (bl 22 2) rfl rfl (any_of HT_.out (by kernel_rfl)) (fun _ _ _ h => h) (Or.inl ⟨by rfl,?_⟩) ?_ ?_
 rotate_left;·intro w';go_simp;with_reducible rfl
 rotate_left;·simp only [pu_];rfl
 refine pure_ (i:=22) (N:=some 42) (v:=?_) (a':=?_) (bl 23 1) rfl rfl (any_of HT_.out (by kernel_rfl)) (fun _ _ _ h => h) (Or.inl ⟨by rfl,?_⟩) ?_ ?_
 rotate_left;·intro w';go_simp;with_reducible rfl
 rotate_left;·simp only [pu_];rfl
 refine pure_ (i:=23) (N:=some 0) (v:=?_) (a':=?_) (bl 24 0) rfl rfl (any_of HT_.out (by kernel_rfl)) (fun _ _ _ h => h) (Or.inl ⟨by rfl,?_⟩) ?_ ?_
 rotate_left;·intro w';go_simp;with_reducible rfl
 rotate_left;·simp only [pu_];rfl
 refine done_ (done_of HT_.out (by kernel_rfl)) ?_
 try go_wp2
 go_ret
 exact ⟨by first|rfl|(simp [errW_none,errW_some] <;> rfl)|(simp [*,errW_none,errW_some] <;> rfl),by repeat (first|(with_reducible first|exact HB.out|apply below_alloc|apply pw_below_drewN|apply below_drew1|refine below_set ?_ GE133.out)|exact HB.out)⟩
end Go.Proofs.YtniolbolfclhkaaDoor.Q
namespace Go.Proofs.YtniolbolfclhkaaDoor.Q
open Go.RowKit Go.Proofs.YtniolbolfclhkaaDoorW.PrintWords Go.Proofs.YtniolbolfclhkaaDoorW.PrintLast Go.Proofs.YtniolbolfclhkaaDoorW.PrintMore
attribute [local go_sem] max2_int min2_int max_two min_two max_three min_three max_four min_four   -- for this text's walks alone
set_option linter.unusedVariables false
set_option linter.unusedSimpArgs false
mutual
def key_Split.l0 : Nat → ByteArray → List ByteArray → List Int → Int → Option (List ByteArray × Int)
|0,_,_,_,_ => none
|k + 1,x0,x4,x5,x6 => if x6 < (x0.size : Int) then (if 0 ≤ x6 then (if (bt x0 x6) = 0 then (if (wrap64 (x6 + 1)) < (x0.size : Int) then (if 0 ≤ (wrap64 (x6 + 1)) then (key_Split.j1 k x0 x4 x5 (wrap64 (x6 + 1)) ((bt x0 (wrap64 (x6 + 1))) == 255)) else (none)) else (key_Split.j1 k x0 x4 x5 (wrap64 (x6 + 1)) false)) else (if x5.length < 140737488355328 then (key_Split.l0 k x0 x4 (x5 ++ [bt x0 x6]) (wrap64 (x6 + 1))) else (none))) else (none)) else (if (x5.length : Int) > 0 then (some (([] : List ByteArray),2)) else (if (x4.length : Int) = 0 then (some (([] : List ByteArray),2)) else (if (x4.length : Int) > 8 then (some (([] : List ByteArray),2)) else (if (x0.size : Int) > 120 then (some (([] : List ByteArray),2)) else (some (x4,0))))))
def key_Split.j1 : Nat → ByteArray → List ByteArray → List Int → Int → Bool → Option (List ByteArray × Int)
|0,_,_,_,_,_ => none
|k + 1,x0,x4,x5,x6,x25 => if x25 = true then (if x5.length < 140737488355328 then (key_Split.l0 k x0 x4 (x5 ++ [0]) (wrap64 (x6 + 1))) else (none)) else (if x6 < (x0.size : Int) then (if 0 ≤ x6 then (if (bt x0 x6) = 1 then (if x4.length < 8796093022208 then (key_Split.l0 k x0 (x4 ++ [strOfNums x5]) ([] : List Int) (wrap64 (x6 + 1))) else (none)) else (some (([] : List ByteArray),2))) else (none)) else (some (([] : List ByteArray),2)))
end
def key_Split.f (k : Nat) (a0 : ByteArray) : Option (List ByteArray × Int) := key_Split.l0 k a0 ([] : List ByteArray) ([] : List Int) 0
theorem key_Split.mono_l : ∀ k, (∀ y0 y1 y2 y3, LeO (key_Split.l0 k y0 y1 y2 y3) (key_Split.l0 (k + 1) y0 y1 y2 y3)) ∧ (∀ y0 y1 y2 y3 y4, LeO (key_Split.j1 k y0 y1 y2 y3 y4) (key_Split.j1 (k + 1) y0 y1 y2 y3 y4))
|0 => ⟨fun _ _ _ _ r h => by simp [key_Split.l0] at h,fun _ _ _ _ _ r h => by simp [key_Split.j1] at h⟩
|k + 1 => by
  obtain ⟨ih0,ih1⟩:=key_Split.mono_l k
  refine ⟨?_,?_⟩
  ·intro y0 y1 y2 y3
   unfold key_Split.l0
   repeat' first
  |(with_reducible exact ih0 _ _ _ _)
  |(with_reducible exact ih1 _ _ _ _ _)
  |(with_reducible exact LeO.refl _)
  |(with_reducible exact LeO.none _)
  |(with_reducible refine LeO.ite ?_ ?_)
  |(with_reducible refine LeO.bind ?_ (fun _ => ?_))
  |exact ih0 _ _ _ _
  |exact ih1 _ _ _ _ _
  |exact LeO.none _
  |refine LeO.ite ?_ ?_
  |refine LeO.bind ?_ (fun _ => ?_)
  ·intro y0 y1 y2 y3 y4
   unfold key_Split.j1
   repeat' first
  |(with_reducible exact ih0 _ _ _ _)
  |(with_reducible exact ih1 _ _ _ _ _)
  |(with_reducible exact LeO.refl _)
  |(with_reducible exact LeO.none _)
  |(with_reducible refine LeO.ite ?_ ?_)
  |(with_reducible refine LeO.bind ?_ (fun _ => ?_))
  |exact ih0 _ _ _ _
  |exact ih1 _ _ _ _ _
  |exact LeO.none _
  |refine LeO.ite ?_ ?_
  |refine LeO.bind ?_ (fun _ => ?_)
theorem key_Split.mono : ∀ a0 k, LeO (key_Split.f k a0) (key_Split.f (k + 1) a0) := by
 intro a0 k
 obtain ⟨ih0,ih1⟩:=key_Split.mono_l k
 unfold key_Split.f
 repeat' first
  |(with_reducible exact ih0 _ _ _ _)
  |(with_reducible exact ih1 _ _ _ _ _)
  |(with_reducible exact LeO.refl _)
  |(with_reducible exact LeO.none _)
  |(with_reducible refine LeO.ite ?_ ?_)
  |(with_reducible refine LeO.bind ?_ (fun _ => ?_))
  |exact ih0 _ _ _ _
  |exact ih1 _ _ _ _ _
  |exact LeO.none _
  |refine LeO.ite ?_ ?_
  |refine LeO.bind ?_ (fun _ => ?_)
set_option maxHeartbeats 8000000 in
set_option maxRecDepth 100000 in
theorem key_Split.calls (k : Nat) (a0 : ByteArray) (r1 : List ByteArray) (r2 : Int) (w : World) (h : key_Split.f k a0 = some (r1, r2)) :
  Calls Tryd.prog 34 #[.string a0] w fun e w' => ∃ v0_ : Value,e = .returned (.tuple #[v0_,.int .i64 r2]) ∧ Kd.R Kd.string 9 w' w.heap.size (fun _ => True) v0_ r1 ∧ Below w.heap.size w w':=by
 have HB:=Aside0.mk (Below.refl w.heap.size w)
 have H : (key_Split.l0 k a0 ([] : List ByteArray) ([] : List Int) 0) = some (r1,r2):=h
 clear h
 have H':=Aside0.mk H
 clear H
 go_enter Tryd.func34,Tryd.ntmps34
 go_wp2
 go_loopg [4,5,6] k (fun kq v4 v5 v6 w' => ∃ (x4_1 : List ByteArray) (x5_1 : List Int) (x6_1 : Int),v6 = .int .i64 x6_1 ∧ Aside0 (key_Split.l0 kq a0 x4_1 x5_1 x6_1 = some (r1,r2)) ∧ Aside0 (kq ≤ k) ∧ Aside0 (Kd.R Kd.string 9 w' w.heap.size (fun _ => True) v4 x4_1) ∧ Aside0 (Kd.R (Kd.int .u8) 5 w' w.heap.size (fun _ => True) v5 x5_1) ∧ Aside0 (Below w.heap.size w w'))
 case atStart => exact ⟨(([] : List ByteArray)),(([] : List Int)),(0),(by first|rfl|(simp;done)|(simp [*];done)|(simp;rw [Bool.eq_iff_iff];simp;done)|(rw [Bool.eq_iff_iff];simp;done)),H',⟨Nat.le_refl _⟩,⟨by first|exact Kd.R_nil _ _ _ _ _|exact Kd.N_nil _ _ _ _ _|exact Kd.V_nil _ _ _ _ _|exact Kd.Q_nil _ _ _ _ _|exact Kd.S_nil _ _ _ _ _⟩,⟨by first|exact Kd.R_nil _ _ _ _ _|exact Kd.N_nil _ _ _ _ _|exact Kd.V_nil _ _ _ _ _|exact Kd.Q_nil _ _ _ _ _|exact Kd.S_nil _ _ _ _ _⟩,⟨by repeat (first|(with_reducible first|exact HB.out|apply below_alloc|apply pw_below_drewN|apply below_drew1)|exact HB.out)⟩⟩
 case round =>
  clear H'
  obtain ⟨x4_1,x5_1,x6_1,rfl,HA,HK1,HO_4,HO_5,HB⟩:=hrel
  cases gk with
 |zero => exact absurd HA.out (by simp [key_Split.l0])
 |succ k1 =>
   have H:=HA.out
   clear HA
   simp only [key_Split.l0] at H
   by_cases c2 : x6_1 < (a0.size : Int)
   rotate_left
   ·rw [if_neg c2] at H
    have c2b0 : decide (x6_1 < (a0.size : Int)) = false:=decide_eq_false c2
    clear c2
    by_cases c25 : (x5_1.length : Int) > 0
    ·rw [if_pos c25] at H
     have c25b0 : decide (0 < (x5_1.length : Int)) = true:=decide_eq_true c25
     have c25b1 : decide (0 < x5_1.length) = true:=decide_eq_true (by omega)
     clear c25
     simp only [Option.some.injEq,Prod.mk.injEq] at H
     obtain ⟨rfl,rfl⟩:=H
     obtain ⟨Ao26,co26,eo26⟩:=Kd.R_slice HO_5.out
     subst eo26
     go_wp2
     go_ret2
     exact ⟨_,by first|rfl|(simp [errW_none,errW_some] <;> rfl)|(simp [*,errW_none,errW_some] <;> rfl),by first|exact Kd.R_nil _ _ _ _ _|exact Kd.N_nil _ _ _ _ _|exact Kd.V_nil _ _ _ _ _|exact Kd.Q_nil _ _ _ _ _|exact Kd.S_nil _ _ _ _ _,by repeat (first|(with_reducible first|exact HB.out|apply below_alloc|apply pw_below_drewN|apply below_drew1)|exact HB.out)⟩
    rw [if_neg c25] at H
    have c25b0 : decide (0 < (x5_1.length : Int)) = false:=decide_eq_false c25
    have c25b1 : decide (0 < x5_1.length) = false:=decide_eq_false (by omega)
    clear c25
    by_cases c27 : (x4_1.length : Int) = 0
    ·rw [if_pos c27] at H
     have c27b0 : ((x4_1.length : Int) == 0) = true:=beq_iff_eq.mpr c27
     have c27b1 : ((x4_1.length : Int) != 0) = false:=bne_eq_false_iff_eq.mpr c27
     clear c27
     simp only [Option.some.injEq,Prod.mk.injEq] at H
     obtain ⟨rfl,rfl⟩:=H
     obtain ⟨Ao28,co28,eo28⟩:=Kd.R_slice HO_5.out
     subst eo28
     obtain ⟨Ao29,co29,eo29⟩:=Kd.R_slice HO_4.out
     subst eo29
     go_wp2
     go_ret2
     exact ⟨_,by first|rfl|(simp [errW_none,errW_some] <;> rfl)|(simp [*,errW_none,errW_some] <;> rfl),by first|exact Kd.R_nil _ _ _ _ _|exact Kd.N_nil _ _ _ _ _|exact Kd.V_nil _ _ _ _ _|exact Kd.Q_nil _ _ _ _ _|exact Kd.S_nil _ _ _ _ _,by repeat (first|(with_reducible first|exact HB.out|apply below_alloc|apply pw_below_drewN|apply below_drew1)|exact HB.out)⟩
    rw [if_neg c27] at H
    have c27b0 : ((x4_1.length : Int) == 0) = false:=beq_eq_false_iff_ne.mpr c27
    have c27b1 : ((x4_1.length : Int) != 0) = true:=bne_iff_ne.mpr c27
    have c27b2 : ¬ (x4_1 = []):=fun h_ => c27 (by rw [h_];rfl)
    by_cases c30 : (x4_1.length : Int) > 8
    ·rw [if_pos c30] at H
     have c30b0 : decide (8 < (x4_1.length : Int)) = true:=decide_eq_true c30
     have c30b1 : decide (8 < x4_1.length) = true:=decide_eq_true (by omega)
     clear c30
     simp only [Option.some.injEq,Prod.mk.injEq] at H
     obtain ⟨rfl,rfl⟩:=H
     obtain ⟨Ao31,co31,eo31⟩:=Kd.R_slice HO_5.out
     subst eo31
     obtain ⟨Ao32,co32,eo32⟩:=Kd.R_slice HO_4.out
     subst eo32
     go_wp2
     go_ret2
     exact ⟨_,by first|rfl|(simp [errW_none,errW_some] <;> rfl)|(simp [*,errW_none,errW_some] <;> rfl),by first|exact Kd.R_nil _ _ _ _ _|exact Kd.N_nil _ _ _ _ _|exact Kd.V_nil _ _ _ _ _|exact Kd.Q_nil _ _ _ _ _|exact Kd.S_nil _ _ _ _ _,by repeat (first|(with_reducible first|exact HB.out|apply below_alloc|apply pw_below_drewN|apply below_drew1)|exact HB.out)⟩
    rw [if_neg c30] at H
    have c30b0 : decide (8 < (x4_1.length : Int)) = false:=decide_eq_false c30
    have c30b1 : decide (8 < x4_1.length) = false:=decide_eq_false (by omega)
    clear c30
    by_cases c33 : (a0.size : Int) > 120
    rotate_left
    ·rw [if_neg c33] at H
     have c33b0 : decide (120 < (a0.size : Int)) = false:=decide_eq_false c33
     have c33b1 : decide (120 < a0.size) = false:=decide_eq_false (by omega)
     clear c33
     simp only [Option.some.injEq,Prod.mk.injEq] at H
     obtain ⟨rfl,rfl⟩:=H
     obtain ⟨Ao36,co36,eo36⟩:=Kd.R_slice HO_5.out
     subst eo36
     obtain ⟨Ao37,co37,eo37⟩:=Kd.R_slice HO_4.out
     subst eo37
     go_wp2
     go_ret2
     exact ⟨_,by first|rfl|(simp [errW_none,errW_some] <;> rfl)|(simp [*,errW_none,errW_some] <;> rfl),by (with_reducible repeat (first|apply Kd.R_alloc|apply Kd.R_drewN|apply Kd.R_drew));exact HO_4.out,by repeat (first|(with_reducible first|exact HB.out|apply below_alloc|apply pw_below_drewN|apply below_drew1)|exact HB.out)⟩
    rw [if_pos c33] at H
    have c33b0 : decide (120 < (a0.size : Int)) = true:=decide_eq_true c33
    have c33b1 : decide (120 < a0.size) = true:=decide_eq_true (by omega)
    clear c33
    simp only [Option.some.injEq,Prod.mk.injEq] at H
    obtain ⟨rfl,rfl⟩:=H
    obtain ⟨Ao34,co34,eo34⟩:=Kd.R_slice HO_5.out
    subst eo34
    obtain ⟨Ao35,co35,eo35⟩:=Kd.R_slice HO_4.out
    subst eo35
    go_wp2
    go_ret2
    exact ⟨_,by first|rfl|(simp [errW_none,errW_some] <;> rfl)|(simp [*,errW_none,errW_some] <;> rfl),by first|exact Kd.R_nil _ _ _ _ _|exact Kd.N_nil _ _ _ _ _|exact Kd.V_nil _ _ _ _ _|exact Kd.Q_nil _ _ _ _ _|exact Kd.S_nil _ _ _ _ _,by repeat (first|(with_reducible first|exact HB.out|apply below_alloc|apply pw_below_drewN|apply below_drew1)|exact HB.out)⟩
   rw [if_pos c2] at H
   have c2b0 : decide (x6_1 < (a0.size : Int)) = true:=decide_eq_true c2
   clear c2
   by_cases c3 : 0 ≤ x6_1
   rotate_left
   ·rw [if_neg c3] at H
    exact absurd H (by simp)
   rw [if_pos c3] at H
   have c3b0 : decide (0 ≤ x6_1) = true:=decide_eq_true c3
   clear c3
   by_cases c5 : (bt a0 x6_1) = 0
   rotate_left
   ·rw [if_neg c5] at H
    have c5b0 : ((bt a0 x6_1) == 0) = false:=beq_eq_false_iff_ne.mpr c5
    have c5b1 : ((bt a0 x6_1) != 0) = true:=bne_iff_ne.mpr c5
    by_cases c23 : x5_1.length < 140737488355328
    rotate_left
    ·rw [if_neg c23] at H
     exact absurd H (by simp)
    rw [if_pos c23] at H
    have LMc23:=Aside0.mk c23
    clear c23
    obtain ⟨y194,hy194⟩ : ∃ y_ : List Int,y_ = (x5_1 ++ [bt a0 x6_1]):=⟨_,rfl⟩
    replace H : (key_Split.l0 k1 a0 x4_1 y194 (wrap64 (x6_1 + 1))) = some (r1,r2):=by first|(rw [hy194];with_reducible exact H)|(have H2_:=(Option.bind_some _ _).symm.trans H;rw [hy194];with_reducible exact H2_)|(have H2_:=(Option.bind_some _ _).symm.trans H;with_reducible exact H2_)|with_reducible exact H|(rw [hy194];exact H)|exact H
    have Ny194:=Aside0.mk hy194
    clear hy194
    have H':=Aside0.mk H
    clear H
    have p4 : 0 ≤ (x6_1 : Int):=of_decide_eq_true (by first|(with_reducible assumption)|assumption)
    have q4 : x6_1 < (a0.size : Int):=of_decide_eq_true (by first|(with_reducible assumption)|assumption)
    have hx4:=bt_at a0 x6_1
    replace p4:=eq_true p4
    replace q4:=eq_true q4
    have p22 : 0 ≤ (x6_1 : Int):=of_decide_eq_true (by first|(with_reducible assumption)|assumption)
    have q22 : x6_1 < (a0.size : Int):=of_decide_eq_true (by first|(with_reducible assumption)|assumption)
    have hx22:=bt_at a0 x6_1
    replace p22:=eq_true p22
    replace q22:=eq_true q22
    go_wp2_with (first|((with_reducible refine gate_builtin (b:=.append) (xs:=#[.tmp 17,.tmp 21]) rfl ?_);(try (refine gate_guard (by rfl) ?_;dsimp only));at_builtin;refine Kd.R_append (Kd.int .u8) (w0:=w) w.heap.size rfl (.tmp 17) (.tmp 21) 51 5 (.int .u8 0) 1 rfl Tryd.underlying51 info5 rfl (by decide) (by omega) u5 x5_1 (bt a0 x6_1) [.int .u8 (bt a0 x6_1)] (fun _ => True) (fun _ => False) rfl rfl ?aP (fun _ hk => hk.elim) ?aF ?aO ?aB ?aS ?aL ?_;(case aP => exact rfl);(case aB => exact (by repeat (first|(with_reducible first|exact HB.out|apply below_alloc|apply pw_below_drewN|apply below_drew1)|exact HB.out)));(case aF => exact (fun _ _ => trivial));(case aO => exact (by (with_reducible repeat (first|apply Kd.R_alloc|apply Kd.R_drewN|apply Kd.R_drew));exact HO_5.out));(case aS => exact (below_size (by repeat (first|(with_reducible first|exact HB.out|apply below_alloc|apply pw_below_drewN|apply below_drew1)|exact HB.out))));(case aL => have:=LMc23.out;omega);intro v195 w24 ho hb hg hat;rw [← Ny194.out] at ho;have n0_:=Aside0.mk (Kd.R_over' (by (with_reducible repeat (first|apply Kd.R_alloc|apply Kd.R_drewN|apply Kd.R_drew));exact HO_4.out) (Kd.R_typed (by (with_reducible repeat (first|apply Kd.R_alloc|apply Kd.R_drewN|apply Kd.R_drew));exact HO_5.out)) (by decide) hg);have n1_:=Aside0.mk (hb);have n2_:=Aside0.mk (ho);clear HO_4;clear HB;clear HO_5;have HO_4:=n0_;have HB:=n1_;have HO196:=n2_;clear n0_ n1_ n2_;clear ho hb hg hat))
    go_roundg k1
    case measure => have:=HK1.out;omega
    case rel => exact ⟨(x4_1),(y194),(wrap64 (x6_1 + 1)),(by first|rfl|(simp;done)|(simp [*];done)|(simp;rw [Bool.eq_iff_iff];simp;done)|(rw [Bool.eq_iff_iff];simp;done)),H',⟨by have:=HK1.out;omega⟩,⟨by (with_reducible repeat (first|apply Kd.R_alloc|apply Kd.R_drewN|apply Kd.R_drew));exact HO_4.out⟩,⟨by (with_reducible repeat (first|apply Kd.R_alloc|apply Kd.R_drewN|apply Kd.R_drew));exact HO196.out⟩,⟨by repeat (first|(with_reducible first|exact HB.out|apply below_alloc|apply pw_below_drewN|apply below_drew1)|exact HB.out)⟩⟩
   rw [if_pos c5] at H
   have c5b0 : ((bt a0 x6_1) == 0) = true:=beq_iff_eq.mpr c5
   have c5b1 : ((bt a0 x6_1) != 0) = false:=bne_eq_false_iff_eq.mpr c5
   clear c5
   have HC6:=Aside0.mk H
   clear H
   have p4 : 0 ≤ (x6_1 : Int):=of_decide_eq_true (by first|(with_reducible assumption)|assumption)
   have q4 : x6_1 < (a0.size : Int):=of_decide_eq_true (by first|(with_reducible assumption)|assumption)
   have hx4:=bt_at a0 x6_1
   replace p4:=eq_true p4
   replace q4:=eq_true q4
   go_upto_region 10 with (fail)
   go_cut [25] (fun v25 wc => ∃ (kq : Nat) (x25_5 : Bool),v25 = .bool x25_5 ∧ Aside0 (key_Split.j1 kq a0 x4_1 x5_1 (wrap64 (x6_1 + 1)) x25_5 = some (r1,r2)) ∧ Aside0 (kq ≤ k1) ∧ Aside0 (Kd.R Kd.string 9 wc w.heap.size (fun _ => True) u4 x4_1) ∧ Aside0 (Kd.R (Kd.int .u8) 5 wc w.heap.size (fun _ => True) u5 x5_1) ∧ Aside0 (Below w.heap.size w wc))
   case first =>
    have H:=HC6.out
    clear HC6
    by_cases c7 : (wrap64 (x6_1 + 1)) < (a0.size : Int)
    rotate_left
    ·rw [if_neg c7] at H
     have c7b0 : decide ((wrap64 (x6_1 + 1)) < (a0.size : Int)) = false:=decide_eq_false c7
     clear c7
     (first|rw [c7b0]|(simp only [i64_w,i32_w];rw [c7b0])|skip)
     have H':=Aside0.mk H
     clear H
     go_wp2
     go_meet
     case rel => exact ⟨_,(false),(by first|rfl|(simp;done)|(simp [*];done)|(simp;rw [Bool.eq_iff_iff];simp;done)|(rw [Bool.eq_iff_iff];simp;done)),H',⟨by have:=HK1.out;first|omega|exact Nat.le_refl _⟩,⟨by (with_reducible repeat (first|apply Kd.R_alloc|apply Kd.R_drewN|apply Kd.R_drew));exact HO_4.out⟩,⟨by (with_reducible repeat (first|apply Kd.R_alloc|apply Kd.R_drewN|apply Kd.R_drew));exact HO_5.out⟩,⟨by repeat (first|(with_reducible first|exact HB.out|apply below_alloc|apply pw_below_drewN|apply below_drew1)|exact HB.out)⟩⟩
    rw [if_pos c7] at H
    have c7b0 : decide ((wrap64 (x6_1 + 1)) < (a0.size : Int)) = true:=decide_eq_true c7
    clear c7
    (first|rw [c7b0]|(simp only [i64_w,i32_w];rw [c7b0])|skip)
    obtain ⟨ji8,hji8⟩ : ∃ j_ : Int,(wrap64 (x6_1 + 1)) = j_:=⟨_,rfl⟩
    replace H : (if 0 ≤ (ji8) then (key_Split.j1 k1 a0 x4_1 x5_1 ji8 ((bt a0 (ji8)) == 255)) else (none)) = some (r1,r2):=by first|(rw [hji8] at H;exact H)|(simp only [hji8] at H ⊢;exact H)
    (try rw [hji8] at c7b0)
    have hji8w : (IntKind.i64.wrap (x6_1 + 1)) = ji8:=(i64_w _).trans hji8
    by_cases c9 : 0 ≤ (ji8)
    rotate_left
    ·rw [if_neg c9] at H
     exact absurd H (by simp)
    rw [if_pos c9] at H
    have c9b0 : decide (0 ≤ (ji8)) = true:=decide_eq_true c9
    clear c9
    have H':=Aside0.mk H
    clear H
    have p10 : 0 ≤ ((ji8) : Int):=of_decide_eq_true (by first|(with_reducible assumption)|assumption)
    have q10 : (ji8) < (a0.size : Int):=of_decide_eq_true (by first|(with_reducible assumption)|assumption)
    have hx10:=bt_at a0 (ji8)
    replace p10:=eq_true p10
    replace q10:=eq_true q10
    go_wp2
    subst hji8
    go_meet
    case rel => exact ⟨_,(((bt a0 ((wrap64 (x6_1 + 1)))) == 255)),(by first|rfl|(simp;done)|(simp [*];done)),H',⟨by have:=HK1.out;first|omega|exact Nat.le_refl _⟩,⟨by (with_reducible repeat (first|apply Kd.R_alloc|apply Kd.R_drewN|apply Kd.R_drew));exact HO_4.out⟩,⟨by (with_reducible repeat (first|apply Kd.R_alloc|apply Kd.R_drewN|apply Kd.R_drew));exact HO_5.out⟩,⟨by repeat (first|(with_reducible first|exact HB.out|apply below_alloc|apply pw_below_drewN|apply below_drew1)|exact HB.out)⟩⟩
   case rest =>
    clear HC6;(try clear p1);(try clear q1);(try clear hx1);(try clear c2);(try clear c2b0);(try clear p2);(try clear c3);(try clear c3b0);(try clear p4);(try clear q4);(try clear hx4);(try clear c5);(try clear c5b0);(try clear c5b1);(try clear p6);(try clear c7);(try clear c7b0);(try clear c9);(try clear c9b0);(try clear p10);(try clear q10);(try clear hx10);(try clear p10);(try clear p4);(try clear q10);(try clear q4)
    obtain ⟨kq,x25_5,rfl,HA,HJ5,HO_4,HO_5,HB⟩:=hcut
    cases kq with
   |zero => exact absurd HA.out (by simp [key_Split.j1])
   |succ kj5 =>
     have H:=HA.out
     clear HA
     simp only [key_Split.j1] at H
     by_cases c11 : x25_5 = true
     ·subst c11
      have H1 : (if x5_1.length < 140737488355328 then (key_Split.l0 kj5 a0 x4_1 (x5_1 ++ [0]) (wrap64 ((wrap64 (x6_1 + 1)) + 1))) else (none)) = some (r1,r2):=by rw [if_pos rfl] at H;exact H
      clear H;have H:=H1;clear H1
      by_cases c12 : x5_1.length < 140737488355328
      rotate_left
      ·rw [if_neg c12] at H
       exact absurd H (by simp)
      rw [if_pos c12] at H
      have LMc12:=Aside0.mk c12
      clear c12
      obtain ⟨y197,hy197⟩ : ∃ y_ : List Int,y_ = (x5_1 ++ [0]):=⟨_,rfl⟩
      replace H : (key_Split.l0 kj5 a0 x4_1 y197 (wrap64 ((wrap64 (x6_1 + 1)) + 1))) = some (r1,r2):=by first|(rw [hy197];with_reducible exact H)|(have H2_:=(Option.bind_some _ _).symm.trans H;rw [hy197];with_reducible exact H2_)|(have H2_:=(Option.bind_some _ _).symm.trans H;with_reducible exact H2_)|with_reducible exact H|(rw [hy197];exact H)|exact H
      have Ny197:=Aside0.mk hy197
      clear hy197
      have H':=Aside0.mk H
      clear H
      go_wp2_with (first|((with_reducible refine gate_builtin (b:=.append) (xs:=#[.tmp 36,.tmp 37]) rfl ?_);(try (refine gate_guard (by rfl) ?_;dsimp only));at_builtin;refine Kd.R_append (Kd.int .u8) (w0:=w) w.heap.size rfl (.tmp 36) (.tmp 37) 51 5 (.int .u8 0) 1 rfl Tryd.underlying51 info5 rfl (by decide) (by omega) u5 x5_1 0 [.int .u8 0] (fun _ => True) (fun _ => False) rfl rfl ?aP (fun _ hk => hk.elim) ?aF ?aO ?aB ?aS ?aL ?_;(case aP => exact rfl);(case aB => exact (by repeat (first|(with_reducible first|exact HB.out|apply below_alloc|apply pw_below_drewN|apply below_drew1)|exact HB.out)));(case aF => exact (fun _ _ => trivial));(case aO => exact (by (with_reducible repeat (first|apply Kd.R_alloc|apply Kd.R_drewN|apply Kd.R_drew));exact HO_5.out));(case aS => exact (below_size (by repeat (first|(with_reducible first|exact HB.out|apply below_alloc|apply pw_below_drewN|apply below_drew1)|exact HB.out))));(case aL => have:=LMc12.out;omega);intro v198 w13 ho hb hg hat;rw [← Ny197.out] at ho;have n0_:=Aside0.mk (Kd.R_over' (by (with_reducible repeat (first|apply Kd.R_alloc|apply Kd.R_drewN|apply Kd.R_drew));exact HO_4.out) (Kd.R_typed (by (with_reducible repeat (first|apply Kd.R_alloc|apply Kd.R_drewN|apply Kd.R_drew));exact HO_5.out)) (by decide) hg);have n1_:=Aside0.mk (hb);have n2_:=Aside0.mk (ho);clear HO_4;clear HB;clear HO_5;have HO_4:=n0_;have HB:=n1_;have HO199:=n2_;clear n0_ n1_ n2_;clear ho hb hg hat))
      go_roundg kj5
      case measure => have:=HK1.out;have:=HJ5.out;omega
      case rel => exact ⟨(x4_1),(y197),(wrap64 ((wrap64 (x6_1 + 1)) + 1)),(by first|rfl|(simp;done)|(simp [*];done)|(simp;rw [Bool.eq_iff_iff];simp;done)|(rw [Bool.eq_iff_iff];simp;done)),H',⟨by have:=HK1.out;have:=HJ5.out;omega⟩,⟨by (with_reducible repeat (first|apply Kd.R_alloc|apply Kd.R_drewN|apply Kd.R_drew));exact HO_4.out⟩,⟨by (with_reducible repeat (first|apply Kd.R_alloc|apply Kd.R_drewN|apply Kd.R_drew));exact HO199.out⟩,⟨by repeat (first|(with_reducible first|exact HB.out|apply below_alloc|apply pw_below_drewN|apply below_drew1)|exact HB.out)⟩⟩
     replace c11:=Bool.eq_false_iff.mpr c11
     subst c11
     have H1 : (if (wrap64 (x6_1 + 1)) < (a0.size : Int) then (if 0 ≤ (wrap64 (x6_1 + 1)) then (if (bt a0 (wrap64 (x6_1 + 1))) = 1 then (if x4_1.length < 8796093022208 then (key_Split.l0 kj5 a0 (x4_1 ++ [strOfNums x5_1]) ([] : List Int) (wrap64 ((wrap64 (x6_1 + 1)) + 1))) else (none)) else (some (([] : List ByteArray),2))) else (none)) else (some (([] : List ByteArray),2))) = some (r1,r2):=by rw [if_neg (show ¬ (false = true) by decide)] at H;exact H
     clear H;have H:=H1;clear H1
     by_cases c14 : (wrap64 (x6_1 + 1)) < (a0.size : Int)
     rotate_left
     ·rw [if_neg c14] at H
      have c14b0 : decide ((wrap64 (x6_1 + 1)) < (a0.size : Int)) = false:=decide_eq_false c14
      clear c14
      simp only [Option.some.injEq,Prod.mk.injEq] at H
      obtain ⟨rfl,rfl⟩:=H
      go_wp2
      go_ret2
      exact ⟨_,by first|rfl|(simp [errW_none,errW_some] <;> rfl)|(simp [*,errW_none,errW_some] <;> rfl),by first|exact Kd.R_nil _ _ _ _ _|exact Kd.N_nil _ _ _ _ _|exact Kd.V_nil _ _ _ _ _|exact Kd.Q_nil _ _ _ _ _|exact Kd.S_nil _ _ _ _ _,by repeat (first|(with_reducible first|exact HB.out|apply below_alloc|apply pw_below_drewN|apply below_drew1)|exact HB.out)⟩
     rw [if_pos c14] at H
     have c14b0 : decide ((wrap64 (x6_1 + 1)) < (a0.size : Int)) = true:=decide_eq_true c14
     clear c14
     obtain ⟨ji15,hji15⟩ : ∃ j_ : Int,(wrap64 (x6_1 + 1)) = j_:=⟨_,rfl⟩
     replace H : (if 0 ≤ (ji15) then (if (bt a0 (ji15)) = 1 then (if x4_1.length < 8796093022208 then (key_Split.l0 kj5 a0 (x4_1 ++ [strOfNums x5_1]) ([] : List Int) (wrap64 ((ji15) + 1))) else (none)) else (some (([] : List ByteArray),2))) else (none)) = some (r1,r2):=by first|(rw [hji15] at H;exact H)|(simp only [hji15] at H ⊢;exact H)
     (try rw [hji15] at c14b0)
     have hji15w : (IntKind.i64.wrap (x6_1 + 1)) = ji15:=(i64_w _).trans hji15
     by_cases c16 : 0 ≤ (ji15)
     rotate_left
     ·rw [if_neg c16] at H
      exact absurd H (by simp)
     rw [if_pos c16] at H
     have c16b0 : decide (0 ≤ (ji15)) = true:=decide_eq_true c16
     clear c16
     by_cases c18 : (bt a0 (ji15)) = 1
     rotate_left
     ·rw [if_neg c18] at H
      have c18b0 : ((bt a0 (ji15)) == 1) = false:=beq_eq_false_iff_ne.mpr c18
      have c18b1 : ((bt a0 (ji15)) != 1) = true:=bne_iff_ne.mpr c18
      simp only [Option.some.injEq,Prod.mk.injEq] at H
      obtain ⟨rfl,rfl⟩:=H
      have p17 : 0 ≤ ((ji15) : Int):=of_decide_eq_true (by first|(with_reducible assumption)|assumption)
      have q17 : (ji15) < (a0.size : Int):=of_decide_eq_true (by first|(with_reducible assumption)|assumption)
      have hx17:=bt_at a0 (ji15)
      replace p17:=eq_true p17
      replace q17:=eq_true q17
      go_wp2
      go_ret2
      exact ⟨_,by first|rfl|(simp [errW_none,errW_some] <;> rfl)|(simp only [← hji15];first|rfl|(simp [errW_none,errW_some] <;> rfl))|(simp [*,errW_none,errW_some] <;> rfl),by first|exact Kd.R_nil _ _ _ _ _|exact Kd.N_nil _ _ _ _ _|exact Kd.V_nil _ _ _ _ _|exact Kd.Q_nil _ _ _ _ _|exact Kd.S_nil _ _ _ _ _,by repeat (first|(with_reducible first|exact HB.out|apply below_alloc|apply pw_below_drewN|apply below_drew1)|exact HB.out)⟩
     rw [if_pos c18] at H
     have c18b0 : ((bt a0 (ji15)) == 1) = true:=beq_iff_eq.mpr c18
     have c18b1 : ((bt a0 (ji15)) != 1) = false:=bne_eq_false_iff_eq.mpr c18
     clear c18
     by_cases c19 : x4_1.length < 8796093022208
     rotate_left
     ·rw [if_neg c19] at H
      exact absurd H (by simp)
     rw [if_pos c19] at H
     have LMc19:=Aside0.mk c19
     clear c19
     obtain ⟨y200,hy200⟩ : ∃ y_ : List ByteArray,y_ = (x4_1 ++ [strOfNums x5_1]):=⟨_,rfl⟩
     replace H : (key_Split.l0 kj5 a0 y200 ([] : List Int) (wrap64 ((ji15) + 1))) = some (r1,r2):=by first|(rw [hy200];with_reducible exact H)|(have H2_:=(Option.bind_some _ _).symm.trans H;rw [hy200];with_reducible exact H2_)|(have H2_:=(Option.bind_some _ _).symm.trans H;with_reducible exact H2_)|with_reducible exact H|(rw [hy200];exact H)|exact H
     have Ny200:=Aside0.mk hy200
     clear hy200
     have H':=Aside0.mk H
     clear H
     have p17 : 0 ≤ ((ji15) : Int):=of_decide_eq_true (by first|(with_reducible assumption)|assumption)
     have q17 : (ji15) < (a0.size : Int):=of_decide_eq_true (by first|(with_reducible assumption)|assumption)
     have hx17:=bt_at a0 (ji15)
     replace p17:=eq_true p17
     replace q17:=eq_true q17
     have hcv20:=own_string (P:=Tryd.prog) Tryd.underlying51 Tryd.underlying5 Tryd.underlying9 (Kd.own_of_R HO_5.out)
     go_wp2_with (first|((with_reducible refine gate_builtin (b:=.append) (xs:=#[.tmp 50,.tmp 53]) rfl ?_);(try (refine gate_guard (by rfl) ?_;dsimp only));at_builtin;refine Kd.R_append Kd.string (w0:=w) w.heap.size rfl (.tmp 50) (.tmp 53) 68 9 (.string ⟨#[]⟩) 16 rfl Tryd.underlying68 info9 rfl (by decide) (by omega) u4 x4_1 (strOfNums x5_1) [.string (strOfNums x5_1)] (fun _ => True) (fun _ => False) rfl rfl ?aP (fun _ hk => hk.elim) ?aF ?aO ?aB ?aS ?aL ?_;(case aP => exact rfl);(case aB => exact (by repeat (first|(with_reducible first|exact HB.out|apply below_alloc|apply pw_below_drewN|apply below_drew1)|exact HB.out)));(case aF => exact (fun _ _ => trivial));(case aO => exact (by (with_reducible repeat (first|apply Kd.R_alloc|apply Kd.R_drewN|apply Kd.R_drew));exact HO_4.out));(case aS => exact (below_size (by repeat (first|(with_reducible first|exact HB.out|apply below_alloc|apply pw_below_drewN|apply below_drew1)|exact HB.out))));(case aL => have:=LMc19.out;omega);intro v201 w21 ho hb hg hat;rw [← Ny200.out] at ho;have n0_:=Aside0.mk (Kd.R_over' (by (with_reducible repeat (first|apply Kd.R_alloc|apply Kd.R_drewN|apply Kd.R_drew));exact HO_5.out) (Kd.R_typed (by (with_reducible repeat (first|apply Kd.R_alloc|apply Kd.R_drewN|apply Kd.R_drew));exact HO_4.out)) (by decide) hg);have n1_:=Aside0.mk (hb);have n2_:=Aside0.mk (ho);clear HO_5;clear HB;clear HO_4;have HO_5:=n0_;have HB:=n1_;have HO202:=n2_;clear n0_ n1_ n2_;clear ho hb hg hat))
     go_roundg kj5
     case measure => have:=HK1.out;have:=HJ5.out;omega
     case rel => exact ⟨(y200),(([] : List Int)),(wrap64 ((ji15) + 1)),(by first|rfl|(simp;done)|(simp only [← hji15] <;> (first|rfl|simp))|(simp [*];done)),H',⟨by have:=HK1.out;have:=HJ5.out;omega⟩,⟨by (with_reducible repeat (first|apply Kd.R_alloc|apply Kd.R_drewN|apply Kd.R_drew));exact HO202.out⟩,⟨by first|exact Kd.R_nil _ _ _ _ _|exact Kd.N_nil _ _ _ _ _|exact Kd.V_nil _ _ _ _ _|exact Kd.Q_nil _ _ _ _ _|exact Kd.S_nil _ _ _ _ _⟩,⟨by repeat (first|(with_reducible first|exact HB.out|apply below_alloc|apply pw_below_drewN|apply below_drew1)|exact HB.out)⟩⟩
end Go.Proofs.YtniolbolfclhkaaDoor.Q
namespace Go.Proofs.YtniolbolfclhkaaDoor.Q
open Go.RowKit Go.Proofs.YtniolbolfclhkaaDoorW.PrintWords Go.Proofs.YtniolbolfclhkaaDoorW.PrintLast Go.Proofs.YtniolbolfclhkaaDoorW.PrintMore
attribute [local go_sem] max2_int min2_int max_two min_two max_three min_three max_four min_four   -- for this text's walks alone
set_option linter.unusedVariables false
set_option linter.unusedSimpArgs false
mutual
def object_Unkey.j0 : Nat → ByteArray → List ByteArray → Bool → Option (Int × ByteArray × ByteArray × Int)
|0,_,_,_ => none
|k + 1,x0,x6,x22 => if x22 = true then (some (0,(⟨#[]⟩ : ByteArray),(⟨#[]⟩ : ByteArray),2)) else (object_Unkey.l0 k x0 x6 0)
def object_Unkey.l0 : Nat → ByteArray → List ByteArray → Int → Option (Int × ByteArray × ByteArray × Int)
|0,_,_,_ => none
|k + 1,x0,x6,x23 => if x23 < 5 then (if 1 < (x6.length : Int) then (if 2 < (x6.length : Int) then ((object_Key.f x23 (rdOf ByteArray.empty x6 1) (rdOf ByteArray.empty x6 2)).bind fun bt209 => (if bt209.2 = 0 then (if bt209.1.toList = x0.toList then (some (x23,rdOf ByteArray.empty x6 1,rdOf ByteArray.empty x6 2,0)) else (object_Unkey.l0 k x0 x6 (wrap64 (x23 + 1)))) else (object_Unkey.l0 k x0 x6 (wrap64 (x23 + 1))))) else (none)) else (none)) else (some (0,(⟨#[]⟩ : ByteArray),(⟨#[]⟩ : ByteArray),2))
end
def object_Unkey.f (k : Nat) (a0 : ByteArray) : Option (Int × ByteArray × ByteArray × Int) := (key_Split.f k a0).bind fun bt203 => (if bt203.2 = 0 then (object_Unkey.j0 k a0 bt203.1 ((bt203.1.length : Int) != 3)) else (object_Unkey.j0 k a0 bt203.1 true))
theorem object_Unkey.mono_l : ∀ k, (∀ y0 y1 y2, LeO (object_Unkey.j0 k y0 y1 y2) (object_Unkey.j0 (k + 1) y0 y1 y2)) ∧ (∀ y0 y1 y2, LeO (object_Unkey.l0 k y0 y1 y2) (object_Unkey.l0 (k + 1) y0 y1 y2))
|0 => ⟨fun _ _ _ r h => by simp [object_Unkey.j0] at h,fun _ _ _ r h => by simp [object_Unkey.l0] at h⟩
|k + 1 => by
  obtain ⟨ih0,ih1⟩:=object_Unkey.mono_l k
  refine ⟨?_,?_⟩
  ·intro y0 y1 y2
   unfold object_Unkey.j0
   repeat' first
  |(with_reducible exact ih0 _ _ _)
  |(with_reducible exact ih1 _ _ _)
  |(with_reducible exact key_Split.mono _ _)
  |(with_reducible exact LeO.refl _)
  |(with_reducible exact LeO.none _)
  |(with_reducible refine LeO.ite ?_ ?_)
  |(with_reducible refine LeO.bind ?_ (fun _ => ?_))
  |exact ih0 _ _ _
  |exact ih1 _ _ _
  |exact key_Split.mono _ _
  |exact LeO.none _
  |refine LeO.ite ?_ ?_
  |refine LeO.bind ?_ (fun _ => ?_)
  ·intro y0 y1 y2
   unfold object_Unkey.l0
   repeat' first
  |(with_reducible exact ih0 _ _ _)
  |(with_reducible exact ih1 _ _ _)
  |(with_reducible exact key_Split.mono _ _)
  |(with_reducible exact LeO.refl _)
  |(with_reducible exact LeO.none _)
  |(with_reducible refine LeO.ite ?_ ?_)
  |(with_reducible refine LeO.bind ?_ (fun _ => ?_))
  |exact ih0 _ _ _
  |exact ih1 _ _ _
  |exact key_Split.mono _ _
  |exact LeO.none _
  |refine LeO.ite ?_ ?_
  |refine LeO.bind ?_ (fun _ => ?_)
theorem object_Unkey.mono : ∀ a0 k, LeO (object_Unkey.f k a0) (object_Unkey.f (k + 1) a0) := by
 intro a0 k
 obtain ⟨ih0,ih1⟩:=object_Unkey.mono_l k
 unfold object_Unkey.f
 repeat' first
  |(with_reducible exact ih0 _ _ _)
  |(with_reducible exact ih1 _ _ _)
  |(with_reducible exact key_Split.mono _ _)
  |(with_reducible exact LeO.refl _)
  |(with_reducible exact LeO.none _)
  |(with_reducible refine LeO.ite ?_ ?_)
  |(with_reducible refine LeO.bind ?_ (fun _ => ?_))
  |exact ih0 _ _ _
  |exact ih1 _ _ _
  |exact key_Split.mono _ _
  |exact LeO.none _
  |refine LeO.ite ?_ ?_
  |refine LeO.bind ?_ (fun _ => ?_)
def object_Unkey.T7 : Bool × List (List Nat × List Nat) := (true, [([], []), ([], []), ([1], [1]), ([2], [2]), ([], []), ([4], [4]), ([5], [5]), ([0, 3, 6], [0, 3, 6]), ([7], [7]), ([8], [8]), ([8], [8]), ([9, 7, 0, 1, 2, 3, 4, 5, 6, 7, 8, 9], [9]), ([10, 11, 0, 1, 2, 3, 4, 5, 6, 7, 8, 9, 10, 11], [10])])
def object_Unkey.B7 : List Nat := [0, 0, 2, 6, 0, 16, 48, 127, 255, 511, 511, 1023, 4095]
theorem object_Unkey.tab7 : rtab .any (opsOf Tryd.f13 7) = object_Unkey.T7 := by kernel_rfl
theorem object_Unkey.bits7 : waitsOk object_Unkey.T7.2 object_Unkey.B7 = true := by kernel_rfl
def object_Unkey.T9 : Bool × List (List Nat × List Nat) := (true, [([], []), ([], []), ([1], [1]), ([2], [2]), ([], []), ([4], [4]), ([5], [5]), ([0, 0], [0]), ([3, 7, 0, 1, 2, 3, 7], [3]), ([6, 8, 0, 1, 2, 3, 4, 5, 6, 7, 8], [6]), ([9, 0, 1, 2, 3, 4, 5, 6, 7, 8, 9], [])])
def object_Unkey.B9 : List Nat := [0, 0, 2, 6, 0, 16, 48, 1, 143, 511, 1023]
theorem object_Unkey.tab9 : rtab .any (opsOf Tryd.f13 9) = object_Unkey.T9 := by kernel_rfl
theorem object_Unkey.bits9 : waitsOk object_Unkey.T9.2 object_Unkey.B9 = true := by kernel_rfl
set_option maxHeartbeats 8000000 in
set_option maxRecDepth 100000 in
theorem object_Unkey.calls (k : Nat) (a0 : ByteArray) (r1 : Int) (r2 : ByteArray) (r3 : ByteArray) (r4 : Int) (w : World) (h : object_Unkey.f k a0 = some (r1, r2, r3, r4)) (hG : Glob w) :
  Calls Tryd.prog 13 #[.string a0] w fun e w' => e = .returned (.tuple #[.int .i64 r1,.string r2,.string r3,.int .i64 r4]) ∧ Below w.heap.size w w':=by
 have HB:=Aside0.mk (Below.refl w.heap.size w)
 have H : ((key_Split.f k a0).bind fun bt203 => (if bt203.2 = 0 then (object_Unkey.j0 k a0 bt203.1 ((bt203.1.length : Int) != 3)) else (object_Unkey.j0 k a0 bt203.1 true))) = some (r1,r2,r3,r4):=h
 clear h
 replace H:=Option.bind_eq_some_iff.mp H
 obtain ⟨⟨t203,t204⟩,A20,H⟩:=H
 replace H : (if t204 = 0 then (object_Unkey.j0 k a0 t203 ((t203.length : Int) != 3)) else (object_Unkey.j0 k a0 t203 true)) = some (r1,r2,r3,r4):=H
 have A2:=Aside0.mk A20
 clear A20
 have HC3:=Aside0.mk H
 clear H
 go_enter Tryd.func13,Tryd.ntmps13
 go_upto_region 2 with (first|((with_reducible refine gate_callee (f:=34) rfl ?_);refine goesL_ (some 13) rfl rfl Tryd.func34 (by kernel_rfl) rfl #[.string a0] rfl (by (try simp only [List.map_toArray,List.map_cons,List.map_nil]);first|done|rfl|(simp only [List.length_drop,List.length_take];rfl)) ?_;(with_reducible refine (key_Split.calls k a0 t203 t204 _ A2.out).mono ?_);rintro e w4 ⟨v205,rfl,ho0,hb⟩;refine ⟨_,rfl,?_⟩;have n0_:=Aside0.mk (Kd.R_lower ho0 (below_size (by repeat (first|(with_reducible first|exact HB.out|apply below_alloc|apply pw_below_drewN|apply below_drew1)|exact HB.out))));have n1_:=Aside0.mk (below_step (by repeat (first|(with_reducible first|exact HB.out|apply below_alloc|apply pw_below_drewN|apply below_drew1)|exact HB.out)) hb);clear HB;have HO206:=n0_;have HB:=n1_;clear n0_ n1_;(try clear hb);(try clear hb2);(try clear hk);(try clear hi);(try clear ho0)))
 (try simp only [Act.put,List.setIfInBounds_toArray,List.set_cons_zero,List.set_cons_succ])
 go_cut [22] (fun v22 wc => ∃ (kq : Nat) (x22_2 : Bool),v22 = .bool x22_2 ∧ Aside0 (object_Unkey.j0 kq a0 t203 x22_2 = some (r1,r2,r3,r4)) ∧ Aside0 (kq ≤ k) ∧ Aside0 (Kd.R Kd.string 9 wc w.heap.size (fun _ => True) v205 t203) ∧ Aside0 (Below w.heap.size w wc))
 case first =>
  have H:=HC3.out
  clear HC3
  by_cases c5 : t204 = 0
  rotate_left
  ·rw [if_neg c5] at H
   have c5b0 : (t204 == 0) = false:=beq_eq_false_iff_ne.mpr c5
   have c5b1 : (t204 != 0) = true:=bne_iff_ne.mpr c5
   (first|rw [c5b0]|(simp only [i64_w,i32_w];rw [c5b0])|skip)
   have H':=Aside0.mk H
   clear H
   go_wp2
   go_meet
   case rel => exact ⟨_,(true),(by first|rfl|(simp;done)|(simp [*];done)|(simp;rw [Bool.eq_iff_iff];simp;done)|(rw [Bool.eq_iff_iff];simp;done)),H',⟨by first|omega|exact Nat.le_refl _⟩,⟨by (with_reducible repeat (first|apply Kd.R_alloc|apply Kd.R_drewN|apply Kd.R_drew));exact HO206.out⟩,⟨by repeat (first|(with_reducible first|exact HB.out|apply below_alloc|apply pw_below_drewN|apply below_drew1)|exact HB.out)⟩⟩
  rw [if_pos c5] at H
  have c5b0 : (t204 == 0) = true:=beq_iff_eq.mpr c5
  have c5b1 : (t204 != 0) = false:=bne_eq_false_iff_eq.mpr c5
  clear c5
  (first|rw [c5b0]|(simp only [i64_w,i32_w];rw [c5b0])|skip)
  have H':=Aside0.mk H
  clear H
  obtain ⟨Ao6,co6,eo6⟩:=Kd.R_slice HO206.out
  subst eo6
  go_wp2
  go_meet
  case rel => exact ⟨_,(((t203.length : Int) != 3)),(by first|rfl|(simp;done)|(simp [*];done)|(simp;rw [Bool.eq_iff_iff];simp;done)|(rw [Bool.eq_iff_iff];simp;done)),H',⟨by first|omega|exact Nat.le_refl _⟩,⟨by (with_reducible repeat (first|apply Kd.R_alloc|apply Kd.R_drewN|apply Kd.R_drew));exact HO206.out⟩,⟨by repeat (first|(with_reducible first|exact HB.out|apply below_alloc|apply pw_below_drewN|apply below_drew1)|exact HB.out)⟩⟩
 case rest =>
  clear HC3;(try clear c1);(try clear p2);(try clear c3);(try clear c5);(try clear c5b0);(try clear c5b1)
  obtain ⟨kq,x22_2,rfl,HA,HJ2,HO_6,HB⟩:=hcut
  cases kq with
 |zero => exact absurd HA.out (by simp [object_Unkey.j0])
 |succ kj2 =>
   have H:=HA.out
   clear HA
   simp only [object_Unkey.j0] at H
   by_cases c7 : x22_2 = true
   ·subst c7
    have H1 : (some (0,(⟨#[]⟩ : ByteArray),(⟨#[]⟩ : ByteArray),2)) = some (r1,r2,r3,r4):=by rw [if_pos rfl] at H;exact H
    clear H;have H:=H1;clear H1
    simp only [Option.some.injEq,Prod.mk.injEq] at H
    obtain ⟨rfl,rfl,rfl,rfl⟩:=H
    go_wp2
    refine bodyPost_ret (results_list (rs:=[.tmp 2,.tmp 3,.tmp 4,.tmp 5]) rfl (by simp) (.tmp (.tmp (.tmp (.tmp .nil))))) rfl ?_
    exact ⟨by first|rfl|(simp [errW_none,errW_some] <;> rfl)|(simp [*,errW_none,errW_some] <;> rfl),by repeat (first|(with_reducible first|exact HB.out|apply below_alloc|apply pw_below_drewN|apply below_drew1)|exact HB.out)⟩
   replace c7:=Bool.eq_false_iff.mpr c7
   subst c7
   have H1 : (object_Unkey.l0 kj2 a0 t203 0) = some (r1,r2,r3,r4):=by rw [if_neg (show ¬ (false = true) by decide)] at H;exact H
   clear H;have H:=H1;clear H1
   have H':=Aside0.mk H
   clear H
   go_wp2
   go_loopg [23] kj2 (fun kq v23 w' => ∃ (x23_2 : Int),v23 = .int .i64 x23_2 ∧ Aside0 (object_Unkey.l0 kq a0 t203 x23_2 = some (r1,r2,r3,r4)) ∧ Aside0 (kq ≤ kj2) ∧ Aside0 (Kd.R Kd.string 9 w' w.heap.size (fun _ => True) v205 t203) ∧ Aside0 (Below w.heap.size w w'))
   case atStart => exact ⟨(0),(by first|rfl|(simp;done)|(simp [*];done)|(simp;rw [Bool.eq_iff_iff];simp;done)|(rw [Bool.eq_iff_iff];simp;done)),H',⟨Nat.le_refl _⟩,⟨by (with_reducible repeat (first|apply Kd.R_alloc|apply Kd.R_drewN|apply Kd.R_drew));exact HO_6.out⟩,⟨by repeat (first|(with_reducible first|exact HB.out|apply below_alloc|apply pw_below_drewN|apply below_drew1)|exact HB.out)⟩⟩
   case round =>
    clear H';(try clear c1);(try clear p2);(try clear c3);(try clear c5);(try clear c5b0);(try clear c5b1);(try clear c7);(try clear p2)
    obtain ⟨x23_2,rfl,HA,HK2,HO_6,HB⟩:=hrel
    cases gk with
   |zero => exact absurd HA.out (by simp [object_Unkey.l0])
   |succ k2 =>
     have H:=HA.out
     clear HA
     simp only [object_Unkey.l0] at H
     by_cases c8 : x23_2 < 5
     rotate_left
     ·rw [if_neg c8] at H
      have c8b0 : decide (x23_2 < 5) = false:=decide_eq_false c8
      clear c8
      simp only [Option.some.injEq,Prod.mk.injEq] at H
      obtain ⟨rfl,rfl,rfl,rfl⟩:=H
      go_wp2
      refine bodyPost_ret (results_list (rs:=[.tmp 2,.tmp 3,.tmp 4,.tmp 5]) rfl (by simp) (.tmp (.tmp (.tmp (.tmp .nil))))) rfl ?_
      exact ⟨by first|rfl|(simp [errW_none,errW_some] <;> rfl)|(simp [*,errW_none,errW_some] <;> rfl),by repeat (first|(with_reducible first|exact HB.out|apply below_alloc|apply pw_below_drewN|apply below_drew1)|exact HB.out)⟩
     rw [if_pos c8] at H
     have c8b0 : decide (x23_2 < 5) = true:=decide_eq_true c8
     clear c8
     by_cases c9 : 1 < (t203.length : Int)
     rotate_left
     ·rw [if_neg c9] at H
      exact absurd H (by simp)
     rw [if_pos c9] at H
     have c9b0 : decide (1 < (t203.length : Int)) = true:=decide_eq_true c9
     have c9b1 : decide (1 < t203.length) = true:=decide_eq_true (by omega)
     clear c9
     by_cases c10 : 2 < (t203.length : Int)
     rotate_left
     ·rw [if_neg c10] at H
      exact absurd H (by simp)
     rw [if_pos c10] at H
     have c10b0 : decide (2 < (t203.length : Int)) = true:=decide_eq_true c10
     have c10b1 : decide (2 < t203.length) = true:=decide_eq_true (by omega)
     clear c10
     replace H:=Option.bind_eq_some_iff.mp H
     obtain ⟨⟨t209,t210⟩,A110,H⟩:=H
     replace H : (if t210 = 0 then (if t209.toList = a0.toList then (some (x23_2,rdOf ByteArray.empty t203 1,rdOf ByteArray.empty t203 2,0)) else (object_Unkey.l0 k2 a0 t203 (wrap64 (x23_2 + 1)))) else (object_Unkey.l0 k2 a0 t203 (wrap64 (x23_2 + 1)))) = some (r1,r2,r3,r4):=H
     have A11:=Aside0.mk A110
     clear A110
     by_cases c12 : t210 = 0
     rotate_left
     ·rw [if_neg c12] at H
      have c12b0 : (t210 == 0) = false:=beq_eq_false_iff_ne.mpr c12
      have c12b1 : (t210 != 0) = true:=bne_iff_ne.mpr c12
      have H':=Aside0.mk H
      clear H
      try go_wp2
      have n0_:=Aside0.mk (Kd.R_drew HO_6.out)
      have n1_:=Aside0.mk (below_drew1 HB.out)
      clear HO_6;clear HB;have HO_6:=n0_;have HB:=n1_;clear n0_ n1_
      obtain ⟨Ao22,co22,eo22⟩:=Kd.R_slice HO_6.out
      (first|subst eo22|(injection eo22 with f1_ f2_ f3_;have f4_:=f1_.symm;have f5_:=f3_.symm;clear f1_ f2_ f3_;subst f4_;subst f5_))
      have p207 : 0 ≤ (1 : Int):=(by omega)
      have q207 : 1 < (t203.length : Int):=of_decide_eq_true (by first|(with_reducible assumption)|assumption)
      obtain ⟨ad207,e207,hx207_0⟩:=Kd.at_string (Kd.R_reads' HO_6.out).2.2 1 p207 q207
      cases e207
      (try simp only [show (1 : Int).toNat = 1 from rfl,Nat.reduceMul,Nat.reduceEqDiff,Go.Addr.add,↓reduceIte] at hx207_0)
      have qi207 : (1 < t203.length) = True:=eq_true (by omega)
      (try rw [show ((1 : Int)).toNat = 1 from rfl] at hx207_0)
      replace p207:=eq_true p207
      replace q207:=eq_true q207
      have p208 : 0 ≤ (2 : Int):=(by omega)
      have q208 : 2 < (t203.length : Int):=of_decide_eq_true (by first|(with_reducible assumption)|assumption)
      obtain ⟨ad208,e208,hx208_0⟩:=Kd.at_string (Kd.R_reads' HO_6.out).2.2 2 p208 q208
      obtain rfl : ad207 = ad208:=(by injection e208)
      (try simp only [show (2 : Int).toNat = 2 from rfl,Nat.reduceMul,Nat.reduceEqDiff,Go.Addr.add,↓reduceIte] at hx208_0)
      have qi208 : (2 < t203.length) = True:=eq_true (by omega)
      (try rw [show ((2 : Int)).toNat = 2 from rfl] at hx208_0)
      replace p208:=eq_true p208
      replace q208:=eq_true q208
      refine start_ (n:=13) (S:=fun w' => w'.cell? ⟨ad207.block,ad207.off + 1,none⟩ = some (.string (rdOf ByteArray.empty t203 1)) ∧ w'.cell? ⟨ad207.block,ad207.off + 2,none⟩ = some (.string (rdOf ByteArray.empty t203 2))) (ds:=[]) (bl 0 13) (by kernel_rfl) rfl rfl ⟨hx207_0,hx208_0⟩ (fun hHeld => ?_);refine with_tabW object_Unkey.tab7 object_Unkey.bits7 (fun HT_ HW_ => ?_)
      generalize wr.drew = w21 at HO_6 HB hx207_0 hx208_0 hHeld ⊢
      refine pure_ (i:=0) (N:=some 27) (v:=?_) (a':=?_) (bl 1 12) rfl rfl (any_of HT_.out (by kernel_rfl)) (fun _ _ _ h => h) (Or.inl ⟨by rfl,?_⟩) ?_ ?_
      rotate_left;·intro w';go_simp;with_reducible rfl
      rotate_left;·simp only [pu_];rfl
      refine pure_ (i:=1) (N:=some 28) (v:=?_) (a':=?_) (bl 2 11) rfl rfl (any_of HT_.out (by kernel_rfl)) (fun _ _ _ h => h) (Or.inl ⟨by rfl,?_⟩) ?_ ?_
      rotate_left;·intro w';go_simp;with_reducible rfl
      rotate_left;·simp only [pu_];rfl
      refine pure_ (i:=2) (N:=some 29) (v:=?_) (a':=?_) (bl 3 10) rfl rfl (any_of HT_.out (by kernel_rfl)) (fun _ _ _ h => h) (Or.inl ⟨by rfl,?_⟩) ?_ ?_
      rotate_left;·intro w';go_simp;with_reducible rfl
      rotate_left;·simp only [pu_];rfl
      refine pure_ (i:=4) (N:=some 31) (v:=?_) (a':=?_) #[true,true,true,false,true,false,false,false,false,false,false,false,false] rfl rfl (any_of HT_.out (by kernel_rfl)) (fun _ _ _ h => h) (Or.inl ⟨by rfl,?_⟩) ?_ ?_
      rotate_left;·intro w';go_simp;with_reducible rfl
      rotate_left;·simp only [pu_];rfl
      refine pure_ (i:=5) (N:=some 32) (v:=?_) (a':=?_) #[true,true,true,false,true,true,false,false,false,false,false,false,false] rfl rfl (any_of HT_.out (by kernel_rfl)) (fun _ _ _ h => h) (Or.inl ⟨by rfl,?_⟩) ?_ ?_
      rotate_left;·intro w';go_simp;with_reducible rfl
      rotate_left;·simp only [pu_];rfl
      refine take_ (i:=3) (N:=some 30) (v:=?_) (a':=?_) (bl 6 7) rfl rfl (take_ofW HT_.out HW_.out (by kernel_rfl)) (fun _ _ _ h => h) (Or.inl ⟨by rfl,?_⟩) hHeld ?_ ?_
      rotate_left
      ·rintro w' ⟨s0,s1⟩
       go_simp
       with_reducible rfl
      rotate_left
      ·simp only [pu_]
       rfl
      refine take_ (i:=6) (N:=some 33) (v:=?_) (a':=?_) (bl 7 6) rfl rfl (take_ofW HT_.out HW_.out (by kernel_rfl)) (fun _ _ _ h => h) (Or.inl ⟨by rfl,?_⟩) hHeld ?_ ?_
      rotate_left
      ·rintro w' ⟨s0,s1⟩
       go_simp
       with_reducible rfl
      rotate_left
      ·simp only [pu_]
       rfl
      refine one_ (i:=7) (N:=some 34) (bl 8 5) rfl rfl (one_of HT_.out (by kernel_rfl)) (by decide) (fun K hK => ?_)
      refine goes_ Tryd.func11 (by kernel_rfl) rfl #[.int .i64 x23_2,.string (rdOf ByteArray.empty t203 1),.string (rdOf ByteArray.empty t203 2)] (by rfl) rfl rfl (by (try simp only [List.map_toArray,List.map_cons,List.map_nil]);first|done|rfl|(simp only [List.length_drop,List.length_take];rfl)) ?_
      with_reducible refine (object_Key.calls x23_2 (rdOf ByteArray.empty t203 1) (rdOf ByteArray.empty t203 2) t209 t210 _ A11.out (Glob.below hG (by repeat (first|(with_reducible first|exact HB.out|apply below_alloc|apply pw_below_drewN|apply below_drew1)|exact HB.out)))).mono ?_
      rintro e w23 ⟨rfl,hb⟩
      have HS0_:=(hb.cell (World.block_lt_of_cell? _ _ (hHeld.1))).trans (hHeld.1)
      have HS1_:=(hb.cell (World.block_lt_of_cell? _ _ (hHeld.2))).trans (hHeld.2)
      refine ⟨_,rfl,?_⟩
      have n0_:=Aside0.mk (Kd.R_below (by (with_reducible repeat (first|apply Kd.R_alloc|apply Kd.R_drewN|apply Kd.R_drew));exact HO_6.out) hb)
      have n1_:=Aside0.mk (below_step (by repeat (first|(with_reducible first|exact HB.out|apply below_alloc|apply pw_below_drewN|apply below_drew1)|exact HB.out)) hb)
      clear HO_6;clear HB;have HO_6:=n0_;have HB:=n1_;clear n0_ n1_;(try clear hb);(try clear hb2);(try clear hk);(try clear hi)
      refine hK.out _ _ ⟨HS0_,HS1_⟩ (fun hHeld => ?_)
      clear hK K
      refine norm_ (a':=?_) ?_ ?_
      rotate_left
      ·show Act.put _ (some 34) _ = _
       simp only [pu_]
       rfl
      refine pure_ (i:=8) (N:=some 26) (v:=?_) (a':=?_) (bl 9 4) rfl rfl (any_of HT_.out (by kernel_rfl)) (fun _ _ _ h => h) (Or.inl ⟨by rfl,?_⟩) ?_ ?_
      rotate_left;·intro w';go_simp;with_reducible rfl
      rotate_left;·simp only [pu_];rfl
      refine pure_ (i:=9) (N:=some 35) (v:=?_) (a':=?_) (bl 10 3) rfl rfl (any_of HT_.out (by kernel_rfl)) (fun _ _ _ h => h) (Or.inl ⟨by rfl,?_⟩) ?_ ?_
      rotate_left;·intro w';go_simp;with_reducible rfl
      rotate_left;·simp only [pu_];rfl
      refine pure_ (i:=10) (N:=some 36) (v:=?_) (a':=?_) (bl 11 2) rfl rfl (any_of HT_.out (by kernel_rfl)) (fun _ _ _ h => h) (Or.inl ⟨by rfl,?_⟩) ?_ ?_
      rotate_left;·intro w';go_simp;with_reducible rfl
      rotate_left;·simp only [pu_];rfl
      refine pure_ (i:=11) (N:=some 9) (v:=?_) (a':=?_) (bl 12 1) rfl rfl (any_of HT_.out (by kernel_rfl)) (fun _ _ _ h => h) (Or.inl ⟨by rfl,?_⟩) ?_ ?_
      rotate_left;·intro w';go_simp;with_reducible rfl
      rotate_left;·simp only [pu_];rfl
      refine pure_ (i:=12) (N:=some 10) (v:=?_) (a':=?_) (bl 13 0) rfl rfl (any_of HT_.out (by kernel_rfl)) (fun _ _ _ h => h) (Or.inl ⟨by rfl,?_⟩) ?_ ?_
      rotate_left;·intro w';go_simp;with_reducible rfl
      rotate_left;·simp only [pu_];rfl
      refine done_ (done_of HT_.out (by kernel_rfl)) ?_
      try go_wp2
      go_roundg k2
      case measure => have:=HJ2.out;have:=HK2.out;omega
      case rel => exact ⟨(wrap64 (x23_2 + 1)),(by first|rfl|(simp;done)|(simp [*];done)|(simp;rw [Bool.eq_iff_iff];simp;done)|(rw [Bool.eq_iff_iff];simp;done)),H',⟨by have:=HJ2.out;have:=HK2.out;omega⟩,⟨by (with_reducible repeat (first|apply Kd.R_alloc|apply Kd.R_drewN|apply Kd.R_drew));exact HO_6.out⟩,⟨by repeat (first|(with_reducible first|exact HB.out|apply below_alloc|apply pw_below_drewN|apply below_drew1)|exact HB.out)⟩⟩
     rw [if_pos c12] at H
     have c12b0 : (t210 == 0) = true:=beq_iff_eq.mpr c12
     have c12b1 : (t210 != 0) = false:=bne_eq_false_iff_eq.mpr c12
     clear c12
     by_cases c13 : t209.toList = a0.toList
     rotate_left
     ·rw [if_neg c13] at H
      have c13b0 : (t209.toList == a0.toList) = false:=beq_eq_false_iff_ne.mpr c13
      have c13b1 : (t209.toList != a0.toList) = true:=bne_iff_ne.mpr c13
      have H':=Aside0.mk H
      clear H
      try go_wp2
      have n0_:=Aside0.mk (Kd.R_drew HO_6.out)
      have n1_:=Aside0.mk (below_drew1 HB.out)
      clear HO_6;clear HB;have HO_6:=n0_;have HB:=n1_;clear n0_ n1_
      obtain ⟨Ao19,co19,eo19⟩:=Kd.R_slice HO_6.out
      (first|subst eo19|(injection eo19 with f1_ f2_ f3_;have f4_:=f1_.symm;have f5_:=f3_.symm;clear f1_ f2_ f3_;subst f4_;subst f5_))
      have p207 : 0 ≤ (1 : Int):=(by omega)
      have q207 : 1 < (t203.length : Int):=of_decide_eq_true (by first|(with_reducible assumption)|assumption)
      obtain ⟨ad207,e207,hx207_0⟩:=Kd.at_string (Kd.R_reads' HO_6.out).2.2 1 p207 q207
      cases e207
      (try simp only [show (1 : Int).toNat = 1 from rfl,Nat.reduceMul,Nat.reduceEqDiff,Go.Addr.add,↓reduceIte] at hx207_0)
      have qi207 : (1 < t203.length) = True:=eq_true (by omega)
      (try rw [show ((1 : Int)).toNat = 1 from rfl] at hx207_0)
      replace p207:=eq_true p207
      replace q207:=eq_true q207
      have p208 : 0 ≤ (2 : Int):=(by omega)
      have q208 : 2 < (t203.length : Int):=of_decide_eq_true (by first|(with_reducible assumption)|assumption)
      obtain ⟨ad208,e208,hx208_0⟩:=Kd.at_string (Kd.R_reads' HO_6.out).2.2 2 p208 q208
      obtain rfl : ad207 = ad208:=(by injection e208)
      (try simp only [show (2 : Int).toNat = 2 from rfl,Nat.reduceMul,Nat.reduceEqDiff,Go.Addr.add,↓reduceIte] at hx208_0)
      have qi208 : (2 < t203.length) = True:=eq_true (by omega)
      (try rw [show ((2 : Int)).toNat = 2 from rfl] at hx208_0)
      replace p208:=eq_true p208
      replace q208:=eq_true q208
      refine start_ (n:=13) (S:=fun w' => w'.cell? ⟨ad207.block,ad207.off + 1,none⟩ = some (.string (rdOf ByteArray.empty t203 1)) ∧ w'.cell? ⟨ad207.block,ad207.off + 2,none⟩ = some (.string (rdOf ByteArray.empty t203 2))) (ds:=[]) (bl 0 13) (by kernel_rfl) rfl rfl ⟨hx207_0,hx208_0⟩ (fun hHeld => ?_);refine with_tabW object_Unkey.tab7 object_Unkey.bits7 (fun HT_ HW_ => ?_)
      generalize wr.drew = w18 at HO_6 HB hx207_0 hx208_0 hHeld ⊢
      refine pure_ (i:=0) (N:=some 27) (v:=?_) (a':=?_) (bl 1 12) rfl rfl (any_of HT_.out (by kernel_rfl)) (fun _ _ _ h => h) (Or.inl ⟨by rfl,?_⟩) ?_ ?_
      rotate_left;·intro w';go_simp;with_reducible rfl
      rotate_left;·simp only [pu_];rfl
      refine pure_ (i:=1) (N:=some 28) (v:=?_) (a':=?_) (bl 2 11) rfl rfl (any_of HT_.out (by kernel_rfl)) (fun _ _ _ h => h) (Or.inl ⟨by rfl,?_⟩) ?_ ?_
      rotate_left;·intro w';go_simp;with_reducible rfl
      rotate_left;·simp only [pu_];rfl
      refine pure_ (i:=2) (N:=some 29) (v:=?_) (a':=?_) (bl 3 10) rfl rfl (any_of HT_.out (by kernel_rfl)) (fun _ _ _ h => h) (Or.inl ⟨by rfl,?_⟩) ?_ ?_
      rotate_left;·intro w';go_simp;with_reducible rfl
      rotate_left;·simp only [pu_];rfl
      refine pure_ (i:=4) (N:=some 31) (v:=?_) (a':=?_) #[true,true,true,false,true,false,false,false,false,false,false,false,false] rfl rfl (any_of HT_.out (by kernel_rfl)) (fun _ _ _ h => h) (Or.inl ⟨by rfl,?_⟩) ?_ ?_
      rotate_left;·intro w';go_simp;with_reducible rfl
      rotate_left;·simp only [pu_];rfl
      refine pure_ (i:=5) (N:=some 32) (v:=?_) (a':=?_) #[true,true,true,false,true,true,false,false,false,false,false,false,false] rfl rfl (any_of HT_.out (by kernel_rfl)) (fun _ _ _ h => h) (Or.inl ⟨by rfl,?_⟩) ?_ ?_
      rotate_left;·intro w';go_simp;with_reducible rfl
      rotate_left;·simp only [pu_];rfl
      refine take_ (i:=3) (N:=some 30) (v:=?_) (a':=?_) (bl 6 7) rfl rfl (take_ofW HT_.out HW_.out (by kernel_rfl)) (fun _ _ _ h => h) (Or.inl ⟨by rfl,?_⟩) hHeld ?_ ?_
      rotate_left
      ·rintro w' ⟨s0,s1⟩
       go_simp
       with_reducible rfl
      rotate_left
      ·simp only [pu_]
       rfl
      refine take_ (i:=6) (N:=some 33) (v:=?_) (a':=?_) (bl 7 6) rfl rfl (take_ofW HT_.out HW_.out (by kernel_rfl)) (fun _ _ _ h => h) (Or.inl ⟨by rfl,?_⟩) hHeld ?_ ?_
      rotate_left
      ·rintro w' ⟨s0,s1⟩
       go_simp
       with_reducible rfl
      rotate_left
      ·simp only [pu_]
       rfl
      refine one_ (i:=7) (N:=some 34) (bl 8 5) rfl rfl (one_of HT_.out (by kernel_rfl)) (by decide) (fun K hK => ?_)
      refine goes_ Tryd.func11 (by kernel_rfl) rfl #[.int .i64 x23_2,.string (rdOf ByteArray.empty t203 1),.string (rdOf ByteArray.empty t203 2)] (by rfl) rfl rfl (by (try simp only [List.map_toArray,List.map_cons,List.map_nil]);first|done|rfl|(simp only [List.length_drop,List.length_take];rfl)) ?_
      with_reducible refine (object_Key.calls x23_2 (rdOf ByteArray.empty t203 1) (rdOf ByteArray.empty t203 2) t209 t210 _ A11.out (Glob.below hG (by repeat (first|(with_reducible first|exact HB.out|apply below_alloc|apply pw_below_drewN|apply below_drew1)|exact HB.out)))).mono ?_
      rintro e w20 ⟨rfl,hb⟩
      have HS0_:=(hb.cell (World.block_lt_of_cell? _ _ (hHeld.1))).trans (hHeld.1)
      have HS1_:=(hb.cell (World.block_lt_of_cell? _ _ (hHeld.2))).trans (hHeld.2)
      refine ⟨_,rfl,?_⟩
      have n0_:=Aside0.mk (Kd.R_below (by (with_reducible repeat (first|apply Kd.R_alloc|apply Kd.R_drewN|apply Kd.R_drew));exact HO_6.out) hb)
      have n1_:=Aside0.mk (below_step (by repeat (first|(with_reducible first|exact HB.out|apply below_alloc|apply pw_below_drewN|apply below_drew1)|exact HB.out)) hb)
      clear HO_6;clear HB;have HO_6:=n0_;have HB:=n1_;clear n0_ n1_;(try clear hb);(try clear hb2);(try clear hk);(try clear hi)
      refine hK.out _ _ ⟨HS0_,HS1_⟩ (fun hHeld => ?_)
      clear hK K
      refine norm_ (a':=?_) ?_ ?_
      rotate_left
      ·show Act.put _ (some 34) _ = _
       simp only [pu_]
       rfl
      refine pure_ (i:=8) (N:=some 26) (v:=?_) (a':=?_) (bl 9 4) rfl rfl (any_of HT_.out (by kernel_rfl)) (fun _ _ _ h => h) (Or.inl ⟨by rfl,?_⟩) ?_ ?_
      rotate_left;·intro w';go_simp;with_reducible rfl
      rotate_left;·simp only [pu_];rfl
      refine pure_ (i:=9) (N:=some 35) (v:=?_) (a':=?_) (bl 10 3) rfl rfl (any_of HT_.out (by kernel_rfl)) (fun _ _ _ h => h) (Or.inl ⟨by rfl,?_⟩) ?_ ?_
      rotate_left;·intro w';go_simp;with_reducible rfl
      rotate_left;·simp only [pu_];rfl
      refine pure_ (i:=10) (N:=some 36) (v:=?_) (a':=?_) (bl 11 2) rfl rfl (any_of HT_.out (by kernel_rfl)) (fun _ _ _ h => h) (Or.inl ⟨by rfl,?_⟩) ?_ ?_
      rotate_left;·intro w';go_simp;with_reducible rfl
      rotate_left;·simp only [pu_];rfl
      refine pure_ (i:=11) (N:=some 9) (v:=?_) (a':=?_) (bl 12 1) rfl rfl (any_of HT_.out (by kernel_rfl)) (fun _ _ _ h => h) (Or.inl ⟨by rfl,?_⟩) ?_ ?_
      rotate_left;·intro w';go_simp;with_reducible rfl
      rotate_left;·simp only [pu_];rfl
      refine pure_ (i:=12) (N:=some 10) (v:=?_) (a':=?_) (bl 13 0) rfl rfl (any_of HT_.out (by kernel_rfl)) (fun _ _ _ h => h) (Or.inl ⟨by rfl,?_⟩) ?_ ?_
      rotate_left;·intro w';go_simp;with_reducible rfl
      rotate_left;·simp only [pu_];rfl
      refine done_ (done_of HT_.out (by kernel_rfl)) ?_
      try go_wp2
      go_roundg k2
      case measure => have:=HJ2.out;have:=HK2.out;omega
      case rel => exact ⟨(wrap64 (x23_2 + 1)),(by first|rfl|(simp;done)|(simp [*];done)|(simp;rw [Bool.eq_iff_iff];simp;done)|(rw [Bool.eq_iff_iff];simp;done)),H',⟨by have:=HJ2.out;have:=HK2.out;omega⟩,⟨by (with_reducible repeat (first|apply Kd.R_alloc|apply Kd.R_drewN|apply Kd.R_drew));exact HO_6.out⟩,⟨by repeat (first|(with_reducible first|exact HB.out|apply below_alloc|apply pw_below_drewN|apply below_drew1)|exact HB.out)⟩⟩
     rw [if_pos c13] at H
     have c13b0 : (t209.toList == a0.toList) = true:=beq_iff_eq.mpr c13
     have c13b1 : (t209.toList != a0.toList) = false:=bne_eq_false_iff_eq.mpr c13
     clear c13
     simp only [Option.some.injEq,Prod.mk.injEq] at H
     obtain ⟨rfl,rfl,rfl,rfl⟩:=H
     try go_wp2
     have n0_:=Aside0.mk (Kd.R_drew HO_6.out)
     have n1_:=Aside0.mk (below_drew1 HB.out)
     clear HO_6;clear HB;have HO_6:=n0_;have HB:=n1_;clear n0_ n1_
     obtain ⟨Ao15,co15,eo15⟩:=Kd.R_slice HO_6.out
     (first|subst eo15|(injection eo15 with f1_ f2_ f3_;have f4_:=f1_.symm;have f5_:=f3_.symm;clear f1_ f2_ f3_;subst f4_;subst f5_))
     have p207 : 0 ≤ (1 : Int):=(by omega)
     have q207 : 1 < (t203.length : Int):=of_decide_eq_true (by first|(with_reducible assumption)|assumption)
     obtain ⟨ad207,e207,hx207_0⟩:=Kd.at_string (Kd.R_reads' HO_6.out).2.2 1 p207 q207
     cases e207
     (try simp only [show (1 : Int).toNat = 1 from rfl,Nat.reduceMul,Nat.reduceEqDiff,Go.Addr.add,↓reduceIte] at hx207_0)
     have qi207 : (1 < t203.length) = True:=eq_true (by omega)
     (try rw [show ((1 : Int)).toNat = 1 from rfl] at hx207_0)
     replace p207:=eq_true p207
     replace q207:=eq_true q207
     have p208 : 0 ≤ (2 : Int):=(by omega)
     have q208 : 2 < (t203.length : Int):=of_decide_eq_true (by first|(with_reducible assumption)|assumption)
     obtain ⟨ad208,e208,hx208_0⟩:=Kd.at_string (Kd.R_reads' HO_6.out).2.2 2 p208 q208
     obtain rfl : ad207 = ad208:=(by injection e208)
     (try simp only [show (2 : Int).toNat = 2 from rfl,Nat.reduceMul,Nat.reduceEqDiff,Go.Addr.add,↓reduceIte] at hx208_0)
     have qi208 : (2 < t203.length) = True:=eq_true (by omega)
     (try rw [show ((2 : Int)).toNat = 2 from rfl] at hx208_0)
     replace p208:=eq_true p208
     replace q208:=eq_true q208
     refine start_ (n:=13) (S:=fun w' => w'.cell? ⟨ad207.block,ad207.off + 1,none⟩ = some (.string (rdOf ByteArray.empty t203 1)) ∧ w'.cell? ⟨ad207.block,ad207.off + 2,none⟩ = some (.string (rdOf ByteArray.empty t203 2))) (ds:=[]) (bl 0 13) (by kernel_rfl) rfl rfl ⟨hx207_0,hx208_0⟩ (fun hHeld => ?_);refine with_tabW object_Unkey.tab7 object_Unkey.bits7 (fun HT_ HW_ => ?_)
     generalize wr.drew = w14 at HO_6 HB hx207_0 hx208_0 hHeld ⊢
     refine pure_ (i:=0) (N:=some 27) (v:=?_) (a':=?_) (bl 1 12) rfl rfl (any_of HT_.out (by kernel_rfl)) (fun _ _ _ h => h) (Or.inl ⟨by rfl,?_⟩) ?_ ?_
     rotate_left;·intro w';go_simp;with_reducible rfl
     rotate_left;·simp only [pu_];rfl
     refine pure_ (i:=1) (N:=some 28) (v:=?_) (a':=?_) (bl 2 11) rfl rfl (any_of HT_.out (by kernel_rfl)) (fun _ _ _ h => h) (Or.inl ⟨by rfl,?_⟩) ?_ ?_
     rotate_left;·intro w';go_simp;with_reducible rfl
     rotate_left;·simp only [pu_];rfl
     refine pure_ (i:=2) (N:=some 29) (v:=?_) (a':=?_) (bl 3 10) rfl rfl (any_of HT_.out (by kernel_rfl)) (fun _ _ _ h => h) (Or.inl ⟨by rfl,?_⟩) ?_ ?_
     rotate_left;·intro w';go_simp;with_reducible rfl
     rotate_left;·simp only [pu_];rfl
     refine pure_ (i:=4) (N:=some 31) (v:=?_) (a':=?_) #[true,true,true,false,true,false,false,false,false,false,false,false,false] rfl rfl (any_of HT_.out (by kernel_rfl)) (fun _ _ _ h => h) (Or.inl ⟨by rfl,?_⟩) ?_ ?_
     rotate_left;·intro w';go_simp;with_reducible rfl
     rotate_left;·simp only [pu_];rfl
     refine pure_ (i:=5) (N:=some 32) (v:=?_) (a':=?_) #[true,true,true,false,true,true,false,false,false,false,false,false,false] rfl rfl (any_of HT_.out (by kernel_rfl)) (fun _ _ _ h => h) (Or.inl ⟨by rfl,?_⟩) ?_ ?_
     rotate_left;·intro w';go_simp;with_reducible rfl
     rotate_left;·simp only [pu_];rfl
     refine take_ (i:=3) (N:=some 30) (v:=?_) (a':=?_) (bl 6 7) rfl rfl (take_ofW HT_.out HW_.out (by kernel_rfl)) (fun _ _ _ h => h) (Or.inl ⟨by rfl,?_⟩) hHeld ?_ ?_
     rotate_left
     ·rintro w' ⟨s0,s1⟩
      go_simp
      with_reducible rfl
     rotate_left
     ·simp only [pu_]
      rfl
     refine take_ (i:=6) (N:=some 33) (v:=?_) (a':=?_) (bl 7 6) rfl rfl (take_ofW HT_.out HW_.out (by kernel_rfl)) (fun _ _ _ h => h) (Or.inl ⟨by rfl,?_⟩) hHeld ?_ ?_
     rotate_left
     ·rintro w' ⟨s0,s1⟩
      go_simp
      with_reducible rfl
     rotate_left
     ·simp only [pu_]
      rfl
     refine one_ (i:=7) (N:=some 34) (bl 8 5) rfl rfl (one_of HT_.out (by kernel_rfl)) (by decide) (fun K hK => ?_)
     refine goes_ Tryd.func11 (by kernel_rfl) rfl #[.int .i64 x23_2,.string (rdOf ByteArray.empty t203 1),.string (rdOf ByteArray.empty t203 2)] (by rfl) rfl rfl (by (try simp only [List.map_toArray,List.map_cons,List.map_nil]);first|done|rfl|(simp only [List.length_drop,List.length_take];rfl)) ?_
     with_reducible refine (object_Key.calls x23_2 (rdOf ByteArray.empty t203 1) (rdOf ByteArray.empty t203 2) t209 t210 _ A11.out (Glob.below hG (by repeat (first|(with_reducible first|exact HB.out|apply below_alloc|apply pw_below_drewN|apply below_drew1)|exact HB.out)))).mono ?_
     rintro e w16 ⟨rfl,hb⟩
     have HS0_:=(hb.cell (World.block_lt_of_cell? _ _ (hHeld.1))).trans (hHeld.1)
     have HS1_:=(hb.cell (World.block_lt_of_cell? _ _ (hHeld.2))).trans (hHeld.2)
     refine ⟨_,rfl,?_⟩
     have n0_:=Aside0.mk (Kd.R_below (by (with_reducible repeat (first|apply Kd.R_alloc|apply Kd.R_drewN|apply Kd.R_drew));exact HO_6.out) hb)
     have n1_:=Aside0.mk (below_step (by repeat (first|(with_reducible first|exact HB.out|apply below_alloc|apply pw_below_drewN|apply below_drew1)|exact HB.out)) hb)
     clear HO_6;clear HB;have HO_6:=n0_;have HB:=n1_;clear n0_ n1_;(try clear hb);(try clear hb2);(try clear hk);(try clear hi)
     refine hK.out _ _ ⟨HS0_,HS1_⟩ (fun hHeld => ?_)
     clear hK K
     refine norm_ (a':=?_) ?_ ?_
     rotate_left
     ·show Act.put _ (some 34) _ = _
      simp only [pu_]
      rfl
     refine pure_ (i:=8) (N:=some 26) (v:=?_) (a':=?_) (bl 9 4) rfl rfl (any_of HT_.out (by kernel_rfl)) (fun _ _ _ h => h) (Or.inl ⟨by rfl,?_⟩) ?_ ?_
     rotate_left;·intro w';go_simp;with_reducible rfl
     rotate_left;·simp only [pu_];rfl
     refine pure_ (i:=9) (N:=some 35) (v:=?_) (a':=?_) (bl 10 3) rfl rfl (any_of HT_.out (by kernel_rfl)) (fun _ _ _ h => h) (Or.inl ⟨by rfl,?_⟩) ?_ ?_
     rotate_left;·intro w';go_simp;with_reducible rfl
     rotate_left;·simp only [pu_];rfl
     refine pure_ (i:=10) (N:=some 36) (v:=?_) (a':=?_) (bl 11 2) rfl rfl (any_of HT_.out (by kernel_rfl)) (fun _ _ _ h => h) (Or.inl ⟨by rfl,?_⟩) ?_ ?_
     rotate_left;·intro w';go_simp;with_reducible rfl
     rotate_left;·simp only [pu_];rfl
     refine pure_ (i:=11) (N:=some 9) (v:=?_) (a':=?_) (bl 12 1) rfl rfl (any_of HT_.out (by kernel_rfl)) (fun _ _ _ h => h) (Or.inl ⟨by rfl,?_⟩) ?_ ?_
     rotate_left;·intro w';go_simp;with_reducible rfl
     rotate_left;·simp only [pu_];rfl
     refine pure_ (i:=12) (N:=some 10) (v:=?_) (a':=?_) (bl 13 0) rfl rfl (any_of HT_.out (by kernel_rfl)) (fun _ _ _ h => h) (Or.inl ⟨by rfl,?_⟩) ?_ ?_
     rotate_left;·intro w';go_simp;with_reducible rfl
     rotate_left;·simp only [pu_];rfl
     refine done_ (done_of HT_.out (by kernel_rfl)) ?_
     try go_wp2
     have n0_:=Aside0.mk (Kd.R_drew HO_6.out)
     have n1_:=Aside0.mk (below_drew1 HB.out)
     clear HO_6;clear HB;have HO_6:=n0_;have HB:=n1_;clear n0_ n1_
     have p211 : 0 ≤ (1 : Int):=(by omega)
     have q211 : 1 < (t203.length : Int):=of_decide_eq_true (by first|(with_reducible assumption)|assumption)
     obtain ⟨ad211,e211,hx211_0⟩:=Kd.at_string (Kd.R_reads' HO_6.out).2.2 1 p211 q211
     obtain rfl : ad207 = ad211:=(by injection e211)
     (try simp only [show (1 : Int).toNat = 1 from rfl,Nat.reduceMul,Nat.reduceEqDiff,Go.Addr.add,↓reduceIte] at hx211_0)
     have qi211 : (1 < t203.length) = True:=eq_true (by omega)
     (try rw [show ((1 : Int)).toNat = 1 from rfl] at hx211_0)
     replace p211:=eq_true p211
     replace q211:=eq_true q211
     have p212 : 0 ≤ (2 : Int):=(by omega)
     have q212 : 2 < (t203.length : Int):=of_decide_eq_true (by first|(with_reducible assumption)|assumption)
     obtain ⟨ad212,e212,hx212_0⟩:=Kd.at_string (Kd.R_reads' HO_6.out).2.2 2 p212 q212
     obtain rfl : ad207 = ad212:=(by injection e212)
     (try simp only [show (2 : Int).toNat = 2 from rfl,Nat.reduceMul,Nat.reduceEqDiff,Go.Addr.add,↓reduceIte] at hx212_0)
     have qi212 : (2 < t203.length) = True:=eq_true (by omega)
     (try rw [show ((2 : Int)).toNat = 2 from rfl] at hx212_0)
     replace p212:=eq_true p212
     replace q212:=eq_true q212
     refine start_ (n:=11) (S:=fun w' => w'.cell? ⟨ad207.block,ad207.off + 1,none⟩ = some (.string (rdOf ByteArray.empty t203 1)) ∧ w'.cell? ⟨ad207.block,ad207.off + 2,none⟩ = some (.string (rdOf ByteArray.empty t203 2))) (ds:=[]) #[false,false,false,false,false,false,false,false,false,false,false] (by kernel_rfl) rfl rfl ⟨hx211_0,hx212_0⟩ (fun hHeld => ?_);refine with_tabW object_Unkey.tab9 object_Unkey.bits9 (fun HT_ HW_ => ?_)
     generalize w16.drew = w17 at HO_6 HB hx211_0 hx212_0 hHeld ⊢
     refine pure_ (i:=0) (N:=some 44) (v:=?_) (a':=?_) #[true,false,false,false,false,false,false,false,false,false,false] rfl rfl (any_of HT_.out (by kernel_rfl)) (fun _ _ _ h => h) (Or.inl ⟨by rfl,?_⟩) ?_ ?_
     rotate_left;·intro w';go_simp;with_reducible rfl
     rotate_left;·simp only [pu_];rfl
     refine pure_ (i:=1) (N:=some 45) (v:=?_) (a':=?_) #[true,true,false,false,false,false,false,false,false,false,false] rfl rfl (any_of HT_.out (by kernel_rfl)) (fun _ _ _ h => h) (Or.inl ⟨by rfl,?_⟩) ?_ ?_
     rotate_left;·intro w';go_simp;with_reducible rfl
     rotate_left;·simp only [pu_];rfl
     refine pure_ (i:=2) (N:=some 46) (v:=?_) (a':=?_) #[true,true,true,false,false,false,false,false,false,false,false] rfl rfl (any_of HT_.out (by kernel_rfl)) (fun _ _ _ h => h) (Or.inl ⟨by rfl,?_⟩) ?_ ?_
     rotate_left;·intro w';go_simp;with_reducible rfl
     rotate_left;·simp only [pu_];rfl
     refine pure_ (i:=4) (N:=some 48) (v:=?_) (a':=?_) #[true,true,true,false,true,false,false,false,false,false,false] rfl rfl (any_of HT_.out (by kernel_rfl)) (fun _ _ _ h => h) (Or.inl ⟨by rfl,?_⟩) ?_ ?_
     rotate_left;·intro w';go_simp;with_reducible rfl
     rotate_left;·simp only [pu_];rfl
     refine pure_ (i:=5) (N:=some 49) (v:=?_) (a':=?_) #[true,true,true,false,true,true,false,false,false,false,false] rfl rfl (any_of HT_.out (by kernel_rfl)) (fun _ _ _ h => h) (Or.inl ⟨by rfl,?_⟩) ?_ ?_
     rotate_left;·intro w';go_simp;with_reducible rfl
     rotate_left;·simp only [pu_];rfl
     refine pure_ (i:=7) (N:=some 2) (v:=?_) (a':=?_) #[true,true,true,false,true,true,false,true,false,false,false] rfl rfl (any_of HT_.out (by kernel_rfl)) (fun _ _ _ h => h) (Or.inl ⟨by rfl,?_⟩) ?_ ?_
     rotate_left;·intro w';go_simp;with_reducible rfl
     rotate_left;·simp only [pu_];rfl
     refine take_ (i:=3) (N:=some 47) (v:=?_) (a':=?_) #[true,true,true,true,true,true,false,true,false,false,false] rfl rfl (take_ofW HT_.out HW_.out (by kernel_rfl)) (fun _ _ _ h => h) (Or.inl ⟨by rfl,?_⟩) hHeld ?_ ?_
     rotate_left
     ·rintro w' ⟨s0,s1⟩
      go_simp
      with_reducible rfl
     rotate_left
     ·simp only [pu_]
      rfl
     refine pure_ (i:=8) (N:=some 3) (v:=?_) (a':=?_) #[true,true,true,true,true,true,false,true,true,false,false] rfl rfl (any_of HT_.out (by kernel_rfl)) (fun _ _ _ h => h) (Or.inl ⟨by rfl,?_⟩) ?_ ?_
     rotate_left;·intro w';go_simp;with_reducible rfl
     rotate_left;·simp only [pu_];rfl
     refine take_ (i:=6) (N:=some 50) (v:=?_) (a':=?_) #[true,true,true,true,true,true,true,true,true,false,false] rfl rfl (take_ofW HT_.out HW_.out (by kernel_rfl)) (fun _ _ _ h => h) (Or.inl ⟨by rfl,?_⟩) hHeld ?_ ?_
     rotate_left
     ·rintro w' ⟨s0,s1⟩
      go_simp
      with_reducible rfl
     rotate_left
     ·simp only [pu_]
      rfl
     refine pure_ (i:=9) (N:=some 4) (v:=?_) (a':=?_) #[true,true,true,true,true,true,true,true,true,true,false] rfl rfl (any_of HT_.out (by kernel_rfl)) (fun _ _ _ h => h) (Or.inl ⟨by rfl,?_⟩) ?_ ?_
     rotate_left;·intro w';go_simp;with_reducible rfl
     rotate_left;·simp only [pu_];rfl
     refine pure_ (i:=10) (N:=some 5) (v:=?_) (a':=?_) #[true,true,true,true,true,true,true,true,true,true,true] rfl rfl (any_of HT_.out (by kernel_rfl)) (fun _ _ _ h => h) (Or.inl ⟨by rfl,?_⟩) ?_ ?_
     rotate_left;·intro w';go_simp;with_reducible rfl
     rotate_left;·simp only [pu_];rfl
     refine done_ (done_of HT_.out (by kernel_rfl)) ?_
     try go_wp2
     refine bodyPost_ret (results_list (rs:=[.tmp 2,.tmp 3,.tmp 4,.tmp 5]) rfl (by simp) (.tmp (.tmp (.tmp (.tmp .nil))))) rfl ?_
     exact ⟨by first|rfl|(simp [errW_none,errW_some] <;> rfl)|(simp [*,errW_none,errW_some] <;> rfl),by repeat (first|(with_reducible first|exact HB.out|apply below_alloc|apply pw_below_drewN|apply below_drew1)|exact HB.out)⟩
end Go.Proofs.YtniolbolfclhkaaDoor.Q
namespace Go.Proofs.YtniolbolfclhkaaDoor.Q
open Go.RowKit Go.Proofs.YtniolbolfclhkaaDoorW.PrintWords Go.Proofs.YtniolbolfclhkaaDoorW.PrintLast Go.Proofs.YtniolbolfclhkaaDoorW.PrintMore
attribute [local go_sem] max2_int min2_int max_two min_two max_three min_three max_four min_four   -- for this text's walks alone
set_option linter.unusedVariables false
set_option linter.unusedSimpArgs false
def key_Range.f (l0 : List ByteArray) : Option (ByteArray × ByteArray × Int) := (key_Make.f l0).bind fun bt250 => (if bt250.2 = 0 then (if 0 ≤ (wrap64 ((bt250.1.size : Int) - 1)) then (if (wrap64 ((bt250.1.size : Int) - 1)) ≤ (bt250.1.size : Int) then (if (bt250.1.extract 0 ((wrap64 ((bt250.1.size : Int) - 1)) : Int).toNat).size + 1 ≤ 9223372036854775807 then (some (bt250.1, (bt250.1.extract 0 ((wrap64 ((bt250.1.size : Int) - 1)) : Int).toNat) ++ (⟨#[2]⟩ : ByteArray), 0)) else (none)) else (none)) else (none)) else (some ((⟨#[]⟩ : ByteArray), (⟨#[]⟩ : ByteArray), bt250.2)))
set_option maxHeartbeats 8000000 in
set_option maxRecDepth 100000 in
theorem key_Range.calls (A0 : Option Addr) (c0 : Nat) (l0 : List ByteArray) (r1 : ByteArray) (r2 : ByteArray) (r3 : Int) (w : World) (hr0 : Kd.C Kd.string w A0 l0.length l0) (hc0 : l0.length ≤ c0) (h : key_Range.f l0 = some (r1, r2, r3)) (hG : Glob w) :
  Calls Tryd.prog 36 #[.slice A0 l0.length c0] w fun e w' => e = .returned (.tuple #[.string r1,.string r2,.int .i64 r3]) ∧ Below w.heap.size w w':=by
 have HR0:=Aside0.mk hr0
 have HC0:=Aside0.mk hc0
 clear hr0 hc0
 have HB:=Aside0.mk (Below.refl w.heap.size w)
 have H : ((key_Make.f l0).bind fun bt250 => (if bt250.2 = 0 then (if 0 ≤ (wrap64 ((bt250.1.size : Int) - 1)) then (if (wrap64 ((bt250.1.size : Int) - 1)) ≤ (bt250.1.size : Int) then (if (bt250.1.extract 0 ((wrap64 ((bt250.1.size : Int) - 1)) : Int).toNat).size + 1 ≤ 9223372036854775807 then (some (bt250.1,(bt250.1.extract 0 ((wrap64 ((bt250.1.size : Int) - 1)) : Int).toNat) ++ (⟨#[2]⟩ : ByteArray),0)) else (none)) else (none)) else (none)) else (some ((⟨#[]⟩ : ByteArray),(⟨#[]⟩ : ByteArray),bt250.2)))) = some (r1,r2,r3):=h
 clear h
 replace H:=Option.bind_eq_some_iff.mp H
 obtain ⟨⟨t250,t251⟩,A20,H⟩:=H
 replace H : (if t251 = 0 then (if 0 ≤ (wrap64 ((t250.size : Int) - 1)) then (if (wrap64 ((t250.size : Int) - 1)) ≤ (t250.size : Int) then (if (t250.extract 0 ((wrap64 ((t250.size : Int) - 1)) : Int).toNat).size + 1 ≤ 9223372036854775807 then (some (t250,(t250.extract 0 ((wrap64 ((t250.size : Int) - 1)) : Int).toNat) ++ (⟨#[2]⟩ : ByteArray),0)) else (none)) else (none)) else (none)) else (some ((⟨#[]⟩ : ByteArray),(⟨#[]⟩ : ByteArray),t251))) = some (r1,r2,r3):=H
 have A2:=Aside0.mk A20
 clear A20
 by_cases c3 : t251 = 0
 rotate_left
 ·rw [if_neg c3] at H
  have c3b0 : (t251 == 0) = false:=beq_eq_false_iff_ne.mpr c3
  have c3b1 : (t251 != 0) = true:=bne_iff_ne.mpr c3
  simp only [Option.some.injEq,Prod.mk.injEq] at H
  obtain ⟨rfl,rfl,rfl⟩:=H
  go_enter Tryd.func36,Tryd.ntmps36
  go_wp2_with (first|(go_at_call 30;(with_reducible refine (key_Make.calls _ _ l0 t250 t251 _ ?side1 ?side2 A2.out (Glob.below hG (by repeat (first|(with_reducible first|exact HB.out|apply below_alloc|apply pw_below_drewN|apply below_drew1)|exact HB.out)))).mono ?_);(case side1 => repeat (first|exact HR0.out|(with_reducible refine Kd.C_alloc ?_ _)|(with_reducible refine Kd.C_drewN ?_ _)|(with_reducible refine Kd.C_drew ?_)));(case side2 => exact HC0.out);rintro e w9 ⟨rfl,hb⟩;have n0_:=Aside0.mk (below_step (by repeat (first|(with_reducible first|exact HB.out|apply below_alloc|apply pw_below_drewN|apply below_drew1)|exact HB.out)) hb);clear HB;have HB:=n0_;clear n0_;(try clear hb);(try clear hb2);(try clear hk);(try clear hi)))
  repeat (go_quiet (first|(go_at_call 30;(with_reducible refine (key_Make.calls _ _ l0 t250 t251 _ ?side1 ?side2 A2.out (Glob.below hG (by repeat (first|(with_reducible first|exact HB.out|apply below_alloc|apply pw_below_drewN|apply below_drew1)|exact HB.out)))).mono ?_);(case side1 => repeat (first|exact HR0.out|(with_reducible refine Kd.C_alloc ?_ _)|(with_reducible refine Kd.C_drewN ?_ _)|(with_reducible refine Kd.C_drew ?_)));(case side2 => exact HC0.out);rintro e w9 ⟨rfl,hb⟩;have n0_:=Aside0.mk (below_step (by repeat (first|(with_reducible first|exact HB.out|apply below_alloc|apply pw_below_drewN|apply below_drew1)|exact HB.out)) hb);clear HB;have HB:=n0_;clear n0_;(try clear hb);(try clear hb2);(try clear hk);(try clear hi)));try go_wp2_with (first|(go_at_call 30;(with_reducible refine (key_Make.calls _ _ l0 t250 t251 _ ?side1 ?side2 A2.out (Glob.below hG (by repeat (first|(with_reducible first|exact HB.out|apply below_alloc|apply pw_below_drewN|apply below_drew1)|exact HB.out)))).mono ?_);(case side1 => repeat (first|exact HR0.out|(with_reducible refine Kd.C_alloc ?_ _)|(with_reducible refine Kd.C_drewN ?_ _)|(with_reducible refine Kd.C_drew ?_)));(case side2 => exact HC0.out);rintro e w9 ⟨rfl,hb⟩;have n0_:=Aside0.mk (below_step (by repeat (first|(with_reducible first|exact HB.out|apply below_alloc|apply pw_below_drewN|apply below_drew1)|exact HB.out)) hb);clear HB;have HB:=n0_;clear n0_;(try clear hb);(try clear hb2);(try clear hk);(try clear hi))))
  go_ret3
  exact ⟨by first|rfl|(simp [errW_none,errW_some] <;> rfl)|(simp [*,errW_none,errW_some] <;> rfl),by repeat (first|(with_reducible first|exact HB.out|apply below_alloc|apply pw_below_drewN|apply below_drew1)|exact HB.out)⟩
 rw [if_pos c3] at H
 have c3b0 : (t251 == 0) = true:=beq_iff_eq.mpr c3
 have c3b1 : (t251 != 0) = false:=bne_eq_false_iff_eq.mpr c3
 clear c3
 obtain ⟨ji4,hji4⟩ : ∃ j_ : Int,(wrap64 ((t250.size : Int) - 1)) = j_:=⟨_,rfl⟩
 replace H : (if 0 ≤ (ji4) then (if (ji4) ≤ (t250.size : Int) then (if (t250.extract 0 ((ji4) : Int).toNat).size + 1 ≤ 9223372036854775807 then (some (t250,(t250.extract 0 ((ji4) : Int).toNat) ++ (⟨#[2]⟩ : ByteArray),0)) else (none)) else (none)) else (none)) = some (r1,r2,r3):=by first|(rw [hji4] at H;exact H)|(simp only [hji4] at H ⊢;exact H)
 (try rw [hji4] at A2)
 have hji4w : (IntKind.i64.wrap ((t250.size : Int) - 1)) = ji4:=(i64_w _).trans hji4
 by_cases c5 : 0 ≤ (ji4)
 rotate_left
 ·rw [if_neg c5] at H
  exact absurd H (by simp)
 rw [if_pos c5] at H
 have c5b0:=eq_true c5
 have c5b1 : decide (0 ≤ (ji4)) = true:=decide_eq_true c5
 clear c5
 by_cases c6 : (ji4) ≤ (t250.size : Int)
 rotate_left
 ·rw [if_neg c6] at H
  exact absurd H (by simp)
 rw [if_pos c6] at H
 have c6b0:=eq_true c6
 have c6b1 : decide ((ji4) ≤ (t250.size : Int)) = true:=decide_eq_true c6
 clear c6
 by_cases c7 : (t250.extract 0 ((ji4) : Int).toNat).size + 1 ≤ 9223372036854775807
 rotate_left
 ·rw [if_neg c7] at H
  exact absurd H (by simp)
 rw [if_pos c7] at H
 have c7b0:=eq_true c7
 have c7b1 : decide ((t250.extract 0 ((ji4) : Int).toNat).size + 1 ≤ 9223372036854775807) = true:=decide_eq_true c7
 try have c7b2 : (9223372036854775807 < (t250.extract 0 ((ji4) : Int).toNat).size + 1) = False:=eq_false (Nat.not_lt.2 c7)
 have c7b9 : (9223372036854775807 < (ji4).toNat + 1) = False:=eq_false (by have h_:=c7;rw [ByteArray.size_extract] at h_;have h2_:=of_eq_true c6b0;omega)
 simp only [Option.some.injEq,Prod.mk.injEq] at H
 obtain ⟨rfl,rfl,rfl⟩:=H
 go_enter Tryd.func36,Tryd.ntmps36
 go_wp2_with (first|(go_at_call 30;(with_reducible refine (key_Make.calls _ _ l0 t250 t251 _ ?side1 ?side2 A2.out (Glob.below hG (by repeat (first|(with_reducible first|exact HB.out|apply below_alloc|apply pw_below_drewN|apply below_drew1)|exact HB.out)))).mono ?_);(case side1 => repeat (first|exact HR0.out|(with_reducible refine Kd.C_alloc ?_ _)|(with_reducible refine Kd.C_drewN ?_ _)|(with_reducible refine Kd.C_drew ?_)));(case side2 => exact HC0.out);rintro e w8 ⟨rfl,hb⟩;have n0_:=Aside0.mk (below_step (by repeat (first|(with_reducible first|exact HB.out|apply below_alloc|apply pw_below_drewN|apply below_drew1)|exact HB.out)) hb);clear HB;have HB:=n0_;clear n0_;(try clear hb);(try clear hb2);(try clear hk);(try clear hi)))
 repeat (go_quiet (first|(go_at_call 30;(with_reducible refine (key_Make.calls _ _ l0 t250 t251 _ ?side1 ?side2 A2.out (Glob.below hG (by repeat (first|(with_reducible first|exact HB.out|apply below_alloc|apply pw_below_drewN|apply below_drew1)|exact HB.out)))).mono ?_);(case side1 => repeat (first|exact HR0.out|(with_reducible refine Kd.C_alloc ?_ _)|(with_reducible refine Kd.C_drewN ?_ _)|(with_reducible refine Kd.C_drew ?_)));(case side2 => exact HC0.out);rintro e w8 ⟨rfl,hb⟩;have n0_:=Aside0.mk (below_step (by repeat (first|(with_reducible first|exact HB.out|apply below_alloc|apply pw_below_drewN|apply below_drew1)|exact HB.out)) hb);clear HB;have HB:=n0_;clear n0_;(try clear hb);(try clear hb2);(try clear hk);(try clear hi)));try go_wp2_with (first|(go_at_call 30;(with_reducible refine (key_Make.calls _ _ l0 t250 t251 _ ?side1 ?side2 A2.out (Glob.below hG (by repeat (first|(with_reducible first|exact HB.out|apply below_alloc|apply pw_below_drewN|apply below_drew1)|exact HB.out)))).mono ?_);(case side1 => repeat (first|exact HR0.out|(with_reducible refine Kd.C_alloc ?_ _)|(with_reducible refine Kd.C_drewN ?_ _)|(with_reducible refine Kd.C_drew ?_)));(case side2 => exact HC0.out);rintro e w8 ⟨rfl,hb⟩;have n0_:=Aside0.mk (below_step (by repeat (first|(with_reducible first|exact HB.out|apply below_alloc|apply pw_below_drewN|apply below_drew1)|exact HB.out)) hb);clear HB;have HB:=n0_;clear n0_;(try clear hb);(try clear hb2);(try clear hk);(try clear hi))))
 go_ret3
 exact ⟨by first|rfl|(simp [errW_none,errW_some] <;> rfl)|(simp only [← hji4];first|rfl|(simp [errW_none,errW_some] <;> rfl))|(simp [*,errW_none,errW_some] <;> rfl),by repeat (first|(with_reducible first|exact HB.out|apply below_alloc|apply pw_below_drewN|apply below_drew1)|exact HB.out)⟩
end Go.Proofs.YtniolbolfclhkaaDoor.Q
namespace Go.Proofs.YtniolbolfclhkaaDoor.Q
open Go.RowKit Go.Proofs.YtniolbolfclhkaaDoorW.PrintWords Go.Proofs.YtniolbolfclhkaaDoorW.PrintLast Go.Proofs.YtniolbolfclhkaaDoorW.PrintMore
attribute [local go_sem] binOp_leq_ binOp_gtr_ binOp_geq_ max2_int min2_int max_two min_two max_three min_three max_four min_four   -- for this text's walks alone
set_option linter.unusedVariables false
set_option linter.unusedSimpArgs false
def bursarlaw13_within.f (a0 : ByteArray) (l1 : List ByteArray) : Option (Bool) := (key_Range.f l1).bind fun bt252 => (if bt252.2.2 = 0 then (if ((Op.bytesLess a0.toList bt252.1.toList) = true) then (some false) else (some (Op.bytesLess a0.toList bt252.2.1.toList))) else (some false))
set_option maxHeartbeats 8000000 in
set_option maxRecDepth 100000 in
theorem bursarlaw13_within.calls (a0 : ByteArray) (A1 : Option Addr) (c1 : Nat) (l1 : List ByteArray) (r : Bool) (w : World) (hr1 : Kd.C Kd.string w A1 l1.length l1) (hc1 : l1.length ≤ c1) (h : bursarlaw13_within.f a0 l1 = some r) (hG : Glob w) :
  Calls Tryd.prog 15 #[.string a0,.slice A1 l1.length c1] w fun e w' => e = .returned (.bool r) ∧ Below w.heap.size w w':=by
 have HR1:=Aside0.mk hr1
 have HC1:=Aside0.mk hc1
 clear hr1 hc1
 have HB:=Aside0.mk (Below.refl w.heap.size w)
 have H : ((key_Range.f l1).bind fun bt252 => (if bt252.2.2 = 0 then (if ((Op.bytesLess a0.toList bt252.1.toList) = true) then (some false) else (some (Op.bytesLess a0.toList bt252.2.1.toList))) else (some false))) = some r:=h
 clear h
 replace H:=Option.bind_eq_some_iff.mp H
 obtain ⟨⟨t252,t253,t254⟩,A30,H⟩:=H
 replace H : (if t254 = 0 then (if ((Op.bytesLess a0.toList t252.toList) = true) then (some false) else (some (Op.bytesLess a0.toList t253.toList))) else (some false)) = some r:=H
 have A3:=Aside0.mk A30
 clear A30
 by_cases c4 : t254 = 0
 rotate_left
 ·rw [if_neg c4] at H
  have c4b0 : (t254 == 0) = false:=beq_eq_false_iff_ne.mpr c4
  have c4b1 : (t254 != 0) = true:=bne_iff_ne.mpr c4
  obtain rfl:=Option.some.inj H
  go_enter Tryd.func15,Tryd.ntmps15
  go_wp2_with (first|((with_reducible refine gate_callee (f:=36) rfl ?_);refine goesL_ (some 10) rfl rfl Tryd.func36 (by kernel_rfl) rfl #[.slice A1 l1.length c1] rfl (by (try simp only [List.map_toArray,List.map_cons,List.map_nil]);first|done|rfl|(simp only [List.length_drop,List.length_take];rfl)) ?_;(with_reducible refine (key_Range.calls _ _ l1 t252 t253 t254 _ ?side1 ?side2 A3.out (Glob.below hG (by repeat (first|(with_reducible first|exact HB.out|apply below_alloc|apply pw_below_drewN|apply below_drew1)|exact HB.out)))).mono ?_);(case side1 => repeat (first|exact HR1.out|(with_reducible refine Kd.C_alloc ?_ _)|(with_reducible refine Kd.C_drewN ?_ _)|(with_reducible refine Kd.C_drew ?_)));(case side2 => exact HC1.out);rintro e w8 ⟨rfl,hb⟩;refine ⟨_,rfl,?_⟩;have n0_:=Aside0.mk (below_step (by repeat (first|(with_reducible first|exact HB.out|apply below_alloc|apply pw_below_drewN|apply below_drew1)|exact HB.out)) hb);clear HB;have HB:=n0_;clear n0_;(try clear hb);(try clear hb2);(try clear hk);(try clear hi)))
  go_ret
  exact ⟨by first|rfl|(simp [errW_none,errW_some] <;> rfl)|(simp [*,errW_none,errW_some] <;> rfl),by repeat (first|(with_reducible first|exact HB.out|apply below_alloc|apply pw_below_drewN|apply below_drew1)|exact HB.out)⟩
 rw [if_pos c4] at H
 have c4b0 : (t254 == 0) = true:=beq_iff_eq.mpr c4
 have c4b1 : (t254 != 0) = false:=bne_eq_false_iff_eq.mpr c4
 clear c4
 by_cases c5 : ((Op.bytesLess a0.toList t252.toList) = true)
 ·rw [if_pos c5] at H
  have c5b0 : (Op.bytesLess a0.toList t252.toList) = true:=c5
  clear c5
  obtain rfl:=Option.some.inj H
  go_enter Tryd.func15,Tryd.ntmps15
  go_wp2_with (first|((with_reducible refine gate_callee (f:=36) rfl ?_);refine goesL_ (some 10) rfl rfl Tryd.func36 (by kernel_rfl) rfl #[.slice A1 l1.length c1] rfl (by (try simp only [List.map_toArray,List.map_cons,List.map_nil]);first|done|rfl|(simp only [List.length_drop,List.length_take];rfl)) ?_;(with_reducible refine (key_Range.calls _ _ l1 t252 t253 t254 _ ?side1 ?side2 A3.out (Glob.below hG (by repeat (first|(with_reducible first|exact HB.out|apply below_alloc|apply pw_below_drewN|apply below_drew1)|exact HB.out)))).mono ?_);(case side1 => repeat (first|exact HR1.out|(with_reducible refine Kd.C_alloc ?_ _)|(with_reducible refine Kd.C_drewN ?_ _)|(with_reducible refine Kd.C_drew ?_)));(case side2 => exact HC1.out);rintro e w6 ⟨rfl,hb⟩;refine ⟨_,rfl,?_⟩;have n0_:=Aside0.mk (below_step (by repeat (first|(with_reducible first|exact HB.out|apply below_alloc|apply pw_below_drewN|apply below_drew1)|exact HB.out)) hb);clear HB;have HB:=n0_;clear n0_;(try clear hb);(try clear hb2);(try clear hk);(try clear hi)))
  go_ret
  exact ⟨by first|rfl|(simp [errW_none,errW_some] <;> rfl)|(simp [*,errW_none,errW_some] <;> rfl),by repeat (first|(with_reducible first|exact HB.out|apply below_alloc|apply pw_below_drewN|apply below_drew1)|exact HB.out)⟩
 rw [if_neg c5] at H
 have c5b0 : (Op.bytesLess a0.toList t252.toList) = false:=by simpa using c5
 clear c5
 obtain rfl:=Option.some.inj H
 go_enter Tryd.func15,Tryd.ntmps15
 go_wp2_with (first|((with_reducible refine gate_callee (f:=36) rfl ?_);refine goesL_ (some 10) rfl rfl Tryd.func36 (by kernel_rfl) rfl #[.slice A1 l1.length c1] rfl (by (try simp only [List.map_toArray,List.map_cons,List.map_nil]);first|done|rfl|(simp only [List.length_drop,List.length_take];rfl)) ?_;(with_reducible refine (key_Range.calls _ _ l1 t252 t253 t254 _ ?side1 ?side2 A3.out (Glob.below hG (by repeat (first|(with_reducible first|exact HB.out|apply below_alloc|apply pw_below_drewN|apply below_drew1)|exact HB.out)))).mono ?_);(case side1 => repeat (first|exact HR1.out|(with_reducible refine Kd.C_alloc ?_ _)|(with_reducible refine Kd.C_drewN ?_ _)|(with_reducible refine Kd.C_drew ?_)));(case side2 => exact HC1.out);rintro e w7 ⟨rfl,hb⟩;refine ⟨_,rfl,?_⟩;have n0_:=Aside0.mk (below_step (by repeat (first|(with_reducible first|exact HB.out|apply below_alloc|apply pw_below_drewN|apply below_drew1)|exact HB.out)) hb);clear HB;have HB:=n0_;clear n0_;(try clear hb);(try clear hb2);(try clear hk);(try clear hi)))
 go_ret
 exact ⟨by first|rfl|(simp [errW_none,errW_some] <;> rfl)|(simp [*,errW_none,errW_some] <;> rfl),by repeat (first|(with_reducible first|exact HB.out|apply below_alloc|apply pw_below_drewN|apply below_drew1)|exact HB.out)⟩
end Go.Proofs.YtniolbolfclhkaaDoor.Q
