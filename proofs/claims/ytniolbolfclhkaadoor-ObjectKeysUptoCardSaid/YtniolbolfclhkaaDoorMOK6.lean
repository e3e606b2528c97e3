/- What the statement ObjectKeysUptoCardSaid rests on, part 6 of 7: walks and plain laws; what of the printer's words it leans on. -/
import Derived.Test.YtniolbolfclhkaaDoorMOK3
import Derived.Test.YtniolbolfclhkaaDoorMOK5
namespace Go.Proofs.YtniolbolfclhkaaDoor.Q
open Go.RowKit Go.Proofs.YtniolbolfclhkaaDoorW.PrintWords Go.Proofs.YtniolbolfclhkaaDoorW.PrintLast Go.Proofs.YtniolbolfclhkaaDoorW.PrintMore
attribute [local go_sem] max2_int min2_int max_two min_two max_three min_three max_four min_four   -- for this text's walks alone
set_option linter.unusedVariables false
set_option linter.unusedSimpArgs false
def bursarlaw13_fixed.f  : Option (Bool) := (bursarlaw13_small.f).bind fun bt108 => ((object_EncodeObject.f bt108.1 bt108.2.1 bt108.2.2.1 bt108.2.2.2.1 bt108.2.2.2.2.1 bt108.2.2.2.2.2.1 bt108.2.2.2.2.2.2).bind fun bt119 => ((object_DecodeObject.f (⟨#[79, 1, 2, 47, 97, 1, 120, 0, 3, 0, 1, 4, 109, 97, 105, 110, 1, 3, 99, 112, 117, 244, 3, 0, 7]⟩ : ByteArray)).bind fun bt121 => ((object_Key.f 3 (⟨#[47, 97]⟩ : ByteArray) (⟨#[120]⟩ : ByteArray)).bind fun bt134 => (if bt119.2 = 0 then (if bt119.1.toList = ([79, 1, 2, 47, 97, 1, 120, 0, 3, 0, 1, 4, 109, 97, 105, 110, 1, 3, 99, 112, 117, 244, 3, 0, 7] : List UInt8) then (if bt121.2.2.2.2.2.2.2 = 0 then ((bursarlaw13_small.f).bind fun bt136 => ((bursarlaw13_sameObject.f bt121.1 bt121.2.1 bt121.2.2.1 bt121.2.2.2.1 bt121.2.2.2.2.1 bt121.2.2.2.2.2.1 bt121.2.2.2.2.2.2.1 bt136.1 bt136.2.1 bt136.2.2.1 bt136.2.2.2.1 bt136.2.2.2.2.1 bt136.2.2.2.2.2.1 bt136.2.2.2.2.2.2).bind fun t147 => (if t147 = true then (if bt134.2 = 0 then (some (bt134.1.toList == ([111, 0, 1, 47, 97, 0, 1, 120, 0, 1] : List UInt8))) else (some false)) else (some false)))) else (some false)) else (some false)) else (some false)))))
def bursarlaw13_fixed.T4 : Bool × List (List Nat × List Nat) := (true, [([], []), ([0], [0]), ([1], [1]), ([2], [2]), ([3, 2], [2, 3]), ([2, 4], [2, 4]), ([5, 2], [5]), ([6], [6]), ([7, 6], [6, 7]), ([6, 8], [6, 8]), ([9, 6], [9]), ([10], [10]), ([10, 10], [10]), ([11, 12, 12, 10], [10, 11, 12]), ([10, 13], [10, 13]), ([14, 13], [14]), ([15], [15]), ([16, 15], [15, 16]), ([15, 17], [15, 17]), ([18, 15], [18]), ([19], [19]), ([20, 19], [19, 20]), ([19, 21], [19, 21]), ([22, 19, 0, 1, 2, 3, 4, 5, 6, 7, 8, 9, 10, 11, 12, 13, 14, 15, 16, 17, 18, 19, 20, 21, 22], [22])])
def bursarlaw13_fixed.B4 : List Nat := [0, 1, 3, 7, 15, 31, 63, 127, 255, 511, 1023, 2047, 2047, 8191, 16383, 32767, 65535, 131071, 262143, 524287, 1048575, 2097151, 4194303, 8388607]
theorem bursarlaw13_fixed.tab4 : rtab .any (opsOf Tryd.f6 4) = bursarlaw13_fixed.T4 := by kernel_rfl
theorem bursarlaw13_fixed.bits4 : waitsOk bursarlaw13_fixed.T4.2 bursarlaw13_fixed.B4 = true := by kernel_rfl
set_option maxHeartbeats 64000000 in
set_option maxRecDepth 100000 in
theorem bursarlaw13_fixed.calls  (r : Bool) (w : World) (h : bursarlaw13_fixed.f  = some r) (hG : Glob w) :
  Calls Tryd.prog 6 #[] w fun e w' => e = .returned (.bool r) ∧ Below w.heap.size w w':=by
 have hu25:=Tryd.underlying25
 have HB:=Aside0.mk (Below.refl w.heap.size w)
 have H : ((bursarlaw13_small.f).bind fun bt108 => ((object_EncodeObject.f bt108.1 bt108.2.1 bt108.2.2.1 bt108.2.2.2.1 bt108.2.2.2.2.1 bt108.2.2.2.2.2.1 bt108.2.2.2.2.2.2).bind fun bt119 => ((object_DecodeObject.f (⟨#[79,1,2,47,97,1,120,0,3,0,1,4,109,97,105,110,1,3,99,112,117,244,3,0,7]⟩ : ByteArray)).bind fun bt121 => ((object_Key.f 3 (⟨#[47,97]⟩ : ByteArray) (⟨#[120]⟩ : ByteArray)).bind fun bt134 => (if bt119.2 = 0 then (if bt119.1.toList = ([79,1,2,47,97,1,120,0,3,0,1,4,109,97,105,110,1,3,99,112,117,244,3,0,7] : List UInt8) then (if bt121.2.2.2.2.2.2.2 = 0 then ((bursarlaw13_small.f).bind fun bt136 => ((bursarlaw13_sameObject.f bt121.1 bt121.2.1 bt121.2.2.1 bt121.2.2.2.1 bt121.2.2.2.2.1 bt121.2.2.2.2.2.1 bt121.2.2.2.2.2.2.1 bt136.1 bt136.2.1 bt136.2.2.1 bt136.2.2.2.1 bt136.2.2.2.2.1 bt136.2.2.2.2.2.1 bt136.2.2.2.2.2.2).bind fun t147 => (if t147 = true then (if bt134.2 = 0 then (some (bt134.1.toList == ([111,0,1,47,97,0,1,120,0,1] : List UInt8))) else (some false)) else (some false)))) else (some false)) else (some false)) else (some false)))))) = some r:=h
 clear h
 replace H:=Option.bind_eq_some_iff.mp H
 obtain ⟨⟨t108,t109,t110,t113,t114,t115,t118⟩,A10,H⟩:=H
 replace H : ((object_EncodeObject.f t108 t109 t110 t113 t114 t115 t118).bind fun bt119 => ((object_DecodeObject.f (⟨#[79,1,2,47,97,1,120,0,3,0,1,4,109,97,105,110,1,3,99,112,117,244,3,0,7]⟩ : ByteArray)).bind fun bt121 => ((object_Key.f 3 (⟨#[47,97]⟩ : ByteArray) (⟨#[120]⟩ : ByteArray)).bind fun bt134 => (if bt119.2 = 0 then (if bt119.1.toList = ([79,1,2,47,97,1,120,0,3,0,1,4,109,97,105,110,1,3,99,112,117,244,3,0,7] : List UInt8) then (if bt121.2.2.2.2.2.2.2 = 0 then ((bursarlaw13_small.f).bind fun bt136 => ((bursarlaw13_sameObject.f bt121.1 bt121.2.1 bt121.2.2.1 bt121.2.2.2.1 bt121.2.2.2.2.1 bt121.2.2.2.2.2.1 bt121.2.2.2.2.2.2.1 bt136.1 bt136.2.1 bt136.2.2.1 bt136.2.2.2.1 bt136.2.2.2.2.1 bt136.2.2.2.2.2.1 bt136.2.2.2.2.2.2).bind fun t147 => (if t147 = true then (if bt134.2 = 0 then (some (bt134.1.toList == ([111,0,1,47,97,0,1,120,0,1] : List UInt8))) else (some false)) else (some false)))) else (some false)) else (some false)) else (some false))))) = some r:=H
 have A1:=Aside0.mk A10
 clear A10
 replace H:=Option.bind_eq_some_iff.mp H
 obtain ⟨⟨t119,t120⟩,A20,H⟩:=H
 replace H : ((object_DecodeObject.f (⟨#[79,1,2,47,97,1,120,0,3,0,1,4,109,97,105,110,1,3,99,112,117,244,3,0,7]⟩ : ByteArray)).bind fun bt121 => ((object_Key.f 3 (⟨#[47,97]⟩ : ByteArray) (⟨#[120]⟩ : ByteArray)).bind fun bt134 => (if t120 = 0 then (if t119.toList = ([79,1,2,47,97,1,120,0,3,0,1,4,109,97,105,110,1,3,99,112,117,244,3,0,7] : List UInt8) then (if bt121.2.2.2.2.2.2.2 = 0 then ((bursarlaw13_small.f).bind fun bt136 => ((bursarlaw13_sameObject.f bt121.1 bt121.2.1 bt121.2.2.1 bt121.2.2.2.1 bt121.2.2.2.2.1 bt121.2.2.2.2.2.1 bt121.2.2.2.2.2.2.1 bt136.1 bt136.2.1 bt136.2.2.1 bt136.2.2.2.1 bt136.2.2.2.2.1 bt136.2.2.2.2.2.1 bt136.2.2.2.2.2.2).bind fun t147 => (if t147 = true then (if bt134.2 = 0 then (some (bt134.1.toList == ([111,0,1,47,97,0,1,120,0,1] : List UInt8))) else (some false)) else (some false)))) else (some false)) else (some false)) else (some false)))) = some r:=H
 have A2:=Aside0.mk A20
 clear A20
 replace H:=Option.bind_eq_some_iff.mp H
 obtain ⟨⟨t121,t122,t123,t126,t127,t128,t131,t132⟩,A30,H⟩:=H
 replace H : ((object_Key.f 3 (⟨#[47,97]⟩ : ByteArray) (⟨#[120]⟩ : ByteArray)).bind fun bt134 => (if t120 = 0 then (if t119.toList = ([79,1,2,47,97,1,120,0,3,0,1,4,109,97,105,110,1,3,99,112,117,244,3,0,7] : List UInt8) then (if t132 = 0 then ((bursarlaw13_small.f).bind fun bt136 => ((bursarlaw13_sameObject.f t121 t122 t123 t126 t127 t128 t131 bt136.1 bt136.2.1 bt136.2.2.1 bt136.2.2.2.1 bt136.2.2.2.2.1 bt136.2.2.2.2.2.1 bt136.2.2.2.2.2.2).bind fun t147 => (if t147 = true then (if bt134.2 = 0 then (some (bt134.1.toList == ([111,0,1,47,97,0,1,120,0,1] : List UInt8))) else (some false)) else (some false)))) else (some false)) else (some false)) else (some false))) = some r:=H
 have A3:=Aside0.mk A30
 clear A30
 replace H:=Option.bind_eq_some_iff.mp H
 obtain ⟨⟨t134,t135⟩,A40,H⟩:=H
 replace H : (if t120 = 0 then (if t119.toList = ([79,1,2,47,97,1,120,0,3,0,1,4,109,97,105,110,1,3,99,112,117,244,3,0,7] : List UInt8) then (if t132 = 0 then ((bursarlaw13_small.f).bind fun bt136 => ((bursarlaw13_sameObject.f t121 t122 t123 t126 t127 t128 t131 bt136.1 bt136.2.1 bt136.2.2.1 bt136.2.2.2.1 bt136.2.2.2.2.1 bt136.2.2.2.2.2.1 bt136.2.2.2.2.2.2).bind fun t147 => (if t147 = true then (if t135 = 0 then (some (t134.toList == ([111,0,1,47,97,0,1,120,0,1] : List UInt8))) else (some false)) else (some false)))) else (some false)) else (some false)) else (some false)) = some r:=H
 have A4:=Aside0.mk A40
 clear A40
 by_cases c5 : t120 = 0
 rotate_left
 ·rw [if_neg c5] at H
  have c5b0 : (t120 == 0) = false:=beq_eq_false_iff_ne.mpr c5
  have c5b1 : (t120 != 0) = true:=bne_iff_ne.mpr c5
  obtain rfl:=Option.some.inj H
  go_enter Tryd.func6,Tryd.ntmps6
  try go_wp2_with (first|((with_reducible refine gate_callee (f:=16) rfl ?_);refine goesL_ (some 8) rfl rfl Tryd.func16 (by kernel_rfl) rfl #[] rfl (by (try simp only [List.map_toArray,List.map_cons,List.map_nil]);first|done|rfl|(simp only [List.length_drop,List.length_take];rfl)) ?_;(with_reducible refine (bursarlaw13_small.calls  t108 t109 t110 t113 t114 t115 t118 _ A1.out).mono ?_);rintro e w79 ⟨v111,v116,rfl,ho0,ho1,hb⟩;refine ⟨_,rfl,?_⟩;have n0_:=Aside0.mk (Kd.R_lower (Kd.R_mono (ok':=fun k_ => True) ho0 (fun _ hk_ => trivial)) (below_size (by repeat (first|(with_reducible first|exact HB.out|apply below_alloc|apply pw_below_drewN|apply below_drew1)|exact HB.out))));have n1_:=Aside0.mk (Kd.N_lower (Kd.N_mono (ok':=fun k_ => some k_ ≠ (v111 : Value).ownBlock) ho1 (fun k_ hk_ => hk_.2)) (below_size (by repeat (first|(with_reducible first|exact HB.out|apply below_alloc|apply pw_below_drewN|apply below_drew1)|exact HB.out))));have n2_:=Aside0.mk (below_step (by repeat (first|(with_reducible first|exact HB.out|apply below_alloc|apply pw_below_drewN|apply below_drew1)|exact HB.out)) hb);clear HB;have HO112:=n0_;have HO117:=n1_;have HB:=n2_;clear n0_ n1_ n2_;(try clear hb);(try clear hb2);(try clear hk);(try clear hi);(try clear ho0);(try clear ho1);obtain ⟨Ao80,co80,eo80⟩:=Kd.R_slice HO112.out;subst eo80;obtain ⟨Ao81,co81,eo81⟩:=Kd.N_slice HO117.out;subst eo81)|((with_reducible refine gate_callee (f:=9) rfl ?_);refine goesL_ (some 9) rfl rfl Tryd.func9 (by kernel_rfl) rfl #[.agg #[.string t108,.string t109,.slice Ao80 t110.length co80,.int .i64 t113,.int .i64 t114,.slice Ao81 t115.length co81,.int .i64 t118]] rfl (by (try simp only [List.map_toArray,List.map_cons,List.map_nil]);first|done|rfl|(simp only [List.length_drop,List.length_take];rfl)) ?_;(with_reducible refine (object_EncodeObject.calls t108 t109 _ _ t110 t113 t114 _ _ t115 t118 t119 t120 _ ?side1 ?side2 ?side3 ?side4 A2.out (Glob.below hG (by repeat (first|(with_reducible first|exact HB.out|refine below_set ?_ GE133.out|apply below_alloc|apply pw_below_drewN|apply below_drew1)|exact HB.out)))).mono ?_);(case side1 => repeat (first|exact (Kd.R_reads' HO112.out).2.2|(with_reducible refine Kd.C_alloc ?_ _)|(with_reducible refine Kd.C_drewN ?_ _)|(with_reducible refine Kd.C_drew ?_)));(case side2 => exact (Kd.R_reads' HO112.out).2.1);(case side3 => repeat (first|exact (Kd.N_reads' HO117.out).2.2|(with_reducible refine Kd.C_alloc ?_ _)|(with_reducible refine Kd.C_drewN ?_ _)|(with_reducible refine Kd.C_drew ?_)));(case side4 => exact (Kd.N_reads' HO117.out).2.1);rintro e w82 ⟨rfl,hb⟩;refine ⟨_,rfl,?_⟩;have n0_:=Aside0.mk (Kd.R_below (by (with_reducible repeat (first|apply Kd.R_alloc|apply Kd.R_drewN|apply Kd.R_drew));exact HO112.out) hb);have n1_:=Aside0.mk (Kd.N_below (by (with_reducible repeat (first|apply Kd.N_alloc|apply Kd.N_drewN|apply Kd.N_drew));exact HO117.out) hb);have n2_:=Aside0.mk (below_step (by repeat (first|(with_reducible first|exact HB.out|apply below_alloc|apply pw_below_drewN|apply below_drew1)|exact HB.out)) hb);clear HO112;clear HO117;clear HB;have HO112:=n0_;have HO117:=n1_;have HB:=n2_;clear n0_ n1_ n2_;(try clear hb);(try clear hb2);(try clear hk);(try clear hi))|((with_reducible refine gate_callee (f:=17) rfl ?_);refine goesL_ (some 13) rfl rfl Tryd.func17 (by kernel_rfl) rfl #[.string (⟨#[79,1,2,47,97,1,120,0,3,0,1,4,109,97,105,110,1,3,99,112,117,244,3,0,7]⟩ : ByteArray)] rfl (by (try simp only [List.map_toArray,List.map_cons,List.map_nil]);first|done|rfl|(simp only [List.length_drop,List.length_take];rfl)) ?_;(with_reducible refine (object_DecodeObject.calls (⟨#[79,1,2,47,97,1,120,0,3,0,1,4,109,97,105,110,1,3,99,112,117,244,3,0,7]⟩ : ByteArray) t121 t122 t123 t126 t127 t128 t131 t132 _ A3.out (Glob.below hG (by repeat (first|(with_reducible first|exact HB.out|refine below_set ?_ GE133.out|apply below_alloc|apply pw_below_drewN|apply below_drew1)|exact HB.out)))).mono ?_);rintro e w83 ⟨v124,v129,rfl,ho0,ho1,hb⟩;refine ⟨_,rfl,?_⟩;have n0_:=Aside0.mk (Kd.R_elder' (by (with_reducible repeat (first|apply Kd.R_alloc|apply Kd.R_drewN|apply Kd.R_drew));exact HO112.out) (Kd.R_base ho0) hb);have n1_:=Aside0.mk (Kd.N_mono (Kd.N_told (Kd.N_told (Kd.N_old (by (with_reducible repeat (first|apply Kd.N_alloc|apply Kd.N_drewN|apply Kd.N_drew));exact HO117.out) hb) (Kd.R_base ho0)) (Kd.N_base ho1)) (fun _ h_ => h_.1));have n2_:=Aside0.mk (Kd.R_lower (Kd.R_new' (Kd.R_mono (ok':=fun k_ => True) ho0 (fun _ hk_ => trivial)) (Kd.R_lt (by (with_reducible repeat (first|apply Kd.R_alloc|apply Kd.R_drewN|apply Kd.R_drew));exact HO112.out))) (below_size (by repeat (first|(with_reducible first|exact HB.out|apply below_alloc|apply pw_below_drewN|apply below_drew1)|exact HB.out))));have n3_:=Aside0.mk (Kd.N_lower (Kd.N_mono (ok':=fun k_ => some k_ ≠ (v124 : Value).ownBlock ∧ some k_ ≠ (.slice Ao80 t110.length co80 : Value).ownBlock ∧ some k_ ≠ (.slice Ao81 t115.length co81 : Value).ownBlock) ho1 (fun k_ hk_ => ⟨hk_.2,(Kd.fresh' (Kd.R_lt (by (with_reducible repeat (first|apply Kd.R_alloc|apply Kd.R_drewN|apply Kd.R_drew));exact HO112.out)) k_ hk_.1),(Kd.fresh' (Kd.N_lt (by (with_reducible repeat (first|apply Kd.N_alloc|apply Kd.N_drewN|apply Kd.N_drew));exact HO117.out)) k_ hk_.1)⟩)) (below_size (by repeat (first|(with_reducible first|exact HB.out|apply below_alloc|apply pw_below_drewN|apply below_drew1)|exact HB.out))));have n4_:=Aside0.mk (below_step (by repeat (first|(with_reducible first|exact HB.out|apply below_alloc|apply pw_below_drewN|apply below_drew1)|exact HB.out)) hb);clear HO112;clear HO117;clear HB;have HO112:=n0_;have HO117:=n1_;have HO125:=n2_;have HO130:=n3_;have HB:=n4_;clear n0_ n1_ n2_ n3_ n4_;(try clear hb);(try clear hb2);(try clear hk);(try clear hi);(try clear ho0);(try clear ho1))|((with_reducible refine gate_dst (N:=3) rfl ?_);refine box_event ?hg (N:=3) ?hd (cs:=#[.string (⟨#[]⟩ : ByteArray),.string (⟨#[]⟩ : ByteArray),.slice none 0 0,.int .i64 0,.int .i64 0,.slice none 0 0,.int .i64 0]) (t:=25) ?hr ?_;(case hd => rfl);(case hg => rfl);(case hr => first|(go_simp;done)|(go_simp;rfl));intro gb133 hg w84 hbox hb;have n0_:=Aside0.mk (Kd.R_below (by (with_reducible repeat (first|apply Kd.R_alloc|apply Kd.R_drewN|apply Kd.R_drew));exact HO112.out) hb);have n1_:=Aside0.mk (Kd.N_below (Kd.N_elderB (by (with_reducible repeat (first|apply Kd.N_alloc|apply Kd.N_drewN|apply Kd.N_drew));exact HO117.out) gb133 (Nat.le_of_eq hg.symm)) hb);have n2_:=Aside0.mk (Kd.R_below (by (with_reducible repeat (first|apply Kd.R_alloc|apply Kd.R_drewN|apply Kd.R_drew));exact HO125.out) hb);have n3_:=Aside0.mk (Kd.N_below (Kd.N_elderB (by (with_reducible repeat (first|apply Kd.N_alloc|apply Kd.N_drewN|apply Kd.N_drew));exact HO130.out) gb133 (Nat.le_of_eq hg.symm)) hb);have n4_:=Aside0.mk (below_step (by repeat (first|(with_reducible first|exact HB.out|apply below_alloc|apply pw_below_drewN|apply below_drew1)|exact HB.out)) hb);have n5_:=Aside0.mk (hbox);have n6_:=Aside0.mk ((by rw [hg];exact (below_size (by repeat (first|(with_reducible first|exact HB.out|apply below_alloc|apply pw_below_drewN|apply below_drew1)|exact HB.out))) : w.heap.size ≤ gb133));have n7_:=Aside0.mk ((by rw [hg];exact (below_size (by repeat (first|(with_reducible first|exact HB.out|apply below_alloc|apply pw_below_drewN|apply below_drew1)|exact HB.out))) : w.heap.size ≤ gb133));clear HO112;clear HO117;clear HO125;clear HO130;clear HB;have HO112:=n0_;have HO117:=n1_;have HO125:=n2_;have HO130:=n3_;have HB:=n4_;have BK133:=n5_;have GW133:=n6_;have GE133:=n7_;clear n0_ n1_ n2_ n3_ n4_ n5_ n6_ n7_;clear hb hbox hg;have hcz85_0 : w84.cell? ⟨gb133,0,none⟩ = some (.string (⟨#[]⟩ : ByteArray)):=(blk_cell BK133.out 0).trans rfl;have hcz85_1 : w84.cell? ⟨gb133,1,none⟩ = some (.string (⟨#[]⟩ : ByteArray)):=(blk_cell BK133.out 1).trans rfl;have hcz85_2 : w84.cell? ⟨gb133,2,none⟩ = some (.slice none 0 0):=(blk_cell BK133.out 2).trans rfl;have hcz85_3 : w84.cell? ⟨gb133,3,none⟩ = some (.int .i64 0):=(blk_cell BK133.out 3).trans rfl;have hcz85_4 : w84.cell? ⟨gb133,4,none⟩ = some (.int .i64 0):=(blk_cell BK133.out 4).trans rfl;have hcz85_5 : w84.cell? ⟨gb133,5,none⟩ = some (.slice none 0 0):=(blk_cell BK133.out 5).trans rfl;have hcz85_6 : w84.cell? ⟨gb133,6,none⟩ = some (.int .i64 0):=(blk_cell BK133.out 6).trans rfl;have hfz85_0:=blk_frozen BK133.out 0;have hfz85_1:=blk_frozen BK133.out 1;have hfz85_2:=blk_frozen BK133.out 2;have hfz85_3:=blk_frozen BK133.out 3;have hfz85_4:=blk_frozen BK133.out 4;have hfz85_5:=blk_frozen BK133.out 5;have hfz85_6:=blk_frozen BK133.out 6;obtain ⟨Ao86,co86,eo86⟩:=Kd.R_slice HO125.out;subst eo86;obtain ⟨Ao87,co87,eo87⟩:=Kd.N_slice HO130.out;subst eo87)|((with_reducible refine gate_callee (f:=11) rfl ?_);refine goesL_ (some 17) rfl rfl Tryd.func11 (by kernel_rfl) rfl #[.int .i64 3,.string (⟨#[47,97]⟩ : ByteArray),.string (⟨#[120]⟩ : ByteArray)] rfl (by (try simp only [List.map_toArray,List.map_cons,List.map_nil]);first|done|rfl|(simp only [List.length_drop,List.length_take];rfl)) ?_;(with_reducible refine (object_Key.calls 3 (⟨#[47,97]⟩ : ByteArray) (⟨#[120]⟩ : ByteArray) t134 t135 _ A4.out (Glob.below hG (by repeat (first|(with_reducible first|exact HB.out|refine below_set ?_ GE133.out|apply below_alloc|apply pw_below_drewN|apply below_drew1)|exact HB.out)))).mono ?_);rintro e w88 ⟨rfl,hb⟩;refine ⟨_,rfl,?_⟩;have n0_:=Aside0.mk (Kd.R_below (by (with_reducible repeat (first|apply Kd.R_alloc|apply Kd.R_drewN|apply Kd.R_drew));exact (Kd.R_mono (Kd.R_far (p:=⟨gb133,6,none⟩) (Kd.R_far (p:=⟨gb133,5,none⟩) (Kd.R_far (p:=⟨gb133,4,none⟩) (Kd.R_far (p:=⟨gb133,3,none⟩) (Kd.R_far (p:=⟨gb133,2,none⟩) (Kd.R_far (p:=⟨gb133,1,none⟩) (Kd.R_far (p:=⟨gb133,0,none⟩) (Kd.R_types HO112.out BK133.out (by decide)) (fun _ hk => hk.2) (.string t121)) (fun _ hk => hk.2) (.string t122)) (fun _ hk => hk.2) (.slice Ao86 t123.length co86)) (fun _ hk => hk.2) (.int .i64 t126)) (fun _ hk => hk.2) (.int .i64 t127)) (fun _ hk => hk.2) (.slice Ao87 t128.length co87)) (fun _ hk => hk.2) (.int .i64 t131)) (fun _ h_ => h_.1))) hb);have n1_:=Aside0.mk (Kd.N_below (by (with_reducible repeat (first|apply Kd.N_alloc|apply Kd.N_drewN|apply Kd.N_drew));exact (Kd.N_mono (Kd.N_far (p:=⟨gb133,6,none⟩) (Kd.N_far (p:=⟨gb133,5,none⟩) (Kd.N_far (p:=⟨gb133,4,none⟩) (Kd.N_far (p:=⟨gb133,3,none⟩) (Kd.N_far (p:=⟨gb133,2,none⟩) (Kd.N_far (p:=⟨gb133,1,none⟩) (Kd.N_far (p:=⟨gb133,0,none⟩) (Kd.N_mono HO117.out (fun k_ hk => (⟨hk,hk.2⟩ : _ ∧ k_ ≠ gb133))) (fun _ hk => hk.2) (.string t121)) (fun _ hk => hk.2) (.string t122)) (fun _ hk => hk.2) (.slice Ao86 t123.length co86)) (fun _ hk => hk.2) (.int .i64 t126)) (fun _ hk => hk.2) (.int .i64 t127)) (fun _ hk => hk.2) (.slice Ao87 t128.length co87)) (fun _ hk => hk.2) (.int .i64 t131)) (fun _ h_ => h_.1))) hb);have n2_:=Aside0.mk (Kd.R_below (by (with_reducible repeat (first|apply Kd.R_alloc|apply Kd.R_drewN|apply Kd.R_drew));exact (Kd.R_mono (Kd.R_far (p:=⟨gb133,6,none⟩) (Kd.R_far (p:=⟨gb133,5,none⟩) (Kd.R_far (p:=⟨gb133,4,none⟩) (Kd.R_far (p:=⟨gb133,3,none⟩) (Kd.R_far (p:=⟨gb133,2,none⟩) (Kd.R_far (p:=⟨gb133,1,none⟩) (Kd.R_far (p:=⟨gb133,0,none⟩) (Kd.R_types HO125.out BK133.out (by decide)) (fun _ hk => hk.2) (.string t121)) (fun _ hk => hk.2) (.string t122)) (fun _ hk => hk.2) (.slice Ao86 t123.length co86)) (fun _ hk => hk.2) (.int .i64 t126)) (fun _ hk => hk.2) (.int .i64 t127)) (fun _ hk => hk.2) (.slice Ao87 t128.length co87)) (fun _ hk => hk.2) (.int .i64 t131)) (fun _ h_ => h_.1))) hb);have n3_:=Aside0.mk (Kd.N_below (by (with_reducible repeat (first|apply Kd.N_alloc|apply Kd.N_drewN|apply Kd.N_drew));exact (Kd.N_mono (Kd.N_far (p:=⟨gb133,6,none⟩) (Kd.N_far (p:=⟨gb133,5,none⟩) (Kd.N_far (p:=⟨gb133,4,none⟩) (Kd.N_far (p:=⟨gb133,3,none⟩) (Kd.N_far (p:=⟨gb133,2,none⟩) (Kd.N_far (p:=⟨gb133,1,none⟩) (Kd.N_far (p:=⟨gb133,0,none⟩) (Kd.N_mono HO130.out (fun k_ hk => (⟨hk,hk.2⟩ : _ ∧ k_ ≠ gb133))) (fun _ hk => hk.2) (.string t121)) (fun _ hk => hk.2) (.string t122)) (fun _ hk => hk.2) (.slice Ao86 t123.length co86)) (fun _ hk => hk.2) (.int .i64 t126)) (fun _ hk => hk.2) (.int .i64 t127)) (fun _ hk => hk.2) (.slice Ao87 t128.length co87)) (fun _ hk => hk.2) (.int .i64 t131)) (fun _ h_ => h_.1))) hb);have n4_:=Aside0.mk (blk_below (g:=gb133) (o:=.cells #[.string t121,.string t122,.slice Ao86 t123.length co86,.int .i64 t126,.int .i64 t127,.slice Ao87 t128.length co87,.int .i64 t131] 25 (0,0)) (by (with_reducible repeat (first|refine blk_drewN ?_ _|refine blk_drew ?_|refine blk_alloc ?_ _));refine blk_put (cs:=#[.string t121,.string t122,.slice Ao86 t123.length co86,.int .i64 t126,.int .i64 t127,.slice Ao87 t128.length co87,.int .i64 0]) ?_ 6 _ rfl;(with_reducible repeat (first|refine blk_drewN ?_ _|refine blk_drew ?_|refine blk_alloc ?_ _));refine blk_put (cs:=#[.string t121,.string t122,.slice Ao86 t123.length co86,.int .i64 t126,.int .i64 t127,.slice none 0 0,.int .i64 0]) ?_ 5 _ rfl;(with_reducible repeat (first|refine blk_drewN ?_ _|refine blk_drew ?_|refine blk_alloc ?_ _));refine blk_put (cs:=#[.string t121,.string t122,.slice Ao86 t123.length co86,.int .i64 t126,.int .i64 0,.slice none 0 0,.int .i64 0]) ?_ 4 _ rfl;(with_reducible repeat (first|refine blk_drewN ?_ _|refine blk_drew ?_|refine blk_alloc ?_ _));refine blk_put (cs:=#[.string t121,.string t122,.slice Ao86 t123.length co86,.int .i64 0,.int .i64 0,.slice none 0 0,.int .i64 0]) ?_ 3 _ rfl;(with_reducible repeat (first|refine blk_drewN ?_ _|refine blk_drew ?_|refine blk_alloc ?_ _));refine blk_put (cs:=#[.string t121,.string t122,.slice none 0 0,.int .i64 0,.int .i64 0,.slice none 0 0,.int .i64 0]) ?_ 2 _ rfl;(with_reducible repeat (first|refine blk_drewN ?_ _|refine blk_drew ?_|refine blk_alloc ?_ _));refine blk_put (cs:=#[.string t121,.string (⟨#[]⟩ : ByteArray),.slice none 0 0,.int .i64 0,.int .i64 0,.slice none 0 0,.int .i64 0]) ?_ 1 _ rfl;(with_reducible repeat (first|refine blk_drewN ?_ _|refine blk_drew ?_|refine blk_alloc ?_ _));refine blk_put (cs:=#[.string (⟨#[]⟩ : ByteArray),.string (⟨#[]⟩ : ByteArray),.slice none 0 0,.int .i64 0,.int .i64 0,.slice none 0 0,.int .i64 0]) ?_ 0 _ rfl;(with_reducible repeat (first|refine blk_drewN ?_ _|refine blk_drew ?_|refine blk_alloc ?_ _));exact BK133.out) hb);have n5_:=Aside0.mk (below_step (by repeat (first|(with_reducible first|exact HB.out|apply below_alloc|apply pw_below_drewN|apply below_drew1|refine below_set ?_ GE133.out)|exact HB.out)) hb);clear HO112;clear HO117;clear HO125;clear HO130;clear BK133;clear HB;have HO112:=n0_;have HO117:=n1_;have HO125:=n2_;have HO130:=n3_;have BK133:=n4_;have HB:=n5_;clear n0_ n1_ n2_ n3_ n4_ n5_;(try clear hb);(try clear hb2);(try clear hk);(try clear hi)))
  have n0_:=Aside0.mk (Kd.R_drew HO112.out)
  have n1_:=Aside0.mk (Kd.N_drew HO117.out)
  have n2_:=Aside0.mk (Kd.R_drew HO125.out)
  have n3_:=Aside0.mk (Kd.N_drew HO130.out)
  have n4_:=Aside0.mk (blk_drew BK133.out)
  have n5_:=Aside0.mk (below_drew1 HB.out)
  clear HO112;clear HO117;clear HO125;clear HO130;clear BK133;clear HB;have HO112:=n0_;have HO117:=n1_;have HO125:=n2_;have HO130:=n3_;have BK133:=n4_;have HB:=n5_;clear n0_ n1_ n2_ n3_ n4_ n5_
  refine start_ (n:=24) (S:=fun w' => True) (ds:=[]) (bl 0 24) (by kernel_rfl) rfl rfl trivial (fun hHeld => ?_);refine with_tabW bursarlaw13_fixed.tab4 bursarlaw13_fixed.bits4 (fun HT_ HW_ => ?_)
  generalize w88.drew = w89 at HO112 HO117 HO125 HO130 BK133 HB hHeld ⊢
  refine pure_ (i:=0) (N:=some 20) (v:=?_) (a':=?_) (bl 1 23) rfl rfl (any_of HT_.out (by kernel_rfl)) (fun _ _ _ h => h) (Or.inl ⟨by rfl,?_⟩) ?_ ?_
  rotate_left;·intro w';go_simp;with_reducible rfl
  rotate_left;·simp only [pu_];rfl
  refine pure_ (i:=1) (N:=some 21) (v:=?_) (a':=?_) (bl 2 22) rfl rfl (any_of HT_.out (by kernel_rfl)) (fun _ _ _ h => h) (Or.inl ⟨by rfl,?_⟩) ?_ ?_
  rotate_left;·intro w';go_simp;with_reducible rfl
  rotate_left;·simp only [pu_];rfl
  refine pure_ (i:=2) (N:=some 22) (v:=?_) (a':=?_) (bl 3 21) rfl rfl (any_of HT_.out (by kernel_rfl)) (fun _ _ _ h => h) (Or.inl ⟨by rfl,?_⟩) ?_ ?_
  rotate_left;·intro w';go_simp;with_reducible rfl
  rotate_left;·simp only [pu_];rfl
  refine pure_ (i:=3) (N:=some 23) (v:=undef) (a':=?_) (bl 4 20) rfl rfl (any_of HT_.out (by kernel_rfl)) (fun _ _ _ h => h) (Or.inr ⟨by rfl,rfl⟩) ?_ ?_
  rotate_left
  ·simp only [pu_]
   rfl
  refine pure_ (i:=4) (N:=some 24) (v:=undef) (a':=?_) (bl 5 19) rfl rfl (any_of HT_.out (by kernel_rfl)) (fun _ _ _ h => h) (Or.inr ⟨by rfl,rfl⟩) ?_ ?_
  rotate_left
  ·simp only [pu_]
   rfl
  refine pure_ (i:=5) (N:=some 25) (v:=?_) (a':=?_) (bl 6 18) rfl rfl (any_of HT_.out (by kernel_rfl)) (fun _ _ _ h => h) (Or.inl ⟨by rfl,?_⟩) ?_ ?_
  rotate_left;·intro w';go_simp;with_reducible rfl
  rotate_left;·simp only [pu_];rfl
  refine pure_ (i:=6) (N:=some 26) (v:=?_) (a':=?_) (bl 7 17) rfl rfl (any_of HT_.out (by kernel_rfl)) (fun _ _ _ h => h) (Or.inl ⟨by rfl,?_⟩) ?_ ?_
  rotate_left;·intro w';go_simp;with_reducible rfl
  rotate_left;·simp only [pu_];rfl
  refine pure_ (i:=7) (N:=some 27) (v:=undef) (a':=?_) (bl 8 16) rfl rfl (any_of HT_.out (by kernel_rfl)) (fun _ _ _ h => h) (Or.inr ⟨by rfl,rfl⟩) ?_ ?_
  rotate_left
  ·simp only [pu_]
   rfl
  refine pure_ (i:=8) (N:=some 28) (v:=undef) (a':=?_) (bl 9 15) rfl rfl (any_of HT_.out (by kernel_rfl)) (fun _ _ _ h => h) (Or.inr ⟨by rfl,rfl⟩) ?_ ?_
  rotate_left
  ·simp only [pu_]
   rfl
  refine pure_ (i:=9) (N:=some 29) (v:=?_) (a':=?_) (bl 10 14) rfl rfl (any_of HT_.out (by kernel_rfl)) (fun _ _ _ h => h) (Or.inl ⟨by rfl,?_⟩) ?_ ?_
  rotate_left;·intro w';go_simp;with_reducible rfl
  rotate_left;·simp only [pu_];rfl
  refine pure_ (i:=10) (N:=some 30) (v:=?_) (a':=?_) (bl 11 13) rfl rfl (any_of HT_.out (by kernel_rfl)) (fun _ _ _ h => h) (Or.inl ⟨by rfl,?_⟩) ?_ ?_
  rotate_left;·intro w';go_simp;with_reducible rfl
  rotate_left;·simp only [pu_];rfl
  refine pure_ (i:=11) (N:=some 31) (v:=undef) (a':=?_) (bl 12 12) rfl rfl (any_of HT_.out (by kernel_rfl)) (fun _ _ _ h => h) (Or.inr ⟨by rfl,rfl⟩) ?_ ?_
  rotate_left
  ·simp only [pu_]
   rfl
  refine pure_ (i:=12) (N:=some 32) (v:=undef) (a':=?_) (bl 13 11) rfl rfl (any_of HT_.out (by kernel_rfl)) (fun _ _ _ h => h) (Or.inr ⟨by rfl,rfl⟩) ?_ ?_
  rotate_left
  ·simp only [pu_]
   rfl
  refine pure_ (i:=13) (N:=some 33) (v:=undef) (a':=?_) (bl 14 10) rfl rfl (any_of HT_.out (by kernel_rfl)) (fun _ _ _ h => h) (Or.inr ⟨by rfl,rfl⟩) ?_ ?_
  rotate_left
  ·simp only [pu_]
   rfl
  refine pure_ (i:=14) (N:=some 34) (v:=?_) (a':=?_) (bl 15 9) rfl rfl (any_of HT_.out (by kernel_rfl)) (fun _ _ _ h => h) (Or.inl ⟨by rfl,?_⟩) ?_ ?_
  rotate_left;·intro w';go_simp;with_reducible rfl
  rotate_left;·simp only [pu_];rfl
  refine pure_ (i:=15) (N:=some 35) (v:=?_) (a':=?_) (bl 16 8) rfl rfl (any_of HT_.out (by kernel_rfl)) (fun _ _ _ h => h) (Or.inl ⟨by rfl,?_⟩) ?_ ?_
  rotate_left;·intro w';go_simp;with_reducible rfl
  rotate_left;·simp only [pu_];rfl
  refine pure_ (i:=16) (N:=some 36) (v:=undef) (a':=?_) (bl 17 7) rfl rfl (any_of HT_.out (by kernel_rfl)) (fun _ _ _ h => h) (Or.inr ⟨by rfl,rfl⟩) ?_ ?_
  rotate_left
  ·simp only [pu_]
   rfl
  refine pure_ (i:=17) (N:=some 37) (v:=undef) (a':=?_) (bl 18 6) rfl rfl (any_of HT_.out (by kernel_rfl)) (fun _ _ _ h => h) (Or.inr ⟨by rfl,rfl⟩) ?_ ?_
  rotate_left
  ·simp only [pu_]
   rfl
  refine pure_ (i:=18) (N:=some 38) (v:=?_) (a':=?_) (bl 19 5) rfl rfl (any_of HT_.out (by kernel_rfl)) (fun _ _ _ h => h) (Or.inl ⟨by rfl,?_⟩) ?_ ?_
  rotate_left;·intro w';go_simp;with_reducible rfl
  rotate_left;·simp only [pu_];rfl
  refine pure_ (i:=19) (N:=some 39) (v:=?_) (a':=?_) (bl 20 4) rfl rfl (any_of HT_.out (by kernel_rfl)) (fun _ _ _ h => h) (Or.inl ⟨by rfl,?_⟩) ?_ ?_
  rotate_left;·intro w';go_simp;with_reducible rfl
  rotate_left;·simp only [pu_];rfl
  refine pure_ (i:=20) (N:=some 40) (v:=undef) (a':=?_) (bl 21 3) rfl rfl (any_of HT_.out (by kernel_rfl)) (fun _ _ _ h => h) (Or.inr ⟨by rfl,rfl⟩) ?_ ?_
  rotate_left
  ·simp only [pu_]
   rfl
  refine pure_ (i:=21) (N:=some 41) (v:=undef) (a':=?_) (bl 22 2) rfl rfl (any_of HT_.out (by kernel_rfl)) (fun _ _ _ h => h) (Or.inr ⟨by rfl,rfl⟩) ?_ ?_
  rotate_left
  ·simp only [pu_]
   rfl
  refine pure_ (i:=22) (N:=some 42) (v:=?_) (a':=?_) (bl 23 1) rfl rfl (any_of HT_.out (by kernel_rfl)) (fun _ _ _ h => h) (Or.inl ⟨by rfl,?_⟩) ?_ ?_
  rotate_left;·intro w';go_simp;with_reducible rfl
  rotate_left;·simp only [pu_];rfl
  refine pure_ (i:=23) (N:=some 0) (v:=?_) (a':=?_) (bl 24 0) rfl rfl (any_of HT_.out (by kernel_rfl)) (fun _ _ _ h => h) (Or.inl ⟨by rfl,?_⟩) ?_ ?_
  rotate_left;·intro w';go_simp;with_reducible rfl
  rotate_left;·simp only [pu_];rfl
  refine done_ (done_of HT_.out (by kernel_rfl)) ?_
  try go_wp2
  go_ret
  exact ⟨by first|rfl|(simp [errW_none,errW_some] <;> rfl)|(simp [*,errW_none,errW_some] <;> rfl),by repeat (first|(with_reducible first|exact HB.out|apply below_alloc|apply pw_below_drewN|apply below_drew1|refine below_set ?_ GE133.out)|exact HB.out)⟩
 rw [if_pos c5] at H
 have c5b0 : (t120 == 0) = true:=beq_iff_eq.mpr c5
 have c5b1 : (t120 != 0) = false:=bne_eq_false_iff_eq.mpr c5
 clear c5
 by_cases c6 : t119.toList = ([79,1,2,47,97,1,120,0,3,0,1,4,109,97,105,110,1,3,99,112,117,244,3,0,7] : List UInt8)
 rotate_left
 ·rw [if_neg c6] at H
  have c6b0 : (t119.toList == ([79,1,2,47,97,1,120,0,3,0,1,4,109,97,105,110,1,3,99,112,117,244,3,0,7] : List UInt8)) = false:=beq_eq_false_iff_ne.mpr c6
  have c6b1 : (t119.toList != ([79,1,2,47,97,1,120,0,3,0,1,4,109,97,105,110,1,3,99,112,117,244,3,0,7] : List UInt8)) = true:=bne_iff_ne.mpr c6
  obtain rfl:=Option.some.inj H
  go_enter Tryd.func6,Tryd.ntmps6
  try go_wp2_with (first|((with_reducible refine gate_callee (f:=16) rfl ?_);refine goesL_ (some 8) rfl rfl Tryd.func16 (by kernel_rfl) rfl #[] rfl (by (try simp only [List.map_toArray,List.map_cons,List.map_nil]);first|done|rfl|(simp only [List.length_drop,List.length_take];rfl)) ?_;(with_reducible refine (bursarlaw13_small.calls  t108 t109 t110 t113 t114 t115 t118 _ A1.out).mono ?_);rintro e w68 ⟨v111,v116,rfl,ho0,ho1,hb⟩;refine ⟨_,rfl,?_⟩;have n0_:=Aside0.mk (Kd.R_lower (Kd.R_mono (ok':=fun k_ => True) ho0 (fun _ hk_ => trivial)) (below_size (by repeat (first|(with_reducible first|exact HB.out|apply below_alloc|apply pw_below_drewN|apply below_drew1)|exact HB.out))));have n1_:=Aside0.mk (Kd.N_lower (Kd.N_mono (ok':=fun k_ => some k_ ≠ (v111 : Value).ownBlock) ho1 (fun k_ hk_ => hk_.2)) (below_size (by repeat (first|(with_reducible first|exact HB.out|apply below_alloc|apply pw_below_drewN|apply below_drew1)|exact HB.out))));have n2_:=Aside0.mk (below_step (by repeat (first|(with_reducible first|exact HB.out|apply below_alloc|apply pw_below_drewN|apply below_drew1)|exact HB.out)) hb);clear HB;have HO112:=n0_;have HO117:=n1_;have HB:=n2_;clear n0_ n1_ n2_;(try clear hb);(try clear hb2);(try clear hk);(try clear hi);(try clear ho0);(try clear ho1);obtain ⟨Ao69,co69,eo69⟩:=Kd.R_slice HO112.out;subst eo69;obtain ⟨Ao70,co70,eo70⟩:=Kd.N_slice HO117.out;subst eo70)|((with_reducible refine gate_callee (f:=9) rfl ?_);refine goesL_ (some 9) rfl rfl Tryd.func9 (by kernel_rfl) rfl #[.agg #[.string t108,.string t109,.slice Ao69 t110.length co69,.int .i64 t113,.int .i64 t114,.slice Ao70 t115.length co70,.int .i64 t118]] rfl (by (try simp only [List.map_toArray,List.map_cons,List.map_nil]);first|done|rfl|(simp only [List.length_drop,List.length_take];rfl)) ?_;(with_reducible refine (object_EncodeObject.calls t108 t109 _ _ t110 t113 t114 _ _ t115 t118 t119 t120 _ ?side1 ?side2 ?side3 ?side4 A2.out (Glob.below hG (by repeat (first|(with_reducible first|exact HB.out|refine below_set ?_ GE133.out|apply below_alloc|apply pw_below_drewN|apply below_drew1)|exact HB.out)))).mono ?_);(case side1 => repeat (first|exact (Kd.R_reads' HO112.out).2.2|(with_reducible refine Kd.C_alloc ?_ _)|(with_reducible refine Kd.C_drewN ?_ _)|(with_reducible refine Kd.C_drew ?_)));(case side2 => exact (Kd.R_reads' HO112.out).2.1);(case side3 => repeat (first|exact (Kd.N_reads' HO117.out).2.2|(with_reducible refine Kd.C_alloc ?_ _)|(with_reducible refine Kd.C_drewN ?_ _)|(with_reducible refine Kd.C_drew ?_)));(case side4 => exact (Kd.N_reads' HO117.out).2.1);rintro e w71 ⟨rfl,hb⟩;refine ⟨_,rfl,?_⟩;have n0_:=Aside0.mk (Kd.R_below (by (with_reducible repeat (first|apply Kd.R_alloc|apply Kd.R_drewN|apply Kd.R_drew));exact HO112.out) hb);have n1_:=Aside0.mk (Kd.N_below (by (with_reducible repeat (first|apply Kd.N_alloc|apply Kd.N_drewN|apply Kd.N_drew));exact HO117.out) hb);have n2_:=Aside0.mk (below_step (by repeat (first|(with_reducible first|exact HB.out|apply below_alloc|apply pw_below_drewN|apply below_drew1)|exact HB.out)) hb);clear HO112;clear HO117;clear HB;have HO112:=n0_;have HO117:=n1_;have HB:=n2_;clear n0_ n1_ n2_;(try clear hb);(try clear hb2);(try clear hk);(try clear hi))|((with_reducible refine gate_callee (f:=17) rfl ?_);refine goesL_ (some 13) rfl rfl Tryd.func17 (by kernel_rfl) rfl #[.string (⟨#[79,1,2,47,97,1,120,0,3,0,1,4,109,97,105,110,1,3,99,112,117,244,3,0,7]⟩ : ByteArray)] rfl (by (try simp only [List.map_toArray,List.map_cons,List.map_nil]);first|done|rfl|(simp only [List.length_drop,List.length_take];rfl)) ?_;(with_reducible refine (object_DecodeObject.calls (⟨#[79,1,2,47,97,1,120,0,3,0,1,4,109,97,105,110,1,3,99,112,117,244,3,0,7]⟩ : ByteArray) t121 t122 t123 t126 t127 t128 t131 t132 _ A3.out (Glob.below hG (by repeat (first|(with_reducible first|exact HB.out|refine below_set ?_ GE133.out|apply below_alloc|apply pw_below_drewN|apply below_drew1)|exact HB.out)))).mono ?_);rintro e w72 ⟨v124,v129,rfl,ho0,ho1,hb⟩;refine ⟨_,rfl,?_⟩;have n0_:=Aside0.mk (Kd.R_elder' (by (with_reducible repeat (first|apply Kd.R_alloc|apply Kd.R_drewN|apply Kd.R_drew));exact HO112.out) (Kd.R_base ho0) hb);have n1_:=Aside0.mk (Kd.N_mono (Kd.N_told (Kd.N_told (Kd.N_old (by (with_reducible repeat (first|apply Kd.N_alloc|apply Kd.N_drewN|apply Kd.N_drew));exact HO117.out) hb) (Kd.R_base ho0)) (Kd.N_base ho1)) (fun _ h_ => h_.1));have n2_:=Aside0.mk (Kd.R_lower (Kd.R_new' (Kd.R_mono (ok':=fun k_ => True) ho0 (fun _ hk_ => trivial)) (Kd.R_lt (by (with_reducible repeat (first|apply Kd.R_alloc|apply Kd.R_drewN|apply Kd.R_drew));exact HO112.out))) (below_size (by repeat (first|(with_reducible first|exact HB.out|apply below_alloc|apply pw_below_drewN|apply below_drew1)|exact HB.out))));have n3_:=Aside0.mk (Kd.N_lower (Kd.N_mono (ok':=fun k_ => some k_ ≠ (v124 : Value).ownBlock ∧ some k_ ≠ (.slice Ao69 t110.length co69 : Value).ownBlock ∧ some k_ ≠ (.slice Ao70 t115.length co70 : Value).ownBlock) ho1 (fun k_ hk_ => ⟨hk_.2,(Kd.fresh' (Kd.R_lt (by (with_reducible repeat (first|apply Kd.R_alloc|apply Kd.R_drewN|apply Kd.R_drew));exact HO112.out)) k_ hk_.1),(Kd.fresh' (Kd.N_lt (by (with_reducible repeat (first|apply Kd.N_alloc|apply Kd.N_drewN|apply Kd.N_drew));exact HO117.out)) k_ hk_.1)⟩)) (below_size (by repeat (first|(with_reducible first|exact HB.out|apply below_alloc|apply pw_below_drewN|apply below_drew1)|exact HB.out))));have n4_:=Aside0.mk (below_step (by repeat (first|(with_reducible first|exact HB.out|apply below_alloc|apply pw_below_drewN|apply below_drew1)|exact HB.out)) hb);clear HO112;clear HO117;clear HB;have HO112:=n0_;have HO117:=n1_;have HO125:=n2_;have HO130:=n3_;have HB:=n4_;clear n0_ n1_ n2_ n3_ n4_;(try clear hb);(try clear hb2);(try clear hk);(try clear hi);(try clear ho0);(try clear ho1))|((with_reducible refine gate_dst (N:=3) rfl ?_);refine box_event ?hg (N:=3) ?hd (cs:=#[.string (⟨#[]⟩ : ByteArray),.string (⟨#[]⟩ : ByteArray),.slice none 0 0,.int .i64 0,.int .i64 0,.slice none 0 0,.int .i64 0]) (t:=25) ?hr ?_;(case hd => rfl);(case hg => rfl);(case hr => first|(go_simp;done)|(go_simp;rfl));intro gb133 hg w73 hbox hb;have n0_:=Aside0.mk (Kd.R_below (by (with_reducible repeat (first|apply Kd.R_alloc|apply Kd.R_drewN|apply Kd.R_drew));exact HO112.out) hb);have n1_:=Aside0.mk (Kd.N_below (Kd.N_elderB (by (with_reducible repeat (first|apply Kd.N_alloc|apply Kd.N_drewN|apply Kd.N_drew));exact HO117.out) gb133 (Nat.le_of_eq hg.symm)) hb);have n2_:=Aside0.mk (Kd.R_below (by (with_reducible repeat (first|apply Kd.R_alloc|apply Kd.R_drewN|apply Kd.R_drew));exact HO125.out) hb);have n3_:=Aside0.mk (Kd.N_below (Kd.N_elderB (by (with_reducible repeat (first|apply Kd.N_alloc|apply Kd.N_drewN|apply Kd.N_drew));exact HO130.out) gb133 (Nat.le_of_eq hg.symm)) hb);have n4_:=Aside0.mk (below_step (by repeat (first|(with_reducible first|exact HB.out|apply below_alloc|apply pw_below_drewN|apply below_drew1)|exact HB.out)) hb);have n5_:=Aside0.mk (hbox);have n6_:=Aside0.mk ((by rw [hg];exact (below_size (by repeat (first|(with_reducible first|exact HB.out|apply below_alloc|apply pw_below_drewN|apply below_drew1)|exact HB.out))) : w.heap.size ≤ gb133));have n7_:=Aside0.mk ((by rw [hg];exact (below_size (by repeat (first|(with_reducible first|exact HB.out|apply below_alloc|apply pw_below_drewN|apply below_drew1)|exact HB.out))) : w.heap.size ≤ gb133));clear HO112;clear HO117;clear HO125;clear HO130;clear HB;have HO112:=n0_;have HO117:=n1_;have HO125:=n2_;have HO130:=n3_;have HB:=n4_;have BK133:=n5_;have GW133:=n6_;have GE133:=n7_;clear n0_ n1_ n2_ n3_ n4_ n5_ n6_ n7_;clear hb hbox hg;have hcz74_0 : w73.cell? ⟨gb133,0,none⟩ = some (.string (⟨#[]⟩ : ByteArray)):=(blk_cell BK133.out 0).trans rfl;have hcz74_1 : w73.cell? ⟨gb133,1,none⟩ = some (.string (⟨#[]⟩ : ByteArray)):=(blk_cell BK133.out 1).trans rfl;have hcz74_2 : w73.cell? ⟨gb133,2,none⟩ = some (.slice none 0 0):=(blk_cell BK133.out 2).trans rfl;have hcz74_3 : w73.cell? ⟨gb133,3,none⟩ = some (.int .i64 0):=(blk_cell BK133.out 3).trans rfl;have hcz74_4 : w73.cell? ⟨gb133,4,none⟩ = some (.int .i64 0):=(blk_cell BK133.out 4).trans rfl;have hcz74_5 : w73.cell? ⟨gb133,5,none⟩ = some (.slice none 0 0):=(blk_cell BK133.out 5).trans rfl;have hcz74_6 : w73.cell? ⟨gb133,6,none⟩ = some (.int .i64 0):=(blk_cell BK133.out 6).trans rfl;have hfz74_0:=blk_frozen BK133.out 0;have hfz74_1:=blk_frozen BK133.out 1;have hfz74_2:=blk_frozen BK133.out 2;have hfz74_3:=blk_frozen BK133.out 3;have hfz74_4:=blk_frozen BK133.out 4;have hfz74_5:=blk_frozen BK133.out 5;have hfz74_6:=blk_frozen BK133.out 6;obtain ⟨Ao75,co75,eo75⟩:=Kd.R_slice HO125.out;subst eo75;obtain ⟨Ao76,co76,eo76⟩:=Kd.N_slice HO130.out;subst eo76)|((with_reducible refine gate_callee (f:=11) rfl ?_);refine goesL_ (some 17) rfl rfl Tryd.func11 (by kernel_rfl) rfl #[.int .i64 3,.string (⟨#[47,97]⟩ : ByteArray),.string (⟨#[120]⟩ : ByteArray)] rfl (by (try simp only [List.map_toArray,List.map_cons,List.map_nil]);first|done|rfl|(simp only [List.length_drop,List.length_take];rfl)) ?_;(with_reducible refine (object_Key.calls 3 (⟨#[47,97]⟩ : ByteArray) (⟨#[120]⟩ : ByteArray) t134 t135 _ A4.out (Glob.below hG (by repeat (first|(with_reducible first|exact HB.out|refine below_set ?_ GE133.out|apply below_alloc|apply pw_below_drewN|apply below_drew1)|exact HB.out)))).mono ?_);rintro e w77 ⟨rfl,hb⟩;refine ⟨_,rfl,?_⟩;have n0_:=Aside0.mk (Kd.R_below (by (with_reducible repeat (first|apply Kd.R_alloc|apply Kd.R_drewN|apply Kd.R_drew));exact (Kd.R_mono (Kd.R_far (p:=⟨gb133,6,none⟩) (Kd.R_far (p:=⟨gb133,5,none⟩) (Kd.R_far (p:=⟨gb133,4,none⟩) (Kd.R_far (p:=⟨gb133,3,none⟩) (Kd.R_far (p:=⟨gb133,2,none⟩) (Kd.R_far (p:=⟨gb133,1,none⟩) (Kd.R_far (p:=⟨gb133,0,none⟩) (Kd.R_types HO112.out BK133.out (by decide)) (fun _ hk => hk.2) (.string t121)) (fun _ hk => hk.2) (.string t122)) (fun _ hk => hk.2) (.slice Ao75 t123.length co75)) (fun _ hk => hk.2) (.int .i64 t126)) (fun _ hk => hk.2) (.int .i64 t127)) (fun _ hk => hk.2) (.slice Ao76 t128.length co76)) (fun _ hk => hk.2) (.int .i64 t131)) (fun _ h_ => h_.1))) hb);have n1_:=Aside0.mk (Kd.N_below (by (with_reducible repeat (first|apply Kd.N_alloc|apply Kd.N_drewN|apply Kd.N_drew));exact (Kd.N_mono (Kd.N_far (p:=⟨gb133,6,none⟩) (Kd.N_far (p:=⟨gb133,5,none⟩) (Kd.N_far (p:=⟨gb133,4,none⟩) (Kd.N_far (p:=⟨gb133,3,none⟩) (Kd.N_far (p:=⟨gb133,2,none⟩) (Kd.N_far (p:=⟨gb133,1,none⟩) (Kd.N_far (p:=⟨gb133,0,none⟩) (Kd.N_mono HO117.out (fun k_ hk => (⟨hk,hk.2⟩ : _ ∧ k_ ≠ gb133))) (fun _ hk => hk.2) (.string t121)) (fun _ hk => hk.2) (.string t122)) (fun _ hk => hk.2) (.slice Ao75 t123.length co75)) (fun _ hk => hk.2) (.int .i64 t126)) (fun _ hk => hk.2) (.int .i64 t127)) (fun _ hk => hk.2) (.slice Ao76 t128.length co76)) (fun _ hk => hk.2) (.int .i64 t131)) (fun _ h_ => h_.1))) hb);have n2_:=Aside0.mk (Kd.R_below (by (with_reducible repeat (first|apply Kd.R_alloc|apply Kd.R_drewN|apply Kd.R_drew));exact (Kd.R_mono (Kd.R_far (p:=⟨gb133,6,none⟩) (Kd.R_far (p:=⟨gb133,5,none⟩) (Kd.R_far (p:=⟨gb133,4,none⟩) (Kd.R_far (p:=⟨gb133,3,none⟩) (Kd.R_far (p:=⟨gb133,2,none⟩) (Kd.R_far (p:=⟨gb133,1,none⟩) (Kd.R_far (p:=⟨gb133,0,none⟩) (Kd.R_types HO125.out BK133.out (by decide)) (fun _ hk => hk.2) (.string t121)) (fun _ hk => hk.2) (.string t122)) (fun _ hk => hk.2) (.slice Ao75 t123.length co75)) (fun _ hk => hk.2) (.int .i64 t126)) (fun _ hk => hk.2) (.int .i64 t127)) (fun _ hk => hk.2) (.slice Ao76 t128.length co76)) (fun _ hk => hk.2) (.int .i64 t131)) (fun _ h_ => h_.1))) hb);have n3_:=Aside0.mk (Kd.N_below (by (with_reducible repeat (first|apply Kd.N_alloc|apply Kd.N_drewN|apply Kd.N_drew));exact (Kd.N_mono (Kd.N_far (p:=⟨gb133,6,none⟩) (Kd.N_far (p:=⟨gb133,5,none⟩) (Kd.N_far (p:=⟨gb133,4,none⟩) (Kd.N_far (p:=⟨gb133,3,none⟩) (Kd.N_far (p:=⟨gb133,2,none⟩) (Kd.N_far (p:=⟨gb133,1,none⟩) (Kd.N_far (p:=⟨gb133,0,none⟩) (Kd.N_mono HO130.out (fun k_ hk => (⟨hk,hk.2⟩ : _ ∧ k_ ≠ gb133))) (fun _ hk => hk.2) (.string t121)) (fun _ hk => hk.2) (.string t122)) (fun _ hk => hk.2) (.slice Ao75 t123.length co75)) (fun _ hk => hk.2) (.int .i64 t126)) (fun _ hk => hk.2) (.int .i64 t127)) (fun _ hk => hk.2) (.slice Ao76 t128.length co76)) (fun _ hk => hk.2) (.int .i64 t131)) (fun _ h_ => h_.1))) hb);have n4_:=Aside0.mk (blk_below (g:=gb133) (o:=.cells #[.string t121,.string t122,.slice Ao75 t123.length co75,.int .i64 t126,.int .i64 t127,.slice Ao76 t128.length co76,.int .i64 t131] 25 (0,0)) (by (with_reducible repeat (first|refine blk_drewN ?_ _|refine blk_drew ?_|refine blk_alloc ?_ _));refine blk_put (cs:=#[.string t121,.string t122,.slice Ao75 t123.length co75,.int .i64 t126,.int .i64 t127,.slice Ao76 t128.length co76,.int .i64 0]) ?_ 6 _ rfl;(with_reducible repeat (first|refine blk_drewN ?_ _|refine blk_drew ?_|refine blk_alloc ?_ _));refine blk_put (cs:=#[.string t121,.string t122,.slice Ao75 t123.length co75,.int .i64 t126,.int .i64 t127,.slice none 0 0,.int .i64 0]) ?_ 5 _ rfl;(with_reducible repeat (first|refine blk_drewN ?_ _|refine blk_drew ?_|refine blk_alloc ?_ _));refine blk_put (cs:=#[.string t121,.string t122,.slice Ao75 t123.length co75,.int .i64 t126,.int .i64 0,.slice none 0 0,.int .i64 0]) ?_ 4 _ rfl;(with_reducible repeat (first|refine blk_drewN ?_ _|refine blk_drew ?_|refine blk_alloc ?_ _));refine blk_put (cs:=#[.string t121,.string t122,.slice Ao75 t123.length co75,.int .i64 0,.int .i64 0,.slice none 0 0,.int .i64 0]) ?_ 3 _ rfl;(with_reducible repeat (first|refine blk_drewN ?_ _|refine blk_drew ?_|refine blk_alloc ?_ _));refine blk_put (cs:=#[.string t121,.string t122,.slice none 0 0,.int .i64 0,.int .i64 0,.slice none 0 0,.int .i64 0]) ?_ 2 _ rfl;(with_reducible repeat (first|refine blk_drewN ?_ _|refine blk_drew ?_|refine blk_alloc ?_ _));refine blk_put (cs:=#[.string t121,.string (⟨#[]⟩ : ByteArray),.slice none 0 0,.int .i64 0,.int .i64 0,.slice none 0 0,.int .i64 0]) ?_ 1 _ rfl;(with_reducible repeat (first|refine blk_drewN ?_ _|refine blk_drew ?_|refine blk_alloc ?_ _));refine blk_put (cs:=#[.string (⟨#[]⟩ : ByteArray),.string (⟨#[]⟩ : ByteArray),.slice none 0 0,.int .i64 0,.int .i64 0,.slice none 0 0,.int .i64 0]) ?_ 0 _ rfl;(with_reducible repeat (first|refine blk_drewN ?_ _|refine blk_drew ?_|refine blk_alloc ?_ _));exact BK133.out) hb);have n5_:=Aside0.mk (below_step (by repeat (first|(with_reducible first|exact HB.out|apply below_alloc|apply pw_below_drewN|apply below_drew1|refine below_set ?_ GE133.out)|exact HB.out)) hb);clear HO112;clear HO117;clear HO125;clear HO130;clear BK133;clear HB;have HO112:=n0_;have HO117:=n1_;have HO125:=n2_;have HO130:=n3_;have BK133:=n4_;have HB:=n5_;clear n0_ n1_ n2_ n3_ n4_ n5_;(try clear hb);(try clear hb2);(try clear hk);(try clear hi)))
  have n0_:=Aside0.mk (Kd.R_drew HO112.out)
  have n1_:=Aside0.mk (Kd.N_drew HO117.out)
  have n2_:=Aside0.mk (Kd.R_drew HO125.out)
  have n3_:=Aside0.mk (Kd.N_drew HO130.out)
  have n4_:=Aside0.mk (blk_drew BK133.out)
  have n5_:=Aside0.mk (below_drew1 HB.out)
  clear HO112;clear HO117;clear HO125;clear HO130;clear BK133;clear HB;have HO112:=n0_;have HO117:=n1_;have HO125:=n2_;have HO130:=n3_;have BK133:=n4_;have HB:=n5_;clear n0_ n1_ n2_ n3_ n4_ n5_
  refine start_ (n:=24) (S:=fun w' => True) (ds:=[]) (bl 0 24) (by kernel_rfl) rfl rfl trivial (fun hHeld => ?_);refine with_tabW bursarlaw13_fixed.tab4 bursarlaw13_fixed.bits4 (fun HT_ HW_ => ?_)
  generalize w77.drew = w78 at HO112 HO117 HO125 HO130 BK133 HB hHeld ⊢
  refine pure_ (i:=0) (N:=some 20) (v:=?_) (a':=?_) (bl 1 23) rfl rfl (any_of HT_.out (by kernel_rfl)) (fun _ _ _ h => h) (Or.inl ⟨by rfl,?_⟩) ?_ ?_
  rotate_left;·intro w';go_simp;with_reducible rfl
  rotate_left;·simp only [pu_];rfl
  refine pure_ (i:=1) (N:=some 21) (v:=?_) (a':=?_) (bl 2 22) rfl rfl (any_of HT_.out (by kernel_rfl)) (fun _ _ _ h => h) (Or.inl ⟨by rfl,?_⟩) ?_ ?_
  rotate_left;·intro w';go_simp;with_reducible rfl
  rotate_left;·simp only [pu_];rfl
  refine pure_ (i:=2) (N:=some 22) (v:=?_) (a':=?_) (bl 3 21) rfl rfl (any_of HT_.out (by kernel_rfl)) (fun _ _ _ h => h) (Or.inl ⟨by rfl,?_⟩) ?_ ?_
  rotate_left;·intro w';go_simp;with_reducible rfl
  rotate_left;·simp only [pu_];rfl
  refine pure_ (i:=3) (N:=some 23) (v:=?_) (a':=?_) (bl 4 20) rfl rfl (any_of HT_.out (by kernel_rfl)) (fun _ _ _ h => h) (Or.inl ⟨by rfl,?_⟩) ?_ ?_
  rotate_left;·intro w';go_simp;with_reducible rfl
  rotate_left;·simp only [pu_];rfl
  refine pure_ (i:=4) (N:=some 24) (v:=?_) (a':=?_) (bl 5 19) rfl rfl (any_of HT_.out (by kernel_rfl)) (fun _ _ _ h => h) (Or.inl ⟨by rfl,?_⟩) ?_ ?_
  rotate_left;·intro w';go_simp;with_reducible rfl
  rotate_left;·simp only [pu_];rfl
  refine pure_ (i:=5) (N:=some 25) (v:=?_) (a':=?_) (bl 6 18) rfl rfl (any_of HT_.out (by kernel_rfl)) (fun _ _ _ h => h) (Or.inl ⟨by rfl,?_⟩) ?_ ?_
  rotate_left;·intro w';go_simp;with_reducible rfl
  rotate_left;·simp only [pu_];rfl
  refine pure_ (i:=6) (N:=some 26) (v:=?_) (a':=?_) (bl 7 17) rfl rfl (any_of HT_.out (by kernel_rfl)) (fun _ _ _ h => h) (Or.inl ⟨by rfl,?_⟩) ?_ ?_
  rotate_left;·intro w';go_simp;with_reducible rfl
  rotate_left;·simp only [pu_];rfl
  refine pure_ (i:=7) (N:=some 27) (v:=undef) (a':=?_) (bl 8 16) rfl rfl (any_of HT_.out (by kernel_rfl)) (fun _ _ _ h => h) (Or.inr ⟨by rfl,rfl⟩) ?_ ?_
  rotate_left
  ·simp only [pu_]
   rfl
  refine pure_ (i:=8) (N:=some 28) (v:=undef) (a':=?_) (bl 9 15) rfl rfl (any_of HT_.out (by kernel_rfl)) (fun _ _ _ h => h) (Or.inr ⟨by rfl,rfl⟩) ?_ ?_
  rotate_left
  ·simp only [pu_]
   rfl
  refine pure_ (i:=9) (N:=some 29) (v:=?_) (a':=?_) (bl 10 14) rfl rfl (any_of HT_.out (by kernel_rfl)) (fun _ _ _ h => h) (Or.inl ⟨by rfl,?_⟩) ?_ ?_
  rotate_left;·intro w';go_simp;with_reducible rfl
  rotate_left;·simp only [pu_];rfl
  refine pure_ (i:=10) (N:=some 30) (v:=?_) (a':=?_) (bl 11 13) rfl rfl (any_of HT_.out (by kernel_rfl)) (fun _ _ _ h => h) (Or.inl ⟨by rfl,?_⟩) ?_ ?_
  rotate_left;·intro w';go_simp;with_reducible rfl
  rotate_left;·simp only [pu_];rfl
  refine pure_ (i:=11) (N:=some 31) (v:=undef) (a':=?_) (bl 12 12) rfl rfl (any_of HT_.out (by kernel_rfl)) (fun _ _ _ h => h) (Or.inr ⟨by rfl,rfl⟩) ?_ ?_
  rotate_left
  ·simp only [pu_]
   rfl
  refine pure_ (i:=12) (N:=some 32) (v:=undef) (a':=?_) (bl 13 11) rfl rfl (any_of HT_.out (by kernel_rfl)) (fun _ _ _ h => h) (Or.inr ⟨by rfl,rfl⟩) ?_ ?_
  rotate_left
  ·simp only [pu_]
   rfl
  refine pure_ (i:=13) (N:=some 33) (v:=undef) (a':=?_) (bl 14 10) rfl rfl (any_of HT_.out (by kernel_rfl)) (fun _ _ _ h => h) (Or.inr ⟨by rfl,rfl⟩) ?_ ?_
  rotate_left
  ·simp only [pu_]
   rfl
  refine pure_ (i:=14) (N:=some 34) (v:=?_) (a':=?_) (bl 15 9) rfl rfl (any_of HT_.out (by kernel_rfl)) (fun _ _ _ h => h) (Or.inl ⟨by rfl,?_⟩) ?_ ?_
  rotate_left;·intro w';go_simp;with_reducible rfl
  rotate_left;·simp only [pu_];rfl
  refine pure_ (i:=15) (N:=some 35) (v:=?_) (a':=?_) (bl 16 8) rfl rfl (any_of HT_.out (by kernel_rfl)) (fun _ _ _ h => h) (Or.inl ⟨by rfl,?_⟩) ?_ ?_
  rotate_left;·intro w';go_simp;with_reducible rfl
  rotate_left;·simp only [pu_];rfl
  refine pure_ (i:=16) (N:=some 36) (v:=undef) (a':=?_) (bl 17 7) rfl rfl (any_of HT_.out (by kernel_rfl)) (fun _ _ _ h => h) (Or.inr ⟨by rfl,rfl⟩) ?_ ?_
  rotate_left
  ·simp only [pu_]
   rfl
  refine pure_ (i:=17) (N:=some 37) (v:=undef) (a':=?_) (bl 18 6) rfl rfl (any_of HT_.out (by kernel_rfl)) (fun _ _ _ h => h) (Or.inr ⟨by rfl,rfl⟩) ?_ ?_
  rotate_left
  ·simp only [pu_]
   rfl
  refine pure_ (i:=18) (N:=some 38) (v:=?_) (a':=?_) (bl 19 5) rfl rfl (any_of HT_.out (by kernel_rfl)) (fun _ _ _ h => h) (Or.inl ⟨by rfl,?_⟩) ?_ ?_
  rotate_left;·intro w';go_simp;with_reducible rfl
  rotate_left;·simp only [pu_];rfl
  refine pure_ (i:=19) (N:=some 39) (v:=?_) (a':=?_) (bl 20 4) rfl rfl (any_of HT_.out (by kernel_rfl)) (fun _ _ _ h => h) (Or.inl ⟨by rfl,?_⟩) ?_ ?_
  rotate_left;·intro w';go_simp;with_reducible rfl
  rotate_left;·simp only [pu_];rfl
  refine pure_ (i:=20) (N:=some 40) (v:=undef) (a':=?_) (bl 21 3) rfl rfl (any_of HT_.out (by kernel_rfl)) (fun _ _ _ h => h) (Or.inr ⟨by rfl,rfl⟩) ?_ ?_
  rotate_left
  ·simp only [pu_]
   rfl
  refine pure_ (i:=21) (N:=some 41) (v:=undef) (a':=?_) (bl 22 2) rfl rfl (any_of HT_.out (by kernel_rfl)) (fun _ _ _ h => h) (Or.inr ⟨by rfl,rfl⟩) ?_ ?_
  rotate_left
  ·simp only [pu_]
   rfl
  refine pure_ (i:=22) (N:=some 42) (v:=?_) (a':=?_) (bl 23 1) rfl rfl (any_of HT_.out (by kernel_rfl)) (fun _ _ _ h => h) (Or.inl ⟨by rfl,?_⟩) ?_ ?_
  rotate_left;·intro w';go_simp;with_reducible rfl
  rotate_left;·simp only [pu_];rfl
  refine pure_ (i:=23) (N:=some 0) (v:=?_) (a':=?_) (bl 24 0) rfl rfl (any_of HT_.out (by kernel_rfl)) (fun _ _ _ h => h) (Or.inl ⟨by rfl,?_⟩) ?_ ?_
  rotate_left;·intro w';go_simp;with_reducible rfl
  rotate_left;·simp only [pu_];rfl
  refine done_ (done_of HT_.out (by kernel_rfl)) ?_
  try go_wp2
  go_ret
  exact ⟨by first|rfl|(simp [errW_none,errW_some] <;> rfl)|(simp [*,errW_none,errW_some] <;> rfl),by repeat (first|(with_reducible first|exact HB.out|apply below_alloc|apply pw_below_drewN|apply below_drew1|refine below_set ?_ GE133.out)|exact HB.out)⟩
 rw [if_pos c6] at H
 have c6b0 : (t119.toList == ([79,1,2,47,97,1,120,0,3,0,1,4,109,97,105,110,1,3,99,112,117,244,3,0,7] : List UInt8)) = true:=beq_iff_eq.mpr c6
 have c6b1 : (t119.toList != ([79,1,2,47,97,1,120,0,3,0,1,4,109,97,105,110,1,3,99,112,117,244,3,0,7] : List UInt8)) = false:=bne_eq_false_iff_eq.mpr c6
 clear c6
 by_cases c7 : t132 = 0
 rotate_left
 ·rw [if_neg c7] at H
  have c7b0 : (t132 == 0) = false:=beq_eq_false_iff_ne.mpr c7
  have c7b1 : (t132 != 0) = true:=bne_iff_ne.mpr c7
  obtain rfl:=Option.some.inj H
  go_enter Tryd.func6,Tryd.ntmps6
  try go_wp2_with (first|((with_reducible refine gate_callee (f:=16) rfl ?_);refine goesL_ (some 8) rfl rfl Tryd.func16 (by kernel_rfl) rfl #[] rfl (by (try simp only [List.map_toArray,List.map_cons,List.map_nil]);first|done|rfl|(simp only [List.length_drop,List.length_take];rfl)) ?_;(with_reducible refine (bursarlaw13_small.calls  t108 t109 t110 t113 t114 t115 t118 _ A1.out).mono ?_);rintro e w57 ⟨v111,v116,rfl,ho0,ho1,hb⟩;refine ⟨_,rfl,?_⟩;have n0_:=Aside0.mk (Kd.R_lower (Kd.R_mono (ok':=fun k_ => True) ho0 (fun _ hk_ => trivial)) (below_size (by repeat (first|(with_reducible first|exact HB.out|apply below_alloc|apply pw_below_drewN|apply below_drew1)|exact HB.out))));have n1_:=Aside0.mk (Kd.N_lower (Kd.N_mono (ok':=fun k_ => some k_ ≠ (v111 : Value).ownBlock) ho1 (fun k_ hk_ => hk_.2)) (below_size (by repeat (first|(with_reducible first|exact HB.out|apply below_alloc|apply pw_below_drewN|apply below_drew1)|exact HB.out))));have n2_:=Aside0.mk (below_step (by repeat (first|(with_reducible first|exact HB.out|apply below_alloc|apply pw_below_drewN|apply below_drew1)|exact HB.out)) hb);clear HB;have HO112:=n0_;have HO117:=n1_;have HB:=n2_;clear n0_ n1_ n2_;(try clear hb);(try clear hb2);(try clear hk);(try clear hi);(try clear ho0);(try clear ho1);obtain ⟨Ao58,co58,eo58⟩:=Kd.R_slice HO112.out;subst eo58;obtain ⟨Ao59,co59,eo59⟩:=Kd.N_slice HO117.out;subst eo59)|((with_reducible refine gate_callee (f:=9) rfl ?_);refine goesL_ (some 9) rfl rfl Tryd.func9 (by kernel_rfl) rfl #[.agg #[.string t108,.string t109,.slice Ao58 t110.length co58,.int .i64 t113,.int .i64 t114,.slice Ao59 t115.length co59,.int .i64 t118]] rfl (by (try simp only [List.map_toArray,List.map_cons,List.map_nil]);first|done|rfl|(simp only [List.length_drop,List.length_take];rfl)) ?_;(with_reducible refine (object_EncodeObject.calls t108 t109 _ _ t110 t113 t114 _ _ t115 t118 t119 t120 _ ?side1 ?side2 ?side3 ?side4 A2.out (Glob.below hG (by repeat (first|(with_reducible first|exact HB.out|refine below_set ?_ GE133.out|apply below_alloc|apply pw_below_drewN|apply below_drew1)|exact HB.out)))).mono ?_);(case side1 => repeat (first|exact (Kd.R_reads' HO112.out).2.2|(with_reducible refine Kd.C_alloc ?_ _)|(with_reducible refine Kd.C_drewN ?_ _)|(with_reducible refine Kd.C_drew ?_)));(case side2 => exact (Kd.R_reads' HO112.out).2.1);(case side3 => repeat (first|exact (Kd.N_reads' HO117.out).2.2|(with_reducible refine Kd.C_alloc ?_ _)|(with_reducible refine Kd.C_drewN ?_ _)|(with_reducible refine Kd.C_drew ?_)));(case side4 => exact (Kd.N_reads' HO117.out).2.1);rintro e w60 ⟨rfl,hb⟩;refine ⟨_,rfl,?_⟩;have n0_:=Aside0.mk (Kd.R_below (by (with_reducible repeat (first|apply Kd.R_alloc|apply Kd.R_drewN|apply Kd.R_drew));exact HO112.out) hb);have n1_:=Aside0.mk (Kd.N_below (by (with_reducible repeat (first|apply Kd.N_alloc|apply Kd.N_drewN|apply Kd.N_drew));exact HO117.out) hb);have n2_:=Aside0.mk (below_step (by repeat (first|(with_reducible first|exact HB.out|apply below_alloc|apply pw_below_drewN|apply below_drew1)|exact HB.out)) hb);clear HO112;clear HO117;clear HB;have HO112:=n0_;have HO117:=n1_;have HB:=n2_;clear n0_ n1_ n2_;(try clear hb);(try clear hb2);(try clear hk);(try clear hi))|((with_reducible refine gate_callee (f:=17) rfl ?_);refine goesL_ (some 13) rfl rfl Tryd.func17 (by kernel_rfl) rfl #[.string (⟨#[79,1,2,47,97,1,120,0,3,0,1,4,109,97,105,110,1,3,99,112,117,244,3,0,7]⟩ : ByteArray)] rfl (by (try simp only [List.map_toArray,List.map_cons,List.map_nil]);first|done|rfl|(simp only [List.length_drop,List.length_take];rfl)) ?_;(with_reducible refine (object_DecodeObject.calls (⟨#[79,1,2,47,97,1,120,0,3,0,1,4,109,97,105,110,1,3,99,112,117,244,3,0,7]⟩ : ByteArray) t121 t122 t123 t126 t127 t128 t131 t132 _ A3.out (Glob.below hG (by repeat (first|(with_reducible first|exact HB.out|refine below_set ?_ GE133.out|apply below_alloc|apply pw_below_drewN|apply below_drew1)|exact HB.out)))).mono ?_);rintro e w61 ⟨v124,v129,rfl,ho0,ho1,hb⟩;refine ⟨_,rfl,?_⟩;have n0_:=Aside0.mk (Kd.R_elder' (by (with_reducible repeat (first|apply Kd.R_alloc|apply Kd.R_drewN|apply Kd.R_drew));exact HO112.out) (Kd.R_base ho0) hb);have n1_:=Aside0.mk (Kd.N_mono (Kd.N_told (Kd.N_told (Kd.N_old (by (with_reducible repeat (first|apply Kd.N_alloc|apply Kd.N_drewN|apply Kd.N_drew));exact HO117.out) hb) (Kd.R_base ho0)) (Kd.N_base ho1)) (fun _ h_ => h_.1));have n2_:=Aside0.mk (Kd.R_lower (Kd.R_new' (Kd.R_mono (ok':=fun k_ => True) ho0 (fun _ hk_ => trivial)) (Kd.R_lt (by (with_reducible repeat (first|apply Kd.R_alloc|apply Kd.R_drewN|apply Kd.R_drew));exact HO112.out))) (below_size (by repeat (first|(with_reducible first|exact HB.out|apply below_alloc|apply pw_below_drewN|apply below_drew1)|exact HB.out))));have n3_:=Aside0.mk (Kd.N_lower (Kd.N_mono (ok':=fun k_ => some k_ ≠ (v124 : Value).ownBlock ∧ some k_ ≠ (.slice Ao58 t110.length co58 : Value).ownBlock ∧ some k_ ≠ (.slice Ao59 t115.length co59 : Value).ownBlock) ho1 (fun k_ hk_ => ⟨hk_.2,(Kd.fresh' (Kd.R_lt (by (with_reducible repeat (first|apply Kd.R_alloc|apply Kd.R_drewN|apply Kd.R_drew));exact HO112.out)) k_ hk_.1),(Kd.fresh' (Kd.N_lt (by (with_reducible repeat (first|apply Kd.N_alloc|apply Kd.N_drewN|apply Kd.N_drew));exact HO117.out)) k_ hk_.1)⟩)) (below_size (by repeat (first|(with_reducible first|exact HB.out|apply below_alloc|apply pw_below_drewN|apply below_drew1)|exact HB.out))));have n4_:=Aside0.mk (below_step (by repeat (first|(with_reducible first|exact HB.out|apply below_alloc|apply pw_below_drewN|apply below_drew1)|exact HB.out)) hb);clear HO112;clear HO117;clear HB;have HO112:=n0_;have HO117:=n1_;have HO125:=n2_;have HO130:=n3_;have HB:=n4_;clear n0_ n1_ n2_ n3_ n4_;(try clear hb);(try clear hb2);(try clear hk);(try clear hi);(try clear ho0);(try clear ho1))|((with_reducible refine gate_dst (N:=3) rfl ?_);refine box_event ?hg (N:=3) ?hd (cs:=#[.string (⟨#[]⟩ : ByteArray),.string (⟨#[]⟩ : ByteArray),.slice none 0 0,.int .i64 0,.int .i64 0,.slice none 0 0,.int .i64 0]) (t:=25) ?hr ?_;(case hd => rfl);(case hg => rfl);(case hr => first|(go_simp;done)|(go_simp;rfl));intro gb133 hg w62 hbox hb;have n0_:=Aside0.mk (Kd.R_below (by (with_reducible repeat (first|apply Kd.R_alloc|apply Kd.R_drewN|apply Kd.R_drew));exact HO112.out) hb);have n1_:=Aside0.mk (Kd.N_below (Kd.N_elderB (by (with_reducible repeat (first|apply Kd.N_alloc|apply Kd.N_drewN|apply Kd.N_drew));exact HO117.out) gb133 (Nat.le_of_eq hg.symm)) hb);have n2_:=Aside0.mk (Kd.R_below (by (with_reducible repeat (first|apply Kd.R_alloc|apply Kd.R_drewN|apply Kd.R_drew));exact HO125.out) hb);have n3_:=Aside0.mk (Kd.N_below (Kd.N_elderB (by (with_reducible repeat (first|apply Kd.N_alloc|apply Kd.N_drewN|apply Kd.N_drew));exact HO130.out) gb133 (Nat.le_of_eq hg.symm)) hb);have n4_:=Aside0.mk (below_step (by repeat (first|(with_reducible first|exact HB.out|apply below_alloc|apply pw_below_drewN|apply below_drew1)|exact HB.out)) hb);have n5_:=Aside0.mk (hbox);have n6_:=Aside0.mk ((by rw [hg];exact (below_size (by repeat (first|(with_reducible first|exact HB.out|apply below_alloc|apply pw_below_drewN|apply below_drew1)|exact HB.out))) : w.heap.size ≤ gb133));have n7_:=Aside0.mk ((by rw [hg];exact (below_size (by repeat (first|(with_reducible first|exact HB.out|apply below_alloc|apply pw_below_drewN|apply below_drew1)|exact HB.out))) : w.heap.size ≤ gb133));clear HO112;clear HO117;clear HO125;clear HO130;clear HB;have HO112:=n0_;have HO117:=n1_;have HO125:=n2_;have HO130:=n3_;have HB:=n4_;have BK133:=n5_;have GW133:=n6_;have GE133:=n7_;clear n0_ n1_ n2_ n3_ n4_ n5_ n6_ n7_;clear hb hbox hg;have hcz63_0 : w62.cell? ⟨gb133,0,none⟩ = some (.string (⟨#[]⟩ : ByteArray)):=(blk_cell BK133.out 0).trans rfl;have hcz63_1 : w62.cell? ⟨gb133,1,none⟩ = some (.string (⟨#[]⟩ : ByteArray)):=(blk_cell BK133.out 1).trans rfl;have hcz63_2 : w62.cell? ⟨gb133,2,none⟩ = some (.slice none 0 0):=(blk_cell BK133.out 2).trans rfl;have hcz63_3 : w62.cell? ⟨gb133,3,none⟩ = some (.int .i64 0):=(blk_cell BK133.out 3).trans rfl;have hcz63_4 : w62.cell? ⟨gb133,4,none⟩ = some (.int .i64 0):=(blk_cell BK133.out 4).trans rfl;have hcz63_5 : w62.cell? ⟨gb133,5,none⟩ = some (.slice none 0 0):=(blk_cell BK133.out 5).trans rfl;have hcz63_6 : w62.cell? ⟨gb133,6,none⟩ = some (.int .i64 0):=(blk_cell BK133.out 6).trans rfl;have hfz63_0:=blk_frozen BK133.out 0;have hfz63_1:=blk_frozen BK133.out 1;have hfz63_2:=blk_frozen BK133.out 2;have hfz63_3:=blk_frozen BK133.out 3;have hfz63_4:=blk_frozen BK133.out 4;have hfz63_5:=blk_frozen BK133.out 5;have hfz63_6:=blk_frozen BK133.out 6;obtain ⟨Ao64,co64,eo64⟩:=Kd.R_slice HO125.out;subst eo64;obtain ⟨Ao65,co65,eo65⟩:=Kd.N_slice HO130.out;subst eo65)|((with_reducible refine gate_callee (f:=11) rfl ?_);refine goesL_ (some 17) rfl rfl Tryd.func11 (by kernel_rfl) rfl #[.int .i64 3,.string (⟨#[47,97]⟩ : ByteArray),.string (⟨#[120]⟩ : ByteArray)] rfl (by (try simp only [List.map_toArray,List.map_cons,List.map_nil]);first|done|rfl|(simp only [List.length_drop,List.length_take];rfl)) ?_;(with_reducible refine (object_Key.calls 3 (⟨#[47,97]⟩ : ByteArray) (⟨#[120]⟩ : ByteArray) t134 t135 _ A4.out (Glob.below hG (by repeat (first|(with_reducible first|exact HB.out|refine below_set ?_ GE133.out|apply below_alloc|apply pw_below_drewN|apply below_drew1)|exact HB.out)))).mono ?_);rintro e w66 ⟨rfl,hb⟩;refine ⟨_,rfl,?_⟩;have n0_:=Aside0.mk (Kd.R_below (by (with_reducible repeat (first|apply Kd.R_alloc|apply Kd.R_drewN|apply Kd.R_drew));exact (Kd.R_mono (Kd.R_far (p:=⟨gb133,6,none⟩) (Kd.R_far (p:=⟨gb133,5,none⟩) (Kd.R_far (p:=⟨gb133,4,none⟩) (Kd.R_far (p:=⟨gb133,3,none⟩) (Kd.R_far (p:=⟨gb133,2,none⟩) (Kd.R_far (p:=⟨gb133,1,none⟩) (Kd.R_far (p:=⟨gb133,0,none⟩) (Kd.R_types HO112.out BK133.out (by decide)) (fun _ hk => hk.2) (.string t121)) (fun _ hk => hk.2) (.string t122)) (fun _ hk => hk.2) (.slice Ao64 t123.length co64)) (fun _ hk => hk.2) (.int .i64 t126)) (fun _ hk => hk.2) (.int .i64 t127)) (fun _ hk => hk.2) (.slice Ao65 t128.length co65)) (fun _ hk => hk.2) (.int .i64 t131)) (fun _ h_ => h_.1))) hb);have n1_:=Aside0.mk (Kd.N_below (by (with_reducible repeat (first|apply Kd.N_alloc|apply Kd.N_drewN|apply Kd.N_drew));exact (Kd.N_mono (Kd.N_far (p:=⟨gb133,6,none⟩) (Kd.N_far (p:=⟨gb133,5,none⟩) (Kd.N_far (p:=⟨gb133,4,none⟩) (Kd.N_far (p:=⟨gb133,3,none⟩) (Kd.N_far (p:=⟨gb133,2,none⟩) (Kd.N_far (p:=⟨gb133,1,none⟩) (Kd.N_far (p:=⟨gb133,0,none⟩) (Kd.N_mono HO117.out (fun k_ hk => (⟨hk,hk.2⟩ : _ ∧ k_ ≠ gb133))) (fun _ hk => hk.2) (.string t121)) (fun _ hk => hk.2) (.string t122)) (fun _ hk => hk.2) (.slice Ao64 t123.length co64)) (fun _ hk => hk.2) (.int .i64 t126)) (fun _ hk => hk.2) (.int .i64 t127)) (fun _ hk => hk.2) (.slice Ao65 t128.length co65)) (fun _ hk => hk.2) (.int .i64 t131)) (fun _ h_ => h_.1))) hb);have n2_:=Aside0.mk (Kd.R_below (by (with_reducible repeat (first|apply Kd.R_alloc|apply Kd.R_drewN|apply Kd.R_drew));exact (Kd.R_mono (Kd.R_far (p:=⟨gb133,6,none⟩) (Kd.R_far (p:=⟨gb133,5,none⟩) (Kd.R_far (p:=⟨gb133,4,none⟩) (Kd.R_far (p:=⟨gb133,3,none⟩) (Kd.R_far (p:=⟨gb133,2,none⟩) (Kd.R_far (p:=⟨gb133,1,none⟩) (Kd.R_far (p:=⟨gb133,0,none⟩) (Kd.R_types HO125.out BK133.out (by decide)) (fun _ hk => hk.2) (.string t121)) (fun _ hk => hk.2) (.string t122)) (fun _ hk => hk.2) (.slice Ao64 t123.length co64)) (fun _ hk => hk.2) (.int .i64 t126)) (fun _ hk => hk.2) (.int .i64 t127)) (fun _ hk => hk.2) (.slice Ao65 t128.length co65)) (fun _ hk => hk.2) (.int .i64 t131)) (fun _ h_ => h_.1))) hb);have n3_:=Aside0.mk (Kd.N_below (by (with_reducible repeat (first|apply Kd.N_alloc|apply Kd.N_drewN|apply Kd.N_drew));exact (Kd.N_mono (Kd.N_far (p:=⟨gb133,6,none⟩) (Kd.N_far (p:=⟨gb133,5,none⟩) (Kd.N_far (p:=⟨gb133,4,none⟩) (Kd.N_far (p:=⟨gb133,3,none⟩) (Kd.N_far (p:=⟨gb133,2,none⟩) (Kd.N_far (p:=⟨gb133,1,none⟩) (Kd.N_far (p:=⟨gb133,0,none⟩) (Kd.N_mono HO130.out (fun k_ hk => (⟨hk,hk.2⟩ : _ ∧ k_ ≠ gb133))) (fun _ hk => hk.2) (.string t121)) (fun _ hk => hk.2) (.string t122)) (fun _ hk => hk.2) (.slice Ao64 t123.length co64)) (fun _ hk => hk.2) (.int .i64 t126)) (fun _ hk => hk.2) (.int .i64 t127)) (fun _ hk => hk.2) (.slice Ao65 t128.length co65)) (fun _ hk => hk.2) (.int .i64 t131)) (fun _ h_ => h_.1))) hb);have n4_:=Aside0.mk (blk_below (g:=gb133) (o:=.cells #[.string t121,.string t122,.slice Ao64 t123.length co64,.int .i64 t126,.int .i64 t127,.slice Ao65 t128.length co65,.int .i64 t131] 25 (0,0)) (by (with_reducible repeat (first|refine blk_drewN ?_ _|refine blk_drew ?_|refine blk_alloc ?_ _));refine blk_put (cs:=#[.string t121,.string t122,.slice Ao64 t123.length co64,.int .i64 t126,.int .i64 t127,.slice Ao65 t128.length co65,.int .i64 0]) ?_ 6 _ rfl;(with_reducible repeat (first|refine blk_drewN ?_ _|refine blk_drew ?_|refine blk_alloc ?_ _));refine blk_put (cs:=#[.string t121,.string t122,.slice Ao64 t123.length co64,.int .i64 t126,.int .i64 t127,.slice none 0 0,.int .i64 0]) ?_ 5 _ rfl;(with_reducible repeat (first|refine blk_drewN ?_ _|refine blk_drew ?_|refine blk_alloc ?_ _));refine blk_put (cs:=#[.string t121,.string t122,.slice Ao64 t123.length co64,.int .i64 t126,.int .i64 0,.slice none 0 0,.int .i64 0]) ?_ 4 _ rfl;(with_reducible repeat (first|refine blk_drewN ?_ _|refine blk_drew ?_|refine blk_alloc ?_ _));refine blk_put (cs:=#[.string t121,.string t122,.slice Ao64 t123.length co64,.int .i64 0,.int .i64 0,.slice none 0 0,.int .i64 0]) ?_ 3 _ rfl;(with_reducible repeat (first|refine blk_drewN ?_ _|refine blk_drew ?_|refine blk_alloc ?_ _));refine blk_put (cs:=#[.string t121,.string t122,.slice none 0 0,.int .i64 0,.int .i64 0,.slice none 0 0,.int .i64 0]) ?_ 2 _ rfl;(with_reducible repeat (first|refine blk_drewN ?_ _|refine blk_drew ?_|refine blk_alloc ?_ _));refine blk_put (cs:=#[.string t121,.string (⟨#[]⟩ : ByteArray),.slice none 0 0,.int .i64 0,.int .i64 0,.slice none 0 0,.int .i64 0]) ?_ 1 _ rfl;(with_reducible repeat (first|refine blk_drewN ?_ _|refine blk_drew ?_|refine blk_alloc ?_ _));refine blk_put (cs:=#[.string (⟨#[]⟩ : ByteArray),.string (⟨#[]⟩ : ByteArray),.slice none 0 0,.int .i64 0,.int .i64 0,.slice none 0 0,.int .i64 0]) ?_ 0 _ rfl;(with_reducible repeat (first|refine blk_drewN ?_ _|refine blk_drew ?_|refine blk_alloc ?_ _));exact BK133.out) hb);have n5_:=Aside0.mk (below_step (by repeat (first|(with_reducible first|exact HB.out|apply below_alloc|apply pw_below_drewN|apply below_drew1|refine below_set ?_ GE133.out)|exact HB.out)) hb);clear HO112;clear HO117;clear HO125;clear HO130;clear BK133;clear HB;have HO112:=n0_;have HO117:=n1_;have HO125:=n2_;have HO130:=n3_;have BK133:=n4_;have HB:=n5_;clear n0_ n1_ n2_ n3_ n4_ n5_;(try clear hb);(try clear hb2);(try clear hk);(try clear hi)))
  have n0_:=Aside0.mk (Kd.R_drew HO112.out)
  have n1_:=Aside0.mk (Kd.N_drew HO117.out)
  have n2_:=Aside0.mk (Kd.R_drew HO125.out)
  have n3_:=Aside0.mk (Kd.N_drew HO130.out)
  have n4_:=Aside0.mk (blk_drew BK133.out)
  have n5_:=Aside0.mk (below_drew1 HB.out)
  clear HO112;clear HO117;clear HO125;clear HO130;clear BK133;clear HB;have HO112:=n0_;have HO117:=n1_;have HO125:=n2_;have HO130:=n3_;have BK133:=n4_;have HB:=n5_;clear n0_ n1_ n2_ n3_ n4_ n5_
  refine start_ (n:=24) (S:=fun w' => True) (ds:=[]) (bl 0 24) (by kernel_rfl) rfl rfl trivial (fun hHeld => ?_);refine with_tabW bursarlaw13_fixed.tab4 bursarlaw13_fixed.bits4 (fun HT_ HW_ => ?_)
  generalize w66.drew = w67 at HO112 HO117 HO125 HO130 BK133 HB hHeld ⊢
  refine pure_ (i:=0) (N:=some 20) (v:=?_) (a':=?_) (bl 1 23) rfl rfl (any_of HT_.out (by kernel_rfl)) (fun _ _ _ h => h) (Or.inl ⟨by rfl,?_⟩) ?_ ?_
  rotate_left;·intro w';go_simp;with_reducible rfl
  rotate_left;·simp only [pu_];rfl
  refine pure_ (i:=1) (N:=some 21) (v:=?_) (a':=?_) (bl 2 22) rfl rfl (any_of HT_.out (by kernel_rfl)) (fun _ _ _ h => h) (Or.inl ⟨by rfl,?_⟩) ?_ ?_
  rotate_left;·intro w';go_simp;with_reducible rfl
  rotate_left;·simp only [pu_];rfl
  refine pure_ (i:=2) (N:=some 22) (v:=?_) (a':=?_) (bl 3 21) rfl rfl (any_of HT_.out (by kernel_rfl)) (fun _ _ _ h => h) (Or.inl ⟨by rfl,?_⟩) ?_ ?_
  rotate_left;·intro w';go_simp;with_reducible rfl
  rotate_left;·simp only [pu_];rfl
  refine pure_ (i:=3) (N:=some 23) (v:=?_) (a':=?_) (bl 4 20) rfl rfl (any_of HT_.out (by kernel_rfl)) (fun _ _ _ h => h) (Or.inl ⟨by rfl,?_⟩) ?_ ?_
  rotate_left;·intro w';go_simp;with_reducible rfl
  rotate_left;·simp only [pu_];rfl
  refine pure_ (i:=4) (N:=some 24) (v:=?_) (a':=?_) (bl 5 19) rfl rfl (any_of HT_.out (by kernel_rfl)) (fun _ _ _ h => h) (Or.inl ⟨by rfl,?_⟩) ?_ ?_
  rotate_left;·intro w';go_simp;with_reducible rfl
  rotate_left;·simp only [pu_];rfl
  refine pure_ (i:=5) (N:=some 25) (v:=?_) (a':=?_) (bl 6 18) rfl rfl (any_of HT_.out (by kernel_rfl)) (fun _ _ _ h => h) (Or.inl ⟨by rfl,?_⟩) ?_ ?_
  rotate_left;·intro w';go_simp;with_reducible rfl
  rotate_left;·simp only [pu_];rfl
  refine pure_ (i:=6) (N:=some 26) (v:=?_) (a':=?_) (bl 7 17) rfl rfl (any_of HT_.out (by kernel_rfl)) (fun _ _ _ h => h) (Or.inl ⟨by rfl,?_⟩) ?_ ?_
  rotate_left;·intro w';go_simp;with_reducible rfl
  rotate_left;·simp only [pu_];rfl
  refine pure_ (i:=7) (N:=some 27) (v:=?_) (a':=?_) (bl 8 16) rfl rfl (any_of HT_.out (by kernel_rfl)) (fun _ _ _ h => h) (Or.inl ⟨by rfl,?_⟩) ?_ ?_
  rotate_left;·intro w';go_simp;with_reducible rfl
  rotate_left;·simp only [pu_];rfl
  refine pure_ (i:=8) (N:=some 28) (v:=?_) (a':=?_) (bl 9 15) rfl rfl (any_of HT_.out (by kernel_rfl)) (fun _ _ _ h => h) (Or.inl ⟨by rfl,?_⟩) ?_ ?_
  rotate_left;·intro w';go_simp;with_reducible rfl
  rotate_left;·simp only [pu_];rfl
  refine pure_ (i:=9) (N:=some 29) (v:=?_) (a':=?_) (bl 10 14) rfl rfl (any_of HT_.out (by kernel_rfl)) (fun _ _ _ h => h) (Or.inl ⟨by rfl,?_⟩) ?_ ?_
  rotate_left;·intro w';go_simp;with_reducible rfl
  rotate_left;·simp only [pu_];rfl
  refine pure_ (i:=10) (N:=some 30) (v:=?_) (a':=?_) (bl 11 13) rfl rfl (any_of HT_.out (by kernel_rfl)) (fun _ _ _ h => h) (Or.inl ⟨by rfl,?_⟩) ?_ ?_
  rotate_left;·intro w';go_simp;with_reducible rfl
  rotate_left;·simp only [pu_];rfl
  refine pure_ (i:=11) (N:=some 31) (v:=undef) (a':=?_) (bl 12 12) rfl rfl (any_of HT_.out (by kernel_rfl)) (fun _ _ _ h => h) (Or.inr ⟨by rfl,rfl⟩) ?_ ?_
  rotate_left
  ·simp only [pu_]
   rfl
  refine pure_ (i:=12) (N:=some 32) (v:=undef) (a':=?_) (bl 13 11) rfl rfl (any_of HT_.out (by kernel_rfl)) (fun _ _ _ h => h) (Or.inr ⟨by rfl,rfl⟩) ?_ ?_
  rotate_left
  ·simp only [pu_]
   rfl
  refine pure_ (i:=13) (N:=some 33) (v:=undef) (a':=?_) (bl 14 10) rfl rfl (any_of HT_.out (by kernel_rfl)) (fun _ _ _ h => h) (Or.inr ⟨by rfl,rfl⟩) ?_ ?_
  rotate_left
  ·simp only [pu_]
   rfl
  refine pure_ (i:=14) (N:=some 34) (v:=?_) (a':=?_) (bl 15 9) rfl rfl (any_of HT_.out (by kernel_rfl)) (fun _ _ _ h => h) (Or.inl ⟨by rfl,?_⟩) ?_ ?_
  rotate_left;·intro w';go_simp;with_reducible rfl
  rotate_left;·simp only [pu_];rfl
  refine pure_ (i:=15) (N:=some 35) (v:=?_) (a':=?_) (bl 16 8) rfl rfl (any_of HT_.out (by kernel_rfl)) (fun _ _ _ h => h) (Or.inl ⟨by rfl,?_⟩) ?_ ?_
  rotate_left;·intro w';go_simp;with_reducible rfl
  rotate_left;·simp only [pu_];rfl
  refine pure_ (i:=16) (N:=some 36) (v:=undef) (a':=?_) (bl 17 7) rfl rfl (any_of HT_.out (by kernel_rfl)) (fun _ _ _ h => h) (Or.inr ⟨by rfl,rfl⟩) ?_ ?_
  rotate_left
  ·simp only [pu_]
   rfl
  refine pure_ (i:=17) (N:=some 37) (v:=undef) (a':=?_) (bl 18 6) rfl rfl (any_of HT_.out (by kernel_rfl)) (fun _ _ _ h => h) (Or.inr ⟨by rfl,rfl⟩) ?_ ?_
  rotate_left
  ·simp only [pu_]
   rfl
  refine pure_ (i:=18) (N:=some 38) (v:=?_) (a':=?_) (bl 19 5) rfl rfl (any_of HT_.out (by kernel_rfl)) (fun _ _ _ h => h) (Or.inl ⟨by rfl,?_⟩) ?_ ?_
  rotate_left;·intro w';go_simp;with_reducible rfl
  rotate_left;·simp only [pu_];rfl
  refine pure_ (i:=19) (N:=some 39) (v:=?_) (a':=?_) (bl 20 4) rfl rfl (any_of HT_.out (by kernel_rfl)) (fun _ _ _ h => h) (Or.inl ⟨by rfl,?_⟩) ?_ ?_
  rotate_left;·intro w';go_simp;with_reducible rfl
  rotate_left;·simp only [pu_];rfl
  refine pure_ (i:=20) (N:=some 40) (v:=undef) (a':=?_) (bl 21 3) rfl rfl (any_of HT_.out (by kernel_rfl)) (fun _ _ _ h => h) (Or.inr ⟨by rfl,rfl⟩) ?_ ?_
  rotate_left
  ·simp only [pu_]
   rfl
  refine pure_ (i:=21) (N:=some 41) (v:=undef) (a':=?_) (bl 22 2) rfl rfl (any_of HT_.out (by kernel_rfl)) (fun _ _ _ h => h) (Or.inr ⟨by rfl,rfl⟩) ?_ ?_
  rotate_left
  ·simp only [pu_]
   rfl
  refine pure_ (i:=22) (N:=some 42) (v:=?_) (a':=?_) (bl 23 1) rfl rfl (any_of HT_.out (by kernel_rfl)) (fun _ _ _ h => h) (Or.inl ⟨by rfl,?_⟩) ?_ ?_
  rotate_left;·intro w';go_simp;with_reducible rfl
  rotate_left;·simp only [pu_];rfl
  refine pure_ (i:=23) (N:=some 0) (v:=?_) (a':=?_) (bl 24 0) rfl rfl (any_of HT_.out (by kernel_rfl)) (fun _ _ _ h => h) (Or.inl ⟨by rfl,?_⟩) ?_ ?_
  rotate_left;·intro w';go_simp;with_reducible rfl
  rotate_left;·simp only [pu_];rfl
  refine done_ (done_of HT_.out (by kernel_rfl)) ?_
  try go_wp2
  go_ret
  exact ⟨by first|rfl|(simp [errW_none,errW_some] <;> rfl)|(simp [*,errW_none,errW_some] <;> rfl),by repeat (first|(with_reducible first|exact HB.out|apply below_alloc|apply pw_below_drewN|apply below_drew1|refine below_set ?_ GE133.out)|exact HB.out)⟩
 rw [if_pos c7] at H
 have c7b0 : (t132 == 0) = true:=beq_iff_eq.mpr c7
 have c7b1 : (t132 != 0) = false:=bne_eq_false_iff_eq.mpr c7
 clear c7
 replace H:=Option.bind_eq_some_iff.mp H
 obtain ⟨⟨t136,t137,t138,t141,t142,t143,t146⟩,A80,H⟩:=H
 replace H : ((bursarlaw13_sameObject.f t121 t122 t123 t126 t127 t128 t131 t136 t137 t138 t141 t142 t143 t146).bind fun t147 => (if t147 = true then (if t135 = 0 then (some (t134.toList == ([111,0,1,47,97,0,1,120,0,1] : List UInt8))) else (some false)) else (some false))) = some r:=H
 have A8:=Aside0.mk A80
 clear A80
 replace H:=Option.bind_eq_some_iff.mp H
 obtain ⟨t147,A90,H⟩:=H
 replace H : (if t147 = true then (if t135 = 0 then (some (t134.toList == ([111,0,1,47,97,0,1,120,0,1] : List UInt8))) else (some false)) else (some false)) = some r:=H
 have A9:=Aside0.mk A90
 clear A90
 by_cases c10 : t147 = true
 rotate_left
 ·replace c10:=Bool.eq_false_iff.mpr c10
  subst c10
  have H1 : (some false) = some r:=by rw [if_neg (show ¬ (false = true) by decide)] at H;exact H
  clear H;have H:=H1;clear H1
  obtain rfl:=Option.some.inj H
  go_enter Tryd.func6,Tryd.ntmps6
  try go_wp2_with (first|((with_reducible refine gate_callee (f:=16) rfl ?_);refine goesL_ (some 8) rfl rfl Tryd.func16 (by kernel_rfl) rfl #[] rfl (by (try simp only [List.map_toArray,List.map_cons,List.map_nil]);first|done|rfl|(simp only [List.length_drop,List.length_take];rfl)) ?_;(with_reducible refine (bursarlaw13_small.calls  t108 t109 t110 t113 t114 t115 t118 _ A1.out).mono ?_);rintro e w42 ⟨v111,v116,rfl,ho0,ho1,hb⟩;refine ⟨_,rfl,?_⟩;have n0_:=Aside0.mk (Kd.R_lower (Kd.R_mono (ok':=fun k_ => True) ho0 (fun _ hk_ => trivial)) (below_size (by repeat (first|(with_reducible first|exact HB.out|apply below_alloc|apply pw_below_drewN|apply below_drew1)|exact HB.out))));have n1_:=Aside0.mk (Kd.N_lower (Kd.N_mono (ok':=fun k_ => some k_ ≠ (v111 : Value).ownBlock) ho1 (fun k_ hk_ => hk_.2)) (below_size (by repeat (first|(with_reducible first|exact HB.out|apply below_alloc|apply pw_below_drewN|apply below_drew1)|exact HB.out))));have n2_:=Aside0.mk (below_step (by repeat (first|(with_reducible first|exact HB.out|apply below_alloc|apply pw_below_drewN|apply below_drew1)|exact HB.out)) hb);clear HB;have HO112:=n0_;have HO117:=n1_;have HB:=n2_;clear n0_ n1_ n2_;(try clear hb);(try clear hb2);(try clear hk);(try clear hi);(try clear ho0);(try clear ho1);obtain ⟨Ao43,co43,eo43⟩:=Kd.R_slice HO112.out;subst eo43;obtain ⟨Ao44,co44,eo44⟩:=Kd.N_slice HO117.out;subst eo44)|((with_reducible refine gate_callee (f:=9) rfl ?_);refine goesL_ (some 9) rfl rfl Tryd.func9 (by kernel_rfl) rfl #[.agg #[.string t108,.string t109,.slice Ao43 t110.length co43,.int .i64 t113,.int .i64 t114,.slice Ao44 t115.length co44,.int .i64 t118]] rfl (by (try simp only [List.map_toArray,List.map_cons,List.map_nil]);first|done|rfl|(simp only [List.length_drop,List.length_take];rfl)) ?_;(with_reducible refine (object_EncodeObject.calls t108 t109 _ _ t110 t113 t114 _ _ t115 t118 t119 t120 _ ?side1 ?side2 ?side3 ?side4 A2.out (Glob.below hG (by repeat (first|(with_reducible first|exact HB.out|refine below_set ?_ GE133.out|apply below_alloc|apply pw_below_drewN|apply below_drew1)|exact HB.out)))).mono ?_);(case side1 => repeat (first|exact (Kd.R_reads' HO112.out).2.2|(with_reducible refine Kd.C_alloc ?_ _)|(with_reducible refine Kd.C_drewN ?_ _)|(with_reducible refine Kd.C_drew ?_)));(case side2 => exact (Kd.R_reads' HO112.out).2.1);(case side3 => repeat (first|exact (Kd.N_reads' HO117.out).2.2|(with_reducible refine Kd.C_alloc ?_ _)|(with_reducible refine Kd.C_drewN ?_ _)|(with_reducible refine Kd.C_drew ?_)));(case side4 => exact (Kd.N_reads' HO117.out).2.1);rintro e w45 ⟨rfl,hb⟩;refine ⟨_,rfl,?_⟩;have n0_:=Aside0.mk (Kd.R_below (by (with_reducible repeat (first|apply Kd.R_alloc|apply Kd.R_drewN|apply Kd.R_drew));exact HO112.out) hb);have n1_:=Aside0.mk (Kd.N_below (by (with_reducible repeat (first|apply Kd.N_alloc|apply Kd.N_drewN|apply Kd.N_drew));exact HO117.out) hb);have n2_:=Aside0.mk (below_step (by repeat (first|(with_reducible first|exact HB.out|apply below_alloc|apply pw_below_drewN|apply below_drew1)|exact HB.out)) hb);clear HO112;clear HO117;clear HB;have HO112:=n0_;have HO117:=n1_;have HB:=n2_;clear n0_ n1_ n2_;(try clear hb);(try clear hb2);(try clear hk);(try clear hi))|((with_reducible refine gate_callee (f:=17) rfl ?_);refine goesL_ (some 13) rfl rfl Tryd.func17 (by kernel_rfl) rfl #[.string (⟨#[79,1,2,47,97,1,120,0,3,0,1,4,109,97,105,110,1,3,99,112,117,244,3,0,7]⟩ : ByteArray)] rfl (by (try simp only [List.map_toArray,List.map_cons,List.map_nil]);first|done|rfl|(simp only [List.length_drop,List.length_take];rfl)) ?_;(with_reducible refine (object_DecodeObject.calls (⟨#[79,1,2,47,97,1,120,0,3,0,1,4,109,97,105,110,1,3,99,112,117,244,3,0,7]⟩ : ByteArray) t121 t122 t123 t126 t127 t128 t131 t132 _ A3.out (Glob.below hG (by repeat (first|(with_reducible first|exact HB.out|refine below_set ?_ GE133.out|apply below_alloc|apply pw_below_drewN|apply below_drew1)|exact HB.out)))).mono ?_);rintro e w46 ⟨v124,v129,rfl,ho0,ho1,hb⟩;refine ⟨_,rfl,?_⟩;have n0_:=Aside0.mk (Kd.R_elder' (by (with_reducible repeat (first|apply Kd.R_alloc|apply Kd.R_drewN|apply Kd.R_drew));exact HO112.out) (Kd.R_base ho0) hb);have n1_:=Aside0.mk (Kd.N_mono (Kd.N_told (Kd.N_told (Kd.N_old (by (with_reducible repeat (first|apply Kd.N_alloc|apply Kd.N_drewN|apply Kd.N_drew));exact HO117.out) hb) (Kd.R_base ho0)) (Kd.N_base ho1)) (fun _ h_ => h_.1));have n2_:=Aside0.mk (Kd.R_lower (Kd.R_new' (Kd.R_mono (ok':=fun k_ => True) ho0 (fun _ hk_ => trivial)) (Kd.R_lt (by (with_reducible repeat (first|apply Kd.R_alloc|apply Kd.R_drewN|apply Kd.R_drew));exact HO112.out))) (below_size (by repeat (first|(with_reducible first|exact HB.out|apply below_alloc|apply pw_below_drewN|apply below_drew1)|exact HB.out))));have n3_:=Aside0.mk (Kd.N_lower (Kd.N_mono (ok':=fun k_ => some k_ ≠ (v124 : Value).ownBlock ∧ some k_ ≠ (.slice Ao43 t110.length co43 : Value).ownBlock ∧ some k_ ≠ (.slice Ao44 t115.length co44 : Value).ownBlock) ho1 (fun k_ hk_ => ⟨hk_.2,(Kd.fresh' (Kd.R_lt (by (with_reducible repeat (first|apply Kd.R_alloc|apply Kd.R_drewN|apply Kd.R_drew));exact HO112.out)) k_ hk_.1),(Kd.fresh' (Kd.N_lt (by (with_reducible repeat (first|apply Kd.N_alloc|apply Kd.N_drewN|apply Kd.N_drew));exact HO117.out)) k_ hk_.1)⟩)) (below_size (by repeat (first|(with_reducible first|exact HB.out|apply below_alloc|apply pw_below_drewN|apply below_drew1)|exact HB.out))));have n4_:=Aside0.mk (below_step (by repeat (first|(with_reducible first|exact HB.out|apply below_alloc|apply pw_below_drewN|apply below_drew1)|exact HB.out)) hb);clear HO112;clear HO117;clear HB;have HO112:=n0_;have HO117:=n1_;have HO125:=n2_;have HO130:=n3_;have HB:=n4_;clear n0_ n1_ n2_ n3_ n4_;(try clear hb);(try clear hb2);(try clear hk);(try clear hi);(try clear ho0);(try clear ho1))|((with_reducible refine gate_dst (N:=3) rfl ?_);refine box_event ?hg (N:=3) ?hd (cs:=#[.string (⟨#[]⟩ : ByteArray),.string (⟨#[]⟩ : ByteArray),.slice none 0 0,.int .i64 0,.int .i64 0,.slice none 0 0,.int .i64 0]) (t:=25) ?hr ?_;(case hd => rfl);(case hg => rfl);(case hr => first|(go_simp;done)|(go_simp;rfl));intro gb133 hg w47 hbox hb;have n0_:=Aside0.mk (Kd.R_below (by (with_reducible repeat (first|apply Kd.R_alloc|apply Kd.R_drewN|apply Kd.R_drew));exact HO112.out) hb);have n1_:=Aside0.mk (Kd.N_below (Kd.N_elderB (by (with_reducible repeat (first|apply Kd.N_alloc|apply Kd.N_drewN|apply Kd.N_drew));exact HO117.out) gb133 (Nat.le_of_eq hg.symm)) hb);have n2_:=Aside0.mk (Kd.R_below (by (with_reducible repeat (first|apply Kd.R_alloc|apply Kd.R_drewN|apply Kd.R_drew));exact HO125.out) hb);have n3_:=Aside0.mk (Kd.N_below (Kd.N_elderB (by (with_reducible repeat (first|apply Kd.N_alloc|apply Kd.N_drewN|apply Kd.N_drew));exact HO130.out) gb133 (Nat.le_of_eq hg.symm)) hb);have n4_:=Aside0.mk (below_step (by repeat (first|(with_reducible first|exact HB.out|apply below_alloc|apply pw_below_drewN|apply below_drew1)|exact HB.out)) hb);have n5_:=Aside0.mk (hbox);have n6_:=Aside0.mk ((by rw [hg];exact (below_size (by repeat (first|(with_reducible first|exact HB.out|apply below_alloc|apply pw_below_drewN|apply below_drew1)|exact HB.out))) : w.heap.size ≤ gb133));have n7_:=Aside0.mk ((by rw [hg];exact (below_size (by repeat (first|(with_reducible first|exact HB.out|apply below_alloc|apply pw_below_drewN|apply below_drew1)|exact HB.out))) : w.heap.size ≤ gb133));clear HO112;clear HO117;clear HO125;clear HO130;clear HB;have HO112:=n0_;have HO117:=n1_;have HO125:=n2_;have HO130:=n3_;have HB:=n4_;have BK133:=n5_;have GW133:=n6_;have GE133:=n7_;clear n0_ n1_ n2_ n3_ n4_ n5_ n6_ n7_;clear hb hbox hg;have hcz48_0 : w47.cell? ⟨gb133,0,none⟩ = some (.string (⟨#[]⟩ : ByteArray)):=(blk_cell BK133.out 0).trans rfl;have hcz48_1 : w47.cell? ⟨gb133,1,none⟩ = some (.string (⟨#[]⟩ : ByteArray)):=(blk_cell BK133.out 1).trans rfl;have hcz48_2 : w47.cell? ⟨gb133,2,none⟩ = some (.slice none 0 0):=(blk_cell BK133.out 2).trans rfl;have hcz48_3 : w47.cell? ⟨gb133,3,none⟩ = some (.int .i64 0):=(blk_cell BK133.out 3).trans rfl;have hcz48_4 : w47.cell? ⟨gb133,4,none⟩ = some (.int .i64 0):=(blk_cell BK133.out 4).trans rfl;have hcz48_5 : w47.cell? ⟨gb133,5,none⟩ = some (.slice none 0 0):=(blk_cell BK133.out 5).trans rfl;have hcz48_6 : w47.cell? ⟨gb133,6,none⟩ = some (.int .i64 0):=(blk_cell BK133.out 6).trans rfl;have hfz48_0:=blk_frozen BK133.out 0;have hfz48_1:=blk_frozen BK133.out 1;have hfz48_2:=blk_frozen BK133.out 2;have hfz48_3:=blk_frozen BK133.out 3;have hfz48_4:=blk_frozen BK133.out 4;have hfz48_5:=blk_frozen BK133.out 5;have hfz48_6:=blk_frozen BK133.out 6;obtain ⟨Ao49,co49,eo49⟩:=Kd.R_slice HO125.out;subst eo49;obtain ⟨Ao50,co50,eo50⟩:=Kd.N_slice HO130.out;subst eo50)|((with_reducible refine gate_callee (f:=11) rfl ?_);refine goesL_ (some 17) rfl rfl Tryd.func11 (by kernel_rfl) rfl #[.int .i64 3,.string (⟨#[47,97]⟩ : ByteArray),.string (⟨#[120]⟩ : ByteArray)] rfl (by (try simp only [List.map_toArray,List.map_cons,List.map_nil]);first|done|rfl|(simp only [List.length_drop,List.length_take];rfl)) ?_;(with_reducible refine (object_Key.calls 3 (⟨#[47,97]⟩ : ByteArray) (⟨#[120]⟩ : ByteArray) t134 t135 _ A4.out (Glob.below hG (by repeat (first|(with_reducible first|exact HB.out|refine below_set ?_ GE133.out|apply below_alloc|apply pw_below_drewN|apply below_drew1)|exact HB.out)))).mono ?_);rintro e w51 ⟨rfl,hb⟩;refine ⟨_,rfl,?_⟩;have n0_:=Aside0.mk (Kd.R_below (by (with_reducible repeat (first|apply Kd.R_alloc|apply Kd.R_drewN|apply Kd.R_drew));exact (Kd.R_mono (Kd.R_far (p:=⟨gb133,6,none⟩) (Kd.R_far (p:=⟨gb133,5,none⟩) (Kd.R_far (p:=⟨gb133,4,none⟩) (Kd.R_far (p:=⟨gb133,3,none⟩) (Kd.R_far (p:=⟨gb133,2,none⟩) (Kd.R_far (p:=⟨gb133,1,none⟩) (Kd.R_far (p:=⟨gb133,0,none⟩) (Kd.R_types HO112.out BK133.out (by decide)) (fun _ hk => hk.2) (.string t121)) (fun _ hk => hk.2) (.string t122)) (fun _ hk => hk.2) (.slice Ao49 t123.length co49)) (fun _ hk => hk.2) (.int .i64 t126)) (fun _ hk => hk.2) (.int .i64 t127)) (fun _ hk => hk.2) (.slice Ao50 t128.length co50)) (fun _ hk => hk.2) (.int .i64 t131)) (fun _ h_ => h_.1))) hb);have n1_:=Aside0.mk (Kd.N_below (by (with_reducible repeat (first|apply Kd.N_alloc|apply Kd.N_drewN|apply Kd.N_drew));exact (Kd.N_mono (Kd.N_far (p:=⟨gb133,6,none⟩) (Kd.N_far (p:=⟨gb133,5,none⟩) (Kd.N_far (p:=⟨gb133,4,none⟩) (Kd.N_far (p:=⟨gb133,3,none⟩) (Kd.N_far (p:=⟨gb133,2,none⟩) (Kd.N_far (p:=⟨gb133,1,none⟩) (Kd.N_far (p:=⟨gb133,0,none⟩) (Kd.N_mono HO117.out (fun k_ hk => (⟨hk,hk.2⟩ : _ ∧ k_ ≠ gb133))) (fun _ hk => hk.2) (.string t121)) (fun _ hk => hk.2) (.string t122)) (fun _ hk => hk.2) (.slice Ao49 t123.length co49)) (fun _ hk => hk.2) (.int .i64 t126)) (fun _ hk => hk.2) (.int .i64 t127)) (fun _ hk => hk.2) (.slice Ao50 t128.length co50)) (fun _ hk => hk.2) (.int .i64 t131)) (fun _ h_ => h_.1))) hb);have n2_:=Aside0.mk (Kd.R_below (by (with_reducible repeat (first|apply Kd.R_alloc|apply Kd.R_drewN|apply Kd.R_drew));exact (Kd.R_mono (Kd.R_far (p:=⟨gb133,6,none⟩) (Kd.R_far (p:=⟨gb133,5,none⟩) (Kd.R_far (p:=⟨gb133,4,none⟩) (Kd.R_far (p:=⟨gb133,3,none⟩) (Kd.R_far (p:=⟨gb133,2,none⟩) (Kd.R_far (p:=⟨gb133,1,none⟩) (Kd.R_far (p:=⟨gb133,0,none⟩) (Kd.R_types HO125.out BK133.out (by decide)) (fun _ hk => hk.2) (.string t121)) (fun _ hk => hk.2) (.string t122)) (fun _ hk => hk.2) (.slice Ao49 t123.length co49)) (fun _ hk => hk.2) (.int .i64 t126)) (fun _ hk => hk.2) (.int .i64 t127)) (fun _ hk => hk.2) (.slice Ao50 t128.length co50)) (fun _ hk => hk.2) (.int .i64 t131)) (fun _ h_ => h_.1))) hb);have n3_:=Aside0.mk (Kd.N_below (by (with_reducible repeat (first|apply Kd.N_alloc|apply Kd.N_drewN|apply Kd.N_drew));exact (Kd.N_mono (Kd.N_far (p:=⟨gb133,6,none⟩) (Kd.N_far (p:=⟨gb133,5,none⟩) (Kd.N_far (p:=⟨gb133,4,none⟩) (Kd.N_far (p:=⟨gb133,3,none⟩) (Kd.N_far (p:=⟨gb133,2,none⟩) (Kd.N_far (p:=⟨gb133,1,none⟩) (Kd.N_far (p:=⟨gb133,0,none⟩) (Kd.N_mono HO130.out (fun k_ hk => (⟨hk,hk.2⟩ : _ ∧ k_ ≠ gb133))) (fun _ hk => hk.2) (.string t121)) (fun _ hk => hk.2) (.string t122)) (fun _ hk => hk.2) (.slice Ao49 t123.length co49)) (fun _ hk => hk.2) (.int .i64 t126)) (fun _ hk => hk.2) (.int .i64 t127)) (fun _ hk => hk.2) (.slice Ao50 t128.length co50)) (fun _ hk => hk.2) (.int .i64 t131)) (fun _ h_ => h_.1))) hb);have n4_:=Aside0.mk (blk_below (g:=gb133) (o:=.cells #[.string t121,.string t122,.slice Ao49 t123.length co49,.int .i64 t126,.int .i64 t127,.slice Ao50 t128.length co50,.int .i64 t131] 25 (0,0)) (by (with_reducible repeat (first|refine blk_drewN ?_ _|refine blk_drew ?_|refine blk_alloc ?_ _));refine blk_put (cs:=#[.string t121,.string t122,.slice Ao49 t123.length co49,.int .i64 t126,.int .i64 t127,.slice Ao50 t128.length co50,.int .i64 0]) ?_ 6 _ rfl;(with_reducible repeat (first|refine blk_drewN ?_ _|refine blk_drew ?_|refine blk_alloc ?_ _));refine blk_put (cs:=#[.string t121,.string t122,.slice Ao49 t123.length co49,.int .i64 t126,.int .i64 t127,.slice none 0 0,.int .i64 0]) ?_ 5 _ rfl;(with_reducible repeat (first|refine blk_drewN ?_ _|refine blk_drew ?_|refine blk_alloc ?_ _));refine blk_put (cs:=#[.string t121,.string t122,.slice Ao49 t123.length co49,.int .i64 t126,.int .i64 0,.slice none 0 0,.int .i64 0]) ?_ 4 _ rfl;(with_reducible repeat (first|refine blk_drewN ?_ _|refine blk_drew ?_|refine blk_alloc ?_ _));refine blk_put (cs:=#[.string t121,.string t122,.slice Ao49 t123.length co49,.int .i64 0,.int .i64 0,.slice none 0 0,.int .i64 0]) ?_ 3 _ rfl;(with_reducible repeat (first|refine blk_drewN ?_ _|refine blk_drew ?_|refine blk_alloc ?_ _));refine blk_put (cs:=#[.string t121,.string t122,.slice none 0 0,.int .i64 0,.int .i64 0,.slice none 0 0,.int .i64 0]) ?_ 2 _ rfl;(with_reducible repeat (first|refine blk_drewN ?_ _|refine blk_drew ?_|refine blk_alloc ?_ _));refine blk_put (cs:=#[.string t121,.string (⟨#[]⟩ : ByteArray),.slice none 0 0,.int .i64 0,.int .i64 0,.slice none 0 0,.int .i64 0]) ?_ 1 _ rfl;(with_reducible repeat (first|refine blk_drewN ?_ _|refine blk_drew ?_|refine blk_alloc ?_ _));refine blk_put (cs:=#[.string (⟨#[]⟩ : ByteArray),.string (⟨#[]⟩ : ByteArray),.slice none 0 0,.int .i64 0,.int .i64 0,.slice none 0 0,.int .i64 0]) ?_ 0 _ rfl;(with_reducible repeat (first|refine blk_drewN ?_ _|refine blk_drew ?_|refine blk_alloc ?_ _));exact BK133.out) hb);have n5_:=Aside0.mk (below_step (by repeat (first|(with_reducible first|exact HB.out|apply below_alloc|apply pw_below_drewN|apply below_drew1|refine below_set ?_ GE133.out)|exact HB.out)) hb);clear HO112;clear HO117;clear HO125;clear HO130;clear BK133;clear HB;have HO112:=n0_;have HO117:=n1_;have HO125:=n2_;have HO130:=n3_;have BK133:=n4_;have HB:=n5_;clear n0_ n1_ n2_ n3_ n4_ n5_;(try clear hb);(try clear hb2);(try clear hk);(try clear hi)))
  have n0_:=Aside0.mk (Kd.R_drew HO112.out)
  have n1_:=Aside0.mk (Kd.N_drew HO117.out)
  have n2_:=Aside0.mk (Kd.R_drew HO125.out)
  have n3_:=Aside0.mk (Kd.N_drew HO130.out)
  have n4_:=Aside0.mk (blk_drew BK133.out)
  have n5_:=Aside0.mk (below_drew1 HB.out)
  clear HO112;clear HO117;clear HO125;clear HO130;clear BK133;clear HB;have HO112:=n0_;have HO117:=n1_;have HO125:=n2_;have HO130:=n3_;have BK133:=n4_;have HB:=n5_;clear n0_ n1_ n2_ n3_ n4_ n5_
  refine start_ (n:=24) (S:=fun w' => w'.cell? ⟨gb133,0,none⟩ = some (.string t121) ∧ w'.cell? ⟨gb133,1,none⟩ = some (.string t122) ∧ w'.cell? ⟨gb133,2,none⟩ = some (.slice Ao49 t123.length co49) ∧ w'.cell? ⟨gb133,3,none⟩ = some (.int .i64 t126) ∧ w'.cell? ⟨gb133,4,none⟩ = some (.int .i64 t127) ∧ w'.cell? ⟨gb133,5,none⟩ = some (.slice Ao50 t128.length co50) ∧ w'.cell? ⟨gb133,6,none⟩ = some (.int .i64 t131)) (ds:=[]) (bl 0 24) (by kernel_rfl) rfl rfl ⟨(blk_cell BK133.out 0).trans rfl,(blk_cell BK133.out 1).trans rfl,(blk_cell BK133.out 2).trans rfl,(blk_cell BK133.out 3).trans rfl,(blk_cell BK133.out 4).trans rfl,(blk_cell BK133.out 5).trans rfl,(blk_cell BK133.out 6).trans rfl⟩ (fun hHeld => ?_);refine with_tabW bursarlaw13_fixed.tab4 bursarlaw13_fixed.bits4 (fun HT_ HW_ => ?_)
  generalize w51.drew = w52 at HO112 HO117 HO125 HO130 BK133 HB hHeld ⊢
  refine pure_ (i:=0) (N:=some 20) (v:=?_) (a':=?_) (bl 1 23) rfl rfl (any_of HT_.out (by kernel_rfl)) (fun _ _ _ h => h) (Or.inl ⟨by rfl,?_⟩) ?_ ?_
  rotate_left;·intro w';go_simp;with_reducible rfl
  rotate_left;·simp only [pu_];rfl
  refine pure_ (i:=1) (N:=some 21) (v:=?_) (a':=?_) (bl 2 22) rfl rfl (any_of HT_.out (by kernel_rfl)) (fun _ _ _ h => h) (Or.inl ⟨by rfl,?_⟩) ?_ ?_
  rotate_left;·intro w';go_simp;with_reducible rfl
  rotate_left;·simp only [pu_];rfl
  refine pure_ (i:=2) (N:=some 22) (v:=?_) (a':=?_) (bl 3 21) rfl rfl (any_of HT_.out (by kernel_rfl)) (fun _ _ _ h => h) (Or.inl ⟨by rfl,?_⟩) ?_ ?_
  rotate_left;·intro w';go_simp;with_reducible rfl
  rotate_left;·simp only [pu_];rfl
  refine pure_ (i:=3) (N:=some 23) (v:=?_) (a':=?_) (bl 4 20) rfl rfl (any_of HT_.out (by kernel_rfl)) (fun _ _ _ h => h) (Or.inl ⟨by rfl,?_⟩) ?_ ?_
  rotate_left;·intro w';go_simp;with_reducible rfl
  rotate_left;·simp only [pu_];rfl
  refine pure_ (i:=4) (N:=some 24) (v:=?_) (a':=?_) (bl 5 19) rfl rfl (any_of HT_.out (by kernel_rfl)) (fun _ _ _ h => h) (Or.inl ⟨by rfl,?_⟩) ?_ ?_
  rotate_left;·intro w';go_simp;with_reducible rfl
  rotate_left;·simp only [pu_];rfl
  refine pure_ (i:=5) (N:=some 25) (v:=?_) (a':=?_) (bl 6 18) rfl rfl (any_of HT_.out (by kernel_rfl)) (fun _ _ _ h => h) (Or.inl ⟨by rfl,?_⟩) ?_ ?_
  rotate_left;·intro w';go_simp;with_reducible rfl
  rotate_left;·simp only [pu_];rfl
  refine pure_ (i:=6) (N:=some 26) (v:=?_) (a':=?_) (bl 7 17) rfl rfl (any_of HT_.out (by kernel_rfl)) (fun _ _ _ h => h) (Or.inl ⟨by rfl,?_⟩) ?_ ?_
  rotate_left;·intro w';go_simp;with_reducible rfl
  rotate_left;·simp only [pu_];rfl
  refine pure_ (i:=7) (N:=some 27) (v:=?_) (a':=?_) (bl 8 16) rfl rfl (any_of HT_.out (by kernel_rfl)) (fun _ _ _ h => h) (Or.inl ⟨by rfl,?_⟩) ?_ ?_
  rotate_left;·intro w';go_simp;with_reducible rfl
  rotate_left;·simp only [pu_];rfl
  refine pure_ (i:=8) (N:=some 28) (v:=?_) (a':=?_) (bl 9 15) rfl rfl (any_of HT_.out (by kernel_rfl)) (fun _ _ _ h => h) (Or.inl ⟨by rfl,?_⟩) ?_ ?_
  rotate_left;·intro w';go_simp;with_reducible rfl
  rotate_left;·simp only [pu_];rfl
  refine pure_ (i:=9) (N:=some 29) (v:=?_) (a':=?_) (bl 10 14) rfl rfl (any_of HT_.out (by kernel_rfl)) (fun _ _ _ h => h) (Or.inl ⟨by rfl,?_⟩) ?_ ?_
  rotate_left;·intro w';go_simp;with_reducible rfl
  rotate_left;·simp only [pu_];rfl
  refine pure_ (i:=10) (N:=some 30) (v:=?_) (a':=?_) (bl 11 13) rfl rfl (any_of HT_.out (by kernel_rfl)) (fun _ _ _ h => h) (Or.inl ⟨by rfl,?_⟩) ?_ ?_
  rotate_left;·intro w';go_simp;with_reducible rfl
  rotate_left;·simp only [pu_];rfl
  refine take_ (i:=11) (N:=some 31) (v:=?_) (a':=?_) (bl 12 12) rfl rfl (take_ofW HT_.out HW_.out (by kernel_rfl)) (fun _ _ _ h => h) (Or.inl ⟨by rfl,?_⟩) hHeld ?_ ?_
  rotate_left
  ·rintro w' ⟨s0,s1,s2,s3,s4,s5,s6⟩
   go_simp
   with_reducible rfl
  rotate_left
  ·simp only [pu_]
   rfl
  refine one_ (i:=12) (N:=some 32) (bl 13 11) rfl rfl (one_of HT_.out (by kernel_rfl)) (by decide) (fun K hK => ?_)
  refine goes_ Tryd.func16 (by kernel_rfl) rfl #[] (by rfl) rfl rfl (by (try simp only [List.map_toArray,List.map_cons,List.map_nil]);first|done|rfl|(simp only [List.length_drop,List.length_take];rfl)) ?_
  with_reducible refine (bursarlaw13_small.calls  t136 t137 t138 t141 t142 t143 t146 _ A8.out).mono ?_
  rintro e w53 ⟨v139,v144,rfl,ho0,ho1,hb⟩
  refine ⟨_,rfl,?_⟩
  have n0_:=Aside0.mk (Kd.R_elder' (by (with_reducible repeat (first|apply Kd.R_alloc|apply Kd.R_drewN|apply Kd.R_drew));exact HO112.out) (Kd.R_base ho0) hb)
  have n1_:=Aside0.mk (Kd.N_mono (Kd.N_told (Kd.N_told (Kd.N_old (by (with_reducible repeat (first|apply Kd.N_alloc|apply Kd.N_drewN|apply Kd.N_drew));exact HO117.out) hb) (Kd.R_base ho0)) (Kd.N_base ho1)) (fun _ h_ => h_.1))
  have n2_:=Aside0.mk (Kd.R_elder' (by (with_reducible repeat (first|apply Kd.R_alloc|apply Kd.R_drewN|apply Kd.R_drew));exact HO125.out) (Kd.R_base ho0) hb)
  have n3_:=Aside0.mk (Kd.N_mono (Kd.N_told (Kd.N_told (Kd.N_old (by (with_reducible repeat (first|apply Kd.N_alloc|apply Kd.N_drewN|apply Kd.N_drew));exact HO130.out) hb) (Kd.R_base ho0)) (Kd.N_base ho1)) (fun _ h_ => h_.1))
  have n4_:=Aside0.mk (Kd.R_lower (Kd.R_new' (Kd.R_new' (Kd.R_mono (ok':=fun k_ => True) ho0 (fun _ hk_ => trivial)) (Kd.R_lt (by (with_reducible repeat (first|apply Kd.R_alloc|apply Kd.R_drewN|apply Kd.R_drew));exact HO112.out))) (Kd.R_lt (by (with_reducible repeat (first|apply Kd.R_alloc|apply Kd.R_drewN|apply Kd.R_drew));exact HO125.out))) (below_size (by repeat (first|(with_reducible first|exact HB.out|apply below_alloc|apply pw_below_drewN|apply below_drew1|refine below_set ?_ GE133.out)|exact HB.out))))
  have n5_:=Aside0.mk (Kd.N_lower (Kd.N_mono (ok':=fun k_ => some k_ ≠ (v139 : Value).ownBlock ∧ some k_ ≠ (.slice Ao43 t110.length co43 : Value).ownBlock ∧ some k_ ≠ (.slice Ao44 t115.length co44 : Value).ownBlock ∧ some k_ ≠ (.slice Ao49 t123.length co49 : Value).ownBlock ∧ some k_ ≠ (.slice Ao50 t128.length co50 : Value).ownBlock ∧ k_ ≠ gb133) ho1 (fun k_ hk_ => ⟨hk_.2,(Kd.fresh' (Kd.R_lt (by (with_reducible repeat (first|apply Kd.R_alloc|apply Kd.R_drewN|apply Kd.R_drew));exact HO112.out)) k_ hk_.1),(Kd.fresh' (Kd.N_lt (by (with_reducible repeat (first|apply Kd.N_alloc|apply Kd.N_drewN|apply Kd.N_drew));exact HO117.out)) k_ hk_.1),(Kd.fresh' (Kd.R_lt (by (with_reducible repeat (first|apply Kd.R_alloc|apply Kd.R_drewN|apply Kd.R_drew));exact HO125.out)) k_ hk_.1),(Kd.fresh' (Kd.N_lt (by (with_reducible repeat (first|apply Kd.N_alloc|apply Kd.N_drewN|apply Kd.N_drew));exact HO130.out)) k_ hk_.1),(Kd.freshB (g:=gb133) (o:=.cells #[.string t121,.string t122,.slice Ao49 t123.length co49,.int .i64 t126,.int .i64 t127,.slice Ao50 t128.length co50,.int .i64 t131] 25 (0,0)) (by (with_reducible repeat (first|refine blk_drewN ?_ _|refine blk_drew ?_|refine blk_alloc ?_ _));exact BK133.out) k_ hk_.1)⟩)) (below_size (by repeat (first|(with_reducible first|exact HB.out|apply below_alloc|apply pw_below_drewN|apply below_drew1|refine below_set ?_ GE133.out)|exact HB.out))))
  have n6_:=Aside0.mk (blk_below (g:=gb133) (o:=.cells #[.string t121,.string t122,.slice Ao49 t123.length co49,.int .i64 t126,.int .i64 t127,.slice Ao50 t128.length co50,.int .i64 t131] 25 (0,0)) (by (with_reducible repeat (first|refine blk_drewN ?_ _|refine blk_drew ?_|refine blk_alloc ?_ _));exact BK133.out) hb)
  have n7_:=Aside0.mk (below_step (by repeat (first|(with_reducible first|exact HB.out|apply below_alloc|apply pw_below_drewN|apply below_drew1|refine below_set ?_ GE133.out)|exact HB.out)) hb)
  clear HO112;clear HO117;clear HO125;clear HO130;clear BK133;clear HB;have HO112:=n0_;have HO117:=n1_;have HO125:=n2_;have HO130:=n3_;have HO140:=n4_;have HO145:=n5_;have BK133:=n6_;have HB:=n7_;clear n0_ n1_ n2_ n3_ n4_ n5_ n6_ n7_;(try clear hb);(try clear hb2);(try clear hk);(try clear hi);(try clear ho0);(try clear ho1)
  obtain ⟨Ao54,co54,eo54⟩:=Kd.R_slice HO140.out
  (first|subst eo54|(injection eo54 with f1_ f2_ f3_;have f4_:=f1_.symm;have f5_:=f3_.symm;clear f1_ f2_ f3_;subst f4_;subst f5_))
  obtain ⟨Ao55,co55,eo55⟩:=Kd.N_slice HO145.out
  (first|subst eo55|(injection eo55 with f1_ f2_ f3_;have f4_:=f1_.symm;have f5_:=f3_.symm;clear f1_ f2_ f3_;subst f4_;subst f5_))
  refine hK.out _ _ ⟨(blk_cell BK133.out 0).trans rfl,(blk_cell BK133.out 1).trans rfl,(blk_cell BK133.out 2).trans rfl,(blk_cell BK133.out 3).trans rfl,(blk_cell BK133.out 4).trans rfl,(blk_cell BK133.out 5).trans rfl,(blk_cell BK133.out 6).trans rfl⟩ (fun hHeld => ?_)
  clear hK K
  refine norm_ (a':=?_) ?_ ?_
  rotate_left
  ·show Act.put _ (some 32) _ = _
   simp only [pu_]
   rfl
  refine one_ (i:=13) (N:=some 33) (bl 14 10) rfl rfl (one_of HT_.out (by kernel_rfl)) (by decide) (fun K hK => ?_)
  refine goes_ Tryd.func18 (by kernel_rfl) rfl #[.agg #[.string t121,.string t122,.slice Ao49 t123.length co49,.int .i64 t126,.int .i64 t127,.slice Ao50 t128.length co50,.int .i64 t131],.agg #[.string t136,.string t137,.slice Ao54 t138.length co54,.int .i64 t141,.int .i64 t142,.slice Ao55 t143.length co55,.int .i64 t146]] (by rfl) rfl rfl (by (try simp only [List.map_toArray,List.map_cons,List.map_nil]);first|done|rfl|(simp only [List.length_drop,List.length_take];rfl)) ?_
  with_reducible refine (bursarlaw13_sameObject.calls t121 t122 _ _ t123 t126 t127 _ _ t128 t131 t136 t137 _ _ t138 t141 t142 _ _ t143 t146 false _ ?side1 ?side2 ?side3 ?side4 ?side5 ?side6 ?side7 ?side8 A9.out).mono ?_
  (case side1 => repeat (first|exact (Kd.R_reads' HO125.out).2.2|(with_reducible refine Kd.C_alloc ?_ _)|(with_reducible refine Kd.C_drewN ?_ _)|(with_reducible refine Kd.C_drew ?_)))
  (case side2 => exact (Kd.R_reads' HO125.out).2.1)
  (case side3 => repeat (first|exact (Kd.N_reads' HO130.out).2.2|(with_reducible refine Kd.C_alloc ?_ _)|(with_reducible refine Kd.C_drewN ?_ _)|(with_reducible refine Kd.C_drew ?_)))
  (case side4 => exact (Kd.N_reads' HO130.out).2.1)
  (case side5 => repeat (first|exact (Kd.R_reads' HO140.out).2.2|(with_reducible refine Kd.C_alloc ?_ _)|(with_reducible refine Kd.C_drewN ?_ _)|(with_reducible refine Kd.C_drew ?_)))
  (case side6 => exact (Kd.R_reads' HO140.out).2.1)
  (case side7 => repeat (first|exact (Kd.N_reads' HO145.out).2.2|(with_reducible refine Kd.C_alloc ?_ _)|(with_reducible refine Kd.C_drewN ?_ _)|(with_reducible refine Kd.C_drew ?_)))
  (case side8 => exact (Kd.N_reads' HO145.out).2.1)
  rintro e w56 ⟨rfl,hb⟩
  refine ⟨_,rfl,?_⟩
  have n0_:=Aside0.mk (Kd.R_below (by (with_reducible repeat (first|apply Kd.R_alloc|apply Kd.R_drewN|apply Kd.R_drew));exact HO112.out) hb)
  have n1_:=Aside0.mk (Kd.N_below (by (with_reducible repeat (first|apply Kd.N_alloc|apply Kd.N_drewN|apply Kd.N_drew));exact HO117.out) hb)
  have n2_:=Aside0.mk (Kd.R_below (by (with_reducible repeat (first|apply Kd.R_alloc|apply Kd.R_drewN|apply Kd.R_drew));exact HO125.out) hb)
  have n3_:=Aside0.mk (Kd.N_below (by (with_reducible repeat (first|apply Kd.N_alloc|apply Kd.N_drewN|apply Kd.N_drew));exact HO130.out) hb)
  have n4_:=Aside0.mk (Kd.R_below (by (with_reducible repeat (first|apply Kd.R_alloc|apply Kd.R_drewN|apply Kd.R_drew));exact HO140.out) hb)
  have n5_:=Aside0.mk (Kd.N_below (by (with_reducible repeat (first|apply Kd.N_alloc|apply Kd.N_drewN|apply Kd.N_drew));exact HO145.out) hb)
  have n6_:=Aside0.mk (blk_below (g:=gb133) (o:=.cells #[.string t121,.string t122,.slice Ao49 t123.length co49,.int .i64 t126,.int .i64 t127,.slice Ao50 t128.length co50,.int .i64 t131] 25 (0,0)) (by (with_reducible repeat (first|refine blk_drewN ?_ _|refine blk_drew ?_|refine blk_alloc ?_ _));exact BK133.out) hb)
  have n7_:=Aside0.mk (below_step (by repeat (first|(with_reducible first|exact HB.out|apply below_alloc|apply pw_below_drewN|apply below_drew1|refine below_set ?_ GE133.out)|exact HB.out)) hb)
  clear HO112;clear HO117;clear HO125;clear HO130;clear HO140;clear HO145;clear BK133;clear HB;have HO112:=n0_;have HO117:=n1_;have HO125:=n2_;have HO130:=n3_;have HO140:=n4_;have HO145:=n5_;have BK133:=n6_;have HB:=n7_;clear n0_ n1_ n2_ n3_ n4_ n5_ n6_ n7_;(try clear hb);(try clear hb2);(try clear hk);(try clear hi)
  refine hK.out _ _ ⟨(blk_cell BK133.out 0).trans rfl,(blk_cell BK133.out 1).trans rfl,(blk_cell BK133.out 2).trans rfl,(blk_cell BK133.out 3).trans rfl,(blk_cell BK133.out 4).trans rfl,(blk_cell BK133.out 5).trans rfl,(blk_cell BK133.out 6).trans rfl⟩ (fun hHeld => ?_)
  clear hK K
  refine norm_ (a':=?_) ?_ ?_
  rotate_left
  ·show Act.put _ (some 33) _ = _
   simp only [pu_]
   rfl
  refine pure_ (i:=14) (N:=some 34) (v:=?_) (a':=?_) (bl 15 9) rfl rfl (any_of HT_.out (by kernel_rfl)) (fun _ _ _ h => h) (Or.inl ⟨by rfl,?_⟩) ?_ ?_
  rotate_left;·intro w';go_simp;with_reducible rfl
  rotate_left;·simp only [pu_];rfl
  refine pure_ (i:=15) (N:=some 35) (v:=?_) (a':=?_) (bl 16 8) rfl rfl (any_of HT_.out (by kernel_rfl)) (fun _ _ _ h => h) (Or.inl ⟨by rfl,?_⟩) ?_ ?_
  rotate_left;·intro w';go_simp;with_reducible rfl
  rotate_left;·simp only [pu_];rfl
  refine pure_ (i:=16) (N:=some 36) (v:=undef) (a':=?_) (bl 17 7) rfl rfl (any_of HT_.out (by kernel_rfl)) (fun _ _ _ h => h) (Or.inr ⟨by rfl,rfl⟩) ?_ ?_
  rotate_left
  ·simp only [pu_]
   rfl
  refine pure_ (i:=17) (N:=some 37) (v:=undef) (a':=?_) (bl 18 6) rfl rfl (any_of HT_.out (by kernel_rfl)) (fun _ _ _ h => h) (Or.inr ⟨by rfl,rfl⟩) ?_ ?_
  rotate_left
  ·simp only [pu_]
   rfl
  refine pure_ (i:=18) (N:=some 38) (v:=?_) (a':=?_) (bl 19 5) rfl rfl (any_of HT_.out (by kernel_rfl)) (fun _ _ _ h => h) (Or.inl ⟨by rfl,?_⟩) ?_ ?_
  rotate_left;·intro w';go_simp;with_reducible rfl
  rotate_left;·simp only [pu_];rfl
  refine pure_ (i:=19) (N:=some 39) (v:=?_) (a':=?_) (bl 20 4) rfl rfl (any_of HT_.out (by kernel_rfl)) (fun _ _ _ h => h) (Or.inl ⟨by rfl,?_⟩) ?_ ?_
  rotate_left;·intro w';go_simp;with_reducible rfl
  rotate_left;·simp only [pu_];rfl
  refine pure_ (i:=20) (N:=some 40) (v:=undef) (a':=?_) (bl 21 3) rfl rfl (any_of HT_.out (by kernel_rfl)) (fun _ _ _ h => h) (Or.inr ⟨by rfl,rfl⟩) ?_ ?_
  rotate_left
  ·simp only [pu_]
   rfl
  refine pure_ (i:=21) (N:=some 41) (v:=undef) (a':=?_) (bl 22 2) rfl rfl (any_of HT_.out (by kernel_rfl)) (fun _ _ _ h => h) (Or.inr ⟨by rfl,rfl⟩) ?_ ?_
  rotate_left
  ·simp only [pu_]
   rfl
  refine pure_ (i:=22) (N:=some 42) (v:=?_) (a':=?_) (bl 23 1) rfl rfl (any_of HT_.out (by kernel_rfl)) (fun _ _ _ h => h) (Or.inl ⟨by rfl,?_⟩) ?_ ?_
  rotate_left;·intro w';go_simp;with_reducible rfl
  rotate_left;·simp only [pu_];rfl
  refine pure_ (i:=23) (N:=some 0) (v:=?_) (a':=?_) (bl 24 0) rfl rfl (any_of HT_.out (by kernel_rfl)) (fun _ _ _ h => h) (Or.inl ⟨by rfl,?_⟩) ?_ ?_
  rotate_left;·intro w';go_simp;with_reducible rfl
  rotate_left;·simp only [pu_];rfl
  refine done_ (done_of HT_.out (by kernel_rfl)) ?_
  try go_wp2
  go_ret
  exact ⟨by first|rfl|(simp [errW_none,errW_some] <;> rfl)|(simp [*,errW_none,errW_some] <;> rfl),by repeat (first|(with_reducible first|exact HB.out|apply below_alloc|apply pw_below_drewN|apply below_drew1|refine below_set ?_ GE133.out)|exact HB.out)⟩
 subst c10
 have H1 : (if t135 = 0 then (some (t134.toList == ([111,0,1,47,97,0,1,120,0,1] : List UInt8))) else (some false)) = some r:=by rw [if_pos rfl] at H;exact H
 clear H;have H:=H1;clear H1
 by_cases c11 : t135 = 0
 rotate_left
 ·rw [if_neg c11] at H
  have c11b0 : (t135 == 0) = false:=beq_eq_false_iff_ne.mpr c11
  have c11b1 : (t135 != 0) = true:=bne_iff_ne.mpr c11
  obtain rfl:=Option.some.inj H
  go_enter Tryd.func6,Tryd.ntmps6
  try go_wp2_with (first|((with_reducible refine gate_callee (f:=16) rfl ?_);refine goesL_ (some 8) rfl rfl Tryd.func16 (by kernel_rfl) rfl #[] rfl (by (try simp only [List.map_toArray,List.map_cons,List.map_nil]);first|done|rfl|(simp only [List.length_drop,List.length_take];rfl)) ?_;(with_reducible refine (bursarlaw13_small.calls  t108 t109 t110 t113 t114 t115 t118 _ A1.out).mono ?_);rintro e w27 ⟨v111,v116,rfl,ho0,ho1,hb⟩;refine ⟨_,rfl,?_⟩;have n0_:=Aside0.mk (Kd.R_lower (Kd.R_mono (ok':=fun k_ => True) ho0 (fun _ hk_ => trivial)) (below_size (by repeat (first|(with_reducible first|exact HB.out|apply below_alloc|apply pw_below_drewN|apply below_drew1)|exact HB.out))));have n1_:=Aside0.mk (Kd.N_lower (Kd.N_mono (ok':=fun k_ => some k_ ≠ (v111 : Value).ownBlock) ho1 (fun k_ hk_ => hk_.2)) (below_size (by repeat (first|(with_reducible first|exact HB.out|apply below_alloc|apply pw_below_drewN|apply below_drew1)|exact HB.out))));have n2_:=Aside0.mk (below_step (by repeat (first|(with_reducible first|exact HB.out|apply below_alloc|apply pw_below_drewN|apply below_drew1)|exact HB.out)) hb);clear HB;have HO112:=n0_;have HO117:=n1_;have HB:=n2_;clear n0_ n1_ n2_;(try clear hb);(try clear hb2);(try clear hk);(try clear hi);(try clear ho0);(try clear ho1);obtain ⟨Ao28,co28,eo28⟩:=Kd.R_slice HO112.out;subst eo28;obtain ⟨Ao29,co29,eo29⟩:=Kd.N_slice HO117.out;subst eo29)|((with_reducible refine gate_callee (f:=9) rfl ?_);refine goesL_ (some 9) rfl rfl Tryd.func9 (by kernel_rfl) rfl #[.agg #[.string t108,.string t109,.slice Ao28 t110.length co28,.int .i64 t113,.int .i64 t114,.slice Ao29 t115.length co29,.int .i64 t118]] rfl (by (try simp only [List.map_toArray,List.map_cons,List.map_nil]);first|done|rfl|(simp only [List.length_drop,List.length_take];rfl)) ?_;(with_reducible refine (object_EncodeObject.calls t108 t109 _ _ t110 t113 t114 _ _ t115 t118 t119 t120 _ ?side1 ?side2 ?side3 ?side4 A2.out (Glob.below hG (by repeat (first|(with_reducible first|exact HB.out|refine below_set ?_ GE133.out|apply below_alloc|apply pw_below_drewN|apply below_drew1)|exact HB.out)))).mono ?_);(case side1 => repeat (first|exact (Kd.R_reads' HO112.out).2.2|(with_reducible refine Kd.C_alloc ?_ _)|(with_reducible refine Kd.C_drewN ?_ _)|(with_reducible refine Kd.C_drew ?_)));(case side2 => exact (Kd.R_reads' HO112.out).2.1);(case side3 => repeat (first|exact (Kd.N_reads' HO117.out).2.2|(with_reducible refine Kd.C_alloc ?_ _)|(with_reducible refine Kd.C_drewN ?_ _)|(with_reducible refine Kd.C_drew ?_)));(case side4 => exact (Kd.N_reads' HO117.out).2.1);rintro e w30 ⟨rfl,hb⟩;refine ⟨_,rfl,?_⟩;have n0_:=Aside0.mk (Kd.R_below (by (with_reducible repeat (first|apply Kd.R_alloc|apply Kd.R_drewN|apply Kd.R_drew));exact HO112.out) hb);have n1_:=Aside0.mk (Kd.N_below (by (with_reducible repeat (first|apply Kd.N_alloc|apply Kd.N_drewN|apply Kd.N_drew));exact HO117.out) hb);have n2_:=Aside0.mk (below_step (by repeat (first|(with_reducible first|exact HB.out|apply below_alloc|apply pw_below_drewN|apply below_drew1)|exact HB.out)) hb);clear HO112;clear HO117;clear HB;have HO112:=n0_;have HO117:=n1_;have HB:=n2_;clear n0_ n1_ n2_;(try clear hb);(try clear hb2);(try clear hk);(try clear hi))|((with_reducible refine gate_callee (f:=17) rfl ?_);refine goesL_ (some 13) rfl rfl Tryd.func17 (by kernel_rfl) rfl #[.string (⟨#[79,1,2,47,97,1,120,0,3,0,1,4,109,97,105,110,1,3,99,112,117,244,3,0,7]⟩ : ByteArray)] rfl (by (try simp only [List.map_toArray,List.map_cons,List.map_nil]);first|done|rfl|(simp only [List.length_drop,List.length_take];rfl)) ?_;(with_reducible refine (object_DecodeObject.calls (⟨#[79,1,2,47,97,1,120,0,3,0,1,4,109,97,105,110,1,3,99,112,117,244,3,0,7]⟩ : ByteArray) t121 t122 t123 t126 t127 t128 t131 t132 _ A3.out (Glob.below hG (by repeat (first|(with_reducible first|exact HB.out|refine below_set ?_ GE133.out|apply below_alloc|apply pw_below_drewN|apply below_drew1)|exact HB.out)))).mono ?_);rintro e w31 ⟨v124,v129,rfl,ho0,ho1,hb⟩;refine ⟨_,rfl,?_⟩;have n0_:=Aside0.mk (Kd.R_elder' (by (with_reducible repeat (first|apply Kd.R_alloc|apply Kd.R_drewN|apply Kd.R_drew));exact HO112.out) (Kd.R_base ho0) hb);have n1_:=Aside0.mk (Kd.N_mono (Kd.N_told (Kd.N_told (Kd.N_old (by (with_reducible repeat (first|apply Kd.N_alloc|apply Kd.N_drewN|apply Kd.N_drew));exact HO117.out) hb) (Kd.R_base ho0)) (Kd.N_base ho1)) (fun _ h_ => h_.1));have n2_:=Aside0.mk (Kd.R_lower (Kd.R_new' (Kd.R_mono (ok':=fun k_ => True) ho0 (fun _ hk_ => trivial)) (Kd.R_lt (by (with_reducible repeat (first|apply Kd.R_alloc|apply Kd.R_drewN|apply Kd.R_drew));exact HO112.out))) (below_size (by repeat (first|(with_reducible first|exact HB.out|apply below_alloc|apply pw_below_drewN|apply below_drew1)|exact HB.out))));have n3_:=Aside0.mk (Kd.N_lower (Kd.N_mono (ok':=fun k_ => some k_ ≠ (v124 : Value).ownBlock ∧ some k_ ≠ (.slice Ao28 t110.length co28 : Value).ownBlock ∧ some k_ ≠ (.slice Ao29 t115.length co29 : Value).ownBlock) ho1 (fun k_ hk_ => ⟨hk_.2,(Kd.fresh' (Kd.R_lt (by (with_reducible repeat (first|apply Kd.R_alloc|apply Kd.R_drewN|apply Kd.R_drew));exact HO112.out)) k_ hk_.1),(Kd.fresh' (Kd.N_lt (by (with_reducible repeat (first|apply Kd.N_alloc|apply Kd.N_drewN|apply Kd.N_drew));exact HO117.out)) k_ hk_.1)⟩)) (below_size (by repeat (first|(with_reducible first|exact HB.out|apply below_alloc|apply pw_below_drewN|apply below_drew1)|exact HB.out))));have n4_:=Aside0.mk (below_step (by repeat (first|(with_reducible first|exact HB.out|apply below_alloc|apply pw_below_drewN|apply below_drew1)|exact HB.out)) hb);clear HO112;clear HO117;clear HB;have HO112:=n0_;have HO117:=n1_;have HO125:=n2_;have HO130:=n3_;have HB:=n4_;clear n0_ n1_ n2_ n3_ n4_;(try clear hb);(try clear hb2);(try clear hk);(try clear hi);(try clear ho0);(try clear ho1))|((with_reducible refine gate_dst (N:=3) rfl ?_);refine box_event ?hg (N:=3) ?hd (cs:=#[.string (⟨#[]⟩ : ByteArray),.string (⟨#[]⟩ : ByteArray),.slice none 0 0,.int .i64 0,.int .i64 0,.slice none 0 0,.int .i64 0]) (t:=25) ?hr ?_;(case hd => rfl);(case hg => rfl);(case hr => first|(go_simp;done)|(go_simp;rfl));intro gb133 hg w32 hbox hb;have n0_:=Aside0.mk (Kd.R_below (by (with_reducible repeat (first|apply Kd.R_alloc|apply Kd.R_drewN|apply Kd.R_drew));exact HO112.out) hb);have n1_:=Aside0.mk (Kd.N_below (Kd.N_elderB (by (with_reducible repeat (first|apply Kd.N_alloc|apply Kd.N_drewN|apply Kd.N_drew));exact HO117.out) gb133 (Nat.le_of_eq hg.symm)) hb);have n2_:=Aside0.mk (Kd.R_below (by (with_reducible repeat (first|apply Kd.R_alloc|apply Kd.R_drewN|apply Kd.R_drew));exact HO125.out) hb);have n3_:=Aside0.mk (Kd.N_below (Kd.N_elderB (by (with_reducible repeat (first|apply Kd.N_alloc|apply Kd.N_drewN|apply Kd.N_drew));exact HO130.out) gb133 (Nat.le_of_eq hg.symm)) hb);have n4_:=Aside0.mk (below_step (by repeat (first|(with_reducible first|exact HB.out|apply below_alloc|apply pw_below_drewN|apply below_drew1)|exact HB.out)) hb);have n5_:=Aside0.mk (hbox);have n6_:=Aside0.mk ((by rw [hg];exact (below_size (by repeat (first|(with_reducible first|exact HB.out|apply below_alloc|apply pw_below_drewN|apply below_drew1)|exact HB.out))) : w.heap.size ≤ gb133));have n7_:=Aside0.mk ((by rw [hg];exact (below_size (by repeat (first|(with_reducible first|exact HB.out|apply below_alloc|apply pw_below_drewN|apply below_drew1)|exact HB.out))) : w.heap.size ≤ gb133));clear HO112;clear HO117;clear HO125;clear HO130;clear HB;have HO112:=n0_;have HO117:=n1_;have HO125:=n2_;have HO130:=n3_;have HB:=n4_;have BK133:=n5_;have GW133:=n6_;have GE133:=n7_;clear n0_ n1_ n2_ n3_ n4_ n5_ n6_ n7_;clear hb hbox hg;have hcz33_0 : w32.cell? ⟨gb133,0,none⟩ = some (.string (⟨#[]⟩ : ByteArray)):=(blk_cell BK133.out 0).trans rfl;have hcz33_1 : w32.cell? ⟨gb133,1,none⟩ = some (.string (⟨#[]⟩ : ByteArray)):=(blk_cell BK133.out 1).trans rfl;have hcz33_2 : w32.cell? ⟨gb133,2,none⟩ = some (.slice none 0 0):=(blk_cell BK133.out 2).trans rfl;have hcz33_3 : w32.cell? ⟨gb133,3,none⟩ = some (.int .i64 0):=(blk_cell BK133.out 3).trans rfl;have hcz33_4 : w32.cell? ⟨gb133,4,none⟩ = some (.int .i64 0):=(blk_cell BK133.out 4).trans rfl;have hcz33_5 : w32.cell? ⟨gb133,5,none⟩ = some (.slice none 0 0):=(blk_cell BK133.out 5).trans rfl;have hcz33_6 : w32.cell? ⟨gb133,6,none⟩ = some (.int .i64 0):=(blk_cell BK133.out 6).trans rfl;have hfz33_0:=blk_frozen BK133.out 0;have hfz33_1:=blk_frozen BK133.out 1;have hfz33_2:=blk_frozen BK133.out 2;have hfz33_3:=blk_frozen BK133.out 3;have hfz33_4:=blk_frozen BK133.out 4;have hfz33_5:=blk_frozen BK133.out 5;have hfz33_6:=blk_frozen BK133.out 6;obtain ⟨Ao34,co34,eo34⟩:=Kd.R_slice HO125.out;subst eo34;obtain ⟨Ao35,co35,eo35⟩:=Kd.N_slice HO130.out;subst eo35)|((with_reducible refine gate_callee (f:=11) rfl ?_);refine goesL_ (some 17) rfl rfl Tryd.func11 (by kernel_rfl) rfl #[.int .i64 3,.string (⟨#[47,97]⟩ : ByteArray),.string (⟨#[120]⟩ : ByteArray)] rfl (by (try simp only [List.map_toArray,List.map_cons,List.map_nil]);first|done|rfl|(simp only [List.length_drop,List.length_take];rfl)) ?_;(with_reducible refine (object_Key.calls 3 (⟨#[47,97]⟩ : ByteArray) (⟨#[120]⟩ : ByteArray) t134 t135 _ A4.out (Glob.below hG (by repeat (first|(with_reducible first|exact HB.out|refine below_set ?_ GE133.out|apply below_alloc|apply pw_below_drewN|apply below_drew1)|exact HB.out)))).mono ?_);rintro e w36 ⟨rfl,hb⟩;refine ⟨_,rfl,?_⟩;have n0_:=Aside0.mk (Kd.R_below (by (with_reducible repeat (first|apply Kd.R_alloc|apply Kd.R_drewN|apply Kd.R_drew));exact (Kd.R_mono (Kd.R_far (p:=⟨gb133,6,none⟩) (Kd.R_far (p:=⟨gb133,5,none⟩) (Kd.R_far (p:=⟨gb133,4,none⟩) (Kd.R_far (p:=⟨gb133,3,none⟩) (Kd.R_far (p:=⟨gb133,2,none⟩) (Kd.R_far (p:=⟨gb133,1,none⟩) (Kd.R_far (p:=⟨gb133,0,none⟩) (Kd.R_types HO112.out BK133.out (by decide)) (fun _ hk => hk.2) (.string t121)) (fun _ hk => hk.2) (.string t122)) (fun _ hk => hk.2) (.slice Ao34 t123.length co34)) (fun _ hk => hk.2) (.int .i64 t126)) (fun _ hk => hk.2) (.int .i64 t127)) (fun _ hk => hk.2) (.slice Ao35 t128.length co35)) (fun _ hk => hk.2) (.int .i64 t131)) (fun _ h_ => h_.1))) hb);have n1_:=Aside0.mk (Kd.N_below (by (with_reducible repeat (first|apply Kd.N_alloc|apply Kd.N_drewN|apply Kd.N_drew));exact (Kd.N_mono (Kd.N_far (p:=⟨gb133,6,none⟩) (Kd.N_far (p:=⟨gb133,5,none⟩) (Kd.N_far (p:=⟨gb133,4,none⟩) (Kd.N_far (p:=⟨gb133,3,none⟩) (Kd.N_far (p:=⟨gb133,2,none⟩) (Kd.N_far (p:=⟨gb133,1,none⟩) (Kd.N_far (p:=⟨gb133,0,none⟩) (Kd.N_mono HO117.out (fun k_ hk => (⟨hk,hk.2⟩ : _ ∧ k_ ≠ gb133))) (fun _ hk => hk.2) (.string t121)) (fun _ hk => hk.2) (.string t122)) (fun _ hk => hk.2) (.slice Ao34 t123.length co34)) (fun _ hk => hk.2) (.int .i64 t126)) (fun _ hk => hk.2) (.int .i64 t127)) (fun _ hk => hk.2) (.slice Ao35 t128.length co35)) (fun _ hk => hk.2) (.int .i64 t131)) (fun _ h_ => h_.1))) hb);have n2_:=Aside0.mk (Kd.R_below (by (with_reducible repeat (first|apply Kd.R_alloc|apply Kd.R_drewN|apply Kd.R_drew));exact (Kd.R_mono (Kd.R_far (p:=⟨gb133,6,none⟩) (Kd.R_far (p:=⟨gb133,5,none⟩) (Kd.R_far (p:=⟨gb133,4,none⟩) (Kd.R_far (p:=⟨gb133,3,none⟩) (Kd.R_far (p:=⟨gb133,2,none⟩) (Kd.R_far (p:=⟨gb133,1,none⟩) (Kd.R_far (p:=⟨gb133,0,none⟩) (Kd.R_types HO125.out BK133.out (by decide)) (fun _ hk => hk.2) (.string t121)) (fun _ hk => hk.2) (.string t122)) (fun _ hk => hk.2) (.slice Ao34 t123.length co34)) (fun _ hk => hk.2) (.int .i64 t126)) (fun _ hk => hk.2) (.int .i64 t127)) (fun _ hk => hk.2) (.slice Ao35 t128.length co35)) (fun _ hk => hk.2) (.int .i64 t131)) (fun _ h_ => h_.1))) hb);have n3_:=Aside0.mk (Kd.N_below (by (with_reducible repeat (first|apply Kd.N_alloc|apply Kd.N_drewN|apply Kd.N_drew));exact (Kd.N_mono (Kd.N_far (p:=⟨gb133,6,none⟩) (Kd.N_far (p:=⟨gb133,5,none⟩) (Kd.N_far (p:=⟨gb133,4,none⟩) (Kd.N_far (p:=⟨gb133,3,none⟩) (Kd.N_far (p:=⟨gb133,2,none⟩) (Kd.N_far (p:=⟨gb133,1,none⟩) (Kd.N_far (p:=⟨gb133,0,none⟩) (Kd.N_mono HO130.out (fun k_ hk => (⟨hk,hk.2⟩ : _ ∧ k_ ≠ gb133))) (fun _ hk => hk.2) (.string t121)) (fun _ hk => hk.2) (.string t122)) (fun _ hk => hk.2) (.slice Ao34 t123.length co34)) (fun _ hk => hk.2) (.int .i64 t126)) (fun _ hk => hk.2) (.int .i64 t127)) (fun _ hk => hk.2) (.slice Ao35 t128.length co35)) (fun _ hk => hk.2) (.int .i64 t131)) (fun _ h_ => h_.1))) hb);have n4_:=Aside0.mk (blk_below (g:=gb133) (o:=.cells #[.string t121,.string t122,.slice Ao34 t123.length co34,.int .i64 t126,.int .i64 t127,.slice Ao35 t128.length co35,.int .i64 t131] 25 (0,0)) (by (with_reducible repeat (first|refine blk_drewN ?_ _|refine blk_drew ?_|refine blk_alloc ?_ _));refine blk_put (cs:=#[.string t121,.string t122,.slice Ao34 t123.length co34,.int .i64 t126,.int .i64 t127,.slice Ao35 t128.length co35,.int .i64 0]) ?_ 6 _ rfl;(with_reducible repeat (first|refine blk_drewN ?_ _|refine blk_drew ?_|refine blk_alloc ?_ _));refine blk_put (cs:=#[.string t121,.string t122,.slice Ao34 t123.length co34,.int .i64 t126,.int .i64 t127,.slice none 0 0,.int .i64 0]) ?_ 5 _ rfl;(with_reducible repeat (first|refine blk_drewN ?_ _|refine blk_drew ?_|refine blk_alloc ?_ _));refine blk_put (cs:=#[.string t121,.string t122,.slice Ao34 t123.length co34,.int .i64 t126,.int .i64 0,.slice none 0 0,.int .i64 0]) ?_ 4 _ rfl;(with_reducible repeat (first|refine blk_drewN ?_ _|refine blk_drew ?_|refine blk_alloc ?_ _));refine blk_put (cs:=#[.string t121,.string t122,.slice Ao34 t123.length co34,.int .i64 0,.int .i64 0,.slice none 0 0,.int .i64 0]) ?_ 3 _ rfl;(with_reducible repeat (first|refine blk_drewN ?_ _|refine blk_drew ?_|refine blk_alloc ?_ _));refine blk_put (cs:=#[.string t121,.string t122,.slice none 0 0,.int .i64 0,.int .i64 0,.slice none 0 0,.int .i64 0]) ?_ 2 _ rfl;(with_reducible repeat (first|refine blk_drewN ?_ _|refine blk_drew ?_|refine blk_alloc ?_ _));refine blk_put (cs:=#[.string t121,.string (⟨#[]⟩ : ByteArray),.slice none 0 0,.int .i64 0,.int .i64 0,.slice none 0 0,.int .i64 0]) ?_ 1 _ rfl;(with_reducible repeat (first|refine blk_drewN ?_ _|refine blk_drew ?_|refine blk_alloc ?_ _));refine blk_put (cs:=#[.string (⟨#[]⟩ : ByteArray),.string (⟨#[]⟩ : ByteArray),.slice none 0 0,.int .i64 0,.int .i64 0,.slice none 0 0,.int .i64 0]) ?_ 0 _ rfl;(with_reducible repeat (first|refine blk_drewN ?_ _|refine blk_drew ?_|refine blk_alloc ?_ _));exact BK133.out) hb);have n5_:=Aside0.mk (below_step (by repeat (first|(with_reducible first|exact HB.out|apply below_alloc|apply pw_below_drewN|apply below_drew1|refine below_set ?_ GE133.out)|exact HB.out)) hb);clear HO112;clear HO117;clear HO125;clear HO130;clear BK133;clear HB;have HO112:=n0_;have HO117:=n1_;have HO125:=n2_;have HO130:=n3_;have BK133:=n4_;have HB:=n5_;clear n0_ n1_ n2_ n3_ n4_ n5_;(try clear hb);(try clear hb2);(try clear hk);(try clear hi)))
  have n0_:=Aside0.mk (Kd.R_drew HO112.out)
  have n1_:=Aside0.mk (Kd.N_drew HO117.out)
  have n2_:=Aside0.mk (Kd.R_drew HO125.out)
  have n3_:=Aside0.mk (Kd.N_drew HO130.out)
  have n4_:=Aside0.mk (blk_drew BK133.out)
  have n5_:=Aside0.mk (below_drew1 HB.out)
  clear HO112;clear HO117;clear HO125;clear HO130;clear BK133;clear HB;have HO112:=n0_;have HO117:=n1_;have HO125:=n2_;have HO130:=n3_;have BK133:=n4_;have HB:=n5_;clear n0_ n1_ n2_ n3_ n4_ n5_
  refine start_ (n:=24) (S:=fun w' => w'.cell? ⟨gb133,0,none⟩ = some (.string t121) ∧ w'.cell? ⟨gb133,1,none⟩ = some (.string t122) ∧ w'.cell? ⟨gb133,2,none⟩ = some (.slice Ao34 t123.length co34) ∧ w'.cell? ⟨gb133,3,none⟩ = some (.int .i64 t126) ∧ w'.cell? ⟨gb133,4,none⟩ = some (.int .i64 t127) ∧ w'.cell? ⟨gb133,5,none⟩ = some (.slice Ao35 t128.length co35) ∧ w'.cell? ⟨gb133,6,none⟩ = some (.int .i64 t131)) (ds:=[]) (bl 0 24) (by kernel_rfl) rfl rfl ⟨(blk_cell BK133.out 0).trans rfl,(blk_cell BK133.out 1).trans rfl,(blk_cell BK133.out 2).trans rfl,(blk_cell BK133.out 3).trans rfl,(blk_cell BK133.out 4).trans rfl,(blk_cell BK133.out 5).trans rfl,(blk_cell BK133.out 6).trans rfl⟩ (fun hHeld => ?_);refine with_tabW bursarlaw13_fixed.tab4 bursarlaw13_fixed.bits4 (fun HT_ HW_ => ?_)
  generalize w36.drew = w37 at HO112 HO117 HO125 HO130 BK133 HB hHeld ⊢
  refine pure_ (i:=0) (N:=some 20) (v:=?_) (a':=?_) (bl 1 23) rfl rfl (any_of HT_.out (by kernel_rfl)) (fun _ _ _ h => h) (Or.inl ⟨by rfl,?_⟩) ?_ ?_
  rotate_left;·intro w';go_simp;with_reducible rfl
  rotate_left;·simp only [pu_];rfl
  refine pure_ (i:=1) (N:=some 21) (v:=?_) (a':=?_) (bl 2 22) rfl rfl (any_of HT_.out (by kernel_rfl)) (fun _ _ _ h => h) (Or.inl ⟨by rfl,?_⟩) ?_ ?_
  rotate_left;·intro w';go_simp;with_reducible rfl
  rotate_left;·simp only [pu_];rfl
  refine pure_ (i:=2) (N:=some 22) (v:=?_) (a':=?_) (bl 3 21) rfl rfl (any_of HT_.out (by kernel_rfl)) (fun _ _ _ h => h) (Or.inl ⟨by rfl,?_⟩) ?_ ?_
  rotate_left;·intro w';go_simp;with_reducible rfl
  rotate_left;·simp only [pu_];rfl
  refine pure_ (i:=3) (N:=some 23) (v:=?_) (a':=?_) (bl 4 20) rfl rfl (any_of HT_.out (by kernel_rfl)) (fun _ _ _ h => h) (Or.inl ⟨by rfl,?_⟩) ?_ ?_
  rotate_left;·intro w';go_simp;with_reducible rfl
  rotate_left;·simp only [pu_];rfl
  refine pure_ (i:=4) (N:=some 24) (v:=?_) (a':=?_) (bl 5 19) rfl rfl (any_of HT_.out (by kernel_rfl)) (fun _ _ _ h => h) (Or.inl ⟨by rfl,?_⟩) ?_ ?_
  rotate_left;·intro w';go_simp;with_reducible rfl
  rotate_left;·simp only [pu_];rfl
  refine pure_ (i:=5) (N:=some 25) (v:=?_) (a':=?_) (bl 6 18) rfl rfl (any_of HT_.out (by kernel_rfl)) (fun _ _ _ h => h) (Or.inl ⟨by rfl,?_⟩) ?_ ?_
  rotate_left;·intro w';go_simp;with_reducible rfl
  rotate_left;·simp only [pu_];rfl
  refine pure_ (i:=6) (N:=some 26) (v:=?_) (a':=?_) (bl 7 17) rfl rfl (any_of HT_.out (by kernel_rfl)) (fun _ _ _ h => h) (Or.inl ⟨by rfl,?_⟩) ?_ ?_
  rotate_left;·intro w';go_simp;with_reducible rfl
  rotate_left;·simp only [pu_];rfl
  refine pure_ (i:=7) (N:=some 27) (v:=?_) (a':=?_) (bl 8 16) rfl rfl (any_of HT_.out (by kernel_rfl)) (fun _ _ _ h => h) (Or.inl ⟨by rfl,?_⟩) ?_ ?_
  rotate_left;·intro w';go_simp;with_reducible rfl
  rotate_left;·simp only [pu_];rfl
  refine pure_ (i:=8) (N:=some 28) (v:=?_) (a':=?_) (bl 9 15) rfl rfl (any_of HT_.out (by kernel_rfl)) (fun _ _ _ h => h) (Or.inl ⟨by rfl,?_⟩) ?_ ?_
  rotate_left;·intro w';go_simp;with_reducible rfl
  rotate_left;·simp only [pu_];rfl
  refine pure_ (i:=9) (N:=some 29) (v:=?_) (a':=?_) (bl 10 14) rfl rfl (any_of HT_.out (by kernel_rfl)) (fun _ _ _ h => h) (Or.inl ⟨by rfl,?_⟩) ?_ ?_
  rotate_left;·intro w';go_simp;with_reducible rfl
  rotate_left;·simp only [pu_];rfl
  refine pure_ (i:=10) (N:=some 30) (v:=?_) (a':=?_) (bl 11 13) rfl rfl (any_of HT_.out (by kernel_rfl)) (fun _ _ _ h => h) (Or.inl ⟨by rfl,?_⟩) ?_ ?_
  rotate_left;·intro w';go_simp;with_reducible rfl
  rotate_left;·simp only [pu_];rfl
  refine take_ (i:=11) (N:=some 31) (v:=?_) (a':=?_) (bl 12 12) rfl rfl (take_ofW HT_.out HW_.out (by kernel_rfl)) (fun _ _ _ h => h) (Or.inl ⟨by rfl,?_⟩) hHeld ?_ ?_
  rotate_left
  ·rintro w' ⟨s0,s1,s2,s3,s4,s5,s6⟩
   go_simp
   with_reducible rfl
  rotate_left
  ·simp only [pu_]
   rfl
  refine one_ (i:=12) (N:=some 32) (bl 13 11) rfl rfl (one_of HT_.out (by kernel_rfl)) (by decide) (fun K hK => ?_)
  refine goes_ Tryd.func16 (by kernel_rfl) rfl #[] (by rfl) rfl rfl (by (try simp only [List.map_toArray,List.map_cons,List.map_nil]);first|done|rfl|(simp only [List.length_drop,List.length_take];rfl)) ?_
  with_reducible refine (bursarlaw13_small.calls  t136 t137 t138 t141 t142 t143 t146 _ A8.out).mono ?_
  rintro e w38 ⟨v139,v144,rfl,ho0,ho1,hb⟩
  refine ⟨_,rfl,?_⟩
  have n0_:=Aside0.mk (Kd.R_elder' (by (with_reducible repeat (first|apply Kd.R_alloc|apply Kd.R_drewN|apply Kd.R_drew));exact HO112.out) (Kd.R_base ho0) hb)
  have n1_:=Aside0.mk (Kd.N_mono (Kd.N_told (Kd.N_told (Kd.N_old (by (with_reducible repeat (first|apply Kd.N_alloc|apply Kd.N_drewN|apply Kd.N_drew));exact HO117.out) hb) (Kd.R_base ho0)) (Kd.N_base ho1)) (fun _ h_ => h_.1))
  have n2_:=Aside0.mk (Kd.R_elder' (by (with_reducible repeat (first|apply Kd.R_alloc|apply Kd.R_drewN|apply Kd.R_drew));exact HO125.out) (Kd.R_base ho0) hb)
  have n3_:=Aside0.mk (Kd.N_mono (Kd.N_told (Kd.N_told (Kd.N_old (by (with_reducible repeat (first|apply Kd.N_alloc|apply Kd.N_drewN|apply Kd.N_drew));exact HO130.out) hb) (Kd.R_base ho0)) (Kd.N_base ho1)) (fun _ h_ => h_.1))
  have n4_:=Aside0.mk (Kd.R_lower (Kd.R_new' (Kd.R_new' (Kd.R_mono (ok':=fun k_ => True) ho0 (fun _ hk_ => trivial)) (Kd.R_lt (by (with_reducible repeat (first|apply Kd.R_alloc|apply Kd.R_drewN|apply Kd.R_drew));exact HO112.out))) (Kd.R_lt (by (with_reducible repeat (first|apply Kd.R_alloc|apply Kd.R_drewN|apply Kd.R_drew));exact HO125.out))) (below_size (by repeat (first|(with_reducible first|exact HB.out|apply below_alloc|apply pw_below_drewN|apply below_drew1|refine below_set ?_ GE133.out)|exact HB.out))))
  have n5_:=Aside0.mk (Kd.N_lower (Kd.N_mono (ok':=fun k_ => some k_ ≠ (v139 : Value).ownBlock ∧ some k_ ≠ (.slice Ao28 t110.length co28 : Value).ownBlock ∧ some k_ ≠ (.slice Ao29 t115.length co29 : Value).ownBlock ∧ some k_ ≠ (.slice Ao34 t123.length co34 : Value).ownBlock ∧ some k_ ≠ (.slice Ao35 t128.length co35 : Value).ownBlock ∧ k_ ≠ gb133) ho1 (fun k_ hk_ => ⟨hk_.2,(Kd.fresh' (Kd.R_lt (by (with_reducible repeat (first|apply Kd.R_alloc|apply Kd.R_drewN|apply Kd.R_drew));exact HO112.out)) k_ hk_.1),(Kd.fresh' (Kd.N_lt (by (with_reducible repeat (first|apply Kd.N_alloc|apply Kd.N_drewN|apply Kd.N_drew));exact HO117.out)) k_ hk_.1),(Kd.fresh' (Kd.R_lt (by (with_reducible repeat (first|apply Kd.R_alloc|apply Kd.R_drewN|apply Kd.R_drew));exact HO125.out)) k_ hk_.1),(Kd.fresh' (Kd.N_lt (by (with_reducible repeat (first|apply Kd.N_alloc|apply Kd.N_drewN|apply Kd.N_drew));exact HO130.out)) k_ hk_.1),(Kd.freshB (g:=gb133) (o:=.cells #[.string t121,.string t122,.slice Ao34 t123.length co34,.int .i64 t126,.int .i64 t127,.slice Ao35 t128.length co35,.int .i64 t131] 25 (0,0)) (by (with_reducible repeat (first|refine blk_drewN ?_ _|refine blk_drew ?_|refine blk_alloc ?_ _));exact BK133.out) k_ hk_.1)⟩)) (below_size (by repeat (first|(with_reducible first|exact HB.out|apply below_alloc|apply pw_below_drewN|apply below_drew1|refine below_set ?_ GE133.out)|exact HB.out))))
  have n6_:=Aside0.mk (blk_below (g:=gb133) (o:=.cells #[.string t121,.string t122,.slice Ao34 t123.length co34,.int .i64 t126,.int .i64 t127,.slice Ao35 t128.length co35,.int .i64 t131] 25 (0,0)) (by (with_reducible repeat (first|refine blk_drewN ?_ _|refine blk_drew ?_|refine blk_alloc ?_ _));exact BK133.out) hb)
  have n7_:=Aside0.mk (below_step (by repeat (first|(with_reducible first|exact HB.out|apply below_alloc|apply pw_below_drewN|apply below_drew1|refine below_set ?_ GE133.out)|exact HB.out)) hb)
  clear HO112;clear HO117;clear HO125;clear HO130;clear BK133;clear HB;have HO112:=n0_;have HO117:=n1_;have HO125:=n2_;have HO130:=n3_;have HO140:=n4_;have HO145:=n5_;have BK133:=n6_;have HB:=n7_;clear n0_ n1_ n2_ n3_ n4_ n5_ n6_ n7_;(try clear hb);(try clear hb2);(try clear hk);(try clear hi);(try clear ho0);(try clear ho1)
  obtain ⟨Ao39,co39,eo39⟩:=Kd.R_slice HO140.out
  (first|subst eo39|(injection eo39 with f1_ f2_ f3_;have f4_:=f1_.symm;have f5_:=f3_.symm;clear f1_ f2_ f3_;subst f4_;subst f5_))
  obtain ⟨Ao40,co40,eo40⟩:=Kd.N_slice HO145.out
  (first|subst eo40|(injection eo40 with f1_ f2_ f3_;have f4_:=f1_.symm;have f5_:=f3_.symm;clear f1_ f2_ f3_;subst f4_;subst f5_))
  refine hK.out _ _ ⟨(blk_cell BK133.out 0).trans rfl,(blk_cell BK133.out 1).trans rfl,(blk_cell BK133.out 2).trans rfl,(blk_cell BK133.out 3).trans rfl,(blk_cell BK133.out 4).trans rfl,(blk_cell BK133.out 5).trans rfl,(blk_cell BK133.out 6).trans rfl⟩ (fun hHeld => ?_)
  clear hK K
  refine norm_ (a':=?_) ?_ ?_
  rotate_left
  ·show Act.put _ (some 32) _ = _
   simp only [pu_]
   rfl
  refine one_ (i:=13) (N:=some 33) (bl 14 10) rfl rfl (one_of HT_.out (by kernel_rfl)) (by decide) (fun K hK => ?_)
  refine goes_ Tryd.func18 (by kernel_rfl) rfl #[.agg #[.string t121,.string t122,.slice Ao34 t123.length co34,.int .i64 t126,.int .i64 t127,.slice Ao35 t128.length co35,.int .i64 t131],.agg #[.string t136,.string t137,.slice Ao39 t138.length co39,.int .i64 t141,.int .i64 t142,.slice Ao40 t143.length co40,.int .i64 t146]] (by rfl) rfl rfl (by (try simp only [List.map_toArray,List.map_cons,List.map_nil]);first|done|rfl|(simp only [List.length_drop,List.length_take];rfl)) ?_
  with_reducible refine (bursarlaw13_sameObject.calls t121 t122 _ _ t123 t126 t127 _ _ t128 t131 t136 t137 _ _ t138 t141 t142 _ _ t143 t146 true _ ?side1 ?side2 ?side3 ?side4 ?side5 ?side6 ?side7 ?side8 A9.out).mono ?_
  (case side1 => repeat (first|exact (Kd.R_reads' HO125.out).2.2|(with_reducible refine Kd.C_alloc ?_ _)|(with_reducible refine Kd.C_drewN ?_ _)|(with_reducible refine Kd.C_drew ?_)))
  (case side2 => exact (Kd.R_reads' HO125.out).2.1)
  (case side3 => repeat (first|exact (Kd.N_reads' HO130.out).2.2|(with_reducible refine Kd.C_alloc ?_ _)|(with_reducible refine Kd.C_drewN ?_ _)|(with_reducible refine Kd.C_drew ?_)))
  (case side4 => exact (Kd.N_reads' HO130.out).2.1)
  (case side5 => repeat (first|exact (Kd.R_reads' HO140.out).2.2|(with_reducible refine Kd.C_alloc ?_ _)|(with_reducible refine Kd.C_drewN ?_ _)|(with_reducible refine Kd.C_drew ?_)))
  (case side6 => exact (Kd.R_reads' HO140.out).2.1)
  (case side7 => repeat (first|exact (Kd.N_reads' HO145.out).2.2|(with_reducible refine Kd.C_alloc ?_ _)|(with_reducible refine Kd.C_drewN ?_ _)|(with_reducible refine Kd.C_drew ?_)))
  (case side8 => exact (Kd.N_reads' HO145.out).2.1)
  rintro e w41 ⟨rfl,hb⟩
  refine ⟨_,rfl,?_⟩
  have n0_:=Aside0.mk (Kd.R_below (by (with_reducible repeat (first|apply Kd.R_alloc|apply Kd.R_drewN|apply Kd.R_drew));exact HO112.out) hb)
  have n1_:=Aside0.mk (Kd.N_below (by (with_reducible repeat (first|apply Kd.N_alloc|apply Kd.N_drewN|apply Kd.N_drew));exact HO117.out) hb)
  have n2_:=Aside0.mk (Kd.R_below (by (with_reducible repeat (first|apply Kd.R_alloc|apply Kd.R_drewN|apply Kd.R_drew));exact HO125.out) hb)
  have n3_:=Aside0.mk (Kd.N_below (by (with_reducible repeat (first|apply Kd.N_alloc|apply Kd.N_drewN|apply Kd.N_drew));exact HO130.out) hb)
  have n4_:=Aside0.mk (Kd.R_below (by (with_reducible repeat (first|apply Kd.R_alloc|apply Kd.R_drewN|apply Kd.R_drew));exact HO140.out) hb)
  have n5_:=Aside0.mk (Kd.N_below (by (with_reducible repeat (first|apply Kd.N_alloc|apply Kd.N_drewN|apply Kd.N_drew));exact HO145.out) hb)
  have n6_:=Aside0.mk (blk_below (g:=gb133) (o:=.cells #[.string t121,.string t122,.slice Ao34 t123.length co34,.int .i64 t126,.int .i64 t127,.slice Ao35 t128.length co35,.int .i64 t131] 25 (0,0)) (by (with_reducible repeat (first|refine blk_drewN ?_ _|refine blk_drew ?_|refine blk_alloc ?_ _));exact BK133.out) hb)
  have n7_:=Aside0.mk (below_step (by repeat (first|(with_reducible first|exact HB.out|apply below_alloc|apply pw_below_drewN|apply below_drew1|refine below_set ?_ GE133.out)|exact HB.out)) hb)
  clear HO112;clear HO117;clear HO125;clear HO130;clear HO140;clear HO145;clear BK133;clear HB;have HO112:=n0_;have HO117:=n1_;have HO125:=n2_;have HO130:=n3_;have HO140:=n4_;have HO145:=n5_;have BK133:=n6_;have HB:=n7_;clear n0_ n1_ n2_ n3_ n4_ n5_ n6_ n7_;(try clear hb);(try clear hb2);(try clear hk);(try clear hi)
  refine hK.out _ _ ⟨(blk_cell BK133.out 0).trans rfl,(blk_cell BK133.out 1).trans rfl,(blk_cell BK133.out 2).trans rfl,(blk_cell BK133.out 3).trans rfl,(blk_cell BK133.out 4).trans rfl,(blk_cell BK133.out 5).trans rfl,(blk_cell BK133.out 6).trans rfl⟩ (fun hHeld => ?_)
  clear hK K
  refine norm_ (a':=?_) ?_ ?_
  rotate_left
  ·show Act.put _ (some 33) _ = _
   simp only [pu_]
   rfl
  refine pure_ (i:=14) (N:=some 34) (v:=?_) (a':=?_) (bl 15 9) rfl rfl (any_of HT_.out (by kernel_rfl)) (fun _ _ _ h => h) (Or.inl ⟨by rfl,?_⟩) ?_ ?_
  rotate_left;·intro w';go_simp;with_reducible rfl
  rotate_left;·simp only [pu_];rfl
  refine pure_ (i:=15) (N:=some 35) (v:=?_) (a':=?_) (bl 16 8) rfl rfl (any_of HT_.out (by kernel_rfl)) (fun _ _ _ h => h) (Or.inl ⟨by rfl,?_⟩) ?_ ?_
  rotate_left;·intro w';go_simp;with_reducible rfl
  rotate_left;·simp only [pu_];rfl
  refine pure_ (i:=16) (N:=some 36) (v:=?_) (a':=?_) (bl 17 7) rfl rfl (any_of HT_.out (by kernel_rfl)) (fun _ _ _ h => h) (Or.inl ⟨by rfl,?_⟩) ?_ ?_
  rotate_left;·intro w';go_simp;with_reducible rfl
  rotate_left;·simp only [pu_];rfl
  refine pure_ (i:=17) (N:=some 37) (v:=?_) (a':=?_) (bl 18 6) rfl rfl (any_of HT_.out (by kernel_rfl)) (fun _ _ _ h => h) (Or.inl ⟨by rfl,?_⟩) ?_ ?_
  rotate_left;·intro w';go_simp;with_reducible rfl
  rotate_left;·simp only [pu_];rfl
  refine pure_ (i:=18) (N:=some 38) (v:=?_) (a':=?_) (bl 19 5) rfl rfl (any_of HT_.out (by kernel_rfl)) (fun _ _ _ h => h) (Or.inl ⟨by rfl,?_⟩) ?_ ?_
  rotate_left;·intro w';go_simp;with_reducible rfl
  rotate_left;·simp only [pu_];rfl
  refine pure_ (i:=19) (N:=some 39) (v:=?_) (a':=?_) (bl 20 4) rfl rfl (any_of HT_.out (by kernel_rfl)) (fun _ _ _ h => h) (Or.inl ⟨by rfl,?_⟩) ?_ ?_
  rotate_left;·intro w';go_simp;with_reducible rfl
  rotate_left;·simp only [pu_];rfl
  refine pure_ (i:=20) (N:=some 40) (v:=undef) (a':=?_) (bl 21 3) rfl rfl (any_of HT_.out (by kernel_rfl)) (fun _ _ _ h => h) (Or.inr ⟨by rfl,rfl⟩) ?_ ?_
  rotate_left
  ·simp only [pu_]
   rfl
  refine pure_ (i:=21) (N:=some 41) (v:=undef) (a':=?_) (bl 22 2) rfl rfl (any_of HT_.out (by kernel_rfl)) (fun _ _ _ h => h) (Or.inr ⟨by rfl,rfl⟩) ?_ ?_
  rotate_left
  ·simp only [pu_]
   rfl
  refine pure_ (i:=22) (N:=some 42) (v:=?_) (a':=?_) (bl 23 1) rfl rfl (any_of HT_.out (by kernel_rfl)) (fun _ _ _ h => h) (Or.inl ⟨by rfl,?_⟩) ?_ ?_
  rotate_left;·intro w';go_simp;with_reducible rfl
  rotate_left;·simp only [pu_];rfl
  refine pure_ (i:=23) (N:=some 0) (v:=?_) (a':=?_) (bl 24 0) rfl rfl (any_of HT_.out (by kernel_rfl)) (fun _ _ _ h => h) (Or.inl ⟨by rfl,?_⟩) ?_ ?_
  rotate_left;·intro w';go_simp;with_reducible rfl
  rotate_left;·simp only [pu_];rfl
  refine done_ (done_of HT_.out (by kernel_rfl)) ?_
  try go_wp2
  go_ret
  exact ⟨by first|rfl|(simp [errW_none,errW_some] <;> rfl)|(simp [*,errW_none,errW_some] <;> rfl),by repeat (first|(with_reducible first|exact HB.out|apply below_alloc|apply pw_below_drewN|apply below_drew1|refine below_set ?_ GE133.out)|exact HB.out)⟩
 rw [if_pos c11] at H
 have c11b0 : (t135 == 0) = true:=beq_iff_eq.mpr c11
 have c11b1 : (t135 != 0) = false:=bne_eq_false_iff_eq.mpr c11
 clear c11
 obtain rfl:=Option.some.inj H
 go_enter Tryd.func6,Tryd.ntmps6
 try go_wp2_with (first|((with_reducible refine gate_callee (f:=16) rfl ?_);refine goesL_ (some 8) rfl rfl Tryd.func16 (by kernel_rfl) rfl #[] rfl (by (try simp only [List.map_toArray,List.map_cons,List.map_nil]);first|done|rfl|(simp only [List.length_drop,List.length_take];rfl)) ?_;(with_reducible refine (bursarlaw13_small.calls  t108 t109 t110 t113 t114 t115 t118 _ A1.out).mono ?_);rintro e w12 ⟨v111,v116,rfl,ho0,ho1,hb⟩;refine ⟨_,rfl,?_⟩;have n0_:=Aside0.mk (Kd.R_lower (Kd.R_mono (ok':=fun k_ => True) ho0 (fun _ hk_ => trivial)) (below_size (by repeat (first|(with_reducible first|exact HB.out|apply below_alloc|apply pw_below_drewN|apply below_drew1)|exact HB.out))));have n1_:=Aside0.mk (Kd.N_lower (Kd.N_mono (ok':=fun k_ => some k_ ≠ (v111 : Value).ownBlock) ho1 (fun k_ hk_ => hk_.2)) (below_size (by repeat (first|(with_reducible first|exact HB.out|apply below_alloc|apply pw_below_drewN|apply below_drew1)|exact HB.out))));have n2_:=Aside0.mk (below_step (by repeat (first|(with_reducible first|exact HB.out|apply below_alloc|apply pw_below_drewN|apply below_drew1)|exact HB.out)) hb);clear HB;have HO112:=n0_;have HO117:=n1_;have HB:=n2_;clear n0_ n1_ n2_;(try clear hb);(try clear hb2);(try clear hk);(try clear hi);(try clear ho0);(try clear ho1);obtain ⟨Ao13,co13,eo13⟩:=Kd.R_slice HO112.out;subst eo13;obtain ⟨Ao14,co14,eo14⟩:=Kd.N_slice HO117.out;subst eo14)|((with_reducible refine gate_callee (f:=9) rfl ?_);refine goesL_ (some 9) rfl rfl Tryd.func9 (by kernel_rfl) rfl #[.agg #[.string t108,.string t109,.slice Ao13 t110.length co13,.int .i64 t113,.int .i64 t114,.slice Ao14 t115.length co14,.int .i64 t118]] rfl (by (try simp only [List.map_toArray,List.map_cons,List.map_nil]);first|done|rfl|(simp only [List.length_drop,List.length_take];rfl)) ?_;(with_reducible refine (object_EncodeObject.calls t108 t109 _ _ t110 t113 t114 _ _ t115 t118 t119 t120 _ ?side1 ?side2 ?side3 ?side4 A2.out (Glob.below hG (by repeat (first|(with_reducible first|exact HB.out|refine below_set ?_ GE133.out|apply below_alloc|apply pw_below_drewN|apply below_drew1)|exact HB.out)))).mono ?_);(case side1 => repeat (first|exact (Kd.R_reads' HO112.out).2.2|(with_reducible refine Kd.C_alloc ?_ _)|(with_reducible refine Kd.C_drewN ?_ _)|(with_reducible refine Kd.C_drew ?_)));(case side2 => exact (Kd.R_reads' HO112.out).2.1);(case side3 => repeat (first|exact (Kd.N_reads' HO117.out).2.2|(with_reducible refine Kd.C_alloc ?_ _)|(with_reducible refine Kd.C_drewN ?_ _)|(with_reducible refine Kd.C_drew ?_)));(case side4 => exact (Kd.N_reads' HO117.out).2.1);rintro e w15 ⟨rfl,hb⟩;refine ⟨_,rfl,?_⟩;have n0_:=Aside0.mk (Kd.R_below (by (with_reducible repeat (first|apply Kd.R_alloc|apply Kd.R_drewN|apply Kd.R_drew));exact HO112.out) hb);have n1_:=Aside0.mk (Kd.N_below (by (with_reducible repeat (first|apply Kd.N_alloc|apply Kd.N_drewN|apply Kd.N_drew));exact HO117.out) hb);have n2_:=Aside0.mk (below_step (by repeat (first|(with_reducible first|exact HB.out|apply below_alloc|apply pw_below_drewN|apply below_drew1)|exact HB.out)) hb);clear HO112;clear HO117;clear HB;have HO112:=n0_;have HO117:=n1_;have HB:=n2_;clear n0_ n1_ n2_;(try clear hb);(try clear hb2);(try clear hk);(try clear hi))|((with_reducible refine gate_callee (f:=17) rfl ?_);refine goesL_ (some 13) rfl rfl Tryd.func17 (by kernel_rfl) rfl #[.string (⟨#[79,1,2,47,97,1,120,0,3,0,1,4,109,97,105,110,1,3,99,112,117,244,3,0,7]⟩ : ByteArray)] rfl (by (try simp only [List.map_toArray,List.map_cons,List.map_nil]);first|done|rfl|(simp only [List.length_drop,List.length_take];rfl)) ?_;(with_reducible refine (object_DecodeObject.calls (⟨#[79,1,2,47,97,1,120,0,3,0,1,4,109,97,105,110,1,3,99,112,117,244,3,0,7]⟩ : ByteArray) t121 t122 t123 t126 t127 t128 t131 t132 _ A3.out (Glob.below hG (by repeat (first|(with_reducible first|exact HB.out|refine below_set ?_ GE133.out|apply below_alloc|apply pw_below_drewN|apply below_drew1)|exact HB.out)))).mono ?_);rintro e w16 ⟨v124,v129,rfl,ho0,ho1,hb⟩;refine ⟨_,rfl,?_⟩;have n0_:=Aside0.mk (Kd.R_elder' (by (with_reducible repeat (first|apply Kd.R_alloc|apply Kd.R_drewN|apply Kd.R_drew));exact HO112.out) (Kd.R_base ho0) hb);have n1_:=Aside0.mk (Kd.N_mono (Kd.N_told (Kd.N_told (Kd.N_old (by (with_reducible repeat (first|apply Kd.N_alloc|apply Kd.N_drewN|apply Kd.N_drew));exact HO117.out) hb) (Kd.R_base ho0)) (Kd.N_base ho1)) (fun _ h_ => h_.1));have n2_:=Aside0.mk (Kd.R_lower (Kd.R_new' (Kd.R_mono (ok':=fun k_ => True) ho0 (fun _ hk_ => trivial)) (Kd.R_lt (by (with_reducible repeat (first|apply Kd.R_alloc|apply Kd.R_drewN|apply Kd.R_drew));exact HO112.out))) (below_size (by repeat (first|(with_reducible first|exact HB.out|apply below_alloc|apply pw_below_drewN|apply below_drew1)|exact HB.out))));have n3_:=Aside0.mk (Kd.N_lower (Kd.N_mono (ok':=fun k_ => some k_ ≠ (v124 : Value).ownBlock ∧ some k_ ≠ (.slice Ao13 t110.length co13 : Value).ownBlock ∧ some k_ ≠ (.slice Ao14 t115.length co14 : Value).ownBlock) ho1 (fun k_ hk_ => ⟨hk_.2,(Kd.fresh' (Kd.R_lt (by (with_reducible repeat (first|apply Kd.R_alloc|apply Kd.R_drewN|apply Kd.R_drew));exact HO112.out)) k_ hk_.1),(Kd.fresh' (Kd.N_lt (by (with_reducible repeat (first|apply Kd.N_alloc|apply Kd.N_drewN|apply Kd.N_drew));exact HO117.out)) k_ hk_.1)⟩)) (below_size (by repeat (first|(with_reducible first|exact HB.out|apply below_alloc|apply pw_below_drewN|apply below_drew1)|exact HB.out))));have n4_:=Aside0.mk (below_step (by repeat (first|(with_reducible first|exact HB.out|apply below_alloc|apply pw_below_drewN|apply below_drew1)|exact HB.out)) hb);clear HO112;clear HO117;clear HB;have HO112:=n0_;have HO117:=n1_;have HO125:=n2_;have HO130:=n3_;have HB:=n4_;clear n0_ n1_ n2_ n3_ n4_;(try clear hb);(try clear hb2);(try clear hk);(try clear hi);(try clear ho0);(try clear ho1))|((with_reducible refine gate_dst (N:=3) rfl ?_);refine box_event ?hg (N:=3) ?hd (cs:=#[.string (⟨#[]⟩ : ByteArray),.string (⟨#[]⟩ : ByteArray),.slice none 0 0,.int .i64 0,.int .i64 0,.slice none 0 0,.int .i64 0]) (t:=25) ?hr ?_;(case hd => rfl);(case hg => rfl);(case hr => first|(go_simp;done)|(go_simp;rfl));intro gb133 hg w17 hbox hb;have n0_:=Aside0.mk (Kd.R_below (by (with_reducible repeat (first|apply Kd.R_alloc|apply Kd.R_drewN|apply Kd.R_drew));exact HO112.out) hb);have n1_:=Aside0.mk (Kd.N_below (Kd.N_elderB (by (with_reducible repeat (first|apply Kd.N_alloc|apply Kd.N_drewN|apply Kd.N_drew));exact HO117.out) gb133 (Nat.le_of_eq hg.symm)) hb);have n2_:=Aside0.mk (Kd.R_below (by (with_reducible repeat (first|apply Kd.R_alloc|apply Kd.R_drewN|apply Kd.R_drew));exact HO125.out) hb);have n3_:=Aside0.mk (Kd.N_below (Kd.N_elderB (by (with_reducible repeat (first|apply Kd.N_alloc|apply Kd.N_drewN|apply Kd.N_drew));exact HO130.out) gb133 (Nat.le_of_eq hg.symm)) hb);have n4_:=Aside0.mk (below_step (by repeat (first|(with_reducible first|exact HB.out|apply below_alloc|apply pw_below_drewN|apply below_drew1)|exact HB.out)) hb);have n5_:=Aside0.mk (hbox);have n6_:=Aside0.mk ((by rw [hg];exact (below_size (by repeat (first|(with_reducible first|exact HB.out|apply below_alloc|apply pw_below_drewN|apply below_drew1)|exact HB.out))) : w.heap.size ≤ gb133));have n7_:=Aside0.mk ((by rw [hg];exact (below_size (by repeat (first|(with_reducible first|exact HB.out|apply below_alloc|apply pw_below_drewN|apply below_drew1)|exact HB.out))) : w.heap.size ≤ gb133));clear HO112;clear HO117;clear HO125;clear HO130;clear HB;have HO112:=n0_;have HO117:=n1_;have HO125:=n2_;have HO130:=n3_;have HB:=n4_;have BK133:=n5_;have GW133:=n6_;have GE133:=n7_;clear n0_ n1_ n2_ n3_ n4_ n5_ n6_ n7_;clear hb hbox hg;have hcz18_0 : w17.cell? ⟨gb133,0,none⟩ = some (.string (⟨#[]⟩ : ByteArray)):=(blk_cell BK133.out 0).trans rfl;have hcz18_1 : w17.cell? ⟨gb133,1,none⟩ = some (.string (⟨#[]⟩ : ByteArray)):=(blk_cell BK133.out 1).trans rfl;have hcz18_2 : w17.cell? ⟨gb133,2,none⟩ = some (.slice none 0 0):=(blk_cell BK133.out 2).trans rfl;have hcz18_3 : w17.cell? ⟨gb133,3,none⟩ = some (.int .i64 0):=(blk_cell BK133.out 3).trans rfl;have hcz18_4 : w17.cell? ⟨gb133,4,none⟩ = some (.int .i64 0):=(blk_cell BK133.out 4).trans rfl;have hcz18_5 : w17.cell? ⟨gb133,5,none⟩ = some (.slice none 0 0):=(blk_cell BK133.out 5).trans rfl;have hcz18_6 : w17.cell? ⟨gb133,6,none⟩ = some (.int .i64 0):=(blk_cell BK133.out 6).trans rfl;have hfz18_0:=blk_frozen BK133.out 0;have hfz18_1:=blk_frozen BK133.out 1;have hfz18_2:=blk_frozen BK133.out 2;have hfz18_3:=blk_frozen BK133.out 3;have hfz18_4:=blk_frozen BK133.out 4;have hfz18_5:=blk_frozen BK133.out 5;have hfz18_6:=blk_frozen BK133.out 6;obtain ⟨Ao19,co19,eo19⟩:=Kd.R_slice HO125.out;subst eo19;obtain ⟨Ao20,co20,eo20⟩:=Kd.N_slice HO130.out;subst eo20)|((with_reducible refine gate_callee (f:=11) rfl ?_);refine goesL_ (some 17) rfl rfl Tryd.func11 (by kernel_rfl) rfl #[.int .i64 3,.string (⟨#[47,97]⟩ : ByteArray),.string (⟨#[120]⟩ : ByteArray)] rfl (by (try simp only [List.map_toArray,List.map_cons,List.map_nil]);first|done|rfl|(simp only [List.length_drop,List.length_take];rfl)) ?_;(with_reducible refine (object_Key.calls 3 (⟨#[47,97]⟩ : ByteArray) (⟨#[120]⟩ : ByteArray) t134 t135 _ A4.out (Glob.below hG (by repeat (first|(with_reducible first|exact HB.out|refine below_set ?_ GE133.out|apply below_alloc|apply pw_below_drewN|apply below_drew1)|exact HB.out)))).mono ?_);rintro e w21 ⟨rfl,hb⟩;refine ⟨_,rfl,?_⟩;have n0_:=Aside0.mk (Kd.R_below (by (with_reducible repeat (first|apply Kd.R_alloc|apply Kd.R_drewN|apply Kd.R_drew));exact (Kd.R_mono (Kd.R_far (p:=⟨gb133,6,none⟩) (Kd.R_far (p:=⟨gb133,5,none⟩) (Kd.R_far (p:=⟨gb133,4,none⟩) (Kd.R_far (p:=⟨gb133,3,none⟩) (Kd.R_far (p:=⟨gb133,2,none⟩) (Kd.R_far (p:=⟨gb133,1,none⟩) (Kd.R_far (p:=⟨gb133,0,none⟩) (Kd.R_types HO112.out BK133.out (by decide)) (fun _ hk => hk.2) (.string t121)) (fun _ hk => hk.2) (.string t122)) (fun _ hk => hk.2) (.slice Ao19 t123.length co19)) (fun _ hk => hk.2) (.int .i64 t126)) (fun _ hk => hk.2) (.int .i64 t127)) (fun _ hk => hk.2) (.slice Ao20 t128.length co20)) (fun _ hk => hk.2) (.int .i64 t131)) (fun _ h_ => h_.1))) hb);have n1_:=Aside0.mk (Kd.N_below (by (with_reducible repeat (first|apply Kd.N_alloc|apply Kd.N_drewN|apply Kd.N_drew));exact (Kd.N_mono (Kd.N_far (p:=⟨gb133,6,none⟩) (Kd.N_far (p:=⟨gb133,5,none⟩) (Kd.N_far (p:=⟨gb133,4,none⟩) (Kd.N_far (p:=⟨gb133,3,none⟩) (Kd.N_far (p:=⟨gb133,2,none⟩) (Kd.N_far (p:=⟨gb133,1,none⟩) (Kd.N_far (p:=⟨gb133,0,none⟩) (Kd.N_mono HO117.out (fun k_ hk => (⟨hk,hk.2⟩ : _ ∧ k_ ≠ gb133))) (fun _ hk => hk.2) (.string t121)) (fun _ hk => hk.2) (.string t122)) (fun _ hk => hk.2) (.slice Ao19 t123.length co19)) (fun _ hk => hk.2) (.int .i64 t126)) (fun _ hk => hk.2) (.int .i64 t127)) (fun _ hk => hk.2) (.slice Ao20 t128.length co20)) (fun _ hk => hk.2) (.int .i64 t131)) (fun _ h_ => h_.1))) hb);have n2_:=Aside0.mk (Kd.R_below (by (with_reducible repeat (first|apply Kd.R_alloc|apply Kd.R_drewN|apply Kd.R_drew));exact (Kd.R_mono (Kd.R_far (p:=⟨gb133,6,none⟩) (Kd.R_far (p:=⟨gb133,5,none⟩) (Kd.R_far (p:=⟨gb133,4,none⟩) (Kd.R_far (p:=⟨gb133,3,none⟩) (Kd.R_far (p:=⟨gb133,2,none⟩) (Kd.R_far (p:=⟨gb133,1,none⟩) (Kd.R_far (p:=⟨gb133,0,none⟩) (Kd.R_types HO125.out BK133.out (by decide)) (fun _ hk => hk.2) (.string t121)) (fun _ hk => hk.2) (.string t122)) (fun _ hk => hk.2) (.slice Ao19 t123.length co19)) (fun _ hk => hk.2) (.int .i64 t126)) (fun _ hk => hk.2) (.int .i64 t127)) (fun _ hk => hk.2) (.slice Ao20 t128.length co20)) (fun _ hk => hk.2) (.int .i64 t131)) (fun _ h_ => h_.1))) hb);have n3_:=Aside0.mk (Kd.N_below (by (with_reducible repeat (first|apply Kd.N_alloc|apply Kd.N_drewN|apply Kd.N_drew));exact (Kd.N_mono (Kd.N_far (p:=⟨gb133,6,none⟩) (Kd.N_far (p:=⟨gb133,5,none⟩) (Kd.N_far (p:=⟨gb133,4,none⟩) (Kd.N_far (p:=⟨gb133,3,none⟩) (Kd.N_far (p:=⟨gb133,2,none⟩) (Kd.N_far (p:=⟨gb133,1,none⟩) (Kd.N_far (p:=⟨gb133,0,none⟩) (Kd.N_mono HO130.out (fun k_ hk => (⟨hk,hk.2⟩ : _ ∧ k_ ≠ gb133))) (fun _ hk => hk.2) (.string t121)) (fun _ hk => hk.2) (.string t122)) (fun _ hk => hk.2) (.slice Ao19 t123.length co19)) (fun _ hk => hk.2) (.int .i64 t126)) (fun _ hk => hk.2) (.int .i64 t127)) (fun _ hk => hk.2) (.slice Ao20 t128.length co20)) (fun _ hk => hk.2) (.int .i64 t131)) (fun _ h_ => h_.1))) hb);have n4_:=Aside0.mk (blk_below (g:=gb133) (o:=.cells #[.string t121,.string t122,.slice Ao19 t123.length co19,.int .i64 t126,.int .i64 t127,.slice Ao20 t128.length co20,.int .i64 t131] 25 (0,0)) (by (with_reducible repeat (first|refine blk_drewN ?_ _|refine blk_drew ?_|refine blk_alloc ?_ _));refine blk_put (cs:=#[.string t121,.string t122,.slice Ao19 t123.length co19,.int .i64 t126,.int .i64 t127,.slice Ao20 t128.length co20,.int .i64 0]) ?_ 6 _ rfl;(with_reducible repeat (first|refine blk_drewN ?_ _|refine blk_drew ?_|refine blk_alloc ?_ _));refine blk_put (cs:=#[.string t121,.string t122,.slice Ao19 t123.length co19,.int .i64 t126,.int .i64 t127,.slice none 0 0,.int .i64 0]) ?_ 5 _ rfl;(with_reducible repeat (first|refine blk_drewN ?_ _|refine blk_drew ?_|refine blk_alloc ?_ _));refine blk_put (cs:=#[.string t121,.string t122,.slice Ao19 t123.length co19,.int .i64 t126,.int .i64 0,.slice none 0 0,.int .i64 0]) ?_ 4 _ rfl;(with_reducible repeat (first|refine blk_drewN ?_ _|refine blk_drew ?_|refine blk_alloc ?_ _));refine blk_put (cs:=#[.string t121,.string t122,.slice Ao19 t123.length co19,.int .i64 0,.int .i64 0,.slice none 0 0,.int .i64 0]) ?_ 3 _ rfl;(with_reducible repeat (first|refine blk_drewN ?_ _|refine blk_drew ?_|refine blk_alloc ?_ _));refine blk_put (cs:=#[.string t121,.string t122,.slice none 0 0,.int .i64 0,.int .i64 0,.slice none 0 0,.int .i64 0]) ?_ 2 _ rfl;(with_reducible repeat (first|refine blk_drewN ?_ _|refine blk_drew ?_|refine blk_alloc ?_ _));refine blk_put (cs:=#[.string t121,.string (⟨#[]⟩ : ByteArray),.slice none 0 0,.int .i64 0,.int .i64 0,.slice none 0 0,.int .i64 0]) ?_ 1 _ rfl;(with_reducible repeat (first|refine blk_drewN ?_ _|refine blk_drew ?_|refine blk_alloc ?_ _));refine blk_put (cs:=#[.string (⟨#[]⟩ : ByteArray),.string (⟨#[]⟩ : ByteArray),.slice none 0 0,.int .i64 0,.int .i64 0,.slice none 0 0,.int .i64 0]) ?_ 0 _ rfl;(with_reducible repeat (first|refine blk_drewN ?_ _|refine blk_drew ?_|refine blk_alloc ?_ _));exact BK133.out) hb);have n5_:=Aside0.mk (below_step (by repeat (first|(with_reducible first|exact HB.out|apply below_alloc|apply pw_below_drewN|apply below_drew1|refine below_set ?_ GE133.out)|exact HB.out)) hb);clear HO112;clear HO117;clear HO125;clear HO130;clear BK133;clear HB;have HO112:=n0_;have HO117:=n1_;have HO125:=n2_;have HO130:=n3_;have BK133:=n4_;have HB:=n5_;clear n0_ n1_ n2_ n3_ n4_ n5_;(try clear hb);(try clear hb2);(try clear hk);(try clear hi)))
 have n0_:=Aside0.mk (Kd.R_drew HO112.out)
 have n1_:=Aside0.mk (Kd.N_drew HO117.out)
 have n2_:=Aside0.mk (Kd.R_drew HO125.out)
 have n3_:=Aside0.mk (Kd.N_drew HO130.out)
 have n4_:=Aside0.mk (blk_drew BK133.out)
 have n5_:=Aside0.mk (below_drew1 HB.out)
 clear HO112;clear HO117;clear HO125;clear HO130;clear BK133;clear HB;have HO112:=n0_;have HO117:=n1_;have HO125:=n2_;have HO130:=n3_;have BK133:=n4_;have HB:=n5_;clear n0_ n1_ n2_ n3_ n4_ n5_
 refine start_ (n:=24) (S:=fun w' => w'.cell? ⟨gb133,0,none⟩ = some (.string t121) ∧ w'.cell? ⟨gb133,1,none⟩ = some (.string t122) ∧ w'.cell? ⟨gb133,2,none⟩ = some (.slice Ao19 t123.length co19) ∧ w'.cell? ⟨gb133,3,none⟩ = some (.int .i64 t126) ∧ w'.cell? ⟨gb133,4,none⟩ = some (.int .i64 t127) ∧ w'.cell? ⟨gb133,5,none⟩ = some (.slice Ao20 t128.length co20) ∧ w'.cell? ⟨gb133,6,none⟩ = some (.int .i64 t131)) (ds:=[]) (bl 0 24) (by kernel_rfl) rfl rfl ⟨(blk_cell BK133.out 0).trans rfl,(blk_cell BK133.out 1).trans rfl,(blk_cell BK133.out 2).trans rfl,(blk_cell BK133.out 3).trans rfl,(blk_cell BK133.out 4).trans rfl,(blk_cell BK133.out 5).trans rfl,(blk_cell BK133.out 6).trans rfl⟩ (fun hHeld => ?_);refine with_tabW bursarlaw13_fixed.tab4 bursarlaw13_fixed.bits4 (fun HT_ HW_ => ?_)
 generalize w21.drew = w22 at HO112 HO117 HO125 HO130 BK133 HB hHeld ⊢
 refine pure_ (i:=0) (N:=some 20) (v:=?_) (a':=?_) (bl 1 23) rfl rfl (any_of HT_.out (by kernel_rfl)) (fun _ _ _ h => h) (Or.inl ⟨by rfl,?_⟩) ?_ ?_
 rotate_left;·intro w';go_simp;with_reducible rfl
 rotate_left;·simp only [pu_];rfl
 refine pure_ (i:=1) (N:=some 21) (v:=?_) (a':=?_) (bl 2 22) rfl rfl (any_of HT_.out (by kernel_rfl)) (fun _ _ _ h => h) (Or.inl ⟨by rfl,?_⟩) ?_ ?_
 rotate_left;·intro w';go_simp;with_reducible rfl
 rotate_left;·simp only [pu_];rfl
 refine pure_ (i:=2) (N:=some 22) (v:=?_) (a':=?_) (bl 3 21) rfl rfl (any_of HT_.out (by kernel_rfl)) (fun _ _ _ h => h) (Or.inl ⟨by rfl,?_⟩) ?_ ?_
 rotate_left;·intro w';go_simp;with_reducible rfl
 rotate_left;·simp only [pu_];rfl
 refine pure_ (i:=3) (N:=some 23) (v:=?_) (a':=?_) (bl 4 20) rfl rfl (any_of HT_.out (by kernel_rfl)) (fun _ _ _ h => h) (Or.inl ⟨by rfl,?_⟩) ?_ ?_
 rotate_left;·intro w';go_simp;with_reducible rfl
 rotate_left;·simp only [pu_];rfl
 refine pure_ (i:=4) (N:=some 24) (v:=?_) (a':=?_) (bl 5 19) rfl rfl (any_of HT_.out (by kernel_rfl)) (fun _ _ _ h => h) (Or.inl ⟨by rfl,?_⟩) ?_ ?_
 rotate_left;·intro w';go_simp;with_reducible rfl
 rotate_left;·simp only [pu_];rfl
 refine pure_ (i:=5) (N:=some 25) (v:=?_) (a':=?_) (bl 6 18) rfl rfl (any_of HT_.out (by kernel_rfl)) (fun _ _ _ h => h) (Or.inl ⟨by rfl,?_⟩) ?_ ?_
 rotate_left;·intro w';go_simp;with_reducible rfl
 rotate_left;·simp only [pu_];rfl
 refine pure_ (i:=6) (N:=some 26) (v:=?_) (a':=?_) (bl 7 17) rfl rfl (any_of HT_.out (by kernel_rfl)) (fun _ _ _ h => h) (Or.inl ⟨by rfl,?_⟩) ?_ ?_
 rotate_left;·intro w';go_simp;with_reducible rfl
 rotate_left;·simp only [pu_];rfl
 refine pure_ (i:=7) (N:=some 27) (v:=?_) (a':=?_) (bl 8 16) rfl rfl (any_of HT_.out (by kernel_rfl)) (fun _ _ _ h => h) (Or.inl ⟨by rfl,?_⟩) ?_ ?_
 rotate_left;·intro w';go_simp;with_reducible rfl
 rotate_left;·simp only [pu_];rfl
 refine pure_ (i:=8) (N:=some 28) (v:=?_) (a':=?_) (bl 9 15) rfl rfl (any_of HT_.out (by kernel_rfl)) (fun _ _ _ h => h) (Or.inl ⟨by rfl,?_⟩) ?_ ?_
 rotate_left;·intro w';go_simp;with_reducible rfl
 rotate_left;·simp only [pu_];rfl
 refine pure_ (i:=9) (N:=some 29) (v:=?_) (a':=?_) (bl 10 14) rfl rfl (any_of HT_.out (by kernel_rfl)) (fun _ _ _ h => h) (Or.inl ⟨by rfl,?_⟩) ?_ ?_
 rotate_left;·intro w';go_simp;with_reducible rfl
 rotate_left;·simp only [pu_];rfl
 refine pure_ (i:=10) (N:=some 30) (v:=?_) (a':=?_) (bl 11 13) rfl rfl (any_of HT_.out (by kernel_rfl)) (fun _ _ _ h => h) (Or.inl ⟨by rfl,?_⟩) ?_ ?_
 rotate_left;·intro w';go_simp;with_reducible rfl
 rotate_left;·simp only [pu_];rfl
 refine take_ (i:=11) (N:=some 31) (v:=?_) (a':=?_) (bl 12 12) rfl rfl (take_ofW HT_.out HW_.out (by kernel_rfl)) (fun _ _ _ h => h) (Or.inl ⟨by rfl,?_⟩) hHeld ?_ ?_
 rotate_left
 ·rintro w' ⟨s0,s1,s2,s3,s4,s5,s6⟩
  go_simp
  with_reducible rfl
 rotate_left
 ·simp only [pu_]
  rfl
 refine one_ (i:=12) (N:=some 32) (bl 13 11) rfl rfl (one_of HT_.out (by kernel_rfl)) (by decide) (fun K hK => ?_)
 refine goes_ Tryd.func16 (by kernel_rfl) rfl #[] (by rfl) rfl rfl (by (try simp only [List.map_toArray,List.map_cons,List.map_nil]);first|done|rfl|(simp only [List.length_drop,List.length_take];rfl)) ?_
 with_reducible refine (bursarlaw13_small.calls  t136 t137 t138 t141 t142 t143 t146 _ A8.out).mono ?_
 rintro e w23 ⟨v139,v144,rfl,ho0,ho1,hb⟩
 refine ⟨_,rfl,?_⟩
 have n0_:=Aside0.mk (Kd.R_elder' (by (with_reducible repeat (first|apply Kd.R_alloc|apply Kd.R_drewN|apply Kd.R_drew));exact HO112.out) (Kd.R_base ho0) hb)
 have n1_:=Aside0.mk (Kd.N_mono (Kd.N_told (Kd.N_told (Kd.N_old (by (with_reducible repeat (first|apply Kd.N_alloc|apply Kd.N_drewN|apply Kd.N_drew));exact HO117.out) hb) (Kd.R_base ho0)) (Kd.N_base ho1)) (fun _ h_ => h_.1))
 have n2_:=Aside0.mk (Kd.R_elder' (by (with_reducible repeat (first|apply Kd.R_alloc|apply Kd.R_drewN|apply Kd.R_drew));exact HO125.out) (Kd.R_base ho0) hb)
 have n3_:=Aside0.mk (Kd.N_mono (Kd.N_told (Kd.N_told (Kd.N_old (by (with_reducible repeat (first|apply Kd.N_alloc|apply Kd.N_drewN|apply Kd.N_drew));exact HO130.out) hb) (Kd.R_base ho0)) (Kd.N_base ho1)) (fun _ h_ => h_.1))
 have n4_:=Aside0.mk (Kd.R_lower (Kd.R_new' (Kd.R_new' (Kd.R_mono (ok':=fun k_ => True) ho0 (fun _ hk_ => trivial)) (Kd.R_lt (by (with_reducible repeat (first|apply Kd.R_alloc|apply Kd.R_drewN|apply Kd.R_drew));exact HO112.out))) (Kd.R_lt (by (with_reducible repeat (first|apply Kd.R_alloc|apply Kd.R_drewN|apply Kd.R_drew));exact HO125.out))) (below_size (by repeat (first|(with_reducible first|exact HB.out|apply below_alloc|apply pw_below_drewN|apply below_drew1|refine below_set ?_ GE133.out)|exact HB.out))))
 have n5_:=Aside0.mk (Kd.N_lower (Kd.N_mono (ok':=fun k_ => some k_ ≠ (v139 : Value).ownBlock ∧ some k_ ≠ (.slice Ao13 t110.length co13 : Value).ownBlock ∧ some k_ ≠ (.slice Ao14 t115.length co14 : Value).ownBlock ∧ some k_ ≠ (.slice Ao19 t123.length co19 : Value).ownBlock ∧ some k_ ≠ (.slice Ao20 t128.length co20 : Value).ownBlock ∧ k_ ≠ gb133) ho1 (fun k_ hk_ => ⟨hk_.2,(Kd.fresh' (Kd.R_lt (by (with_reducible repeat (first|apply Kd.R_alloc|apply Kd.R_drewN|apply Kd.R_drew));exact HO112.out)) k_ hk_.1),(Kd.fresh' (Kd.N_lt (by (with_reducible repeat (first|apply Kd.N_alloc|apply Kd.N_drewN|apply Kd.N_drew));exact HO117.out)) k_ hk_.1),(Kd.fresh' (Kd.R_lt (by (with_reducible repeat (first|apply Kd.R_alloc|apply Kd.R_drewN|apply Kd.R_drew));exact HO125.out)) k_ hk_.1),(Kd.fresh' (Kd.N_lt (by (with_reducible repeat (first|apply Kd.N_alloc|apply Kd.N_drewN|apply Kd.N_drew));exact HO130.out)) k_ hk_.1),(Kd.freshB (g:=gb133) (o:=.cells #[.string t121,.string t122,.slice Ao19 t123.length co19,.int .i64 t126,.int .i64 t127,.slice Ao20 t128.length co20,.int .i64 t131] 25 (0,0)) (by (with_reducible repeat (first|refine blk_drewN ?_ _|refine blk_drew ?_|refine blk_alloc ?_ _));exact BK133.out) k_ hk_.1)⟩)) (below_size (by repeat (first|(with_reducible first|exact HB.out|apply below_alloc|apply pw_below_drewN|apply below_drew1|refine below_set ?_ GE133.out)|exact HB.out))))
 have n6_:=Aside0.mk (blk_below (g:=gb133) (o:=.cells #[.string t121,.string t122,.slice Ao19 t123.length co19,.int .i64 t126,.int .i64 t127,.slice Ao20 t128.length co20,.int .i64 t131] 25 (0,0)) (by (with_reducible repeat (first|refine blk_drewN ?_ _|refine blk_drew ?_|refine blk_alloc ?_ _));exact BK133.out) hb)
 have n7_:=Aside0.mk (below_step (by repeat (first|(with_reducible first|exact HB.out|apply below_alloc|apply pw_below_drewN|apply below_drew1|refine below_set ?_ GE133.out)|exact HB.out)) hb)
 clear HO112;clear HO117;clear HO125;clear HO130;clear BK133;clear HB;have HO112:=n0_;have HO117:=n1_;have HO125:=n2_;have HO130:=n3_;have HO140:=n4_;have HO145:=n5_;have BK133:=n6_;have HB:=n7_;clear n0_ n1_ n2_ n3_ n4_ n5_ n6_ n7_;(try clear hb);(try clear hb2);(try clear hk);(try clear hi);(try clear ho0);(try clear ho1)
 obtain ⟨Ao24,co24,eo24⟩:=Kd.R_slice HO140.out
 (first|subst eo24|(injection eo24 with f1_ f2_ f3_;have f4_:=f1_.symm;have f5_:=f3_.symm;clear f1_ f2_ f3_;subst f4_;subst f5_))
 obtain ⟨Ao25,co25,eo25⟩:=Kd.N_slice HO145.out
 (first|subst eo25|(injection eo25 with f1_ f2_ f3_;have f4_:=f1_.symm;have f5_:=f3_.symm;clear f1_ f2_ f3_;subst f4_;subst f5_))
 refine hK.out _ _ ⟨(blk_cell BK133.out 0).trans rfl,(blk_cell BK133.out 1).trans rfl,(blk_cell BK133.out 2).trans rfl,(blk_cell BK133.out 3).trans rfl,(blk_cell BK133.out 4).trans rfl,(blk_cell BK133.out 5).trans rfl,(blk_cell BK133.out 6).trans rfl⟩ (fun hHeld => ?_)
 clear hK K
 refine norm_ (a':=?_) ?_ ?_
 rotate_left
 ·show Act.put _ (some 32) _ = _
  simp only [pu_]
  rfl
 refine one_ (i:=13) (N:=some 33) (bl 14 10) rfl rfl (one_of HT_.out (by kernel_rfl)) (by decide) (fun K hK => ?_)
 refine goes_ Tryd.func18 (by kernel_rfl) rfl #[.agg #[.string t121,.string t122,.slice Ao19 t123.length co19,.int .i64 t126,.int .i64 t127,.slice Ao20 t128.length co20,.int .i64 t131],.agg #[.string t136,.string t137,.slice Ao24 t138.length co24,.int .i64 t141,.int .i64 t142,.slice Ao25 t143.length co25,.int .i64 t146]] (by rfl) rfl rfl (by (try simp only [List.map_toArray,List.map_cons,List.map_nil]);first|done|rfl|(simp only [List.length_drop,List.length_take];rfl)) ?_
 with_reducible refine (bursarlaw13_sameObject.calls t121 t122 _ _ t123 t126 t127 _ _ t128 t131 t136 t137 _ _ t138 t141 t142 _ _ t143 t146 true _ ?side1 ?side2 ?side3 ?side4 ?side5 ?side6 ?side7 ?side8 A9.out).mono ?_
 (case side1 => repeat (first|exact (Kd.R_reads' HO125.out).2.2|(with_reducible refine Kd.C_alloc ?_ _)|(with_reducible refine Kd.C_drewN ?_ _)|(with_reducible refine Kd.C_drew ?_)))
 (case side2 => exact (Kd.R_reads' HO125.out).2.1)
 (case side3 => repeat (first|exact (Kd.N_reads' HO130.out).2.2|(with_reducible refine Kd.C_alloc ?_ _)|(with_reducible refine Kd.C_drewN ?_ _)|(with_reducible refine Kd.C_drew ?_)))
 (case side4 => exact (Kd.N_reads' HO130.out).2.1)
 (case side5 => repeat (first|exact (Kd.R_reads' HO140.out).2.2|(with_reducible refine Kd.C_alloc ?_ _)|(with_reducible refine Kd.C_drewN ?_ _)|(with_reducible refine Kd.C_drew ?_)))
 (case side6 => exact (Kd.R_reads' HO140.out).2.1)
 (case side7 => repeat (first|exact (Kd.N_reads' HO145.out).2.2|(with_reducible refine Kd.C_alloc ?_ _)|(with_reducible refine Kd.C_drewN ?_ _)|(with_reducible refine Kd.C_drew ?_)))
 (case side8 => exact (Kd.N_reads' HO145.out).2.1)
 rintro e w26 ⟨rfl,hb⟩
 refine ⟨_,rfl,?_⟩
 have n0_:=Aside0.mk (Kd.R_below (by (with_reducible repeat (first|apply Kd.R_alloc|apply Kd.R_drewN|apply Kd.R_drew));exact HO112.out) hb)
 have n1_:=Aside0.mk (Kd.N_below (by (with_reducible repeat (first|apply Kd.N_alloc|apply Kd.N_drewN|apply Kd.N_drew));exact HO117.out) hb)
 have n2_:=Aside0.mk (Kd.R_below (by (with_reducible repeat (first|apply Kd.R_alloc|apply Kd.R_drewN|apply Kd.R_drew));exact HO125.out) hb)
 have n3_:=Aside0.mk (Kd.N_below (by (with_reducible repeat (first|apply Kd.N_alloc|apply Kd.N_drewN|apply Kd.N_drew));exact HO130.out) hb)
 have n4_:=Aside0.mk (Kd.R_below (by (with_reducible repeat (first|apply Kd.R_alloc|apply Kd.R_drewN|apply Kd.R_drew));exact HO140.out) hb)
 have n5_:=Aside0.mk (Kd.N_below (by (with_reducible repeat (first|apply Kd.N_alloc|apply Kd.N_drewN|apply Kd.N_drew));exact HO145.out) hb)
 have n6_:=Aside0.mk (blk_below (g:=gb133) (o:=.cells #[.string t121,.string t122,.slice Ao19 t123.length co19,.int .i64 t126,.int .i64 t127,.slice Ao20 t128.length co20,.int .i64 t131] 25 (0,0)) (by (with_reducible repeat (first|refine blk_drewN ?_ _|refine blk_drew ?_|refine blk_alloc ?_ _));exact BK133.out) hb)
 have n7_:=Aside0.mk (below_step (by repeat (first|(with_reducible first|exact HB.out|apply below_alloc|apply pw_below_drewN|apply below_drew1|refine below_set ?_ GE133.out)|exact HB.out)) hb)
 clear HO112;clear HO117;clear HO125;clear HO130;clear HO140;clear HO145;clear BK133;clear HB;have HO112:=n0_;have HO117:=n1_;have HO125:=n2_;have HO130:=n3_;have HO140:=n4_;have HO145:=n5_;have BK133:=n6_;have HB:=n7_;clear n0_ n1_ n2_ n3_ n4_ n5_ n6_ n7_;(try clear hb);(try clear hb2);(try clear hk);(try clear hi)
 refine hK.out _ _ ⟨(blk_cell BK133.out 0).trans rfl,(blk_cell BK133.out 1).trans rfl,(blk_cell BK133.out 2).trans rfl,(blk_cell BK133.out 3).trans rfl,(blk_cell BK133.out 4).trans rfl,(blk_cell BK133.out 5).trans rfl,(blk_cell BK133.out 6).trans rfl⟩ (fun hHeld => ?_)
 clear hK K
 refine norm_ (a':=?_) ?_ ?_
 rotate_left
 ·show Act.put _ (some 33) _ = _
  simp only [pu_]
  rfl
 refine pure_ (i:=14) (N:=some 34) (v:=?_) (a':=?_) (bl 15 9) rfl rfl (any_of HT_.out (by kernel_rfl)) (fun _ _ _ h => h) (Or.inl ⟨by rfl,?_⟩) ?_ ?_
 rotate_left;·intro w';go_simp;with_reducible rfl
 rotate_left;·simp only [pu_];rfl
 refine pure_ (i:=15) (N:=some 35) (v:=?_) (a':=?_) (bl 16 8) rfl rfl (any_of HT_.out (by kernel_rfl)) (fun _ _ _ h => h) (Or.inl ⟨by rfl,?_⟩) ?_ ?_
 rotate_left;·intro w';go_simp;with_reducible rfl
 rotate_left;·simp only [pu_];rfl
 refine pure_ (i:=16) (N:=some 36) (v:=?_) (a':=?_) (bl 17 7) rfl rfl (any_of HT_.out (by kernel_rfl)) (fun _ _ _ h => h) (Or.inl ⟨by rfl,?_⟩) ?_ ?_
 rotate_left;·intro w';go_simp;with_reducible rfl
 rotate_left;·simp only [pu_];rfl
 refine pure_ (i:=17) (N:=some 37) (v:=?_) (a':=?_) (bl 18 6) rfl rfl (any_of HT_.out (by kernel_rfl)) (fun _ _ _ h => h) (Or.inl ⟨by rfl,?_⟩) ?_ ?_
 rotate_left;·intro w';go_simp;with_reducible rfl
 rotate_left;·simp only [pu_];rfl
 refine pure_ (i:=18) (N:=some 38) (v:=?_) (a':=?_) (bl 19 5) rfl rfl (any_of HT_.out (by kernel_rfl)) (fun _ _ _ h => h) (Or.inl ⟨by rfl,?_⟩) ?_ ?_
 rotate_left;·intro w';go_simp;with_reducible rfl
 rotate_left;·simp only [pu_];rfl
 refine pure_ (i:=19) (N:=some 39) (v:=?_) (a':=?_) (bl 20 4) rfl rfl (any_of HT_.out (by kernel_rfl)) (fun _ _ _ h => h) (Or.inl ⟨by rfl,?_⟩) ?_ ?_
 rotate_left;·intro w';go_simp;with_reducible rfl
 rotate_left;·simp only [pu_];rfl
 refine pure_ (i:=20) (N:=some 40) (v:=?_) (a':=?_) (bl 21 3) rfl rfl (any_of HT_.out (by kernel_rfl)) (fun _ _ _ h => h) (Or.inl ⟨by rfl,?_⟩) ?_ ?_
 rotate_left;·intro w';go_simp;with_reducible rfl
 rotate_left;·simp only [pu_];rfl
 refine pure_ (i:=21) (N:=some 41) (v:=?_) (a':=?_) (bl 22 2) rfl rfl (any_of HT_.out (by kernel_rfl)) (fun _ _ _ h => h) (Or.inl ⟨by rfl,?_⟩) ?_ ?_
 rotate_left;·intro w';go_simp;with_reducible rfl
 rotate_left;·simp only [pu_];rfl
 refine pure_ (i:=22) (N:=some 42) (v:=?_) (a':=?_) (bl 23 1) rfl rfl (any_of HT_.out (by kernel_rfl)) (fun _ _ _ h => h) (Or.inl ⟨by rfl,?_⟩) ?_ ?_
 rotate_left;·intro w';go_simp;with_reducible rfl
 rotate_left;·simp only [pu_];rfl
 refine pure_ (i:=23) (N:=some 0) (v:=?_) (a':=?_) (bl 24 0) rfl rfl (any_of HT_.out (by kernel_rfl)) (fun _ _ _ h => h) (Or.inl ⟨by rfl,?_⟩) ?_ ?_
 rotate_left;·intro w';go_simp;with_reducible rfl
 rotate_left;·simp only [pu_];rfl
 refine done_ (done_of HT_.out (by kernel_rfl)) ?_
 try go_wp2
 go_ret
 exact ⟨by first|rfl|(simp [errW_none,errW_some] <;> rfl)|(simp [*,errW_none,errW_some] <;> rfl),by repeat (first|(with_reducible first|exact HB.out|apply below_alloc|apply pw_below_drewN|apply below_drew1|refine below_set ?_ GE133.out)|exact HB.out)⟩
end Go.Proofs.YtniolbolfclhkaaDoor.Q
namespace Go.Proofs.YtniolbolfclhkaaDoor.Q
open Go.RowKit Go.Proofs.YtniolbolfclhkaaDoorW.PrintWords Go.Proofs.YtniolbolfclhkaaDoorW.PrintLast Go.Proofs.YtniolbolfclhkaaDoorW.PrintMore
attribute [local go_sem] max2_int min2_int max_two min_two max_three min_three max_four min_four   -- for this text's walks alone
set_option linter.unusedVariables false
set_option linter.unusedSimpArgs false
mutual
def bursarref04_Name.j0 : Nat → ByteArray → Bool → Option (Bool)
|0,_,_ => none
|k + 1,x0,x25 => if x25 = true then (some false) else (bursarref04_Name.l0 k x0 0)
def bursarref04_Name.l0 : Nat → ByteArray → Int → Option (Bool)
|0,_,_ => none
|k + 1,x0,x3 => if x3 < (x0.size : Int) then (if 0 ≤ x3 then (if (bt x0 x3) ≥ 97 then (if ((bt x0 x3) ≤ 122) then (bursarref04_Name.l0 k x0 (wrap64 (x3 + 1))) else (if (bt x0 x3) ≥ 48 then (if ((bt x0 x3) ≤ 57) then (bursarref04_Name.l0 k x0 (wrap64 (x3 + 1))) else (if (bt x0 x3) = 45 then (bursarref04_Name.l0 k x0 (wrap64 (x3 + 1))) else (some false))) else (if (bt x0 x3) = 45 then (bursarref04_Name.l0 k x0 (wrap64 (x3 + 1))) else (some false)))) else (if (bt x0 x3) ≥ 48 then (if ((bt x0 x3) ≤ 57) then (bursarref04_Name.l0 k x0 (wrap64 (x3 + 1))) else (if (bt x0 x3) = 45 then (bursarref04_Name.l0 k x0 (wrap64 (x3 + 1))) else (some false))) else (if (bt x0 x3) = 45 then (bursarref04_Name.l0 k x0 (wrap64 (x3 + 1))) else (some false)))) else (none)) else (some true)
end
def bursarref04_Name.f (k : Nat) (a0 : ByteArray) : Option (Bool) := if (a0.size : Int) < 1 then (bursarref04_Name.j0 k a0 true) else (if (a0.size : Int) > 32 then (bursarref04_Name.j0 k a0 true) else (if 0 < (a0.size : Int) then (if (bt a0 0) = 45 then (bursarref04_Name.j0 k a0 true) else (if 0 ≤ (wrap64 ((a0.size : Int) - 1)) then (if (wrap64 ((a0.size : Int) - 1)) < (a0.size : Int) then (bursarref04_Name.j0 k a0 ((bt a0 (wrap64 ((a0.size : Int) - 1))) == 45)) else (none)) else (none))) else (none)))
theorem bursarref04_Name.mono_l : ∀ k, (∀ y0 y1, LeO (bursarref04_Name.j0 k y0 y1) (bursarref04_Name.j0 (k + 1) y0 y1)) ∧ (∀ y0 y1, LeO (bursarref04_Name.l0 k y0 y1) (bursarref04_Name.l0 (k + 1) y0 y1))
|0 => ⟨fun _ _ r h => by simp [bursarref04_Name.j0] at h,fun _ _ r h => by simp [bursarref04_Name.l0] at h⟩
|k + 1 => by
  obtain ⟨ih0,ih1⟩:=bursarref04_Name.mono_l k
  refine ⟨?_,?_⟩
  ·intro y0 y1
   unfold bursarref04_Name.j0
   repeat' first
  |(with_reducible exact ih0 _ _)
  |(with_reducible exact ih1 _ _)
  |(with_reducible exact LeO.refl _)
  |(with_reducible exact LeO.none _)
  |(with_reducible refine LeO.ite ?_ ?_)
  |(with_reducible refine LeO.bind ?_ (fun _ => ?_))
  |exact ih0 _ _
  |exact ih1 _ _
  |exact LeO.none _
  |refine LeO.ite ?_ ?_
  |refine LeO.bind ?_ (fun _ => ?_)
  ·intro y0 y1
   unfold bursarref04_Name.l0
   repeat' first
  |(with_reducible exact ih0 _ _)
  |(with_reducible exact ih1 _ _)
  |(with_reducible exact LeO.refl _)
  |(with_reducible exact LeO.none _)
  |(with_reducible refine LeO.ite ?_ ?_)
  |(with_reducible refine LeO.bind ?_ (fun _ => ?_))
  |exact ih0 _ _
  |exact ih1 _ _
  |exact LeO.none _
  |refine LeO.ite ?_ ?_
  |refine LeO.bind ?_ (fun _ => ?_)
theorem bursarref04_Name.mono : ∀ a0 k, LeO (bursarref04_Name.f k a0) (bursarref04_Name.f (k + 1) a0) := by
 intro a0 k
 obtain ⟨ih0,ih1⟩:=bursarref04_Name.mono_l k
 unfold bursarref04_Name.f
 repeat' first
  |(with_reducible exact ih0 _ _)
  |(with_reducible exact ih1 _ _)
  |(with_reducible exact LeO.refl _)
  |(with_reducible exact LeO.none _)
  |(with_reducible refine LeO.ite ?_ ?_)
  |(with_reducible refine LeO.bind ?_ (fun _ => ?_))
  |exact ih0 _ _
  |exact ih1 _ _
  |exact LeO.none _
  |refine LeO.ite ?_ ?_
  |refine LeO.bind ?_ (fun _ => ?_)
set_option maxHeartbeats 8000000 in
set_option maxRecDepth 100000 in
theorem bursarref04_Name.calls (k : Nat) (a0 : ByteArray) (r : Bool) (w : World) (h : bursarref04_Name.f k a0 = some r) :
  Calls Tryd.prog 32 #[.string a0] w fun e w' => e = .returned (.bool r) ∧ Drawn0 w w':=by
 have H : (if (a0.size : Int) < 1 then (bursarref04_Name.j0 k a0 true) else (if (a0.size : Int) > 32 then (bursarref04_Name.j0 k a0 true) else (if 0 < (a0.size : Int) then (if (bt a0 0) = 45 then (bursarref04_Name.j0 k a0 true) else (if 0 ≤ (wrap64 ((a0.size : Int) - 1)) then (if (wrap64 ((a0.size : Int) - 1)) < (a0.size : Int) then (bursarref04_Name.j0 k a0 ((bt a0 (wrap64 ((a0.size : Int) - 1))) == 45)) else (none)) else (none))) else (none)))) = some r:=h
 clear h
 have HC2:=Aside0.mk H
 clear H
 go_enter Tryd.func32,Tryd.ntmps32
 go_upto_region 1 with (fail)
 go_cut [25] (fun v25 wc => ∃ (kq : Nat) (x25_1 : Bool),v25 = .bool x25_1 ∧ Aside0 (bursarref04_Name.j0 kq a0 x25_1 = some r) ∧ Aside0 (kq ≤ k) ∧ Drawn0 w wc)
 case first =>
  have H:=HC2.out
  clear HC2
  by_cases c3 : (a0.size : Int) < 1
  ·rw [if_pos c3] at H
   have c3b0 : decide ((a0.size : Int) < 1) = true:=decide_eq_true c3
   have c3b1 : decide (a0.size < 1) = true:=decide_eq_true (by omega)
   clear c3
   (first|rw [c3b0]|(simp only [i64_w,i32_w];rw [c3b0])|skip)
   have H':=Aside0.mk H
   clear H
   go_wp2
   go_meet
   case rel => exact ⟨_,(true),(by first|rfl|(simp;done)|(simp [*];done)|(simp;rw [Bool.eq_iff_iff];simp;done)|(rw [Bool.eq_iff_iff];simp;done)),H',⟨by first|omega|exact Nat.le_refl _⟩,by repeat (first|exact Drawn0.refl _|apply Drawn0.step)⟩
  rw [if_neg c3] at H
  have c3b0 : decide ((a0.size : Int) < 1) = false:=decide_eq_false c3
  have c3b1 : decide (a0.size < 1) = false:=decide_eq_false (by omega)
  clear c3
  (first|rw [c3b0]|(simp only [i64_w,i32_w];rw [c3b0])|skip)
  by_cases c4 : (a0.size : Int) > 32
  ·rw [if_pos c4] at H
   have c4b0 : decide (32 < (a0.size : Int)) = true:=decide_eq_true c4
   have c4b1 : decide (32 < a0.size) = true:=decide_eq_true (by omega)
   clear c4
   have H':=Aside0.mk H
   clear H
   go_wp2
   go_meet
   case rel => exact ⟨_,(true),(by first|rfl|(simp;done)|(simp [*];done)|(simp;rw [Bool.eq_iff_iff];simp;done)|(rw [Bool.eq_iff_iff];simp;done)),H',⟨by first|omega|exact Nat.le_refl _⟩,by repeat (first|exact Drawn0.refl _|apply Drawn0.step)⟩
  rw [if_neg c4] at H
  have c4b0 : decide (32 < (a0.size : Int)) = false:=decide_eq_false c4
  have c4b1 : decide (32 < a0.size) = false:=decide_eq_false (by omega)
  clear c4
  by_cases c5 : 0 < (a0.size : Int)
  rotate_left
  ·rw [if_neg c5] at H
   exact absurd H (by simp)
  rw [if_pos c5] at H
  have c5b0 : decide (0 < (a0.size : Int)) = true:=decide_eq_true c5
  have c5b1 : decide (0 < a0.size) = true:=decide_eq_true (by omega)
  clear c5
  by_cases c7 : (bt a0 0) = 45
  ·rw [if_pos c7] at H
   have c7b0 : ((bt a0 0) == 45) = true:=beq_iff_eq.mpr c7
   have c7b1 : ((bt a0 0) != 45) = false:=bne_eq_false_iff_eq.mpr c7
   clear c7
   have H':=Aside0.mk H
   clear H
   have p6 : 0 ≤ (0 : Int):=(by omega)
   have q6 : 0 < a0.size:=(by have : (0 : Int) < (a0.size : Int):=of_decide_eq_true (by first|(with_reducible assumption)|assumption);omega)
   have hx6 : ∀ h : 0 < a0.size,((a0[0]'h).toNat : Int) = bt a0 0:=bt_at a0 0
   clear p6
   have qi6 : (0 < (a0.size : Int)) = True:=eq_true (of_decide_eq_true (by first|(with_reducible assumption)|assumption))
   replace q6:=eq_true q6
   go_wp2
   go_meet
   case rel => exact ⟨_,(true),(by first|rfl|(simp;done)|(simp [*];done)|(simp;rw [Bool.eq_iff_iff];simp;done)|(rw [Bool.eq_iff_iff];simp;done)),H',⟨by first|omega|exact Nat.le_refl _⟩,by repeat (first|exact Drawn0.refl _|apply Drawn0.step)⟩
  rw [if_neg c7] at H
  have c7b0 : ((bt a0 0) == 45) = false:=beq_eq_false_iff_ne.mpr c7
  have c7b1 : ((bt a0 0) != 45) = true:=bne_iff_ne.mpr c7
  obtain ⟨ji8,hji8⟩ : ∃ j_ : Int,(wrap64 ((a0.size : Int) - 1)) = j_:=⟨_,rfl⟩
  replace H : (if 0 ≤ (ji8) then (if (ji8) < (a0.size : Int) then (bursarref04_Name.j0 k a0 ((bt a0 (ji8)) == 45)) else (none)) else (none)) = some r:=by first|(rw [hji8] at H;exact H)|(simp only [hji8] at H ⊢;exact H)
  have hji8w : (IntKind.i64.wrap ((a0.size : Int) - 1)) = ji8:=(i64_w _).trans hji8
  by_cases c9 : 0 ≤ (ji8)
  rotate_left
  ·rw [if_neg c9] at H
   exact absurd H (by simp)
  rw [if_pos c9] at H
  have c9b0 : decide (0 ≤ (ji8)) = true:=decide_eq_true c9
  clear c9
  by_cases c10 : (ji8) < (a0.size : Int)
  rotate_left
  ·rw [if_neg c10] at H
   exact absurd H (by simp)
  rw [if_pos c10] at H
  have c10b0 : decide ((ji8) < (a0.size : Int)) = true:=decide_eq_true c10
  clear c10
  have H':=Aside0.mk H
  clear H
  have p6 : 0 ≤ (0 : Int):=(by omega)
  have q6 : 0 < a0.size:=(by have : (0 : Int) < (a0.size : Int):=of_decide_eq_true (by first|(with_reducible assumption)|assumption);omega)
  have hx6 : ∀ h : 0 < a0.size,((a0[0]'h).toNat : Int) = bt a0 0:=bt_at a0 0
  clear p6
  have qi6 : (0 < (a0.size : Int)) = True:=eq_true (of_decide_eq_true (by first|(with_reducible assumption)|assumption))
  replace q6:=eq_true q6
  have p11 : 0 ≤ ((ji8) : Int):=of_decide_eq_true (by first|(with_reducible assumption)|assumption)
  have q11 : (ji8) < (a0.size : Int):=of_decide_eq_true (by first|(with_reducible assumption)|assumption)
  have hx11:=bt_at a0 (ji8)
  replace p11:=eq_true p11
  replace q11:=eq_true q11
  go_wp2
  go_meet
  case rel => exact ⟨_,(((bt a0 (ji8)) == 45)),(by first|rfl|(simp;done)|(simp only [← hji8] <;> (first|rfl|simp))|(simp [*];done)),H',⟨by first|omega|exact Nat.le_refl _⟩,by repeat (first|exact Drawn0.refl _|apply Drawn0.step)⟩
 case rest =>
  clear HC2;(try clear c1);(try clear p1);(try clear q1);(try clear hx1);(try clear p2);(try clear c3);(try clear c3b0);(try clear c3b1);(try clear c4);(try clear c4b0);(try clear c4b1);(try clear c5);(try clear c5b0);(try clear c5b1);(try clear p6);(try clear q6);(try clear hx6);(try clear qi6);(try clear c7);(try clear c7b0);(try clear c7b1);(try clear c9);(try clear c9b0);(try clear c10);(try clear c10b0);(try clear p11);(try clear q11);(try clear hx11);(try clear p11);(try clear p6);(try clear q11);(try clear q6)
  obtain ⟨kq,x25_1,rfl,HA,HJ1,⟨mc1,rfl⟩⟩:=hcut
  cases kq with
 |zero => exact absurd HA.out (by simp [bursarref04_Name.j0])
 |succ kj1 =>
   have H:=HA.out
   clear HA
   simp only [bursarref04_Name.j0] at H
   by_cases c12 : x25_1 = true
   ·subst c12
    have H1 : (some false) = some r:=by rw [if_pos rfl] at H;exact H
    clear H;have H:=H1;clear H1
    obtain rfl:=Option.some.inj H
    go_wp2
    go_ret
    exact ⟨by first|rfl|(simp;done)|(simp [*];done),by repeat (first|exact Drawn0.refl _|apply Drawn0.step)⟩
   replace c12:=Bool.eq_false_iff.mpr c12
   subst c12
   have H1 : (bursarref04_Name.l0 kj1 a0 0) = some r:=by rw [if_neg (show ¬ (false = true) by decide)] at H;exact H
   clear H;have H:=H1;clear H1
   have H':=Aside0.mk H
   clear H
   go_wp2
   go_loopg [3] kj1 (fun kq v3 w' => ∃ (x3_2 : Int),v3 = .int .i64 x3_2 ∧ Aside0 (bursarref04_Name.l0 kq a0 x3_2 = some r) ∧ Aside0 (kq ≤ kj1) ∧ Drawn0 w w')
   case atStart => exact ⟨(0),(by first|rfl|(simp;done)|(simp [*];done)|(simp;rw [Bool.eq_iff_iff];simp;done)|(rw [Bool.eq_iff_iff];simp;done)),H',⟨Nat.le_refl _⟩,by repeat (first|exact Drawn0.refl _|apply Drawn0.step)⟩
   case round =>
    clear H';(try clear c1);(try clear p1);(try clear q1);(try clear hx1);(try clear p2);(try clear c3);(try clear c3b0);(try clear c3b1);(try clear c4);(try clear c4b0);(try clear c4b1);(try clear c5);(try clear c5b0);(try clear c5b1);(try clear p6);(try clear q6);(try clear hx6);(try clear qi6);(try clear c7);(try clear c7b0);(try clear c7b1);(try clear c9);(try clear c9b0);(try clear c10);(try clear c10b0);(try clear p11);(try clear q11);(try clear hx11);(try clear c12);(try clear p1);(try clear p11);(try clear p2);(try clear p6);(try clear q1);(try clear q11);(try clear q6)
    obtain ⟨x3_2,rfl,HA,HK2,⟨m2,rfl⟩⟩:=hrel
    cases gk with
   |zero => exact absurd HA.out (by simp [bursarref04_Name.l0])
   |succ k2 =>
     have H:=HA.out
     clear HA
     simp only [bursarref04_Name.l0] at H
     by_cases c13 : x3_2 < (a0.size : Int)
     rotate_left
     ·rw [if_neg c13] at H
      have c13b0 : decide (x3_2 < (a0.size : Int)) = false:=decide_eq_false c13
      clear c13
      obtain rfl:=Option.some.inj H
      go_wp2
      go_ret
      exact ⟨by first|rfl|(simp;done)|(simp [*];done),by repeat (first|exact Drawn0.refl _|apply Drawn0.step)⟩
     rw [if_pos c13] at H
     have c13b0 : decide (x3_2 < (a0.size : Int)) = true:=decide_eq_true c13
     clear c13
     by_cases c14 : 0 ≤ x3_2
     rotate_left
     ·rw [if_neg c14] at H
      exact absurd H (by simp)
     rw [if_pos c14] at H
     have c14b0 : decide (0 ≤ x3_2) = true:=decide_eq_true c14
     clear c14
     by_cases c16 : (bt a0 x3_2) ≥ 97
     rotate_left
     ·rw [if_neg c16] at H
      have c16b0 : decide (97 ≤ (bt a0 x3_2)) = false:=decide_eq_false c16
      clear c16
      by_cases c22 : (bt a0 x3_2) ≥ 48
      rotate_left
      ·rw [if_neg c22] at H
       have c22b0 : decide (48 ≤ (bt a0 x3_2)) = false:=decide_eq_false c22
       clear c22
       by_cases c25 : (bt a0 x3_2) = 45
       rotate_left
       ·rw [if_neg c25] at H
        have c25b0 : ((bt a0 x3_2) == 45) = false:=beq_eq_false_iff_ne.mpr c25
        have c25b1 : ((bt a0 x3_2) != 45) = true:=bne_iff_ne.mpr c25
        obtain rfl:=Option.some.inj H
        have p15 : 0 ≤ (x3_2 : Int):=of_decide_eq_true (by first|(with_reducible assumption)|assumption)
        have q15 : x3_2 < (a0.size : Int):=of_decide_eq_true (by first|(with_reducible assumption)|assumption)
        have hx15:=bt_at a0 x3_2
        replace p15:=eq_true p15
        replace q15:=eq_true q15
        go_wp2
        go_ret
        exact ⟨by first|rfl|(simp;done)|(simp [*];done),by repeat (first|exact Drawn0.refl _|apply Drawn0.step)⟩
       rw [if_pos c25] at H
       have c25b0 : ((bt a0 x3_2) == 45) = true:=beq_iff_eq.mpr c25
       have c25b1 : ((bt a0 x3_2) != 45) = false:=bne_eq_false_iff_eq.mpr c25
       clear c25
       have H':=Aside0.mk H
       clear H
       have p15 : 0 ≤ (x3_2 : Int):=of_decide_eq_true (by first|(with_reducible assumption)|assumption)
       have q15 : x3_2 < (a0.size : Int):=of_decide_eq_true (by first|(with_reducible assumption)|assumption)
       have hx15:=bt_at a0 x3_2
       replace p15:=eq_true p15
       replace q15:=eq_true q15
       go_wp2
       go_roundg k2
       case measure => have:=HJ1.out;have:=HK2.out;omega
       case rel => exact ⟨(wrap64 (x3_2 + 1)),(by first|rfl|(simp;done)|(simp [*];done)|(simp;rw [Bool.eq_iff_iff];simp;done)|(rw [Bool.eq_iff_iff];simp;done)),H',⟨by have:=HJ1.out;have:=HK2.out;omega⟩,by repeat (first|exact Drawn0.refl _|apply Drawn0.step)⟩
      rw [if_pos c22] at H
      have c22b0 : decide (48 ≤ (bt a0 x3_2)) = true:=decide_eq_true c22
      clear c22
      by_cases c23 : ((bt a0 x3_2) ≤ 57)
      ·rw [if_pos c23] at H
       have c23b0 : decide ((bt a0 x3_2) ≤ 57) = true:=decide_eq_true c23
       clear c23
       have H':=Aside0.mk H
       clear H
       have p15 : 0 ≤ (x3_2 : Int):=of_decide_eq_true (by first|(with_reducible assumption)|assumption)
       have q15 : x3_2 < (a0.size : Int):=of_decide_eq_true (by first|(with_reducible assumption)|assumption)
       have hx15:=bt_at a0 x3_2
       replace p15:=eq_true p15
       replace q15:=eq_true q15
       go_wp2
       go_roundg k2
       case measure => have:=HJ1.out;have:=HK2.out;omega
       case rel => exact ⟨(wrap64 (x3_2 + 1)),(by first|rfl|(simp;done)|(simp [*];done)|(simp;rw [Bool.eq_iff_iff];simp;done)|(rw [Bool.eq_iff_iff];simp;done)),H',⟨by have:=HJ1.out;have:=HK2.out;omega⟩,by repeat (first|exact Drawn0.refl _|apply Drawn0.step)⟩
      rw [if_neg c23] at H
      have c23b0 : decide ((bt a0 x3_2) ≤ 57) = false:=decide_eq_false c23
      clear c23
      by_cases c24 : (bt a0 x3_2) = 45
      rotate_left
      ·rw [if_neg c24] at H
       have c24b0 : ((bt a0 x3_2) == 45) = false:=beq_eq_false_iff_ne.mpr c24
       have c24b1 : ((bt a0 x3_2) != 45) = true:=bne_iff_ne.mpr c24
       obtain rfl:=Option.some.inj H
       have p15 : 0 ≤ (x3_2 : Int):=of_decide_eq_true (by first|(with_reducible assumption)|assumption)
       have q15 : x3_2 < (a0.size : Int):=of_decide_eq_true (by first|(with_reducible assumption)|assumption)
       have hx15:=bt_at a0 x3_2
       replace p15:=eq_true p15
       replace q15:=eq_true q15
       go_wp2
       go_ret
       exact ⟨by first|rfl|(simp;done)|(simp [*];done),by repeat (first|exact Drawn0.refl _|apply Drawn0.step)⟩
      rw [if_pos c24] at H
      have c24b0 : ((bt a0 x3_2) == 45) = true:=beq_iff_eq.mpr c24
      have c24b1 : ((bt a0 x3_2) != 45) = false:=bne_eq_false_iff_eq.mpr c24
      clear c24
      have H':=Aside0.mk H
      clear H
      have p15 : 0 ≤ (x3_2 : Int):=of_decide_eq_true (by first|(with_reducible assumption)|assumption)
      have q15 : x3_2 < (a0.size : Int):=of_decide_eq_true (by first|(with_reducible assumption)|assumption)
      have hx15:=bt_at a0 x3_2
      replace p15:=eq_true p15
      replace q15:=eq_true q15
      go_wp2
      go_roundg k2
      case measure => have:=HJ1.out;have:=HK2.out;omega
      case rel => exact ⟨(wrap64 (x3_2 + 1)),(by first|rfl|(simp;done)|(simp [*];done)|(simp;rw [Bool.eq_iff_iff];simp;done)|(rw [Bool.eq_iff_iff];simp;done)),H',⟨by have:=HJ1.out;have:=HK2.out;omega⟩,by repeat (first|exact Drawn0.refl _|apply Drawn0.step)⟩
     rw [if_pos c16] at H
     have c16b0 : decide (97 ≤ (bt a0 x3_2)) = true:=decide_eq_true c16
     clear c16
     by_cases c17 : ((bt a0 x3_2) ≤ 122)
     ·rw [if_pos c17] at H
      have c17b0 : decide ((bt a0 x3_2) ≤ 122) = true:=decide_eq_true c17
      clear c17
      have H':=Aside0.mk H
      clear H
      have p15 : 0 ≤ (x3_2 : Int):=of_decide_eq_true (by first|(with_reducible assumption)|assumption)
      have q15 : x3_2 < (a0.size : Int):=of_decide_eq_true (by first|(with_reducible assumption)|assumption)
      have hx15:=bt_at a0 x3_2
      replace p15:=eq_true p15
      replace q15:=eq_true q15
      go_wp2
      go_roundg k2
      case measure => have:=HJ1.out;have:=HK2.out;omega
      case rel => exact ⟨(wrap64 (x3_2 + 1)),(by first|rfl|(simp;done)|(simp [*];done)|(simp;rw [Bool.eq_iff_iff];simp;done)|(rw [Bool.eq_iff_iff];simp;done)),H',⟨by have:=HJ1.out;have:=HK2.out;omega⟩,by repeat (first|exact Drawn0.refl _|apply Drawn0.step)⟩
     rw [if_neg c17] at H
     have c17b0 : decide ((bt a0 x3_2) ≤ 122) = false:=decide_eq_false c17
     clear c17
     by_cases c18 : (bt a0 x3_2) ≥ 48
     rotate_left
     ·rw [if_neg c18] at H
      have c18b0 : decide (48 ≤ (bt a0 x3_2)) = false:=decide_eq_false c18
      clear c18
      by_cases c21 : (bt a0 x3_2) = 45
      rotate_left
      ·rw [if_neg c21] at H
       have c21b0 : ((bt a0 x3_2) == 45) = false:=beq_eq_false_iff_ne.mpr c21
       have c21b1 : ((bt a0 x3_2) != 45) = true:=bne_iff_ne.mpr c21
       obtain rfl:=Option.some.inj H
       have p15 : 0 ≤ (x3_2 : Int):=of_decide_eq_true (by first|(with_reducible assumption)|assumption)
       have q15 : x3_2 < (a0.size : Int):=of_decide_eq_true (by first|(with_reducible assumption)|assumption)
       have hx15:=bt_at a0 x3_2
       replace p15:=eq_true p15
       replace q15:=eq_true q15
       go_wp2
       go_ret
       exact ⟨by first|rfl|(simp;done)|(simp [*];done),by repeat (first|exact Drawn0.refl _|apply Drawn0.step)⟩
      rw [if_pos c21] at H
      have c21b0 : ((bt a0 x3_2) == 45) = true:=beq_iff_eq.mpr c21
      have c21b1 : ((bt a0 x3_2) != 45) = false:=bne_eq_false_iff_eq.mpr c21
      clear c21
      have H':=Aside0.mk H
      clear H
      have p15 : 0 ≤ (x3_2 : Int):=of_decide_eq_true (by first|(with_reducible assumption)|assumption)
      have q15 : x3_2 < (a0.size : Int):=of_decide_eq_true (by first|(with_reducible assumption)|assumption)
      have hx15:=bt_at a0 x3_2
      replace p15:=eq_true p15
      replace q15:=eq_true q15
      go_wp2
      go_roundg k2
      case measure => have:=HJ1.out;have:=HK2.out;omega
      case rel => exact ⟨(wrap64 (x3_2 + 1)),(by first|rfl|(simp;done)|(simp [*];done)|(simp;rw [Bool.eq_iff_iff];simp;done)|(rw [Bool.eq_iff_iff];simp;done)),H',⟨by have:=HJ1.out;have:=HK2.out;omega⟩,by repeat (first|exact Drawn0.refl _|apply Drawn0.step)⟩
     rw [if_pos c18] at H
     have c18b0 : decide (48 ≤ (bt a0 x3_2)) = true:=decide_eq_true c18
     clear c18
     by_cases c19 : ((bt a0 x3_2) ≤ 57)
     ·rw [if_pos c19] at H
      have c19b0 : decide ((bt a0 x3_2) ≤ 57) = true:=decide_eq_true c19
      clear c19
      have H':=Aside0.mk H
      clear H
      have p15 : 0 ≤ (x3_2 : Int):=of_decide_eq_true (by first|(with_reducible assumption)|assumption)
      have q15 : x3_2 < (a0.size : Int):=of_decide_eq_true (by first|(with_reducible assumption)|assumption)
      have hx15:=bt_at a0 x3_2
      replace p15:=eq_true p15
      replace q15:=eq_true q15
      go_wp2
      go_roundg k2
      case measure => have:=HJ1.out;have:=HK2.out;omega
      case rel => exact ⟨(wrap64 (x3_2 + 1)),(by first|rfl|(simp;done)|(simp [*];done)|(simp;rw [Bool.eq_iff_iff];simp;done)|(rw [Bool.eq_iff_iff];simp;done)),H',⟨by have:=HJ1.out;have:=HK2.out;omega⟩,by repeat (first|exact Drawn0.refl _|apply Drawn0.step)⟩
     rw [if_neg c19] at H
     have c19b0 : decide ((bt a0 x3_2) ≤ 57) = false:=decide_eq_false c19
     clear c19
     by_cases c20 : (bt a0 x3_2) = 45
     rotate_left
     ·rw [if_neg c20] at H
      have c20b0 : ((bt a0 x3_2) == 45) = false:=beq_eq_false_iff_ne.mpr c20
      have c20b1 : ((bt a0 x3_2) != 45) = true:=bne_iff_ne.mpr c20
      obtain rfl:=Option.some.inj H
      have p15 : 0 ≤ (x3_2 : Int):=of_decide_eq_true (by first|(with_reducible assumption)|assumption)
      have q15 : x3_2 < (a0.size : Int):=of_decide_eq_true (by first|(with_reducible assumption)|assumption)
      have hx15:=bt_at a0 x3_2
      replace p15:=eq_true p15
      replace q15:=eq_true q15
      go_wp2
      go_ret
      exact ⟨by first|rfl|(simp;done)|(simp [*];done),by repeat (first|exact Drawn0.refl _|apply Drawn0.step)⟩
     rw [if_pos c20] at H
     have c20b0 : ((bt a0 x3_2) == 45) = true:=beq_iff_eq.mpr c20
     have c20b1 : ((bt a0 x3_2) != 45) = false:=bne_eq_false_iff_eq.mpr c20
     clear c20
     have H':=Aside0.mk H
     clear H
     have p15 : 0 ≤ (x3_2 : Int):=of_decide_eq_true (by first|(with_reducible assumption)|assumption)
     have q15 : x3_2 < (a0.size : Int):=of_decide_eq_true (by first|(with_reducible assumption)|assumption)
     have hx15:=bt_at a0 x3_2
     replace p15:=eq_true p15
     replace q15:=eq_true q15
     go_wp2
     go_roundg k2
     case measure => have:=HJ1.out;have:=HK2.out;omega
     case rel => exact ⟨(wrap64 (x3_2 + 1)),(by first|rfl|(simp;done)|(simp [*];done)|(simp;rw [Bool.eq_iff_iff];simp;done)|(rw [Bool.eq_iff_iff];simp;done)),H',⟨by have:=HJ1.out;have:=HK2.out;omega⟩,by repeat (first|exact Drawn0.refl _|apply Drawn0.step)⟩
end Go.Proofs.YtniolbolfclhkaaDoor.Q
namespace Go.Proofs.YtniolbolfclhkaaDoor.Q
open Go.RowKit Go.Proofs.YtniolbolfclhkaaDoorW.PrintWords Go.Proofs.YtniolbolfclhkaaDoorW.PrintLast Go.Proofs.YtniolbolfclhkaaDoorW.PrintMore
attribute [local go_sem] max2_int min2_int max_two min_two max_three min_three max_four min_four   -- for this text's walks alone
set_option linter.unusedVariables false
set_option linter.unusedSimpArgs false
def bursarref04_pieces.l0 : Nat → ByteArray → Int → List ByteArray → Int → Int → Option (List ByteArray)
|0,_,_,_,_,_ => none
|k + 1,x0,x1,x5,x6,x7 => if x7 ≤ (x0.size : Int) then (if x7 = (x0.size : Int) then (if 0 ≤ x6 then (if x6 ≤ x7 then (if x5.length < 8796093022208 then (bursarref04_pieces.l0 k x0 x1 (x5 ++ [x0.extract (x6 : Int).toNat (x7 : Int).toNat]) (wrap64 (x7 + 1)) (wrap64 (x7 + 1))) else (none)) else (none)) else (none)) else (if 0 ≤ x7 then (if x7 < (x0.size : Int) then (if (bt x0 x7) = x1 then (if 0 ≤ x6 then (if x6 ≤ x7 then (if x5.length < 8796093022208 then (bursarref04_pieces.l0 k x0 x1 (x5 ++ [x0.extract (x6 : Int).toNat (x7 : Int).toNat]) (wrap64 (x7 + 1)) (wrap64 (x7 + 1))) else (none)) else (none)) else (none)) else (bursarref04_pieces.l0 k x0 x1 x5 x6 (wrap64 (x7 + 1)))) else (none)) else (none))) else (some x5)
def bursarref04_pieces.f (k : Nat) (a0 : ByteArray) (a1 : Int) : Option (List ByteArray) := bursarref04_pieces.l0 k a0 a1 ([] : List ByteArray) 0 0
theorem bursarref04_pieces.mono_l : ∀ k, (∀ y0 y1 y2 y3 y4, LeO (bursarref04_pieces.l0 k y0 y1 y2 y3 y4) (bursarref04_pieces.l0 (k + 1) y0 y1 y2 y3 y4))
|0 => fun _ _ _ _ _ r h => by simp [bursarref04_pieces.l0] at h
|k + 1 => by
  have ih0:=bursarref04_pieces.mono_l k
  ·intro y0 y1 y2 y3 y4
   unfold bursarref04_pieces.l0
   repeat' first
  |(with_reducible exact ih0 _ _ _ _ _)
  |(with_reducible exact LeO.refl _)
  |(with_reducible exact LeO.none _)
  |(with_reducible refine LeO.ite ?_ ?_)
  |(with_reducible refine LeO.bind ?_ (fun _ => ?_))
  |exact ih0 _ _ _ _ _
  |exact LeO.none _
  |refine LeO.ite ?_ ?_
  |refine LeO.bind ?_ (fun _ => ?_)
theorem bursarref04_pieces.mono : ∀ a0 a1 k, LeO (bursarref04_pieces.f k a0 a1) (bursarref04_pieces.f (k + 1) a0 a1) := by
 intro a0 a1 k
 have ih0:=bursarref04_pieces.mono_l k
 unfold bursarref04_pieces.f
 repeat' first
  |(with_reducible exact ih0 _ _ _ _ _)
  |(with_reducible exact LeO.refl _)
  |(with_reducible exact LeO.none _)
  |(with_reducible refine LeO.ite ?_ ?_)
  |(with_reducible refine LeO.bind ?_ (fun _ => ?_))
  |exact ih0 _ _ _ _ _
  |exact LeO.none _
  |refine LeO.ite ?_ ?_
  |refine LeO.bind ?_ (fun _ => ?_)
set_option maxHeartbeats 8000000 in
set_option maxRecDepth 100000 in
theorem bursarref04_pieces.calls (k : Nat) (a0 : ByteArray) (a1 : Int) (r : List ByteArray) (w : World) (h : bursarref04_pieces.f k a0 a1 = some r) :
  Calls Tryd.prog 71 #[.string a0,.int .u8 a1] w fun e w' => ∃ v0_ : Value,e = .returned (v0_) ∧ Kd.R Kd.string 9 w' w.heap.size (fun _ => True) v0_ r ∧ Below w.heap.size w w':=by
 have HB:=Aside0.mk (Below.refl w.heap.size w)
 have H : (bursarref04_pieces.l0 k a0 a1 ([] : List ByteArray) 0 0) = some r:=h
 clear h
 have H':=Aside0.mk H
 clear H
 go_enter Tryd.func71,Tryd.ntmps71
 go_wp2
 go_loopg [5,6,7] k (fun kq v5 v6 v7 w' => ∃ (x5_1 : List ByteArray) (x6_1 : Int) (x7_1 : Int),v6 = .int .i64 x6_1 ∧ v7 = .int .i64 x7_1 ∧ Aside0 (bursarref04_pieces.l0 kq a0 a1 x5_1 x6_1 x7_1 = some r) ∧ Aside0 (kq ≤ k) ∧ Aside0 (Kd.R Kd.string 9 w' w.heap.size (fun _ => True) v5 x5_1) ∧ Aside0 (Below w.heap.size w w'))
 case atStart => exact ⟨(([] : List ByteArray)),(0),(0),(by first|rfl|(simp;done)|(simp [*];done)|(simp;rw [Bool.eq_iff_iff];simp;done)|(rw [Bool.eq_iff_iff];simp;done)),(by first|rfl|(simp;done)|(simp [*];done)|(simp;rw [Bool.eq_iff_iff];simp;done)|(rw [Bool.eq_iff_iff];simp;done)),H',⟨Nat.le_refl _⟩,⟨by first|exact Kd.R_nil _ _ _ _ _|exact Kd.N_nil _ _ _ _ _|exact Kd.V_nil _ _ _ _ _|exact Kd.Q_nil _ _ _ _ _|exact Kd.S_nil _ _ _ _ _⟩,⟨by repeat (first|(with_reducible first|exact HB.out|apply below_alloc|apply pw_below_drewN|apply below_drew1)|exact HB.out)⟩⟩
 case round =>
  clear H';(try clear p2)
  obtain ⟨x5_1,x6_1,x7_1,rfl,rfl,HA,HK1,HO_5,HB⟩:=hrel
  cases gk with
 |zero => exact absurd HA.out (by simp [bursarref04_pieces.l0])
 |succ k1 =>
   have H:=HA.out
   clear HA
   simp only [bursarref04_pieces.l0] at H
   by_cases c3 : x7_1 ≤ (a0.size : Int)
   rotate_left
   ·rw [if_neg c3] at H
    have c3b0 : decide (x7_1 ≤ (a0.size : Int)) = false:=decide_eq_false c3
    clear c3
    obtain rfl:=Option.some.inj H
    go_wp2
    go_ret
    exact ⟨_,by first|rfl|(simp [errW_none,errW_some] <;> rfl)|(simp [*,errW_none,errW_some] <;> rfl),by (with_reducible repeat (first|apply Kd.R_alloc|apply Kd.R_drewN|apply Kd.R_drew));exact HO_5.out,by repeat (first|(with_reducible first|exact HB.out|apply below_alloc|apply pw_below_drewN|apply below_drew1)|exact HB.out)⟩
   rw [if_pos c3] at H
   have c3b0 : decide (x7_1 ≤ (a0.size : Int)) = true:=decide_eq_true c3
   clear c3
   by_cases c4 : x7_1 = (a0.size : Int)
   ·rw [if_pos c4] at H
    have c4b0 : (x7_1 == (a0.size : Int)) = true:=beq_iff_eq.mpr c4
    have c4b1 : (x7_1 != (a0.size : Int)) = false:=bne_eq_false_iff_eq.mpr c4
    clear c4
    by_cases c5 : 0 ≤ x6_1
    rotate_left
    ·rw [if_neg c5] at H
     exact absurd H (by simp)
    rw [if_pos c5] at H
    have c5b0:=eq_true c5
    have c5b1 : decide (0 ≤ x6_1) = true:=decide_eq_true c5
    clear c5
    by_cases c6 : x6_1 ≤ x7_1
    rotate_left
    ·rw [if_neg c6] at H
     exact absurd H (by simp)
    rw [if_pos c6] at H
    have c6b0:=eq_true c6
    have c6b1 : decide (x6_1 ≤ x7_1) = true:=decide_eq_true c6
    clear c6
    have c7b0:=eq_true (of_decide_eq_true (by first|(with_reducible assumption)|assumption) : x7_1 ≤ (a0.size : Int))
    by_cases c8 : x5_1.length < 8796093022208
    rotate_left
    ·rw [if_neg c8] at H
     exact absurd H (by simp)
    rw [if_pos c8] at H
    have LMc8:=Aside0.mk c8
    clear c8
    obtain ⟨y148,hy148⟩ : ∃ y_ : List ByteArray,y_ = (x5_1 ++ [a0.extract (x6_1 : Int).toNat (x7_1 : Int).toNat]):=⟨_,rfl⟩
    replace H : (bursarref04_pieces.l0 k1 a0 a1 y148 (wrap64 (x7_1 + 1)) (wrap64 (x7_1 + 1))) = some r:=by first|(rw [hy148];with_reducible exact H)|(have H2_:=(Option.bind_some _ _).symm.trans H;rw [hy148];with_reducible exact H2_)|(have H2_:=(Option.bind_some _ _).symm.trans H;with_reducible exact H2_)|with_reducible exact H|(rw [hy148];exact H)|exact H
    have Ny148:=Aside0.mk hy148
    clear hy148
    have H':=Aside0.mk H
    clear H
    go_wp2_with (first|((with_reducible refine gate_builtin (b:=.append) (xs:=#[.tmp 25,.tmp 30]) rfl ?_);at_builtin;refine Kd.R_append Kd.string (w0:=w) w.heap.size rfl (.tmp 25) (.tmp 30) 68 9 (.string ⟨#[]⟩) 16 rfl Tryd.underlying68 info9 rfl (by decide) (by omega) u5 x5_1 (a0.extract (x6_1 : Int).toNat (x7_1 : Int).toNat) [.string (a0.extract (x6_1 : Int).toNat (x7_1 : Int).toNat)] (fun _ => True) (fun _ => False) rfl rfl ?aP (fun _ hk => hk.elim) ?aF ?aO ?aB ?aS ?aL ?_;(case aP => exact rfl);(case aB => exact (by repeat (first|(with_reducible first|exact HB.out|apply below_alloc|apply pw_below_drewN|apply below_drew1)|exact HB.out)));(case aF => exact (fun _ _ => trivial));(case aO => exact (by (with_reducible repeat (first|apply Kd.R_alloc|apply Kd.R_drewN|apply Kd.R_drew));exact HO_5.out));(case aS => exact (below_size (by repeat (first|(with_reducible first|exact HB.out|apply below_alloc|apply pw_below_drewN|apply below_drew1)|exact HB.out))));(case aL => have:=LMc8.out;omega);intro v149 w9 ho hb hg hat;rw [← Ny148.out] at ho;have n0_:=Aside0.mk (hb);have n1_:=Aside0.mk (ho);clear HB;clear HO_5;have HB:=n0_;have HO150:=n1_;clear n0_ n1_;clear ho hb hg hat))
    go_roundg k1
    case measure => have:=HK1.out;omega
    case rel => exact ⟨(y148),(wrap64 (x7_1 + 1)),(wrap64 (x7_1 + 1)),(by first|rfl|(simp;done)|(simp [*];done)|(simp;rw [Bool.eq_iff_iff];simp;done)|(rw [Bool.eq_iff_iff];simp;done)),(by first|rfl|(simp;done)|(simp [*];done)|(simp;rw [Bool.eq_iff_iff];simp;done)|(rw [Bool.eq_iff_iff];simp;done)),H',⟨by have:=HK1.out;omega⟩,⟨by (with_reducible repeat (first|apply Kd.R_alloc|apply Kd.R_drewN|apply Kd.R_drew));exact HO150.out⟩,⟨by repeat (first|(with_reducible first|exact HB.out|apply below_alloc|apply pw_below_drewN|apply below_drew1)|exact HB.out)⟩⟩
   rw [if_neg c4] at H
   have c4b0 : (x7_1 == (a0.size : Int)) = false:=beq_eq_false_iff_ne.mpr c4
   have c4b1 : (x7_1 != (a0.size : Int)) = true:=bne_iff_ne.mpr c4
   by_cases c10 : 0 ≤ x7_1
   rotate_left
   ·rw [if_neg c10] at H
    exact absurd H (by simp)
   rw [if_pos c10] at H
   have c10b0 : decide (0 ≤ x7_1) = true:=decide_eq_true c10
   clear c10
   by_cases c11 : x7_1 < (a0.size : Int)
   rotate_left
   ·rw [if_neg c11] at H
    exact absurd H (by simp)
   rw [if_pos c11] at H
   have c11b0 : decide (x7_1 < (a0.size : Int)) = true:=decide_eq_true c11
   clear c11
   by_cases c13 : (bt a0 x7_1) = a1
   rotate_left
   ·rw [if_neg c13] at H
    have c13b0 : ((bt a0 x7_1) == a1) = false:=beq_eq_false_iff_ne.mpr c13
    have c13b1 : ((bt a0 x7_1) != a1) = true:=bne_iff_ne.mpr c13
    have H':=Aside0.mk H
    clear H
    have p12 : 0 ≤ (x7_1 : Int):=of_decide_eq_true (by first|(with_reducible assumption)|assumption)
    have q12 : x7_1 < (a0.size : Int):=of_decide_eq_true (by first|(with_reducible assumption)|assumption)
    have hx12:=bt_at a0 x7_1
    replace p12:=eq_true p12
    replace q12:=eq_true q12
    go_wp2
    go_roundg k1
    case measure => have:=HK1.out;omega
    case rel => exact ⟨(x5_1),(x6_1),(wrap64 (x7_1 + 1)),(by first|rfl|(simp;done)|(simp [*];done)|(simp;rw [Bool.eq_iff_iff];simp;done)|(rw [Bool.eq_iff_iff];simp;done)),(by first|rfl|(simp;done)|(simp [*];done)|(simp;rw [Bool.eq_iff_iff];simp;done)|(rw [Bool.eq_iff_iff];simp;done)),H',⟨by have:=HK1.out;omega⟩,⟨by (with_reducible repeat (first|apply Kd.R_alloc|apply Kd.R_drewN|apply Kd.R_drew));exact HO_5.out⟩,⟨by repeat (first|(with_reducible first|exact HB.out|apply below_alloc|apply pw_below_drewN|apply below_drew1)|exact HB.out)⟩⟩
   rw [if_pos c13] at H
   have c13b0 : ((bt a0 x7_1) == a1) = true:=beq_iff_eq.mpr c13
   have c13b1 : ((bt a0 x7_1) != a1) = false:=bne_eq_false_iff_eq.mpr c13
   clear c13
   by_cases c14 : 0 ≤ x6_1
   rotate_left
   ·rw [if_neg c14] at H
    exact absurd H (by simp)
   rw [if_pos c14] at H
   have c14b0:=eq_true c14
   have c14b1 : decide (0 ≤ x6_1) = true:=decide_eq_true c14
   clear c14
   by_cases c15 : x6_1 ≤ x7_1
   rotate_left
   ·rw [if_neg c15] at H
    exact absurd H (by simp)
   rw [if_pos c15] at H
   have c15b0:=eq_true c15
   have c15b1 : decide (x6_1 ≤ x7_1) = true:=decide_eq_true c15
   clear c15
   have c16b0:=eq_true (of_decide_eq_true (by first|(with_reducible assumption)|assumption) : x7_1 ≤ (a0.size : Int))
   by_cases c17 : x5_1.length < 8796093022208
   rotate_left
   ·rw [if_neg c17] at H
    exact absurd H (by simp)
   rw [if_pos c17] at H
   have LMc17:=Aside0.mk c17
   clear c17
   obtain ⟨y151,hy151⟩ : ∃ y_ : List ByteArray,y_ = (x5_1 ++ [a0.extract (x6_1 : Int).toNat (x7_1 : Int).toNat]):=⟨_,rfl⟩
   replace H : (bursarref04_pieces.l0 k1 a0 a1 y151 (wrap64 (x7_1 + 1)) (wrap64 (x7_1 + 1))) = some r:=by first|(rw [hy151];with_reducible exact H)|(have H2_:=(Option.bind_some _ _).symm.trans H;rw [hy151];with_reducible exact H2_)|(have H2_:=(Option.bind_some _ _).symm.trans H;with_reducible exact H2_)|with_reducible exact H|(rw [hy151];exact H)|exact H
   have Ny151:=Aside0.mk hy151
   clear hy151
   have H':=Aside0.mk H
   clear H
   have p12 : 0 ≤ (x7_1 : Int):=of_decide_eq_true (by first|(with_reducible assumption)|assumption)
   have q12 : x7_1 < (a0.size : Int):=of_decide_eq_true (by first|(with_reducible assumption)|assumption)
   have hx12:=bt_at a0 x7_1
   replace p12:=eq_true p12
   replace q12:=eq_true q12
   go_wp2_with (first|((with_reducible refine gate_builtin (b:=.append) (xs:=#[.tmp 25,.tmp 30]) rfl ?_);at_builtin;refine Kd.R_append Kd.string (w0:=w) w.heap.size rfl (.tmp 25) (.tmp 30) 68 9 (.string ⟨#[]⟩) 16 rfl Tryd.underlying68 info9 rfl (by decide) (by omega) u5 x5_1 (a0.extract (x6_1 : Int).toNat (x7_1 : Int).toNat) [.string (a0.extract (x6_1 : Int).toNat (x7_1 : Int).toNat)] (fun _ => True) (fun _ => False) rfl rfl ?aP (fun _ hk => hk.elim) ?aF ?aO ?aB ?aS ?aL ?_;(case aP => exact rfl);(case aB => exact (by repeat (first|(with_reducible first|exact HB.out|apply below_alloc|apply pw_below_drewN|apply below_drew1)|exact HB.out)));(case aF => exact (fun _ _ => trivial));(case aO => exact (by (with_reducible repeat (first|apply Kd.R_alloc|apply Kd.R_drewN|apply Kd.R_drew));exact HO_5.out));(case aS => exact (below_size (by repeat (first|(with_reducible first|exact HB.out|apply below_alloc|apply pw_below_drewN|apply below_drew1)|exact HB.out))));(case aL => have:=LMc17.out;omega);intro v152 w18 ho hb hg hat;rw [← Ny151.out] at ho;have n0_:=Aside0.mk (hb);have n1_:=Aside0.mk (ho);clear HB;clear HO_5;have HB:=n0_;have HO153:=n1_;clear n0_ n1_;clear ho hb hg hat))
   go_roundg k1
   case measure => have:=HK1.out;omega
   case rel => exact ⟨(y151),(wrap64 (x7_1 + 1)),(wrap64 (x7_1 + 1)),(by first|rfl|(simp;done)|(simp [*];done)|(simp;rw [Bool.eq_iff_iff];simp;done)|(rw [Bool.eq_iff_iff];simp;done)),(by first|rfl|(simp;done)|(simp [*];done)|(simp;rw [Bool.eq_iff_iff];simp;done)|(rw [Bool.eq_iff_iff];simp;done)),H',⟨by have:=HK1.out;omega⟩,⟨by (with_reducible repeat (first|apply Kd.R_alloc|apply Kd.R_drewN|apply Kd.R_drew));exact HO153.out⟩,⟨by repeat (first|(with_reducible first|exact HB.out|apply below_alloc|apply pw_below_drewN|apply below_drew1)|exact HB.out)⟩⟩
end Go.Proofs.YtniolbolfclhkaaDoor.Q
namespace Go.Proofs.YtniolbolfclhkaaDoor.Q
open Go.RowKit Go.Proofs.YtniolbolfclhkaaDoorW.PrintWords Go.Proofs.YtniolbolfclhkaaDoorW.PrintLast Go.Proofs.YtniolbolfclhkaaDoorW.PrintMore
attribute [local go_sem] max2_int min2_int max_two min_two max_three min_three max_four min_four   -- for this text's walks alone
set_option linter.unusedVariables false
set_option linter.unusedSimpArgs false
mutual
def bursarref04_Split.j0 : Nat → List ByteArray → Bool → Option (List ByteArray × Int)
|0,_,_ => none
|k + 1,x4,x29 => if x29 = true then (some (([] : List ByteArray),41)) else (bursarref04_Split.l0 k x4 1)
def bursarref04_Split.l0 : Nat → List ByteArray → Int → Option (List ByteArray × Int)
|0,_,_ => none
|k + 1,x4,x5 => if x5 < (x4.length : Int) then (if 0 ≤ x5 then ((bursarref04_Name.f k (rdOf ByteArray.empty x4 x5)).bind fun t159 => (if t159 = true then (bursarref04_Split.l0 k x4 (wrap64 (x5 + 1))) else (some (([] : List ByteArray),41)))) else (none)) else (if 1 ≤ (x4.length : Int) then (some ((x4.drop (1 : Int).toNat),0)) else (none))
end
def bursarref04_Split.f (k : Nat) (a0 : ByteArray) : Option (List ByteArray × Int) := if a0.toList = ([47] : List UInt8) then (some (([] : List ByteArray), 0)) else ((bursarref04_pieces.f k a0 47).bind fun t154 => (if (a0.size : Int) > 64 then (bursarref04_Split.j0 k t154 true) else (if (t154.length : Int) < 2 then (bursarref04_Split.j0 k t154 true) else (if (t154.length : Int) > 9 then (bursarref04_Split.j0 k t154 true) else (if 0 < (t154.length : Int) then (bursarref04_Split.j0 k t154 ((rdOf ByteArray.empty t154 0).toList != ([] : List UInt8))) else (none))))))
theorem bursarref04_Split.mono_l : ∀ k, (∀ y0 y1, LeO (bursarref04_Split.j0 k y0 y1) (bursarref04_Split.j0 (k + 1) y0 y1)) ∧ (∀ y0 y1, LeO (bursarref04_Split.l0 k y0 y1) (bursarref04_Split.l0 (k + 1) y0 y1))
|0 => ⟨fun _ _ r h => by simp [bursarref04_Split.j0] at h,fun _ _ r h => by simp [bursarref04_Split.l0] at h⟩
|k + 1 => by
  obtain ⟨ih0,ih1⟩:=bursarref04_Split.mono_l k
  refine ⟨?_,?_⟩
  ·intro y0 y1
   unfold bursarref04_Split.j0
   repeat' first
  |(with_reducible exact ih0 _ _)
  |(with_reducible exact ih1 _ _)
  |(with_reducible exact bursarref04_Name.mono _ _)
  |(with_reducible exact bursarref04_pieces.mono _ _ _)
  |(with_reducible exact LeO.refl _)
  |(with_reducible exact LeO.none _)
  |(with_reducible refine LeO.ite ?_ ?_)
  |(with_reducible refine LeO.bind ?_ (fun _ => ?_))
  |exact ih0 _ _
  |exact ih1 _ _
  |exact bursarref04_Name.mono _ _
  |exact bursarref04_pieces.mono _ _ _
  |exact LeO.none _
  |refine LeO.ite ?_ ?_
  |refine LeO.bind ?_ (fun _ => ?_)
  ·intro y0 y1
   unfold bursarref04_Split.l0
   repeat' first
  |(with_reducible exact ih0 _ _)
  |(with_reducible exact ih1 _ _)
  |(with_reducible exact bursarref04_Name.mono _ _)
  |(with_reducible exact bursarref04_pieces.mono _ _ _)
  |(with_reducible exact LeO.refl _)
  |(with_reducible exact LeO.none _)
  |(with_reducible refine LeO.ite ?_ ?_)
  |(with_reducible refine LeO.bind ?_ (fun _ => ?_))
  |exact ih0 _ _
  |exact ih1 _ _
  |exact bursarref04_Name.mono _ _
  |exact bursarref04_pieces.mono _ _ _
  |exact LeO.none _
  |refine LeO.ite ?_ ?_
  |refine LeO.bind ?_ (fun _ => ?_)
theorem bursarref04_Split.mono : ∀ a0 k, LeO (bursarref04_Split.f k a0) (bursarref04_Split.f (k + 1) a0) := by
 intro a0 k
 obtain ⟨ih0,ih1⟩:=bursarref04_Split.mono_l k
 unfold bursarref04_Split.f
 repeat' first
  |(with_reducible exact ih0 _ _)
  |(with_reducible exact ih1 _ _)
  |(with_reducible exact bursarref04_Name.mono _ _)
  |(with_reducible exact bursarref04_pieces.mono _ _ _)
  |(with_reducible exact LeO.refl _)
  |(with_reducible exact LeO.none _)
  |(with_reducible refine LeO.ite ?_ ?_)
  |(with_reducible refine LeO.bind ?_ (fun _ => ?_))
  |exact ih0 _ _
  |exact ih1 _ _
  |exact bursarref04_Name.mono _ _
  |exact bursarref04_pieces.mono _ _ _
  |exact LeO.none _
  |refine LeO.ite ?_ ?_
  |refine LeO.bind ?_ (fun _ => ?_)
set_option maxHeartbeats 8000000 in
set_option maxRecDepth 100000 in
theorem bursarref04_Split.calls (k : Nat) (a0 : ByteArray) (r1 : List ByteArray) (r2 : Int) (w : World) (h : bursarref04_Split.f k a0 = some (r1, r2)) :
  Calls Tryd.prog 60 #[.string a0] w fun e w' => ∃ v0_ : Value,e = .returned (.tuple #[v0_,.int .i64 r2]) ∧ Kd.Q Kd.string 9 w' w.heap.size (fun _ => True) v0_ r1 ∧ Below w.heap.size w w':=by
 have HB:=Aside0.mk (Below.refl w.heap.size w)
 have H : (if a0.toList = ([47] : List UInt8) then (some (([] : List ByteArray),0)) else ((bursarref04_pieces.f k a0 47).bind fun t154 => (if (a0.size : Int) > 64 then (bursarref04_Split.j0 k t154 true) else (if (t154.length : Int) < 2 then (bursarref04_Split.j0 k t154 true) else (if (t154.length : Int) > 9 then (bursarref04_Split.j0 k t154 true) else (if 0 < (t154.length : Int) then (bursarref04_Split.j0 k t154 ((rdOf ByteArray.empty t154 0).toList != ([] : List UInt8))) else (none))))))) = some (r1,r2):=h
 clear h
 by_cases c2 : a0.toList = ([47] : List UInt8)
 ·rw [if_pos c2] at H
  have c2b0 : (a0.toList == ([47] : List UInt8)) = true:=beq_iff_eq.mpr c2
  have c2b1 : (a0.toList != ([47] : List UInt8)) = false:=bne_eq_false_iff_eq.mpr c2
  clear c2
  simp only [Option.some.injEq,Prod.mk.injEq] at H
  obtain ⟨rfl,rfl⟩:=H
  go_enter Tryd.func60,Tryd.ntmps60
  go_wp2
  go_ret2
  exact ⟨_,by first|rfl|(simp [errW_none,errW_some] <;> rfl)|(simp [*,errW_none,errW_some] <;> rfl),Kd.Q_of_R (by first|exact Kd.R_nil _ _ _ _ _|exact Kd.N_nil _ _ _ _ _|exact Kd.V_nil _ _ _ _ _|exact Kd.Q_nil _ _ _ _ _|exact Kd.S_nil _ _ _ _ _),by repeat (first|(with_reducible first|exact HB.out|apply below_alloc|apply pw_below_drewN|apply below_drew1)|exact HB.out)⟩
 rw [if_neg c2] at H
 have c2b0 : (a0.toList == ([47] : List UInt8)) = false:=beq_eq_false_iff_ne.mpr c2
 have c2b1 : (a0.toList != ([47] : List UInt8)) = true:=bne_iff_ne.mpr c2
 replace H:=Option.bind_eq_some_iff.mp H
 obtain ⟨t154,A30,H⟩:=H
 replace H : (if (a0.size : Int) > 64 then (bursarref04_Split.j0 k t154 true) else (if (t154.length : Int) < 2 then (bursarref04_Split.j0 k t154 true) else (if (t154.length : Int) > 9 then (bursarref04_Split.j0 k t154 true) else (if 0 < (t154.length : Int) then (bursarref04_Split.j0 k t154 ((rdOf ByteArray.empty t154 0).toList != ([] : List UInt8))) else (none))))) = some (r1,r2):=H
 have A3:=Aside0.mk A30
 clear A30
 have HC4:=Aside0.mk H
 clear H
 go_enter Tryd.func60,Tryd.ntmps60
 go_upto_region 4 with (first|((with_reducible refine gate_callee (f:=71) rfl ?_);refine goesL_ (some 10) rfl rfl Tryd.func71 (by kernel_rfl) rfl #[.string a0,.int .u8 47] rfl (by (try simp only [List.map_toArray,List.map_cons,List.map_nil]);first|done|rfl|(simp only [List.length_drop,List.length_take];rfl)) ?_;(with_reducible refine (bursarref04_pieces.calls k a0 47 t154 _ A3.out).mono ?_);rintro e w5 ⟨v155,rfl,ho0,hb⟩;refine ⟨_,rfl,?_⟩;have n0_:=Aside0.mk (Kd.R_lower ho0 (below_size (by repeat (first|(with_reducible first|exact HB.out|apply below_alloc|apply pw_below_drewN|apply below_drew1)|exact HB.out))));have n1_:=Aside0.mk (below_step (by repeat (first|(with_reducible first|exact HB.out|apply below_alloc|apply pw_below_drewN|apply below_drew1)|exact HB.out)) hb);clear HB;have HO156:=n0_;have HB:=n1_;clear n0_ n1_;(try clear hb);(try clear hb2);(try clear hk);(try clear hi);(try clear ho0)))
 (try simp only [Act.put,List.setIfInBounds_toArray,List.set_cons_zero,List.set_cons_succ])
 go_cut [29] (fun v29 wc => ∃ (kq : Nat) (x29_3 : Bool),v29 = .bool x29_3 ∧ Aside0 (bursarref04_Split.j0 kq t154 x29_3 = some (r1,r2)) ∧ Aside0 (kq ≤ k) ∧ Aside0 (Kd.R Kd.string 9 wc w.heap.size (fun _ => True) v155 t154) ∧ Aside0 (Below w.heap.size w wc))
 case first =>
  have H:=HC4.out
  clear HC4
  by_cases c6 : (a0.size : Int) > 64
  ·rw [if_pos c6] at H
   have c6b0 : decide (64 < (a0.size : Int)) = true:=decide_eq_true c6
   have c6b1 : decide (64 < a0.size) = true:=decide_eq_true (by omega)
   clear c6
   (first|rw [c6b0]|(simp only [i64_w,i32_w];rw [c6b0])|skip)
   have H':=Aside0.mk H
   clear H
   go_wp2
   go_meet
   case rel => exact ⟨_,(true),(by first|rfl|(simp;done)|(simp [*];done)|(simp;rw [Bool.eq_iff_iff];simp;done)|(rw [Bool.eq_iff_iff];simp;done)),H',⟨by first|omega|exact Nat.le_refl _⟩,⟨by (with_reducible repeat (first|apply Kd.R_alloc|apply Kd.R_drewN|apply Kd.R_drew));exact HO156.out⟩,⟨by repeat (first|(with_reducible first|exact HB.out|apply below_alloc|apply pw_below_drewN|apply below_drew1)|exact HB.out)⟩⟩
  rw [if_neg c6] at H
  have c6b0 : decide (64 < (a0.size : Int)) = false:=decide_eq_false c6
  have c6b1 : decide (64 < a0.size) = false:=decide_eq_false (by omega)
  clear c6
  (first|rw [c6b0]|(simp only [i64_w,i32_w];rw [c6b0])|skip)
  by_cases c7 : (t154.length : Int) < 2
  ·rw [if_pos c7] at H
   have c7b0 : decide ((t154.length : Int) < 2) = true:=decide_eq_true c7
   have c7b1 : decide (t154.length < 2) = true:=decide_eq_true (by omega)
   clear c7
   have H':=Aside0.mk H
   clear H
   obtain ⟨Ao8,co8,eo8⟩:=Kd.R_slice HO156.out
   subst eo8
   go_wp2
   go_meet
   case rel => exact ⟨_,(true),(by first|rfl|(simp;done)|(simp [*];done)|(simp;rw [Bool.eq_iff_iff];simp;done)|(rw [Bool.eq_iff_iff];simp;done)),H',⟨by first|omega|exact Nat.le_refl _⟩,⟨by (with_reducible repeat (first|apply Kd.R_alloc|apply Kd.R_drewN|apply Kd.R_drew));exact HO156.out⟩,⟨by repeat (first|(with_reducible first|exact HB.out|apply below_alloc|apply pw_below_drewN|apply below_drew1)|exact HB.out)⟩⟩
  rw [if_neg c7] at H
  have c7b0 : decide ((t154.length : Int) < 2) = false:=decide_eq_false c7
  have c7b1 : decide (t154.length < 2) = false:=decide_eq_false (by omega)
  clear c7
  by_cases c9 : (t154.length : Int) > 9
  ·rw [if_pos c9] at H
   have c9b0 : decide (9 < (t154.length : Int)) = true:=decide_eq_true c9
   have c9b1 : decide (9 < t154.length) = true:=decide_eq_true (by omega)
   clear c9
   have H':=Aside0.mk H
   clear H
   obtain ⟨Ao10,co10,eo10⟩:=Kd.R_slice HO156.out
   subst eo10
   go_wp2
   go_meet
   case rel => exact ⟨_,(true),(by first|rfl|(simp;done)|(simp [*];done)|(simp;rw [Bool.eq_iff_iff];simp;done)|(rw [Bool.eq_iff_iff];simp;done)),H',⟨by first|omega|exact Nat.le_refl _⟩,⟨by (with_reducible repeat (first|apply Kd.R_alloc|apply Kd.R_drewN|apply Kd.R_drew));exact HO156.out⟩,⟨by repeat (first|(with_reducible first|exact HB.out|apply below_alloc|apply pw_below_drewN|apply below_drew1)|exact HB.out)⟩⟩
  rw [if_neg c9] at H
  have c9b0 : decide (9 < (t154.length : Int)) = false:=decide_eq_false c9
  have c9b1 : decide (9 < t154.length) = false:=decide_eq_false (by omega)
  clear c9
  by_cases c11 : 0 < (t154.length : Int)
  rotate_left
  ·rw [if_neg c11] at H
   exact absurd H (by simp)
  rw [if_pos c11] at H
  have c11b0 : decide (0 < (t154.length : Int)) = true:=decide_eq_true c11
  have c11b1 : decide (0 < t154.length) = true:=decide_eq_true (by omega)
  clear c11
  have H':=Aside0.mk H
  clear H
  obtain ⟨Ao12,co12,eo12⟩:=Kd.R_slice HO156.out
  subst eo12
  have p157 : 0 ≤ (0 : Int):=(by omega)
  have q157 : 0 < (t154.length : Int):=of_decide_eq_true (by first|(with_reducible assumption)|assumption)
  obtain ⟨ad157,e157,hx157_0⟩:=Kd.at_string (Kd.R_reads' HO156.out).2.2 0 p157 q157
  cases e157
  have qi157 : (0 < t154.length) = True:=eq_true (by omega)
  (try rw [show ((0 : Int)).toNat = 0 from rfl] at hx157_0)
  (try rw [Addr.add_zero'] at hx157_0)
  replace p157:=eq_true p157
  replace q157:=eq_true q157
  go_wp2
  go_meet
  case rel => exact ⟨_,(((rdOf ByteArray.empty t154 0).toList != ([] : List UInt8))),(by first|rfl|(simp;done)|(simp [*];done)|(simp;rw [Bool.eq_iff_iff];simp;done)|(rw [Bool.eq_iff_iff];simp;done)),H',⟨by first|omega|exact Nat.le_refl _⟩,⟨by (with_reducible repeat (first|apply Kd.R_alloc|apply Kd.R_drewN|apply Kd.R_drew));exact HO156.out⟩,⟨by repeat (first|(with_reducible first|exact HB.out|apply below_alloc|apply pw_below_drewN|apply below_drew1)|exact HB.out)⟩⟩
 case rest =>
  clear HC4;(try clear c1);(try clear p1);(try clear q1);(try clear hx1);(try clear qi1);(try clear c2);(try clear c2b0);(try clear c2b1);(try clear p2);(try clear c6);(try clear c6b0);(try clear c6b1);(try clear c7);(try clear c7b0);(try clear c7b1);(try clear c9);(try clear c9b0);(try clear c9b1);(try clear c11);(try clear c11b0);(try clear c11b1);(try clear hx157_0);(try clear p157);(try clear q157)
  obtain ⟨kq,x29_3,rfl,HA,HJ3,HO_4,HB⟩:=hcut
  cases kq with
 |zero => exact absurd HA.out (by simp [bursarref04_Split.j0])
 |succ kj3 =>
   have H:=HA.out
   clear HA
   simp only [bursarref04_Split.j0] at H
   by_cases c13 : x29_3 = true
   ·subst c13
    have H1 : (some (([] : List ByteArray),41)) = some (r1,r2):=by rw [if_pos rfl] at H;exact H
    clear H;have H:=H1;clear H1
    simp only [Option.some.injEq,Prod.mk.injEq] at H
    obtain ⟨rfl,rfl⟩:=H
    go_wp2
    go_ret2
    exact ⟨_,by first|rfl|(simp [errW_none,errW_some] <;> rfl)|(simp [*,errW_none,errW_some] <;> rfl),Kd.Q_of_R (by first|exact Kd.R_nil _ _ _ _ _|exact Kd.N_nil _ _ _ _ _|exact Kd.V_nil _ _ _ _ _|exact Kd.Q_nil _ _ _ _ _|exact Kd.S_nil _ _ _ _ _),by repeat (first|(with_reducible first|exact HB.out|apply below_alloc|apply pw_below_drewN|apply below_drew1)|exact HB.out)⟩
   replace c13:=Bool.eq_false_iff.mpr c13
   subst c13
   have H1 : (bursarref04_Split.l0 kj3 t154 1) = some (r1,r2):=by rw [if_neg (show ¬ (false = true) by decide)] at H;exact H
   clear H;have H:=H1;clear H1
   have H':=Aside0.mk H
   clear H
   go_wp2
   go_loopg [5] kj3 (fun kq v5 w' => ∃ (x5_2 : Int),v5 = .int .i64 x5_2 ∧ Aside0 (bursarref04_Split.l0 kq t154 x5_2 = some (r1,r2)) ∧ Aside0 (kq ≤ kj3) ∧ Aside0 (Kd.R Kd.string 9 w' w.heap.size (fun _ => True) v155 t154) ∧ Aside0 (Below w.heap.size w w'))
   case atStart => exact ⟨(1),(by first|rfl|(simp;done)|(simp [*];done)|(simp;rw [Bool.eq_iff_iff];simp;done)|(rw [Bool.eq_iff_iff];simp;done)),H',⟨Nat.le_refl _⟩,⟨by (with_reducible repeat (first|apply Kd.R_alloc|apply Kd.R_drewN|apply Kd.R_drew));exact HO_4.out⟩,⟨by repeat (first|(with_reducible first|exact HB.out|apply below_alloc|apply pw_below_drewN|apply below_drew1)|exact HB.out)⟩⟩
   case round =>
    clear H';(try clear c1);(try clear p1);(try clear q1);(try clear hx1);(try clear qi1);(try clear c2);(try clear c2b0);(try clear c2b1);(try clear p2);(try clear c6);(try clear c6b0);(try clear c6b1);(try clear c7);(try clear c7b0);(try clear c7b1);(try clear c9);(try clear c9b0);(try clear c9b1);(try clear c11);(try clear c11b0);(try clear c11b1);(try clear c13);(try clear hx157_0);(try clear p1);(try clear p157);(try clear p2);(try clear q1);(try clear q157)
    obtain ⟨x5_2,rfl,HA,HK2,HO_4,HB⟩:=hrel
    cases gk with
   |zero => exact absurd HA.out (by simp [bursarref04_Split.l0])
   |succ k2 =>
     have H:=HA.out
     clear HA
     simp only [bursarref04_Split.l0] at H
     by_cases c14 : x5_2 < (t154.length : Int)
     rotate_left
     ·rw [if_neg c14] at H
      have c14b0 : decide (x5_2 < (t154.length : Int)) = false:=decide_eq_false c14
      clear c14
      by_cases c20 : 1 ≤ (t154.length : Int)
      rotate_left
      ·rw [if_neg c20] at H
       exact absurd H (by simp)
      rw [if_pos c20] at H
      have c20b0:=eq_true c20
      have c20b1 : decide (1 ≤ (t154.length : Int)) = true:=decide_eq_true c20
      clear c20
      obtain ⟨y160,hy160⟩ : ∃ y_ : List ByteArray,y_ = (t154.drop (1 : Int).toNat):=⟨_,rfl⟩
      replace H : (some (y160,0)) = some (r1,r2):=by first|(rw [hy160];with_reducible exact H)|(have H2_:=(Option.bind_some _ _).symm.trans H;rw [hy160];with_reducible exact H2_)|(have H2_:=(Option.bind_some _ _).symm.trans H;with_reducible exact H2_)|with_reducible exact H|(rw [hy160];exact H)|exact H
      have Ny160:=Aside0.mk hy160
      clear hy160
      simp only [Option.some.injEq,Prod.mk.injEq] at H
      obtain ⟨rfl,rfl⟩:=H
      obtain ⟨Ao21,co21,eo21⟩:=Kd.R_slice HO_4.out
      subst eo21
      have q22 : (1 : Int) ≤ ((t154.length : Int) : Int):=of_decide_eq_true (by first|(with_reducible assumption)|assumption)
      obtain ⟨i022,hi022,_,hsz22,_⟩:=info_parts info9
      have hcut22:=cut_from (P:=Tryd.prog) 68 9 .i64 Tryd.underlying68 hi022 1 hsz22 Ao21 t154.length co21 1 (by omega) q22
      have hr22:=Kd.Q_drop (k:=(1 : Int).toNat) (Kd.Q_of_R HO_4.out) (by omega)
      obtain ⟨A22,hA22⟩ : ∃ A1,A1 = (if co21 = (1 : Int).toNat then Ao21 else (Ao21 : Option Addr).map (·.add ((1 : Int).toNat * 1))):=⟨_,rfl⟩
      obtain ⟨c22,hc22⟩ : ∃ c1,c1 = co21 - (1 : Int).toNat:=⟨_,rfl⟩
      have hy22 : y160.length = t154.length - (1 : Int).toNat:=(by rw [Ny160.out,List.length_drop])
      rw [← Ny160.out] at hr22
      rw [← hy22,← hA22,← hc22] at hcut22
      replace hr22 : Kd.Q Kd.string 9 wr w.heap.size (fun _ => True) (.slice A22 y160.length c22) y160:=(by rw [hA22,hc22,hy22];exact hr22)
      have HE22 : Aside0 ((Value.slice A22 y160.length c22).ownBlock = (.slice Ao21 t154.length co21 : Value).ownBlock):=⟨by rw [hA22];split <;> (cases (Ao21 : Option Addr) <;> rfl)⟩
      clear hy22 hi022 hsz22 HO_4 hA22 hc22
      have HO162:=Aside0.mk hr22
      clear hr22
      replace q22:=eq_true q22
      go_wp2
      go_ret2
      exact ⟨_,by first|rfl|(simp [errW_none,errW_some] <;> rfl)|(simp [*,errW_none,errW_some] <;> rfl),by (with_reducible repeat (first|apply Kd.Q_alloc|apply Kd.Q_drewN|apply Kd.Q_drew));exact HO162.out,by repeat (first|(with_reducible first|exact HB.out|apply below_alloc|apply pw_below_drewN|apply below_drew1)|exact HB.out)⟩
     rw [if_pos c14] at H
     have c14b0 : decide (x5_2 < (t154.length : Int)) = true:=decide_eq_true c14
     clear c14
     by_cases c15 : 0 ≤ x5_2
     rotate_left
     ·rw [if_neg c15] at H
      exact absurd H (by simp)
     rw [if_pos c15] at H
     have c15b0 : decide (0 ≤ x5_2) = true:=decide_eq_true c15
     clear c15
     replace H:=Option.bind_eq_some_iff.mp H
     obtain ⟨t159,A160,H⟩:=H
     replace H : (if t159 = true then (bursarref04_Split.l0 k2 t154 (wrap64 (x5_2 + 1))) else (some (([] : List ByteArray),41))) = some (r1,r2):=H
     have A16:=Aside0.mk A160
     clear A160
     by_cases c17 : t159 = true
     rotate_left
     ·replace c17:=Bool.eq_false_iff.mpr c17
      subst c17
      have H1 : (some (([] : List ByteArray),41)) = some (r1,r2):=by rw [if_neg (show ¬ (false = true) by decide)] at H;exact H
      clear H;have H:=H1;clear H1
      simp only [Option.some.injEq,Prod.mk.injEq] at H
      obtain ⟨rfl,rfl⟩:=H
      obtain ⟨Ao19,co19,eo19⟩:=Kd.R_slice HO_4.out
      subst eo19
      have p158 : 0 ≤ (x5_2 : Int):=of_decide_eq_true (by first|(with_reducible assumption)|assumption)
      have q158 : x5_2 < (t154.length : Int):=of_decide_eq_true (by first|(with_reducible assumption)|assumption)
      obtain ⟨ad158,e158,hx158_0⟩:=Kd.at_string (Kd.R_reads' HO_4.out).2.2 x5_2 p158 q158
      cases e158
      replace p158:=eq_true p158
      replace q158:=eq_true q158
      go_wp2_with (first|((with_reducible refine gate_callee (f:=32) rfl ?_);refine goesL_ (some 40) rfl rfl Tryd.func32 (by kernel_rfl) rfl #[.string (rdOf ByteArray.empty t154 x5_2)] rfl (by (try simp only [List.map_toArray,List.map_cons,List.map_nil]);first|done|rfl|(simp only [List.length_drop,List.length_take];rfl)) ?_;(with_reducible refine (bursarref04_Name.calls k2 (rdOf ByteArray.empty t154 x5_2) false _ A16.out).mono ?_);rintro e w' ⟨rfl,⟨nd,rfl⟩⟩;refine ⟨_,rfl,?_⟩))
      go_ret2
      exact ⟨_,by first|rfl|(simp [errW_none,errW_some] <;> rfl)|(simp [*,errW_none,errW_some] <;> rfl),Kd.Q_of_R (by first|exact Kd.R_nil _ _ _ _ _|exact Kd.N_nil _ _ _ _ _|exact Kd.V_nil _ _ _ _ _|exact Kd.Q_nil _ _ _ _ _|exact Kd.S_nil _ _ _ _ _),by repeat (first|(with_reducible first|exact HB.out|apply below_alloc|apply pw_below_drewN|apply below_drew1)|exact HB.out)⟩
     subst c17
     have H1 : (bursarref04_Split.l0 k2 t154 (wrap64 (x5_2 + 1))) = some (r1,r2):=by rw [if_pos rfl] at H;exact H
     clear H;have H:=H1;clear H1
     have H':=Aside0.mk H
     clear H
     obtain ⟨Ao18,co18,eo18⟩:=Kd.R_slice HO_4.out
     subst eo18
     have p158 : 0 ≤ (x5_2 : Int):=of_decide_eq_true (by first|(with_reducible assumption)|assumption)
     have q158 : x5_2 < (t154.length : Int):=of_decide_eq_true (by first|(with_reducible assumption)|assumption)
     obtain ⟨ad158,e158,hx158_0⟩:=Kd.at_string (Kd.R_reads' HO_4.out).2.2 x5_2 p158 q158
     cases e158
     replace p158:=eq_true p158
     replace q158:=eq_true q158
     go_wp2_with (first|((with_reducible refine gate_callee (f:=32) rfl ?_);refine goesL_ (some 40) rfl rfl Tryd.func32 (by kernel_rfl) rfl #[.string (rdOf ByteArray.empty t154 x5_2)] rfl (by (try simp only [List.map_toArray,List.map_cons,List.map_nil]);first|done|rfl|(simp only [List.length_drop,List.length_take];rfl)) ?_;(with_reducible refine (bursarref04_Name.calls k2 (rdOf ByteArray.empty t154 x5_2) true _ A16.out).mono ?_);rintro e w' ⟨rfl,⟨nd,rfl⟩⟩;refine ⟨_,rfl,?_⟩))
     go_roundg k2
     case measure => have:=HJ3.out;have:=HK2.out;omega
     case rel => exact ⟨(wrap64 (x5_2 + 1)),(by first|rfl|(simp;done)|(simp [*];done)|(simp;rw [Bool.eq_iff_iff];simp;done)|(rw [Bool.eq_iff_iff];simp;done)),H',⟨by have:=HJ3.out;have:=HK2.out;omega⟩,⟨by (with_reducible repeat (first|apply Kd.R_alloc|apply Kd.R_drewN|apply Kd.R_drew));exact HO_4.out⟩,⟨by repeat (first|(with_reducible first|exact HB.out|apply below_alloc|apply pw_below_drewN|apply below_drew1)|exact HB.out)⟩⟩
end Go.Proofs.YtniolbolfclhkaaDoor.Q
namespace Go.Proofs.YtniolbolfclhkaaDoor.Q
open Go.RowKit Go.Proofs.YtniolbolfclhkaaDoorW.PrintWords Go.Proofs.YtniolbolfclhkaaDoorW.PrintLast Go.Proofs.YtniolbolfclhkaaDoorW.PrintMore
attribute [local go_sem] max2_int min2_int max_two min_two max_three min_three max_four min_four   -- for this text's walks alone
set_option linter.unusedVariables false
set_option linter.unusedSimpArgs false
def bursarref04_Path.f (k : Nat) (a0 : ByteArray) : Option (Int) := (bursarref04_Split.f k a0).bind fun bt163 => (some bt163.2)
theorem bursarref04_Path.mono : ∀ a0 k, LeO (bursarref04_Path.f k a0) (bursarref04_Path.f (k + 1) a0) := by
 intro a0 k
 unfold bursarref04_Path.f
 repeat' first
  |(with_reducible exact bursarref04_Split.mono _ _)
  |(with_reducible exact LeO.refl _)
  |(with_reducible exact LeO.none _)
  |(with_reducible refine LeO.ite ?_ ?_)
  |(with_reducible refine LeO.bind ?_ (fun _ => ?_))
  |exact bursarref04_Split.mono _ _
  |exact LeO.none _
  |refine LeO.ite ?_ ?_
  |refine LeO.bind ?_ (fun _ => ?_)
set_option maxHeartbeats 8000000 in
set_option maxRecDepth 100000 in
theorem bursarref04_Path.calls (k : Nat) (a0 : ByteArray) (r : Int) (w : World) (h : bursarref04_Path.f k a0 = some r) :
  Calls Tryd.prog 31 #[.string a0] w fun e w' => e = .returned (.int .i64 r) ∧ Below w.heap.size w w':=by
 have HB:=Aside0.mk (Below.refl w.heap.size w)
 have H : ((bursarref04_Split.f k a0).bind fun bt163 => (some bt163.2)) = some r:=h
 clear h
 replace H:=Option.bind_eq_some_iff.mp H
 obtain ⟨⟨t163,t164⟩,A20,H⟩:=H
 replace H : (some t164) = some r:=H
 have A2:=Aside0.mk A20
 clear A20
 obtain rfl:=Option.some.inj H
 go_enter Tryd.func31,Tryd.ntmps31
 go_wp2_with (first|((with_reducible refine gate_callee (f:=60) rfl ?_);refine goesL_ (some 7) rfl rfl Tryd.func60 (by kernel_rfl) rfl #[.string a0] rfl (by (try simp only [List.map_toArray,List.map_cons,List.map_nil]);first|done|rfl|(simp only [List.length_drop,List.length_take];rfl)) ?_;(with_reducible refine (bursarref04_Split.calls k a0 t163 t164 _ A2.out).mono ?_);rintro e w3 ⟨v165,rfl,ho0,hb⟩;refine ⟨_,rfl,?_⟩;have n0_:=Aside0.mk (Kd.Q_lower ho0 (below_size (by repeat (first|(with_reducible first|exact HB.out|apply below_alloc|apply pw_below_drewN|apply below_drew1)|exact HB.out))));have n1_:=Aside0.mk (below_step (by repeat (first|(with_reducible first|exact HB.out|apply below_alloc|apply pw_below_drewN|apply below_drew1)|exact HB.out)) hb);clear HB;have HO166:=n0_;have HB:=n1_;clear n0_ n1_;(try clear hb);(try clear hb2);(try clear hk);(try clear hi);(try clear ho0)))
 go_ret
 exact ⟨by first|rfl|(simp [errW_none,errW_some] <;> rfl)|(simp [*,errW_none,errW_some] <;> rfl),by repeat (first|(with_reducible first|exact HB.out|apply below_alloc|apply pw_below_drewN|apply below_drew1)|exact HB.out)⟩
end Go.Proofs.YtniolbolfclhkaaDoor.Q
namespace Go.Proofs.YtniolbolfclhkaaDoor.Q
open Go.RowKit Go.Proofs.YtniolbolfclhkaaDoorW.PrintWords Go.Proofs.YtniolbolfclhkaaDoorW.PrintLast Go.Proofs.YtniolbolfclhkaaDoorW.PrintMore
attribute [local go_sem] max2_int min2_int max_two min_two max_three min_three max_four min_four   -- for this text's walks alone
set_option linter.unusedVariables false
set_option linter.unusedSimpArgs false
mutual
def bursarref05_Make.j0 : Nat → List ByteArray → Bool → Option (ByteArray × Int)
|0,_,_ => none
|k + 1,x0,x14 => if x14 = true then (some ((⟨#[]⟩ : ByteArray),1)) else (bursarref05_Make.l0 k x0 ([] : List Int) 0)
def bursarref05_Make.l0 : Nat → List ByteArray → List Int → Int → Option (ByteArray × Int)
|0,_,_,_ => none
|k + 1,x0,x4,x5 => if x5 < (x0.length : Int) then (bursarref05_Make.l1 k x0 x4 x5 0) else (if (x4.length : Int) > 120 then (some ((⟨#[]⟩ : ByteArray),23)) else (some (strOfNums x4,0)))
def bursarref05_Make.l1 : Nat → List ByteArray → List Int → Int → Int → Option (ByteArray × Int)
|0,_,_,_,_ => none
|k + 1,x0,x4,x5,x6 => if 0 ≤ x5 then (if x5 < (x0.length : Int) then (if x6 < ((rdOf ByteArray.empty x0 x5).size : Int) then (if 0 ≤ x6 then (if x4.length < 140737488355328 then ((some (x4 ++ [bt (rdOf ByteArray.empty x0 x5) x6] : List Int)).bind fun y169 => (if (bt (rdOf ByteArray.empty x0 x5) x6) = 0 then (if y169.length < 140737488355328 then (bursarref05_Make.l1 k x0 (y169 ++ [255]) x5 (wrap64 (x6 + 1))) else (none)) else (bursarref05_Make.l1 k x0 y169 x5 (wrap64 (x6 + 1))))) else (none)) else (none)) else ((some (([0,1] : List Int) : List Int)).bind fun y176 => (if x4.length + y176.length < 140737488355328 then (bursarref05_Make.l0 k x0 (x4 ++ y176) (wrap64 (x5 + 1))) else (none)))) else (none)) else (none)
end
def bursarref05_Make.f (k : Nat) (l0 : List ByteArray) : Option (ByteArray × Int) := if (l0.length : Int) < 1 then (bursarref05_Make.j0 k l0 true) else (bursarref05_Make.j0 k l0 (decide ((l0.length : Int) > 8)))
theorem bursarref05_Make.mono_l : ∀ k, (∀ y0 y1, LeO (bursarref05_Make.j0 k y0 y1) (bursarref05_Make.j0 (k + 1) y0 y1)) ∧ (∀ y0 y1 y2, LeO (bursarref05_Make.l0 k y0 y1 y2) (bursarref05_Make.l0 (k + 1) y0 y1 y2)) ∧ (∀ y0 y1 y2 y3, LeO (bursarref05_Make.l1 k y0 y1 y2 y3) (bursarref05_Make.l1 (k + 1) y0 y1 y2 y3))
|0 => ⟨fun _ _ r h => by simp [bursarref05_Make.j0] at h,fun _ _ _ r h => by simp [bursarref05_Make.l0] at h,fun _ _ _ _ r h => by simp [bursarref05_Make.l1] at h⟩
|k + 1 => by
  obtain ⟨ih0,ih1,ih2⟩:=bursarref05_Make.mono_l k
  refine ⟨?_,?_,?_⟩
  ·intro y0 y1
   unfold bursarref05_Make.j0
   repeat' first
  |(with_reducible exact ih0 _ _)
  |(with_reducible exact ih1 _ _ _)
  |(with_reducible exact ih2 _ _ _ _)
  |(with_reducible exact LeO.refl _)
  |(with_reducible exact LeO.none _)
  |(with_reducible refine LeO.ite ?_ ?_)
  |(with_reducible refine LeO.bind ?_ (fun _ => ?_))
  |exact ih0 _ _
  |exact ih1 _ _ _
  |exact ih2 _ _ _ _
  |exact LeO.none _
  |refine LeO.ite ?_ ?_
  |refine LeO.bind ?_ (fun _ => ?_)
  ·intro y0 y1 y2
   unfold bursarref05_Make.l0
   repeat' first
  |(with_reducible exact ih0 _ _)
  |(with_reducible exact ih1 _ _ _)
  |(with_reducible exact ih2 _ _ _ _)
  |(with_reducible exact LeO.refl _)
  |(with_reducible exact LeO.none _)
  |(with_reducible refine LeO.ite ?_ ?_)
  |(with_reducible refine LeO.bind ?_ (fun _ => ?_))
  |exact ih0 _ _
  |exact ih1 _ _ _
  |exact ih2 _ _ _ _
  |exact LeO.none _
  |refine LeO.ite ?_ ?_
  |refine LeO.bind ?_ (fun _ => ?_)
  ·intro y0 y1 y2 y3
   unfold bursarref05_Make.l1
   repeat' first
  |(with_reducible exact ih0 _ _)
  |(with_reducible exact ih1 _ _ _)
  |(with_reducible exact ih2 _ _ _ _)
  |(with_reducible exact LeO.refl _)
  |(with_reducible exact LeO.none _)
  |(with_reducible refine LeO.ite ?_ ?_)
  |(with_reducible refine LeO.bind ?_ (fun _ => ?_))
  |exact ih0 _ _
  |exact ih1 _ _ _
  |exact ih2 _ _ _ _
  |exact LeO.none _
  |refine LeO.ite ?_ ?_
  |refine LeO.bind ?_ (fun _ => ?_)
theorem bursarref05_Make.mono : ∀ a0 k, LeO (bursarref05_Make.f k a0) (bursarref05_Make.f (k + 1) a0) := by
 intro a0 k
 obtain ⟨ih0,ih1,ih2⟩:=bursarref05_Make.mono_l k
 unfold bursarref05_Make.f
 repeat' first
  |(with_reducible exact ih0 _ _)
  |(with_reducible exact ih1 _ _ _)
  |(with_reducible exact ih2 _ _ _ _)
  |(with_reducible exact LeO.refl _)
  |(with_reducible exact LeO.none _)
  |(with_reducible refine LeO.ite ?_ ?_)
  |(with_reducible refine LeO.bind ?_ (fun _ => ?_))
  |exact ih0 _ _
  |exact ih1 _ _ _
  |exact ih2 _ _ _ _
  |exact LeO.none _
  |refine LeO.ite ?_ ?_
  |refine LeO.bind ?_ (fun _ => ?_)
set_option maxHeartbeats 8000000 in
set_option maxRecDepth 100000 in
theorem bursarref05_Make.calls (k : Nat) (A0 : Option Addr) (c0 : Nat) (l0 : List ByteArray) (r1 : ByteArray) (r2 : Int) (w : World) (hr0 : Kd.C Kd.string w A0 l0.length l0) (hc0 : l0.length ≤ c0) (h : bursarref05_Make.f k l0 = some (r1, r2)) :
  Calls Tryd.prog 33 #[.slice A0 l0.length c0] w fun e w' => e = .returned (.tuple #[.string r1,.int .i64 r2]) ∧ Below w.heap.size w w':=by
 have HR0:=Aside0.mk hr0
 have HC0:=Aside0.mk hc0
 clear hr0 hc0
 have HB:=Aside0.mk (Below.refl w.heap.size w)
 have H : (if (l0.length : Int) < 1 then (bursarref05_Make.j0 k l0 true) else (bursarref05_Make.j0 k l0 (decide ((l0.length : Int) > 8)))) = some (r1,r2):=h
 clear h
 have HC2:=Aside0.mk H
 clear H
 go_enter Tryd.func33,Tryd.ntmps33
 go_upto_region 1 with (fail)
 go_cut [14] (fun v14 wc => ∃ (kq : Nat) (x14_1 : Bool),v14 = .bool x14_1 ∧ Aside0 (bursarref05_Make.j0 kq l0 x14_1 = some (r1,r2)) ∧ Aside0 (kq ≤ k) ∧ Aside0 (Below w.heap.size w wc))
 case first =>
  have H:=HC2.out
  clear HC2
  by_cases c3 : (l0.length : Int) < 1
  ·rw [if_pos c3] at H
   have c3b0 : decide ((l0.length : Int) < 1) = true:=decide_eq_true c3
   have c3b1 : decide (l0.length < 1) = true:=decide_eq_true (by omega)
   clear c3
   (first|rw [c3b0]|(simp only [i64_w,i32_w];rw [c3b0])|skip)
   have H':=Aside0.mk H
   clear H
   go_wp2
   go_meet
   case rel => exact ⟨_,(true),(by first|rfl|(simp;done)|(simp [*];done)|(simp;rw [Bool.eq_iff_iff];simp;done)|(rw [Bool.eq_iff_iff];simp;done)),H',⟨by first|omega|exact Nat.le_refl _⟩,⟨by repeat (first|(with_reducible first|exact HB.out|apply below_alloc|apply pw_below_drewN|apply below_drew1)|exact HB.out)⟩⟩
  rw [if_neg c3] at H
  have c3b0 : decide ((l0.length : Int) < 1) = false:=decide_eq_false c3
  have c3b1 : decide (l0.length < 1) = false:=decide_eq_false (by omega)
  clear c3
  (first|rw [c3b0]|(simp only [i64_w,i32_w];rw [c3b0])|skip)
  have H':=Aside0.mk H
  clear H
  go_wp2
  go_meet
  case rel => exact ⟨_,(decide ((l0.length : Int) > 8)),(by first|rfl|(simp;done)|(simp [*];done)|(simp;rw [Bool.eq_iff_iff];simp;done)|(rw [Bool.eq_iff_iff];simp;done)),H',⟨by first|omega|exact Nat.le_refl _⟩,⟨by repeat (first|(with_reducible first|exact HB.out|apply below_alloc|apply pw_below_drewN|apply below_drew1)|exact HB.out)⟩⟩
 case rest =>
  clear HC2;(try clear p2);(try clear c3);(try clear c3b0);(try clear c3b1)
  obtain ⟨kq,x14_1,rfl,HA,HJ1,HB⟩:=hcut
  cases kq with
 |zero => exact absurd HA.out (by simp [bursarref05_Make.j0])
 |succ kj1 =>
   have H:=HA.out
   clear HA
   simp only [bursarref05_Make.j0] at H
   by_cases c4 : x14_1 = true
   ·subst c4
    have H1 : (some ((⟨#[]⟩ : ByteArray),1)) = some (r1,r2):=by rw [if_pos rfl] at H;exact H
    clear H;have H:=H1;clear H1
    simp only [Option.some.injEq,Prod.mk.injEq] at H
    obtain ⟨rfl,rfl⟩:=H
    go_wp2
    go_ret2
    exact ⟨by first|rfl|(simp [errW_none,errW_some] <;> rfl)|(simp [*,errW_none,errW_some] <;> rfl),by repeat (first|(with_reducible first|exact HB.out|apply below_alloc|apply pw_below_drewN|apply below_drew1)|exact HB.out)⟩
   replace c4:=Bool.eq_false_iff.mpr c4
   subst c4
   have H1 : (bursarref05_Make.l0 kj1 l0 ([] : List Int) 0) = some (r1,r2):=by rw [if_neg (show ¬ (false = true) by decide)] at H;exact H
   clear H;have H:=H1;clear H1
   have H':=Aside0.mk H
   clear H
   go_wp2
   go_loopg [4,5] kj1 (fun kq v4 v5 w' => ∃ (x4_2 : List Int) (x5_2 : Int),v5 = .int .i64 x5_2 ∧ Aside0 (bursarref05_Make.l0 kq l0 x4_2 x5_2 = some (r1,r2)) ∧ Aside0 (kq ≤ kj1) ∧ Aside0 (Kd.R (Kd.int .u8) 5 w' w.heap.size (fun _ => True) v4 x4_2) ∧ Aside0 (Below w.heap.size w w'))
   case atStart => exact ⟨(([] : List Int)),(0),(by first|rfl|(simp;done)|(simp [*];done)|(simp;rw [Bool.eq_iff_iff];simp;done)|(rw [Bool.eq_iff_iff];simp;done)),H',⟨Nat.le_refl _⟩,⟨by first|exact Kd.R_nil _ _ _ _ _|exact Kd.N_nil _ _ _ _ _|exact Kd.V_nil _ _ _ _ _|exact Kd.Q_nil _ _ _ _ _|exact Kd.S_nil _ _ _ _ _⟩,⟨by repeat (first|(with_reducible first|exact HB.out|apply below_alloc|apply pw_below_drewN|apply below_drew1)|exact HB.out)⟩⟩
   case round =>
    clear H';(try clear p2);(try clear c3);(try clear c3b0);(try clear c3b1);(try clear c4);(try clear p2)
    obtain ⟨x4_2,x5_2,rfl,HA,HK2,HO_4,HB⟩:=hrel
    cases gk with
   |zero => exact absurd HA.out (by simp [bursarref05_Make.l0])
   |succ k2 =>
     have H:=HA.out
     clear HA
     simp only [bursarref05_Make.l0] at H
     by_cases c5 : x5_2 < (l0.length : Int)
     rotate_left
     ·rw [if_neg c5] at H
      have c5b0 : decide (x5_2 < (l0.length : Int)) = false:=decide_eq_false c5
      clear c5
      by_cases c23 : (x4_2.length : Int) > 120
      ·rw [if_pos c23] at H
       have c23b0 : decide (120 < (x4_2.length : Int)) = true:=decide_eq_true c23
       have c23b1 : decide (120 < x4_2.length) = true:=decide_eq_true (by omega)
       clear c23
       simp only [Option.some.injEq,Prod.mk.injEq] at H
       obtain ⟨rfl,rfl⟩:=H
       obtain ⟨Ao24,co24,eo24⟩:=Kd.R_slice HO_4.out
       subst eo24
       go_wp2
       go_ret2
       exact ⟨by first|rfl|(simp [errW_none,errW_some] <;> rfl)|(simp [*,errW_none,errW_some] <;> rfl),by repeat (first|(with_reducible first|exact HB.out|apply below_alloc|apply pw_below_drewN|apply below_drew1)|exact HB.out)⟩
      rw [if_neg c23] at H
      have c23b0 : decide (120 < (x4_2.length : Int)) = false:=decide_eq_false c23
      have c23b1 : decide (120 < x4_2.length) = false:=decide_eq_false (by omega)
      clear c23
      simp only [Option.some.injEq,Prod.mk.injEq] at H
      obtain ⟨rfl,rfl⟩:=H
      obtain ⟨Ao25,co25,eo25⟩:=Kd.R_slice HO_4.out
      subst eo25
      have hcv26:=own_string (P:=Tryd.prog) Tryd.underlying51 Tryd.underlying5 Tryd.underlying9 (Kd.own_of_R HO_4.out)
      go_wp2
      go_ret2
      exact ⟨by first|rfl|(simp [errW_none,errW_some] <;> rfl)|(simp [*,errW_none,errW_some] <;> rfl),by repeat (first|(with_reducible first|exact HB.out|apply below_alloc|apply pw_below_drewN|apply below_drew1)|exact HB.out)⟩
     rw [if_pos c5] at H
     have c5b0 : decide (x5_2 < (l0.length : Int)) = true:=decide_eq_true c5
     clear c5
     have H':=Aside0.mk H
     clear H
     go_wp2
     go_loopg [4,6] k2 (fun kq v4 v6 w' => ∃ (x4_3 : List Int) (x6_3 : Int),v6 = .int .i64 x6_3 ∧ Aside0 (bursarref05_Make.l1 kq l0 x4_3 x5_2 x6_3 = some (r1,r2)) ∧ Aside0 (kq ≤ k2) ∧ Aside0 (Kd.R (Kd.int .u8) 5 w' w.heap.size (fun _ => True) v4 x4_3) ∧ Aside0 (Below w.heap.size w w'))
     case atStart => exact ⟨(x4_2),(0),(by first|rfl|(simp;done)|(simp [*];done)|(simp;rw [Bool.eq_iff_iff];simp;done)|(rw [Bool.eq_iff_iff];simp;done)),H',⟨Nat.le_refl _⟩,⟨by (with_reducible repeat (first|apply Kd.R_alloc|apply Kd.R_drewN|apply Kd.R_drew));exact HO_4.out⟩,⟨by repeat (first|(with_reducible first|exact HB.out|apply below_alloc|apply pw_below_drewN|apply below_drew1)|exact HB.out)⟩⟩
     case round =>
      clear H';(try clear p2);(try clear c3);(try clear c3b0);(try clear c3b1);(try clear c4);(try clear c5);(try clear c5b0);(try clear p2)
      obtain ⟨x4_3,x6_3,rfl,HA,HK3,HO_4,HB⟩:=hrel
      cases gk with
     |zero => exact absurd HA.out (by simp [bursarref05_Make.l1])
     |succ k3 =>
       have H:=HA.out
       clear HA
       simp only [bursarref05_Make.l1] at H
       by_cases c6 : 0 ≤ x5_2
       rotate_left
       ·rw [if_neg c6] at H
        exact absurd H (by simp)
       rw [if_pos c6] at H
       have c6b0 : decide (0 ≤ x5_2) = true:=decide_eq_true c6
       clear c6
       by_cases c7 : x5_2 < (l0.length : Int)
       rotate_left
       ·rw [if_neg c7] at H
        exact absurd H (by simp)
       rw [if_pos c7] at H
       have c7b0 : decide (x5_2 < (l0.length : Int)) = true:=decide_eq_true c7
       clear c7
       by_cases c8 : x6_3 < ((rdOf ByteArray.empty l0 x5_2).size : Int)
       rotate_left
       ·rw [if_neg c8] at H
        have c8b0 : decide (x6_3 < ((rdOf ByteArray.empty l0 x5_2).size : Int)) = false:=decide_eq_false c8
        clear c8
        obtain ⟨y176,hy176⟩ : ∃ y_ : List Int,y_ = (([0,1] : List Int)):=⟨_,rfl⟩
        replace H : (if x4_3.length + y176.length < 140737488355328 then (bursarref05_Make.l0 k3 l0 (x4_3 ++ y176) (wrap64 (x5_2 + 1))) else (none)) = some (r1,r2):=by first|(rw [hy176];with_reducible exact H)|(have H2_:=(Option.bind_some _ _).symm.trans H;rw [hy176];with_reducible exact H2_)|(have H2_:=(Option.bind_some _ _).symm.trans H;with_reducible exact H2_)|with_reducible exact H|(rw [hy176];exact H)|exact H
        have Ny176:=Aside0.mk hy176
        clear hy176
        by_cases c18 : x4_3.length + y176.length < 140737488355328
        rotate_left
        ·rw [if_neg c18] at H
         exact absurd H (by simp)
        rw [if_pos c18] at H
        have LMc18:=Aside0.mk c18
        clear c18
        obtain ⟨y179,hy179⟩ : ∃ y_ : List Int,y_ = (x4_3 ++ y176):=⟨_,rfl⟩
        replace H : (bursarref05_Make.l0 k3 l0 y179 (wrap64 (x5_2 + 1))) = some (r1,r2):=by first|(rw [hy179];with_reducible exact H)|(have H2_:=(Option.bind_some _ _).symm.trans H;rw [hy179];with_reducible exact H2_)|(have H2_:=(Option.bind_some _ _).symm.trans H;with_reducible exact H2_)|with_reducible exact H|(rw [hy179];exact H)|exact H
        have Ny179:=Aside0.mk hy179
        clear hy179
        have H':=Aside0.mk H
        clear H
        have p167 : 0 ≤ (x5_2 : Int):=of_decide_eq_true (by first|(with_reducible assumption)|assumption)
        have q167 : x5_2 < (l0.length : Int):=of_decide_eq_true (by first|(with_reducible assumption)|assumption)
        obtain ⟨ad167,e167,hx167_0⟩:=Kd.at_string HR0.out x5_2 p167 q167
        cases e167
        replace hx167_0:=(HB.out.cell (World.block_lt_of_cell? w _ hx167_0)).trans hx167_0
        replace p167:=eq_true p167
        replace q167:=eq_true q167
        go_wp2_with (first|((with_reducible refine gate_dst (N:=50) rfl ?_);(try (refine gate_guard (by rfl) ?_;dsimp only));refine Kd.R_lit (Kd.int .u8) _ 5 ?hg (N:=50) ?hd (xs:=([0,1] : List Int)) (inner:=[.int .u8 0,.int .u8 1]) (ok:=fun _ => True) (okp:=fun _ => True) ?hr ?hp (fun _ hk => hk) trivial (Below.refl _ _) (Nat.le_refl _) (by simp) ?_;(case hd => rfl);(case hg => rfl);(case hr => first|(go_simp;done)|(go_simp;rfl));(case hp => exact (Reps.one (show Kd.M (Kd.int .u8) _ _ _ 0 [.int .u8 0] from rfl) (Reps.one (show Kd.M (Kd.int .u8) _ _ _ 1 [.int .u8 1] from rfl) (Reps.none _ _))));intro v177 w19 ho20 hb hg_ hnew_;clear hg_ hnew_;(first|rw [← Ny176.out] at ho20|(simp only [Int.reduceToNat] at ho20;rw [← Ny176.out] at ho20));have n0_:=Aside0.mk (Kd.R_elder' (by (with_reducible repeat (first|apply Kd.R_alloc|apply Kd.R_drewN|apply Kd.R_drew));exact HO_4.out) (Kd.R_base ho20) hb);have n1_:=Aside0.mk (Kd.R_lower (Kd.R_new' ho20 (Kd.R_lt (by (with_reducible repeat (first|apply Kd.R_alloc|apply Kd.R_drewN|apply Kd.R_drew));exact HO_4.out))) (below_size (by repeat (first|(with_reducible first|exact HB.out|apply below_alloc|apply pw_below_drewN|apply below_drew1)|exact HB.out))));have n2_:=Aside0.mk (below_step (by repeat (first|(with_reducible first|exact HB.out|apply below_alloc|apply pw_below_drewN|apply below_drew1)|exact HB.out)) hb);clear HO_4;clear HB;have HO_4:=n0_;have HO178:=n1_;have HB:=n2_;clear n0_ n1_ n2_;clear hb ho20;obtain ⟨Ao22,co22,eo22⟩:=Kd.R_slice HO178.out;subst eo22)|((with_reducible refine gate_builtin (b:=.append) (xs:=#[.tmp 49,.tmp 50]) rfl ?_);(try (refine gate_guard (by rfl) ?_;dsimp only));at_builtin;refine Kd.R_append_rows (Kd.int .u8) (w0:=w) w.heap.size rfl (.tmp 49) (.tmp 50) 51 5 (.int .u8 0) 1 rfl Tryd.underlying51 info5 rfl (by decide) (by omega) u4 x4_3 y176 _ _ _ (fun k_ => some k_ ≠ (.slice Ao22 y176.length co22 : Value).ownBlock) (fun _ => False) rfl rfl ?aO ?aR (fun _ _ h => h) (fun _ h => h.elim) ?aF ?aB ?aS ?aL ?_;(case aR => repeat (first|exact (Kd.R_reads' HO178.out).2.2|(with_reducible refine Kd.C_alloc ?_ _)|(with_reducible refine Kd.C_drewN ?_ _)|(with_reducible refine Kd.C_drew ?_)));(case aB => exact (by repeat (first|(with_reducible first|exact HB.out|apply below_alloc|apply pw_below_drewN|apply below_drew1)|exact HB.out)));(case aF => exact (fun k_ hk => Kd.fresh' (Kd.R_lt (by (with_reducible repeat (first|apply Kd.R_alloc|apply Kd.R_drewN|apply Kd.R_drew));exact HO178.out)) k_ hk));(case aO => exact (by (with_reducible repeat (first|apply Kd.R_alloc|apply Kd.R_drewN|apply Kd.R_drew));exact Kd.R_mono HO_4.out (fun _ hk => hk.2)));(case aS => exact (below_size (by repeat (first|(with_reducible first|exact HB.out|apply below_alloc|apply pw_below_drewN|apply below_drew1)|exact HB.out))));(case aL => have:=LMc18.out;omega);intro v180 w21 ho hb hg hat;rw [← Ny179.out] at ho;have n0_:=Aside0.mk (Kd.R_after (ok:=(fun _ => True)) (by (with_reducible repeat (first|apply Kd.R_alloc|apply Kd.R_drewN|apply Kd.R_drew));exact HO178.out) hg hat);have n1_:=Aside0.mk (hb);have n2_:=Aside0.mk (ho);clear HO178;clear HB;clear HO_4;have HO178:=n0_;have HB:=n1_;have HO181:=n2_;clear n0_ n1_ n2_;clear ho hb hg hat))
        go_roundg k3
        case measure => have:=HJ1.out;have:=HK2.out;have:=HK3.out;omega
        case rel => exact ⟨(y179),(wrap64 (x5_2 + 1)),(by first|rfl|(simp;done)|(simp [*];done)|(simp;rw [Bool.eq_iff_iff];simp;done)|(rw [Bool.eq_iff_iff];simp;done)),H',⟨by have:=HJ1.out;have:=HK2.out;have:=HK3.out;omega⟩,⟨by (with_reducible repeat (first|apply Kd.R_alloc|apply Kd.R_drewN|apply Kd.R_drew));exact Kd.R_mono HO181.out (fun _ hk => trivial)⟩,⟨by repeat (first|(with_reducible first|exact HB.out|apply below_alloc|apply pw_below_drewN|apply below_drew1)|exact HB.out)⟩⟩
       rw [if_pos c8] at H
       have c8b0 : decide (x6_3 < ((rdOf ByteArray.empty l0 x5_2).size : Int)) = true:=decide_eq_true c8
       clear c8
       by_cases c9 : 0 ≤ x6_3
       rotate_left
       ·rw [if_neg c9] at H
        exact absurd H (by simp)
       rw [if_pos c9] at H
       have c9b0 : decide (0 ≤ x6_3) = true:=decide_eq_true c9
       clear c9
       by_cases c11 : x4_3.length < 140737488355328
       rotate_left
       ·rw [if_neg c11] at H
        exact absurd H (by simp)
       rw [if_pos c11] at H
       have LMc11:=Aside0.mk c11
       clear c11
       obtain ⟨y169,hy169⟩ : ∃ y_ : List Int,y_ = (x4_3 ++ [bt (rdOf ByteArray.empty l0 x5_2) x6_3]):=⟨_,rfl⟩
       replace H : (if (bt (rdOf ByteArray.empty l0 x5_2) x6_3) = 0 then (if y169.length < 140737488355328 then (bursarref05_Make.l1 k3 l0 (y169 ++ [255]) x5_2 (wrap64 (x6_3 + 1))) else (none)) else (bursarref05_Make.l1 k3 l0 y169 x5_2 (wrap64 (x6_3 + 1)))) = some (r1,r2):=by first|(rw [hy169];with_reducible exact H)|(have H2_:=(Option.bind_some _ _).symm.trans H;rw [hy169];with_reducible exact H2_)|(have H2_:=(Option.bind_some _ _).symm.trans H;with_reducible exact H2_)|with_reducible exact H|(rw [hy169];exact H)|exact H
       have Ny169:=Aside0.mk hy169
       clear hy169
       by_cases c13 : (bt (rdOf ByteArray.empty l0 x5_2) x6_3) = 0
       rotate_left
       ·rw [if_neg c13] at H
        have c13b0 : ((bt (rdOf ByteArray.empty l0 x5_2) x6_3) == 0) = false:=beq_eq_false_iff_ne.mpr c13
        have c13b1 : ((bt (rdOf ByteArray.empty l0 x5_2) x6_3) != 0) = true:=bne_iff_ne.mpr c13
        have H':=Aside0.mk H
        clear H
        have p167 : 0 ≤ (x5_2 : Int):=of_decide_eq_true (by first|(with_reducible assumption)|assumption)
        have q167 : x5_2 < (l0.length : Int):=of_decide_eq_true (by first|(with_reducible assumption)|assumption)
        obtain ⟨ad167,e167,hx167_0⟩:=Kd.at_string HR0.out x5_2 p167 q167
        cases e167
        replace hx167_0:=(HB.out.cell (World.block_lt_of_cell? w _ hx167_0)).trans hx167_0
        replace p167:=eq_true p167
        replace q167:=eq_true q167
        have p168 : 0 ≤ (x5_2 : Int):=of_decide_eq_true (by first|(with_reducible assumption)|assumption)
        have q168 : x5_2 < (l0.length : Int):=of_decide_eq_true (by first|(with_reducible assumption)|assumption)
        obtain ⟨ad168,e168,hx168_0⟩:=Kd.at_string HR0.out x5_2 p168 q168
        obtain rfl : ad167 = ad168:=(by injection e168)
        replace hx168_0:=(HB.out.cell (World.block_lt_of_cell? w _ hx168_0)).trans hx168_0
        replace p168:=eq_true p168
        replace q168:=eq_true q168
        have p10 : 0 ≤ (x6_3 : Int):=of_decide_eq_true (by first|(with_reducible assumption)|assumption)
        have q10 : x6_3 < ((rdOf ByteArray.empty l0 x5_2).size : Int):=of_decide_eq_true (by first|(with_reducible assumption)|assumption)
        have hx10:=bt_at (rdOf ByteArray.empty l0 x5_2) x6_3
        replace p10:=eq_true p10
        replace q10:=eq_true q10
        go_wp2_with (first|((with_reducible refine gate_builtin (b:=.append) (xs:=#[.tmp 30,.tmp 37]) rfl ?_);(try (refine gate_guard (by rfl) ?_;dsimp only));at_builtin;refine Kd.R_append (Kd.int .u8) (w0:=w) w.heap.size rfl (.tmp 30) (.tmp 37) 51 5 (.int .u8 0) 1 rfl Tryd.underlying51 info5 rfl (by decide) (by omega) u4 x4_3 (bt (rdOf ByteArray.empty l0 x5_2) x6_3) [.int .u8 (bt (rdOf ByteArray.empty l0 x5_2) x6_3)] (fun _ => True) (fun _ => False) rfl rfl ?aP (fun _ hk => hk.elim) ?aF ?aO ?aB ?aS ?aL ?_;(case aP => exact rfl);(case aB => exact (by repeat (first|(with_reducible first|exact HB.out|apply below_alloc|apply pw_below_drewN|apply below_drew1)|exact HB.out)));(case aF => exact (fun _ _ => trivial));(case aO => exact (by (with_reducible repeat (first|apply Kd.R_alloc|apply Kd.R_drewN|apply Kd.R_drew));exact HO_4.out));(case aS => exact (below_size (by repeat (first|(with_reducible first|exact HB.out|apply below_alloc|apply pw_below_drewN|apply below_drew1)|exact HB.out))));(case aL => have:=LMc11.out;omega);intro v170 w17 ho hb hg hat;rw [← Ny169.out] at ho;have n0_:=Aside0.mk (hb);have n1_:=Aside0.mk (ho);clear HB;clear HO_4;have HB:=n0_;have HO171:=n1_;clear n0_ n1_;clear ho hb hg hat;have p172 : 0 ≤ (x5_2 : Int):=of_decide_eq_true (by first|(with_reducible assumption)|assumption);have q172 : x5_2 < (l0.length : Int):=of_decide_eq_true (by first|(with_reducible assumption)|assumption);obtain ⟨ad172,e172,hx172_0⟩:=Kd.at_string HR0.out x5_2 p172 q172;obtain rfl : ad167 = ad172:=(by injection e172);replace hx172_0:=(HB.out.cell (World.block_lt_of_cell? w _ hx172_0)).trans hx172_0;replace p172:=eq_true p172;replace q172:=eq_true q172;have p12 : 0 ≤ (x6_3 : Int):=of_decide_eq_true (by first|(with_reducible assumption)|assumption);have q12 : x6_3 < ((rdOf ByteArray.empty l0 x5_2).size : Int):=of_decide_eq_true (by first|(with_reducible assumption)|assumption);have hx12:=bt_at (rdOf ByteArray.empty l0 x5_2) x6_3;replace p12:=eq_true p12;replace q12:=eq_true q12))
        go_roundg k3
        case measure => have:=HJ1.out;have:=HK2.out;have:=HK3.out;omega
        case rel => exact ⟨(y169),(wrap64 (x6_3 + 1)),(by first|rfl|(simp;done)|(simp [*];done)|(simp;rw [Bool.eq_iff_iff];simp;done)|(rw [Bool.eq_iff_iff];simp;done)),H',⟨by have:=HJ1.out;have:=HK2.out;have:=HK3.out;omega⟩,⟨by (with_reducible repeat (first|apply Kd.R_alloc|apply Kd.R_drewN|apply Kd.R_drew));exact HO171.out⟩,⟨by repeat (first|(with_reducible first|exact HB.out|apply below_alloc|apply pw_below_drewN|apply below_drew1)|exact HB.out)⟩⟩
       rw [if_pos c13] at H
       have c13b0 : ((bt (rdOf ByteArray.empty l0 x5_2) x6_3) == 0) = true:=beq_iff_eq.mpr c13
       have c13b1 : ((bt (rdOf ByteArray.empty l0 x5_2) x6_3) != 0) = false:=bne_eq_false_iff_eq.mpr c13
       clear c13
       by_cases c14 : y169.length < 140737488355328
       rotate_left
       ·rw [if_neg c14] at H
        exact absurd H (by simp)
       rw [if_pos c14] at H
       have LMc14:=Aside0.mk c14
       clear c14
       obtain ⟨y173,hy173⟩ : ∃ y_ : List Int,y_ = (y169 ++ [255]):=⟨_,rfl⟩
       replace H : (bursarref05_Make.l1 k3 l0 y173 x5_2 (wrap64 (x6_3 + 1))) = some (r1,r2):=by first|(rw [hy173];with_reducible exact H)|(have H2_:=(Option.bind_some _ _).symm.trans H;rw [hy173];with_reducible exact H2_)|(have H2_:=(Option.bind_some _ _).symm.trans H;with_reducible exact H2_)|with_reducible exact H|(rw [hy173];exact H)|exact H
       have Ny173:=Aside0.mk hy173
       clear hy173
       have H':=Aside0.mk H
       clear H
       have p167 : 0 ≤ (x5_2 : Int):=of_decide_eq_true (by first|(with_reducible assumption)|assumption)
       have q167 : x5_2 < (l0.length : Int):=of_decide_eq_true (by first|(with_reducible assumption)|assumption)
       obtain ⟨ad167,e167,hx167_0⟩:=Kd.at_string HR0.out x5_2 p167 q167
       cases e167
       replace hx167_0:=(HB.out.cell (World.block_lt_of_cell? w _ hx167_0)).trans hx167_0
       replace p167:=eq_true p167
       replace q167:=eq_true q167
       have p168 : 0 ≤ (x5_2 : Int):=of_decide_eq_true (by first|(with_reducible assumption)|assumption)
       have q168 : x5_2 < (l0.length : Int):=of_decide_eq_true (by first|(with_reducible assumption)|assumption)
       obtain ⟨ad168,e168,hx168_0⟩:=Kd.at_string HR0.out x5_2 p168 q168
       obtain rfl : ad167 = ad168:=(by injection e168)
       replace hx168_0:=(HB.out.cell (World.block_lt_of_cell? w _ hx168_0)).trans hx168_0
       replace p168:=eq_true p168
       replace q168:=eq_true q168
       have p10 : 0 ≤ (x6_3 : Int):=of_decide_eq_true (by first|(with_reducible assumption)|assumption)
       have q10 : x6_3 < ((rdOf ByteArray.empty l0 x5_2).size : Int):=of_decide_eq_true (by first|(with_reducible assumption)|assumption)
       have hx10:=bt_at (rdOf ByteArray.empty l0 x5_2) x6_3
       replace p10:=eq_true p10
       replace q10:=eq_true q10
       go_wp2_with (first|((with_reducible refine gate_builtin (b:=.append) (xs:=#[.tmp 30,.tmp 37]) rfl ?_);(try (refine gate_guard (by rfl) ?_;dsimp only));at_builtin;refine Kd.R_append (Kd.int .u8) (w0:=w) w.heap.size rfl (.tmp 30) (.tmp 37) 51 5 (.int .u8 0) 1 rfl Tryd.underlying51 info5 rfl (by decide) (by omega) u4 x4_3 (bt (rdOf ByteArray.empty l0 x5_2) x6_3) [.int .u8 (bt (rdOf ByteArray.empty l0 x5_2) x6_3)] (fun _ => True) (fun _ => False) rfl rfl ?aP (fun _ hk => hk.elim) ?aF ?aO ?aB ?aS ?aL ?_;(case aP => exact rfl);(case aB => exact (by repeat (first|(with_reducible first|exact HB.out|apply below_alloc|apply pw_below_drewN|apply below_drew1)|exact HB.out)));(case aF => exact (fun _ _ => trivial));(case aO => exact (by (with_reducible repeat (first|apply Kd.R_alloc|apply Kd.R_drewN|apply Kd.R_drew));exact HO_4.out));(case aS => exact (below_size (by repeat (first|(with_reducible first|exact HB.out|apply below_alloc|apply pw_below_drewN|apply below_drew1)|exact HB.out))));(case aL => have:=LMc11.out;omega);intro v170 w15 ho hb hg hat;rw [← Ny169.out] at ho;have n0_:=Aside0.mk (hb);have n1_:=Aside0.mk (ho);clear HB;clear HO_4;have HB:=n0_;have HO171:=n1_;clear n0_ n1_;clear ho hb hg hat;have p172 : 0 ≤ (x5_2 : Int):=of_decide_eq_true (by first|(with_reducible assumption)|assumption);have q172 : x5_2 < (l0.length : Int):=of_decide_eq_true (by first|(with_reducible assumption)|assumption);obtain ⟨ad172,e172,hx172_0⟩:=Kd.at_string HR0.out x5_2 p172 q172;obtain rfl : ad167 = ad172:=(by injection e172);replace hx172_0:=(HB.out.cell (World.block_lt_of_cell? w _ hx172_0)).trans hx172_0;replace p172:=eq_true p172;replace q172:=eq_true q172;have p12 : 0 ≤ (x6_3 : Int):=of_decide_eq_true (by first|(with_reducible assumption)|assumption);have q12 : x6_3 < ((rdOf ByteArray.empty l0 x5_2).size : Int):=of_decide_eq_true (by first|(with_reducible assumption)|assumption);have hx12:=bt_at (rdOf ByteArray.empty l0 x5_2) x6_3;replace p12:=eq_true p12;replace q12:=eq_true q12)|((with_reducible refine gate_builtin (b:=.append) (xs:=#[.tmp 46,.tmp 47]) rfl ?_);(try (refine gate_guard (by rfl) ?_;dsimp only));at_builtin;refine Kd.R_append (Kd.int .u8) (w0:=w) w.heap.size rfl (.tmp 46) (.tmp 47) 51 5 (.int .u8 0) 1 rfl Tryd.underlying51 info5 rfl (by decide) (by omega) v170 y169 255 [.int .u8 255] (fun _ => True) (fun _ => False) rfl rfl ?aP (fun _ hk => hk.elim) ?aF ?aO ?aB ?aS ?aL ?_;(case aP => exact rfl);(case aB => exact (by repeat (first|(with_reducible first|exact HB.out|apply below_alloc|apply pw_below_drewN|apply below_drew1)|exact HB.out)));(case aF => exact (fun _ _ => trivial));(case aO => exact (by (with_reducible repeat (first|apply Kd.R_alloc|apply Kd.R_drewN|apply Kd.R_drew));exact HO171.out));(case aS => exact (below_size (by repeat (first|(with_reducible first|exact HB.out|apply below_alloc|apply pw_below_drewN|apply below_drew1)|exact HB.out))));(case aL => have:=LMc14.out;omega);intro v174 w16 ho hb hg hat;rw [← Ny173.out] at ho;have n0_:=Aside0.mk (hb);have n1_:=Aside0.mk (ho);clear HB;clear HO171;have HB:=n0_;have HO175:=n1_;clear n0_ n1_;clear ho hb hg hat))
       go_roundg k3
       case measure => have:=HJ1.out;have:=HK2.out;have:=HK3.out;omega
       case rel => exact ⟨(y173),(wrap64 (x6_3 + 1)),(by first|rfl|(simp;done)|(simp [*];done)|(simp;rw [Bool.eq_iff_iff];simp;done)|(rw [Bool.eq_iff_iff];simp;done)),H',⟨by have:=HJ1.out;have:=HK2.out;have:=HK3.out;omega⟩,⟨by (with_reducible repeat (first|apply Kd.R_alloc|apply Kd.R_drewN|apply Kd.R_drew));exact HO175.out⟩,⟨by repeat (first|(with_reducible first|exact HB.out|apply below_alloc|apply pw_below_drewN|apply below_drew1)|exact HB.out)⟩⟩
end Go.Proofs.YtniolbolfclhkaaDoor.Q
namespace Go.Proofs.YtniolbolfclhkaaDoor.Q
open Go.RowKit Go.Proofs.YtniolbolfclhkaaDoorW.PrintWords Go.Proofs.YtniolbolfclhkaaDoorW.PrintLast Go.Proofs.YtniolbolfclhkaaDoorW.PrintMore
attribute [local go_sem] max2_int min2_int max_two min_two max_three min_three max_four min_four   -- for this text's walks alone
set_option linter.unusedVariables false
set_option linter.unusedSimpArgs false
def bursarref13_Key.j0 : Nat → Int → ByteArray → ByteArray → Bool → Option (ByteArray × Int)
|0,_,_,_,_ => none
|k + 1,x0,x1,x2,x14 => if x14 = true then (some ((⟨#[]⟩ : ByteArray),1)) else ((bursarref04_Path.f k x1).bind fun t182 => (if t182 = 0 then (if x0 = 0 then (if x2.toList = ([] : List UInt8) then (if 0 ≤ x0 then (if x0 ≤ (wrap64 (x0 + 1)) then (if (wrap64 (x0 + 1)) ≤ 5 then ((bursarref05_Make.f k (([(⟨#[110,113,108,111,98]⟩ : ByteArray).extract (x0 : Int).toNat ((wrap64 (x0 + 1)) : Int).toNat,x1,x2] : List ByteArray))).bind fun bt186 => (some (bt186.1,bt186.2))) else (none)) else (none)) else (none)) else (some ((⟨#[]⟩ : ByteArray),40))) else ((bursarref04_Name.f k x2).bind fun t188 => (if t188 = true then (if 0 ≤ x0 then (if x0 ≤ (wrap64 (x0 + 1)) then (if (wrap64 (x0 + 1)) ≤ 5 then ((bursarref05_Make.f k (([(⟨#[110,113,108,111,98]⟩ : ByteArray).extract (x0 : Int).toNat ((wrap64 (x0 + 1)) : Int).toNat,x1,x2] : List ByteArray))).bind fun bt192 => (some (bt192.1,bt192.2))) else (none)) else (none)) else (none)) else (some ((⟨#[]⟩ : ByteArray),40))))) else (some ((⟨#[]⟩ : ByteArray),41))))
def bursarref13_Key.f (k : Nat) (a0 : Int) (a1 : ByteArray) (a2 : ByteArray) : Option (ByteArray × Int) := if a0 < 0 then (bursarref13_Key.j0 k a0 a1 a2 true) else (bursarref13_Key.j0 k a0 a1 a2 (decide (a0 > 4)))
theorem bursarref13_Key.mono_l : ∀ k, (∀ y0 y1 y2 y3, LeO (bursarref13_Key.j0 k y0 y1 y2 y3) (bursarref13_Key.j0 (k + 1) y0 y1 y2 y3))
|0 => fun _ _ _ _ r h => by simp [bursarref13_Key.j0] at h
|k + 1 => by
  have ih0:=bursarref13_Key.mono_l k
  ·intro y0 y1 y2 y3
   unfold bursarref13_Key.j0
   repeat' first
  |(with_reducible exact ih0 _ _ _ _)
  |(with_reducible exact bursarref04_Name.mono _ _)
  |(with_reducible exact bursarref04_Path.mono _ _)
  |(with_reducible exact bursarref05_Make.mono _ _)
  |(with_reducible exact LeO.refl _)
  |(with_reducible exact LeO.none _)
  |(with_reducible refine LeO.ite ?_ ?_)
  |(with_reducible refine LeO.bind ?_ (fun _ => ?_))
  |exact ih0 _ _ _ _
  |exact bursarref04_Name.mono _ _
  |exact bursarref04_Path.mono _ _
  |exact bursarref05_Make.mono _ _
  |exact LeO.none _
  |refine LeO.ite ?_ ?_
  |refine LeO.bind ?_ (fun _ => ?_)
theorem bursarref13_Key.mono : ∀ a0 a1 a2 k, LeO (bursarref13_Key.f k a0 a1 a2) (bursarref13_Key.f (k + 1) a0 a1 a2) := by
 intro a0 a1 a2 k
 have ih0:=bursarref13_Key.mono_l k
 unfold bursarref13_Key.f
 repeat' first
  |(with_reducible exact ih0 _ _ _ _)
  |(with_reducible exact bursarref04_Name.mono _ _)
  |(with_reducible exact bursarref04_Path.mono _ _)
  |(with_reducible exact bursarref05_Make.mono _ _)
  |(with_reducible exact LeO.refl _)
  |(with_reducible exact LeO.none _)
  |(with_reducible refine LeO.ite ?_ ?_)
  |(with_reducible refine LeO.bind ?_ (fun _ => ?_))
  |exact ih0 _ _ _ _
  |exact bursarref04_Name.mono _ _
  |exact bursarref04_Path.mono _ _
  |exact bursarref05_Make.mono _ _
  |exact LeO.none _
  |refine LeO.ite ?_ ?_
  |refine LeO.bind ?_ (fun _ => ?_)
set_option maxHeartbeats 8000000 in
set_option maxRecDepth 100000 in
theorem bursarref13_Key.calls (k : Nat) (a0 : Int) (a1 : ByteArray) (a2 : ByteArray) (r1 : ByteArray) (r2 : Int) (w : World) (h : bursarref13_Key.f k a0 a1 a2 = some (r1, r2)) :
  Calls Tryd.prog 12 #[.int .i64 a0,.string a1,.string a2] w fun e w' => e = .returned (.tuple #[.string r1,.int .i64 r2]) ∧ Below w.heap.size w w':=by
 have HB:=Aside0.mk (Below.refl w.heap.size w)
 have H : (if a0 < 0 then (bursarref13_Key.j0 k a0 a1 a2 true) else (bursarref13_Key.j0 k a0 a1 a2 (decide (a0 > 4)))) = some (r1,r2):=h
 clear h
 have HC4:=Aside0.mk H
 clear H
 go_enter Tryd.func12,Tryd.ntmps12
 go_upto_region 1 with (fail)
 go_cut [14] (fun v14 wc => ∃ (kq : Nat) (x14_3 : Bool),v14 = .bool x14_3 ∧ Aside0 (bursarref13_Key.j0 kq a0 a1 a2 x14_3 = some (r1,r2)) ∧ Aside0 (kq ≤ k) ∧ Aside0 (Below w.heap.size w wc))
 case first =>
  have H:=HC4.out
  clear HC4
  by_cases c5 : a0 < 0
  ·rw [if_pos c5] at H
   have c5b0 : decide (a0 < 0) = true:=decide_eq_true c5
   clear c5
   (first|rw [c5b0]|(simp only [i64_w,i32_w];rw [c5b0])|skip)
   have H':=Aside0.mk H
   clear H
   go_wp2
   go_meet
   case rel => exact ⟨_,(true),(by first|rfl|(simp;done)|(simp [*];done)|(simp;rw [Bool.eq_iff_iff];simp;done)|(rw [Bool.eq_iff_iff];simp;done)),H',⟨by first|omega|exact Nat.le_refl _⟩,⟨by repeat (first|(with_reducible first|exact HB.out|apply below_alloc|apply pw_below_drewN|apply below_drew1)|exact HB.out)⟩⟩
  rw [if_neg c5] at H
  have c5b0 : decide (a0 < 0) = false:=decide_eq_false c5
  clear c5
  (first|rw [c5b0]|(simp only [i64_w,i32_w];rw [c5b0])|skip)
  have H':=Aside0.mk H
  clear H
  go_wp2
  go_meet
  case rel => exact ⟨_,(decide (a0 > 4)),(by first|rfl|(simp;done)|(simp [*];done)|(simp;rw [Bool.eq_iff_iff];simp;done)|(rw [Bool.eq_iff_iff];simp;done)),H',⟨by first|omega|exact Nat.le_refl _⟩,⟨by repeat (first|(with_reducible first|exact HB.out|apply below_alloc|apply pw_below_drewN|apply below_drew1)|exact HB.out)⟩⟩
 case rest =>
  clear HC4;(try clear c1);(try clear p2);(try clear c5);(try clear c5b0)
  obtain ⟨kq,x14_3,rfl,HA,HJ3,HB⟩:=hcut
  cases kq with
 |zero => exact absurd HA.out (by simp [bursarref13_Key.j0])
 |succ kj3 =>
   have H:=HA.out
   clear HA
   simp only [bursarref13_Key.j0] at H
   by_cases c6 : x14_3 = true
   ·subst c6
    have H1 : (some ((⟨#[]⟩ : ByteArray),1)) = some (r1,r2):=by rw [if_pos rfl] at H;exact H
    clear H;have H:=H1;clear H1
    simp only [Option.some.injEq,Prod.mk.injEq] at H
    obtain ⟨rfl,rfl⟩:=H
    go_wp2
    go_ret2
    exact ⟨by first|rfl|(simp [errW_none,errW_some] <;> rfl)|(simp [*,errW_none,errW_some] <;> rfl),by repeat (first|(with_reducible first|exact HB.out|apply below_alloc|apply pw_below_drewN|apply below_drew1)|exact HB.out)⟩
   replace c6:=Bool.eq_false_iff.mpr c6
   subst c6
   have H1 : ((bursarref04_Path.f kj3 a1).bind fun t182 => (if t182 = 0 then (if a0 = 0 then (if a2.toList = ([] : List UInt8) then (if 0 ≤ a0 then (if a0 ≤ (wrap64 (a0 + 1)) then (if (wrap64 (a0 + 1)) ≤ 5 then ((bursarref05_Make.f kj3 (([(⟨#[110,113,108,111,98]⟩ : ByteArray).extract (a0 : Int).toNat ((wrap64 (a0 + 1)) : Int).toNat,a1,a2] : List ByteArray))).bind fun bt186 => (some (bt186.1,bt186.2))) else (none)) else (none)) else (none)) else (some ((⟨#[]⟩ : ByteArray),40))) else ((bursarref04_Name.f kj3 a2).bind fun t188 => (if t188 = true then (if 0 ≤ a0 then (if a0 ≤ (wrap64 (a0 + 1)) then (if (wrap64 (a0 + 1)) ≤ 5 then ((bursarref05_Make.f kj3 (([(⟨#[110,113,108,111,98]⟩ : ByteArray).extract (a0 : Int).toNat ((wrap64 (a0 + 1)) : Int).toNat,a1,a2] : List ByteArray))).bind fun bt192 => (some (bt192.1,bt192.2))) else (none)) else (none)) else (none)) else (some ((⟨#[]⟩ : ByteArray),40))))) else (some ((⟨#[]⟩ : ByteArray),41)))) = some (r1,r2):=by rw [if_neg (show ¬ (false = true) by decide)] at H;exact H
   clear H;have H:=H1;clear H1
   replace H:=Option.bind_eq_some_iff.mp H
   obtain ⟨t182,A70,H⟩:=H
   replace H : (if t182 = 0 then (if a0 = 0 then (if a2.toList = ([] : List UInt8) then (if 0 ≤ a0 then (if a0 ≤ (wrap64 (a0 + 1)) then (if (wrap64 (a0 + 1)) ≤ 5 then ((bursarref05_Make.f kj3 (([(⟨#[110,113,108,111,98]⟩ : ByteArray).extract (a0 : Int).toNat ((wrap64 (a0 + 1)) : Int).toNat,a1,a2] : List ByteArray))).bind fun bt186 => (some (bt186.1,bt186.2))) else (none)) else (none)) else (none)) else (some ((⟨#[]⟩ : ByteArray),40))) else ((bursarref04_Name.f kj3 a2).bind fun t188 => (if t188 = true then (if 0 ≤ a0 then (if a0 ≤ (wrap64 (a0 + 1)) then (if (wrap64 (a0 + 1)) ≤ 5 then ((bursarref05_Make.f kj3 (([(⟨#[110,113,108,111,98]⟩ : ByteArray).extract (a0 : Int).toNat ((wrap64 (a0 + 1)) : Int).toNat,a1,a2] : List ByteArray))).bind fun bt192 => (some (bt192.1,bt192.2))) else (none)) else (none)) else (none)) else (some ((⟨#[]⟩ : ByteArray),40))))) else (some ((⟨#[]⟩ : ByteArray),41))) = some (r1,r2):=H
   have A7:=Aside0.mk A70
   clear A70
   by_cases c8 : t182 = 0
   rotate_left
   ·rw [if_neg c8] at H
    have c8b0 : (t182 == 0) = false:=beq_eq_false_iff_ne.mpr c8
    have c8b1 : (t182 != 0) = true:=bne_iff_ne.mpr c8
    simp only [Option.some.injEq,Prod.mk.injEq] at H
    obtain ⟨rfl,rfl⟩:=H
    go_wp2_with (first|((with_reducible refine gate_callee (f:=31) rfl ?_);refine goesL_ (some 16) rfl rfl Tryd.func31 (by kernel_rfl) rfl #[.string a1] rfl (by (try simp only [List.map_toArray,List.map_cons,List.map_nil]);first|done|rfl|(simp only [List.length_drop,List.length_take];rfl)) ?_;(with_reducible refine (bursarref04_Path.calls kj3 a1 t182 _ A7.out).mono ?_);rintro e w33 ⟨rfl,hb⟩;refine ⟨_,rfl,?_⟩;have n0_:=Aside0.mk (below_step (by repeat (first|(with_reducible first|exact HB.out|apply below_alloc|apply pw_below_drewN|apply below_drew1)|exact HB.out)) hb);clear HB;have HB:=n0_;clear n0_;(try clear hb);(try clear hb2);(try clear hk);(try clear hi)))
    go_ret2
    exact ⟨by first|rfl|(simp [errW_none,errW_some] <;> rfl)|(simp [*,errW_none,errW_some] <;> rfl),by repeat (first|(with_reducible first|exact HB.out|apply below_alloc|apply pw_below_drewN|apply below_drew1)|exact HB.out)⟩
   rw [if_pos c8] at H
   have c8b0 : (t182 == 0) = true:=beq_iff_eq.mpr c8
   have c8b1 : (t182 != 0) = false:=bne_eq_false_iff_eq.mpr c8
   clear c8
   by_cases c9 : a0 = 0
   ·rw [if_pos c9] at H
    have c9b0 : (a0 == 0) = true:=beq_iff_eq.mpr c9
    have c9b1 : (a0 != 0) = false:=bne_eq_false_iff_eq.mpr c9
    clear c9
    by_cases c10 : a2.toList = ([] : List UInt8)
    rotate_left
    ·rw [if_neg c10] at H
     have c10b0 : (a2.toList == ([] : List UInt8)) = false:=beq_eq_false_iff_ne.mpr c10
     have c10b1 : (a2.toList != ([] : List UInt8)) = true:=bne_iff_ne.mpr c10
     simp only [Option.some.injEq,Prod.mk.injEq] at H
     obtain ⟨rfl,rfl⟩:=H
     go_wp2_with (first|((with_reducible refine gate_callee (f:=31) rfl ?_);refine goesL_ (some 16) rfl rfl Tryd.func31 (by kernel_rfl) rfl #[.string a1] rfl (by (try simp only [List.map_toArray,List.map_cons,List.map_nil]);first|done|rfl|(simp only [List.length_drop,List.length_take];rfl)) ?_;(with_reducible refine (bursarref04_Path.calls kj3 a1 t182 _ A7.out).mono ?_);rintro e w20 ⟨rfl,hb⟩;refine ⟨_,rfl,?_⟩;have n0_:=Aside0.mk (below_step (by repeat (first|(with_reducible first|exact HB.out|apply below_alloc|apply pw_below_drewN|apply below_drew1)|exact HB.out)) hb);clear HB;have HB:=n0_;clear n0_;(try clear hb);(try clear hb2);(try clear hk);(try clear hi)))
     go_ret2
     exact ⟨by first|rfl|(simp [errW_none,errW_some] <;> rfl)|(simp [*,errW_none,errW_some] <;> rfl),by repeat (first|(with_reducible first|exact HB.out|apply below_alloc|apply pw_below_drewN|apply below_drew1)|exact HB.out)⟩
    rw [if_pos c10] at H
    have c10b0 : (a2.toList == ([] : List UInt8)) = true:=beq_iff_eq.mpr c10
    have c10b1 : (a2.toList != ([] : List UInt8)) = false:=bne_eq_false_iff_eq.mpr c10
    clear c10
    by_cases c11 : 0 ≤ a0
    rotate_left
    ·rw [if_neg c11] at H
     exact absurd H (by simp)
    rw [if_pos c11] at H
    have c11b0:=eq_true c11
    have c11b1 : decide (0 ≤ a0) = true:=decide_eq_true c11
    clear c11
    by_cases c12 : a0 ≤ (wrap64 (a0 + 1))
    rotate_left
    ·rw [if_neg c12] at H
     exact absurd H (by simp)
    rw [if_pos c12] at H
    have c12b0:=eq_true c12
    have c12b1 : decide (a0 ≤ (wrap64 (a0 + 1))) = true:=decide_eq_true c12
    by_cases c13 : (wrap64 (a0 + 1)) ≤ 5
    rotate_left
    ·rw [if_neg c13] at H
     exact absurd H (by simp)
    rw [if_pos c13] at H
    have c13b0:=eq_true c13
    have c13b1 : decide ((wrap64 (a0 + 1)) ≤ 5) = true:=decide_eq_true c13
    obtain ⟨y183,hy183⟩ : ∃ y_ : List ByteArray,y_ = (([(⟨#[110,113,108,111,98]⟩ : ByteArray).extract (a0 : Int).toNat ((wrap64 (a0 + 1)) : Int).toNat,a1,a2] : List ByteArray)):=⟨_,rfl⟩
    replace H : ((bursarref05_Make.f kj3 y183).bind fun bt186 => (some (bt186.1,bt186.2))) = some (r1,r2):=by first|(rw [hy183];with_reducible exact H)|(have H2_:=(Option.bind_some _ _).symm.trans H;rw [hy183];with_reducible exact H2_)|(have H2_:=(Option.bind_some _ _).symm.trans H;with_reducible exact H2_)|with_reducible exact H|(rw [hy183];exact H)|exact H
    have Ny183:=Aside0.mk hy183
    clear hy183
    replace H:=Option.bind_eq_some_iff.mp H
    obtain ⟨⟨t186,t187⟩,A140,H⟩:=H
    replace H : (some (t186,t187)) = some (r1,r2):=H
    have A14:=Aside0.mk A140
    clear A140
    simp only [Option.some.injEq,Prod.mk.injEq] at H
    obtain ⟨rfl,rfl⟩:=H
    go_wp2_with (first|((with_reducible refine gate_callee (f:=31) rfl ?_);refine goesL_ (some 16) rfl rfl Tryd.func31 (by kernel_rfl) rfl #[.string a1] rfl (by (try simp only [List.map_toArray,List.map_cons,List.map_nil]);first|done|rfl|(simp only [List.length_drop,List.length_take];rfl)) ?_;(with_reducible refine (bursarref04_Path.calls kj3 a1 t182 _ A7.out).mono ?_);rintro e w15 ⟨rfl,hb⟩;refine ⟨_,rfl,?_⟩;have n0_:=Aside0.mk (below_step (by repeat (first|(with_reducible first|exact HB.out|apply below_alloc|apply pw_below_drewN|apply below_drew1)|exact HB.out)) hb);clear HB;have HB:=n0_;clear n0_;(try clear hb);(try clear hb2);(try clear hk);(try clear hi))|((with_reducible refine gate_dst (N:=40) rfl ?_);refine Kd.R_lit Kd.string _ 9 ?hg (N:=40) ?hd (xs:=([(⟨#[110,113,108,111,98]⟩ : ByteArray).extract (a0 : Int).toNat ((wrap64 (a0 + 1)) : Int).toNat,a1,a2] : List ByteArray)) (inner:=[.string ((⟨#[110,113,108,111,98]⟩ : ByteArray).extract (a0 : Int).toNat ((wrap64 (a0 + 1)) : Int).toNat),.string a1,.string a2]) (ok:=fun _ => True) (okp:=fun _ => True) ?hr ?hp (fun _ hk => hk) trivial (Below.refl _ _) (Nat.le_refl _) (by simp) ?_;(case hd => rfl);(case hg => rfl);(case hr => first|(go_simp;done)|(go_simp;rfl));(case hp => exact (Reps.one (show Kd.M Kd.string _ _ _ ((⟨#[110,113,108,111,98]⟩ : ByteArray).extract (a0 : Int).toNat ((wrap64 (a0 + 1)) : Int).toNat) [.string ((⟨#[110,113,108,111,98]⟩ : ByteArray).extract (a0 : Int).toNat ((wrap64 (a0 + 1)) : Int).toNat)] from rfl) (Reps.one (show Kd.M Kd.string _ _ _ a1 [.string a1] from rfl) (Reps.one (show Kd.M Kd.string _ _ _ a2 [.string a2] from rfl) (Reps.none _ _)))));intro v184 w16 ho17 hb hg_ hnew_;clear hg_ hnew_;(first|rw [← Ny183.out] at ho17|(simp only [Int.reduceToNat] at ho17;rw [← Ny183.out] at ho17));have n0_:=Aside0.mk (Kd.R_lower ho17 (below_size (by repeat (first|(with_reducible first|exact HB.out|apply below_alloc|apply pw_below_drewN|apply below_drew1)|exact HB.out))));have n1_:=Aside0.mk (below_step (by repeat (first|(with_reducible first|exact HB.out|apply below_alloc|apply pw_below_drewN|apply below_drew1)|exact HB.out)) hb);clear HB;have HO185:=n0_;have HB:=n1_;clear n0_ n1_;clear hb ho17;obtain ⟨Ao18,co18,eo18⟩:=Kd.R_slice HO185.out;subst eo18)|((with_reducible refine gate_callee (f:=33) rfl ?_);refine goesL_ (some 41) rfl rfl Tryd.func33 (by kernel_rfl) rfl #[.slice Ao18 y183.length co18] rfl (by (try simp only [List.map_toArray,List.map_cons,List.map_nil]);first|done|rfl|(simp only [List.length_drop,List.length_take];rfl)) ?_;(with_reducible refine (bursarref05_Make.calls kj3 _ _ y183 t186 t187 _ ?side1 ?side2 A14.out).mono ?_);(case side1 => repeat (first|exact (Kd.R_reads' HO185.out).2.2|(with_reducible refine Kd.C_alloc ?_ _)|(with_reducible refine Kd.C_drewN ?_ _)|(with_reducible refine Kd.C_drew ?_)));(case side2 => exact (Kd.R_reads' HO185.out).2.1);rintro e w19 ⟨rfl,hb⟩;refine ⟨_,rfl,?_⟩;have n0_:=Aside0.mk (Kd.R_below (by (with_reducible repeat (first|apply Kd.R_alloc|apply Kd.R_drewN|apply Kd.R_drew));exact HO185.out) hb);have n1_:=Aside0.mk (below_step (by repeat (first|(with_reducible first|exact HB.out|apply below_alloc|apply pw_below_drewN|apply below_drew1)|exact HB.out)) hb);clear HO185;clear HB;have HO185:=n0_;have HB:=n1_;clear n0_ n1_;(try clear hb);(try clear hb2);(try clear hk);(try clear hi)))
    go_ret2
    exact ⟨by first|rfl|(simp [errW_none,errW_some] <;> rfl)|(simp [*,errW_none,errW_some] <;> rfl),by repeat (first|(with_reducible first|exact HB.out|apply below_alloc|apply pw_below_drewN|apply below_drew1)|exact HB.out)⟩
   rw [if_neg c9] at H
   have c9b0 : (a0 == 0) = false:=beq_eq_false_iff_ne.mpr c9
   have c9b1 : (a0 != 0) = true:=bne_iff_ne.mpr c9
   replace H:=Option.bind_eq_some_iff.mp H
   obtain ⟨t188,A210,H⟩:=H
   replace H : (if t188 = true then (if 0 ≤ a0 then (if a0 ≤ (wrap64 (a0 + 1)) then (if (wrap64 (a0 + 1)) ≤ 5 then ((bursarref05_Make.f kj3 (([(⟨#[110,113,108,111,98]⟩ : ByteArray).extract (a0 : Int).toNat ((wrap64 (a0 + 1)) : Int).toNat,a1,a2] : List ByteArray))).bind fun bt192 => (some (bt192.1,bt192.2))) else (none)) else (none)) else (none)) else (some ((⟨#[]⟩ : ByteArray),40))) = some (r1,r2):=H
   have A21:=Aside0.mk A210
   clear A210
   by_cases c22 : t188 = true
   rotate_left
   ·replace c22:=Bool.eq_false_iff.mpr c22
    subst c22
    have H1 : (some ((⟨#[]⟩ : ByteArray),40)) = some (r1,r2):=by rw [if_neg (show ¬ (false = true) by decide)] at H;exact H
    clear H;have H:=H1;clear H1
    simp only [Option.some.injEq,Prod.mk.injEq] at H
    obtain ⟨rfl,rfl⟩:=H
    go_wp2_with (first|((with_reducible refine gate_callee (f:=31) rfl ?_);refine goesL_ (some 16) rfl rfl Tryd.func31 (by kernel_rfl) rfl #[.string a1] rfl (by (try simp only [List.map_toArray,List.map_cons,List.map_nil]);first|done|rfl|(simp only [List.length_drop,List.length_take];rfl)) ?_;(with_reducible refine (bursarref04_Path.calls kj3 a1 t182 _ A7.out).mono ?_);rintro e w32 ⟨rfl,hb⟩;refine ⟨_,rfl,?_⟩;have n0_:=Aside0.mk (below_step (by repeat (first|(with_reducible first|exact HB.out|apply below_alloc|apply pw_below_drewN|apply below_drew1)|exact HB.out)) hb);clear HB;have HB:=n0_;clear n0_;(try clear hb);(try clear hb2);(try clear hk);(try clear hi))|(go_at_call 32;(with_reducible refine (bursarref04_Name.calls kj3 a2 false _ A21.out).mono ?_);rintro e w' ⟨rfl,⟨nd,rfl⟩⟩))
    go_ret2
    exact ⟨by first|rfl|(simp [errW_none,errW_some] <;> rfl)|(simp [*,errW_none,errW_some] <;> rfl),by repeat (first|(with_reducible first|exact HB.out|apply below_alloc|apply pw_below_drewN|apply below_drew1)|exact HB.out)⟩
   subst c22
   have H1 : (if 0 ≤ a0 then (if a0 ≤ (wrap64 (a0 + 1)) then (if (wrap64 (a0 + 1)) ≤ 5 then ((bursarref05_Make.f kj3 (([(⟨#[110,113,108,111,98]⟩ : ByteArray).extract (a0 : Int).toNat ((wrap64 (a0 + 1)) : Int).toNat,a1,a2] : List ByteArray))).bind fun bt192 => (some (bt192.1,bt192.2))) else (none)) else (none)) else (none)) = some (r1,r2):=by rw [if_pos rfl] at H;exact H
   clear H;have H:=H1;clear H1
   by_cases c23 : 0 ≤ a0
   rotate_left
   ·rw [if_neg c23] at H
    exact absurd H (by simp)
   rw [if_pos c23] at H
   have c23b0:=eq_true c23
   have c23b1 : decide (0 ≤ a0) = true:=decide_eq_true c23
   clear c23
   by_cases c24 : a0 ≤ (wrap64 (a0 + 1))
   rotate_left
   ·rw [if_neg c24] at H
    exact absurd H (by simp)
   rw [if_pos c24] at H
   have c24b0:=eq_true c24
   have c24b1 : decide (a0 ≤ (wrap64 (a0 + 1))) = true:=decide_eq_true c24
   by_cases c25 : (wrap64 (a0 + 1)) ≤ 5
   rotate_left
   ·rw [if_neg c25] at H
    exact absurd H (by simp)
   rw [if_pos c25] at H
   have c25b0:=eq_true c25
   have c25b1 : decide ((wrap64 (a0 + 1)) ≤ 5) = true:=decide_eq_true c25
   obtain ⟨y189,hy189⟩ : ∃ y_ : List ByteArray,y_ = (([(⟨#[110,113,108,111,98]⟩ : ByteArray).extract (a0 : Int).toNat ((wrap64 (a0 + 1)) : Int).toNat,a1,a2] : List ByteArray)):=⟨_,rfl⟩
   replace H : ((bursarref05_Make.f kj3 y189).bind fun bt192 => (some (bt192.1,bt192.2))) = some (r1,r2):=by first|(rw [hy189];with_reducible exact H)|(have H2_:=(Option.bind_some _ _).symm.trans H;rw [hy189];with_reducible exact H2_)|(have H2_:=(Option.bind_some _ _).symm.trans H;with_reducible exact H2_)|with_reducible exact H|(rw [hy189];exact H)|exact H
   have Ny189:=Aside0.mk hy189
   clear hy189
   replace H:=Option.bind_eq_some_iff.mp H
   obtain ⟨⟨t192,t193⟩,A260,H⟩:=H
   replace H : (some (t192,t193)) = some (r1,r2):=H
   have A26:=Aside0.mk A260
   clear A260
   simp only [Option.some.injEq,Prod.mk.injEq] at H
   obtain ⟨rfl,rfl⟩:=H
   go_wp2_with (first|((with_reducible refine gate_callee (f:=31) rfl ?_);refine goesL_ (some 16) rfl rfl Tryd.func31 (by kernel_rfl) rfl #[.string a1] rfl (by (try simp only [List.map_toArray,List.map_cons,List.map_nil]);first|done|rfl|(simp only [List.length_drop,List.length_take];rfl)) ?_;(with_reducible refine (bursarref04_Path.calls kj3 a1 t182 _ A7.out).mono ?_);rintro e w27 ⟨rfl,hb⟩;refine ⟨_,rfl,?_⟩;have n0_:=Aside0.mk (below_step (by repeat (first|(with_reducible first|exact HB.out|apply below_alloc|apply pw_below_drewN|apply below_drew1)|exact HB.out)) hb);clear HB;have HB:=n0_;clear n0_;(try clear hb);(try clear hb2);(try clear hk);(try clear hi))|(go_at_call 32;(with_reducible refine (bursarref04_Name.calls kj3 a2 true _ A21.out).mono ?_);rintro e w' ⟨rfl,⟨nd,rfl⟩⟩)|((with_reducible refine gate_dst (N:=40) rfl ?_);refine Kd.R_lit Kd.string _ 9 ?hg (N:=40) ?hd (xs:=([(⟨#[110,113,108,111,98]⟩ : ByteArray).extract (a0 : Int).toNat ((wrap64 (a0 + 1)) : Int).toNat,a1,a2] : List ByteArray)) (inner:=[.string ((⟨#[110,113,108,111,98]⟩ : ByteArray).extract (a0 : Int).toNat ((wrap64 (a0 + 1)) : Int).toNat),.string a1,.string a2]) (ok:=fun _ => True) (okp:=fun _ => True) ?hr ?hp (fun _ hk => hk) trivial (Below.refl _ _) (Nat.le_refl _) (by simp) ?_;(case hd => rfl);(case hg => rfl);(case hr => first|(go_simp;done)|(go_simp;rfl));(case hp => exact (Reps.one (show Kd.M Kd.string _ _ _ ((⟨#[110,113,108,111,98]⟩ : ByteArray).extract (a0 : Int).toNat ((wrap64 (a0 + 1)) : Int).toNat) [.string ((⟨#[110,113,108,111,98]⟩ : ByteArray).extract (a0 : Int).toNat ((wrap64 (a0 + 1)) : Int).toNat)] from rfl) (Reps.one (show Kd.M Kd.string _ _ _ a1 [.string a1] from rfl) (Reps.one (show Kd.M Kd.string _ _ _ a2 [.string a2] from rfl) (Reps.none _ _)))));intro v190 w28 ho29 hb hg_ hnew_;clear hg_ hnew_;(first|rw [← Ny189.out] at ho29|(simp only [Int.reduceToNat] at ho29;rw [← Ny189.out] at ho29));have n0_:=Aside0.mk (Kd.R_lower ho29 (below_size (by repeat (first|(with_reducible first|exact HB.out|apply below_alloc|apply pw_below_drewN|apply below_drew1)|exact HB.out))));have n1_:=Aside0.mk (below_step (by repeat (first|(with_reducible first|exact HB.out|apply below_alloc|apply pw_below_drewN|apply below_drew1)|exact HB.out)) hb);clear HB;have HO191:=n0_;have HB:=n1_;clear n0_ n1_;clear hb ho29;obtain ⟨Ao30,co30,eo30⟩:=Kd.R_slice HO191.out;subst eo30)|((with_reducible refine gate_callee (f:=33) rfl ?_);refine goesL_ (some 41) rfl rfl Tryd.func33 (by kernel_rfl) rfl #[.slice Ao30 y189.length co30] rfl (by (try simp only [List.map_toArray,List.map_cons,List.map_nil]);first|done|rfl|(simp only [List.length_drop,List.length_take];rfl)) ?_;(with_reducible refine (bursarref05_Make.calls kj3 _ _ y189 t192 t193 _ ?side1 ?side2 A26.out).mono ?_);(case side1 => repeat (first|exact (Kd.R_reads' HO191.out).2.2|(with_reducible refine Kd.C_alloc ?_ _)|(with_reducible refine Kd.C_drewN ?_ _)|(with_reducible refine Kd.C_drew ?_)));(case side2 => exact (Kd.R_reads' HO191.out).2.1);rintro e w31 ⟨rfl,hb⟩;refine ⟨_,rfl,?_⟩;have n0_:=Aside0.mk (Kd.R_below (by (with_reducible repeat (first|apply Kd.R_alloc|apply Kd.R_drewN|apply Kd.R_drew));exact HO191.out) hb);have n1_:=Aside0.mk (below_step (by repeat (first|(with_reducible first|exact HB.out|apply below_alloc|apply pw_below_drewN|apply below_drew1)|exact HB.out)) hb);clear HO191;clear HB;have HO191:=n0_;have HB:=n1_;clear n0_ n1_;(try clear hb);(try clear hb2);(try clear hk);(try clear hi)))
   go_ret2
   exact ⟨by first|rfl|(simp [errW_none,errW_some] <;> rfl)|(simp [*,errW_none,errW_some] <;> rfl),by repeat (first|(with_reducible first|exact HB.out|apply below_alloc|apply pw_below_drewN|apply below_drew1)|exact HB.out)⟩
end Go.Proofs.YtniolbolfclhkaaDoor.Q
