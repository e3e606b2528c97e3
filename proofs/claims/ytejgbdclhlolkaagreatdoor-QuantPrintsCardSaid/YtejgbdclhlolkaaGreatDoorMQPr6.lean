/- What the statement QuantPrintsCardSaid rests on, part 6 of 6: walks and plain laws; what of the printer's words it leans on. -/
import Derived.Test.YtejgbdclhlolkaaGreatDoorRows
import Derived.Test.YtejgbdclhlolkaaGreatDoorCards
import Derived.Test.YtejgbdclhlolkaaGreatDoorTie
import Derived.Test.YtejgbdclhlolkaaGreatDoorMQPr3
import Derived.Test.YtejgbdclhlolkaaGreatDoorMQPr4
import Derived.Test.YtejgbdclhlolkaaGreatDoorMQPr5
import Derived.Lib.Hide
import Derived.Laws.BitsLemmas
import Derived.Lib.ItoaNum
import Derived.BigQuiet
import Derived.LaidSub
import Derived.Lib.LaidTab
import Derived.ChangeSame
import Derived.WalkKit
import Derived.ProofKit
import Derived.OpenShut
import Derived.ShutString
import Derived.ChangeOld
import Derived.Below
import Derived.SizedLaws
import Derived.Deep.DeepHandedRow
import Derived.LaidMore
namespace Go.Proofs.YtejgbdclhlolkaaGreatDoor.Q
open Go.RowKit Go.Proofs.YtejgbdclhlolkaaGreatDoorW.PrintWords Go.Proofs.YtejgbdclhlolkaaGreatDoorW.PrintLast Go.Proofs.YtejgbdclhlolkaaGreatDoorW.PrintMore
attribute [local go_sem] max2_int min2_int max_two min_two max_three min_three max_four min_four   -- for this text's walks alone
set_option linter.unusedVariables false
set_option linter.unusedSimpArgs false
def bursarref03_Print.l0 : Nat → Int → List (S87) → ByteArray → ByteArray → Int → Option (ByteArray)
|0,_,_,_,_,_ => none
|k + 1,x0,x3,x4,x5,x6 => if x6 < (x3.length : Int) then ((bursarref03_long.f k x0).bind fun t316 => (if 0 ≤ x6 then ((bursarref03_Long_by.f k t316 ((rd_T87 x3 x6).f1.f0)).bind fun bt320 => (if (bt320.2.length : Int) > 0 then (bursarref03_Print.l0 k x0 x3 x4 x5 (wrap64 (x6 + 1))) else (if x6 < 7 then ((bursarref03_Long_text.f k bt320.1).bind fun t328 => (if t328.size + ((rd_T87 x3 x6).f0).size ≤ 9223372036854775807 then (bursarref03_Print.l0 k x0 x3 (t328 ++ ((rd_T87 x3 x6).f0)) x5 (wrap64 (x6 + 1))) else (none))) else ((bursarref03_Long_text.f k bt320.1).bind fun t330 => (if t330.size + ((rd_T87 x3 x6).f0).size ≤ 9223372036854775807 then (bursarref03_Print.l0 k x0 x3 x4 (t330 ++ ((rd_T87 x3 x6).f0)) (wrap64 (x6 + 1))) else (none)))))) else (none))) else (if x5.toList = ([] : List UInt8) then (some x4) else (if (x5.size : Int) < (x4.size : Int) then (some x5) else (some x4)))
def bursarref03_Print.f (k : Nat) (a0 : Int) : Option (ByteArray) := if a0 < 0 then (some (⟨#[]⟩ : ByteArray)) else (if (Int.tmod a0 1000) = 0 then (if a0 = 0 then (some (⟨#[48]⟩ : ByteArray)) else ((bursarref03_suffixes.f k).bind fun t313 => (bursarref03_Print.l0 k a0 t313 (⟨#[]⟩ : ByteArray) (⟨#[]⟩ : ByteArray) 1))) else ((bursarref03_long.f k a0).bind fun t309 => ((bursarref03_Long_text.f k t309).bind fun t312 => (if t312.size + 1 ≤ 9223372036854775807 then (some (t312 ++ (⟨#[109]⟩ : ByteArray))) else (none)))))
theorem bursarref03_Print.mono_l : ∀ k, (∀ y0 y1 y2 y3 y4, LeO (bursarref03_Print.l0 k y0 y1 y2 y3 y4) (bursarref03_Print.l0 (k + 1) y0 y1 y2 y3 y4))
|0 => fun _ _ _ _ _ r h => by simp [bursarref03_Print.l0] at h
|k + 1 => by
  have ih0:=bursarref03_Print.mono_l k
  ·intro y0 y1 y2 y3 y4
   unfold bursarref03_Print.l0
   repeat' first
  |(with_reducible exact ih0 _ _ _ _ _)
  |(with_reducible exact bursarref03_Long_by.mono _ _ _)
  |(with_reducible exact bursarref03_Long_text.mono _ _)
  |(with_reducible exact bursarref03_long.mono _ _)
  |(with_reducible exact bursarref03_suffixes.mono _)
  |(with_reducible exact LeO.refl _)
  |(with_reducible exact LeO.none _)
  |(with_reducible refine LeO.ite ?_ ?_)
  |(with_reducible refine LeO.bind ?_ (fun _ => ?_))
  |exact ih0 _ _ _ _ _
  |exact bursarref03_Long_by.mono _ _ _
  |exact bursarref03_Long_text.mono _ _
  |exact bursarref03_long.mono _ _
  |exact bursarref03_suffixes.mono _
  |exact LeO.none _
  |refine LeO.ite ?_ ?_
  |refine LeO.bind ?_ (fun _ => ?_)
theorem bursarref03_Print.mono : ∀ a0 k, LeO (bursarref03_Print.f k a0) (bursarref03_Print.f (k + 1) a0) := by
 intro a0 k
 have ih0:=bursarref03_Print.mono_l k
 unfold bursarref03_Print.f
 repeat' first
  |(with_reducible exact ih0 _ _ _ _ _)
  |(with_reducible exact bursarref03_Long_by.mono _ _ _)
  |(with_reducible exact bursarref03_Long_text.mono _ _)
  |(with_reducible exact bursarref03_long.mono _ _)
  |(with_reducible exact bursarref03_suffixes.mono _)
  |(with_reducible exact LeO.refl _)
  |(with_reducible exact LeO.none _)
  |(with_reducible refine LeO.ite ?_ ?_)
  |(with_reducible refine LeO.bind ?_ (fun _ => ?_))
  |exact ih0 _ _ _ _ _
  |exact bursarref03_Long_by.mono _ _ _
  |exact bursarref03_Long_text.mono _ _
  |exact bursarref03_long.mono _ _
  |exact bursarref03_suffixes.mono _
  |exact LeO.none _
  |refine LeO.ite ?_ ?_
  |refine LeO.bind ?_ (fun _ => ?_)
def bursarref03_Print.T12 : Bool × List (List Nat × List Nat) := (true, [([], []), ([0], [0]), ([], []), ([], []), ([2, 3], [2, 3]), ([4], [4]), ([5], [5]), ([1, 6, 1], [1, 6]), ([7], [7]), ([8], [8]), ([8], [8]), ([], []), ([], []), ([11, 9, 7, 0, 1, 2, 3, 4, 5, 6, 7, 8, 9, 11, 12], [9, 11]), ([12, 10, 13, 0, 1, 2, 3, 4, 5, 6, 7, 8, 9, 10, 11, 12, 13], [10, 12])])
def bursarref03_Print.B12 : List Nat := [0, 1, 0, 0, 12, 28, 60, 127, 255, 511, 511, 0, 0, 7167, 16383]
theorem bursarref03_Print.tab12 : rtab .any (opsOf Tryz.f20 12) = bursarref03_Print.T12 := by kernel_rfl
theorem bursarref03_Print.bits12 : waitsOk bursarref03_Print.T12.2 bursarref03_Print.B12 = true := by kernel_rfl
def bursarref03_Print.T15 : Bool × List (List Nat × List Nat) := (true, [([], []), ([0], [0]), ([], []), ([], []), ([2, 3], [2, 3]), ([4], [4]), ([5], [5]), ([1, 6], [1, 6]), ([7, 1, 0, 1, 2, 3, 4, 5, 6, 7], [7])])
def bursarref03_Print.B15 : List Nat := [0, 1, 0, 0, 12, 28, 60, 127, 255]
theorem bursarref03_Print.tab15 : rtab .any (opsOf Tryz.f20 15) = bursarref03_Print.T15 := by kernel_rfl
theorem bursarref03_Print.bits15 : waitsOk bursarref03_Print.T15.2 bursarref03_Print.B15 = true := by kernel_rfl
def bursarref03_Print.T16 : Bool × List (List Nat × List Nat) := (true, [([], []), ([0], [0]), ([], []), ([], []), ([2, 3], [2, 3]), ([4], [4]), ([5], [5]), ([1, 6], [1, 6]), ([7, 1, 0, 1, 2, 3, 4, 5, 6, 7], [7])])
def bursarref03_Print.B16 : List Nat := [0, 1, 0, 0, 12, 28, 60, 127, 255]
theorem bursarref03_Print.tab16 : rtab .any (opsOf Tryz.f20 16) = bursarref03_Print.T16 := by kernel_rfl
theorem bursarref03_Print.bits16 : waitsOk bursarref03_Print.T16.2 bursarref03_Print.B16 = true := by kernel_rfl
set_option maxHeartbeats 64000000 in
set_option maxRecDepth 100000 in
theorem bursarref03_Print.calls (k : Nat) (a0 : Int) (r : ByteArray) (w : World) (h : bursarref03_Print.f k a0 = some r) :
  Calls Tryz.prog 20 #[.int .i64 a0] w fun e w' => e = .returned (.string r) ∧ Below w.heap.size w w':=by
 have hu85:=Tryz.underlying85
 have HB:=Aside0.mk (Below.refl w.heap.size w)
 have H : (if a0 < 0 then (some (⟨#[]⟩ : ByteArray)) else (if (Int.tmod a0 1000) = 0 then (if a0 = 0 then (some (⟨#[48]⟩ : ByteArray)) else ((bursarref03_suffixes.f k).bind fun t313 => (bursarref03_Print.l0 k a0 t313 (⟨#[]⟩ : ByteArray) (⟨#[]⟩ : ByteArray) 1))) else ((bursarref03_long.f k a0).bind fun t309 => ((bursarref03_Long_text.f k t309).bind fun t312 => (if t312.size + 1 ≤ 9223372036854775807 then (some (t312 ++ (⟨#[109]⟩ : ByteArray))) else (none)))))) = some r:=h
 clear h
 by_cases c2 : a0 < 0
 ·rw [if_pos c2] at H
  have c2b0 : decide (a0 < 0) = true:=decide_eq_true c2
  clear c2
  obtain rfl:=Option.some.inj H
  go_enter Tryz.func20,Tryz.ntmps20
  go_wp2
  go_ret
  exact ⟨by first|rfl|(simp [errW_none,errW_some] <;> rfl)|(simp [*,errW_none,errW_some] <;> rfl),by repeat (first|(with_reducible first|exact HB.out|apply below_alloc|apply pw_below_drewN|apply below_drew1)|exact HB.out)⟩
 rw [if_neg c2] at H
 have c2b0 : decide (a0 < 0) = false:=decide_eq_false c2
 clear c2
 by_cases c3 : (Int.tmod a0 1000) = 0
 rotate_left
 ·rw [if_neg c3] at H
  have c3b0 : ((Int.tmod a0 1000) == 0) = false:=beq_eq_false_iff_ne.mpr c3
  have c3b1 : ((Int.tmod a0 1000) != 0) = true:=bne_iff_ne.mpr c3
  replace H:=Option.bind_eq_some_iff.mp H
  obtain ⟨t309,A700,H⟩:=H
  replace H : ((bursarref03_Long_text.f k t309).bind fun t312 => (if t312.size + 1 ≤ 9223372036854775807 then (some (t312 ++ (⟨#[109]⟩ : ByteArray))) else (none))) = some r:=H
  have A70:=Aside0.mk A700
  clear A700
  replace H:=Option.bind_eq_some_iff.mp H
  obtain ⟨t312,A710,H⟩:=H
  replace H : (if t312.size + 1 ≤ 9223372036854775807 then (some (t312 ++ (⟨#[109]⟩ : ByteArray))) else (none)) = some r:=H
  have A71:=Aside0.mk A710
  clear A710
  by_cases c72 : t312.size + 1 ≤ 9223372036854775807
  rotate_left
  ·rw [if_neg c72] at H
   exact absurd H (by simp)
  rw [if_pos c72] at H
  have c72b0:=eq_true c72
  have c72b1 : decide (t312.size + 1 ≤ 9223372036854775807) = true:=decide_eq_true c72
  try have c72b2 : (9223372036854775807 < t312.size + 1) = False:=eq_false (Nat.not_lt.2 c72)
  obtain rfl:=Option.some.inj H
  go_enter Tryz.func20,Tryz.ntmps20
  go_wp2_with (first|((with_reducible refine gate_callee (f:=62) rfl ?_);refine goesL_ (some 15) rfl rfl Tryz.func62 (by kernel_rfl) rfl #[.int .i64 a0] rfl (by (try simp only [List.map_toArray,List.map_cons,List.map_nil]);first|done|rfl|(simp only [List.length_drop,List.length_take];rfl)) ?_;(with_reducible refine (bursarref03_long.calls k a0 t309 _ A70.out).mono ?_);rintro e w73 ⟨v310,rfl,ho0,hb⟩;refine ⟨_,rfl,?_⟩;have n0_:=Aside0.mk (Kd.R_lower ho0 (below_size (by repeat (first|(with_reducible first|exact HB.out|apply below_alloc|apply pw_below_drewN|apply below_drew1)|exact HB.out))));have n1_:=Aside0.mk (below_step (by repeat (first|(with_reducible first|exact HB.out|apply below_alloc|apply pw_below_drewN|apply below_drew1)|exact HB.out)) hb);clear HB;have HO311:=n0_;have HB:=n1_;clear n0_ n1_;(try clear hb);(try clear hb2);(try clear hk);(try clear hi);(try clear ho0);obtain ⟨Ao74,co74,eo74⟩:=Kd.R_slice HO311.out;subst eo74)|((with_reducible refine gate_callee (f:=63) rfl ?_);refine goesL_ (some 16) rfl rfl Tryz.func63 (by kernel_rfl) rfl #[.agg #[.slice Ao74 t309.length co74]] rfl (by (try simp only [List.map_toArray,List.map_cons,List.map_nil]);first|done|rfl|(simp only [List.length_drop,List.length_take];rfl)) ?_;(with_reducible refine (bursarref03_Long_text.calls k _ _ t309 t312 _ ?side1 ?side2 A71.out).mono ?_);(case side1 => repeat (first|exact (Kd.R_reads' HO311.out).2.2|(with_reducible refine Kd.C_alloc ?_ _)|(with_reducible refine Kd.C_drewN ?_ _)|(with_reducible refine Kd.C_drew ?_)));(case side2 => exact (Kd.R_reads' HO311.out).2.1);rintro e w75 ⟨rfl,hb⟩;refine ⟨_,rfl,?_⟩;have n0_:=Aside0.mk (Kd.R_below (by (with_reducible repeat (first|apply Kd.R_alloc|apply Kd.R_drewN|apply Kd.R_drew));exact HO311.out) hb);have n1_:=Aside0.mk (below_step (by repeat (first|(with_reducible first|exact HB.out|apply below_alloc|apply pw_below_drewN|apply below_drew1)|exact HB.out)) hb);clear HO311;clear HB;have HO311:=n0_;have HB:=n1_;clear n0_ n1_;(try clear hb);(try clear hb2);(try clear hk);(try clear hi)))
  go_ret
  exact ⟨by first|rfl|(simp [errW_none,errW_some] <;> rfl)|(simp [*,errW_none,errW_some] <;> rfl),by repeat (first|(with_reducible first|exact HB.out|apply below_alloc|apply pw_below_drewN|apply below_drew1)|exact HB.out)⟩
 rw [if_pos c3] at H
 have c3b0 : ((Int.tmod a0 1000) == 0) = true:=beq_iff_eq.mpr c3
 have c3b1 : ((Int.tmod a0 1000) != 0) = false:=bne_eq_false_iff_eq.mpr c3
 clear c3
 by_cases c4 : a0 = 0
 ·rw [if_pos c4] at H
  have c4b0 : (a0 == 0) = true:=beq_iff_eq.mpr c4
  have c4b1 : (a0 != 0) = false:=bne_eq_false_iff_eq.mpr c4
  clear c4
  obtain rfl:=Option.some.inj H
  go_enter Tryz.func20,Tryz.ntmps20
  go_wp2
  go_ret
  exact ⟨by first|rfl|(simp [errW_none,errW_some] <;> rfl)|(simp [*,errW_none,errW_some] <;> rfl),by repeat (first|(with_reducible first|exact HB.out|apply below_alloc|apply pw_below_drewN|apply below_drew1)|exact HB.out)⟩
 rw [if_neg c4] at H
 have c4b0 : (a0 == 0) = false:=beq_eq_false_iff_ne.mpr c4
 have c4b1 : (a0 != 0) = true:=bne_iff_ne.mpr c4
 replace H:=Option.bind_eq_some_iff.mp H
 obtain ⟨t313,A50,H⟩:=H
 replace H : (bursarref03_Print.l0 k a0 t313 (⟨#[]⟩ : ByteArray) (⟨#[]⟩ : ByteArray) 1) = some r:=H
 have A5:=Aside0.mk A50
 clear A50
 have H':=Aside0.mk H
 clear H
 go_enter Tryz.func20,Tryz.ntmps20
 go_wp2_with (first|((with_reducible refine gate_callee (f:=59) rfl ?_);refine goesL_ (some 20) rfl rfl Tryz.func59 (by kernel_rfl) rfl #[] rfl (by (try simp only [List.map_toArray,List.map_cons,List.map_nil]);first|done|rfl|(simp only [List.length_drop,List.length_take];rfl)) ?_;(with_reducible refine (bursarref03_suffixes.calls k  t313 _ A5.out).mono ?_);rintro e w6 ⟨v314,rfl,ho0,hb⟩;refine ⟨_,rfl,?_⟩;have n0_:=Aside0.mk (Kd.N_lower (Kd.N_mono (ok':=fun k_ => True) ho0 (fun k_ hk_ => trivial)) (below_size (by repeat (first|(with_reducible first|exact HB.out|apply below_alloc|apply pw_below_drewN|apply below_drew1)|exact HB.out))));have n1_:=Aside0.mk (below_step (by repeat (first|(with_reducible first|exact HB.out|apply below_alloc|apply pw_below_drewN|apply below_drew1)|exact HB.out)) hb);clear HB;have HO315:=n0_;have HB:=n1_;clear n0_ n1_;(try clear hb);(try clear hb2);(try clear hk);(try clear hi);(try clear ho0)))
 go_loopg [4,5,6] k (fun kq v4 v5 v6 w' => ∃ (x4_1 : ByteArray) (x5_1 : ByteArray) (x6_1 : Int),v4 = .string x4_1 ∧ v5 = .string x5_1 ∧ v6 = .int .i64 x6_1 ∧ Aside0 (bursarref03_Print.l0 kq a0 t313 x4_1 x5_1 x6_1 = some r) ∧ Aside0 (kq ≤ k) ∧ Aside0 (Kd.N k87 87 w' w.heap.size (fun _ => True) v314 t313) ∧ Aside0 (Below w.heap.size w w'))
 case atStart => exact ⟨((⟨#[]⟩ : ByteArray)),((⟨#[]⟩ : ByteArray)),(1),(by first|rfl|(simp;done)|(simp [*];done)|(simp;rw [Bool.eq_iff_iff];simp;done)|(rw [Bool.eq_iff_iff];simp;done)),(by first|rfl|(simp;done)|(simp [*];done)|(simp;rw [Bool.eq_iff_iff];simp;done)|(rw [Bool.eq_iff_iff];simp;done)),(by first|rfl|(simp;done)|(simp [*];done)|(simp;rw [Bool.eq_iff_iff];simp;done)|(rw [Bool.eq_iff_iff];simp;done)),H',⟨Nat.le_refl _⟩,⟨by (with_reducible repeat (first|apply Kd.N_alloc|apply Kd.N_drewN|apply Kd.N_drew));exact HO315.out⟩,⟨by repeat (first|(with_reducible first|exact HB.out|apply below_alloc|apply pw_below_drewN|apply below_drew1)|exact HB.out)⟩⟩
 case round =>
  clear H';(try clear c2);(try clear c2b0);(try clear p2);(try clear c3);(try clear c3b0);(try clear c3b1);(try clear c4);(try clear c4b0);(try clear c4b1);(try clear c5)
  obtain ⟨x4_1,x5_1,x6_1,rfl,rfl,rfl,HA,HK1,HO_3,HB⟩:=hrel
  cases gk with
 |zero => exact absurd HA.out (by simp [bursarref03_Print.l0])
 |succ k1 =>
   have H:=HA.out
   clear HA
   simp only [bursarref03_Print.l0] at H
   by_cases c7 : x6_1 < (t313.length : Int)
   rotate_left
   ·rw [if_neg c7] at H
    have c7b0 : decide (x6_1 < (t313.length : Int)) = false:=decide_eq_false c7
    clear c7
    by_cases c65 : x5_1.toList = ([] : List UInt8)
    ·rw [if_pos c65] at H
     have c65b0 : (x5_1.toList == ([] : List UInt8)) = true:=beq_iff_eq.mpr c65
     have c65b1 : (x5_1.toList != ([] : List UInt8)) = false:=bne_eq_false_iff_eq.mpr c65
     clear c65
     obtain rfl:=Option.some.inj H
     obtain ⟨Ao66,co66,eo66⟩:=Kd.N_slice HO_3.out
     subst eo66
     go_wp2
     go_ret
     exact ⟨by first|rfl|(simp [errW_none,errW_some] <;> rfl)|(simp [*,errW_none,errW_some] <;> rfl),by repeat (first|(with_reducible first|exact HB.out|apply below_alloc|apply pw_below_drewN|apply below_drew1)|exact HB.out)⟩
    rw [if_neg c65] at H
    have c65b0 : (x5_1.toList == ([] : List UInt8)) = false:=beq_eq_false_iff_ne.mpr c65
    have c65b1 : (x5_1.toList != ([] : List UInt8)) = true:=bne_iff_ne.mpr c65
    by_cases c67 : (x5_1.size : Int) < (x4_1.size : Int)
    ·rw [if_pos c67] at H
     have c67b0 : decide ((x5_1.size : Int) < (x4_1.size : Int)) = true:=decide_eq_true c67
     have c67b1 : decide (x5_1.size < x4_1.size) = true:=decide_eq_true (Int.ofNat_lt.mp c67)
     clear c67
     obtain rfl:=Option.some.inj H
     obtain ⟨Ao68,co68,eo68⟩:=Kd.N_slice HO_3.out
     subst eo68
     go_wp2
     go_ret
     exact ⟨by first|rfl|(simp [errW_none,errW_some] <;> rfl)|(simp [*,errW_none,errW_some] <;> rfl),by repeat (first|(with_reducible first|exact HB.out|apply below_alloc|apply pw_below_drewN|apply below_drew1)|exact HB.out)⟩
    rw [if_neg c67] at H
    have c67b0 : decide ((x5_1.size : Int) < (x4_1.size : Int)) = false:=decide_eq_false c67
    have c67b1 : decide (x5_1.size < x4_1.size) = false:=decide_eq_false (fun h => c67 (Int.ofNat_lt.mpr h))
    clear c67
    obtain rfl:=Option.some.inj H
    obtain ⟨Ao69,co69,eo69⟩:=Kd.N_slice HO_3.out
    subst eo69
    go_wp2
    go_ret
    exact ⟨by first|rfl|(simp [errW_none,errW_some] <;> rfl)|(simp [*,errW_none,errW_some] <;> rfl),by repeat (first|(with_reducible first|exact HB.out|apply below_alloc|apply pw_below_drewN|apply below_drew1)|exact HB.out)⟩
   rw [if_pos c7] at H
   have c7b0 : decide (x6_1 < (t313.length : Int)) = true:=decide_eq_true c7
   clear c7
   replace H:=Option.bind_eq_some_iff.mp H
   obtain ⟨t316,A80,H⟩:=H
   replace H : (if 0 ≤ x6_1 then ((bursarref03_Long_by.f k1 t316 ((rd_T87 t313 x6_1).f1.f0)).bind fun bt320 => (if (bt320.2.length : Int) > 0 then (bursarref03_Print.l0 k1 a0 t313 x4_1 x5_1 (wrap64 (x6_1 + 1))) else (if x6_1 < 7 then ((bursarref03_Long_text.f k1 bt320.1).bind fun t328 => (if t328.size + ((rd_T87 t313 x6_1).f0).size ≤ 9223372036854775807 then (bursarref03_Print.l0 k1 a0 t313 (t328 ++ ((rd_T87 t313 x6_1).f0)) x5_1 (wrap64 (x6_1 + 1))) else (none))) else ((bursarref03_Long_text.f k1 bt320.1).bind fun t330 => (if t330.size + ((rd_T87 t313 x6_1).f0).size ≤ 9223372036854775807 then (bursarref03_Print.l0 k1 a0 t313 x4_1 (t330 ++ ((rd_T87 t313 x6_1).f0)) (wrap64 (x6_1 + 1))) else (none)))))) else (none)) = some r:=H
   have A8:=Aside0.mk A80
   clear A80
   by_cases c9 : 0 ≤ x6_1
   rotate_left
   ·rw [if_neg c9] at H
    exact absurd H (by simp)
   rw [if_pos c9] at H
   have c9b0 : decide (0 ≤ x6_1) = true:=decide_eq_true c9
   clear c9
   replace H:=Option.bind_eq_some_iff.mp H
   obtain ⟨⟨t320,t323⟩,A100,H⟩:=H
   replace H : (if (t323.length : Int) > 0 then (bursarref03_Print.l0 k1 a0 t313 x4_1 x5_1 (wrap64 (x6_1 + 1))) else (if x6_1 < 7 then ((bursarref03_Long_text.f k1 t320).bind fun t328 => (if t328.size + ((rd_T87 t313 x6_1).f0).size ≤ 9223372036854775807 then (bursarref03_Print.l0 k1 a0 t313 (t328 ++ ((rd_T87 t313 x6_1).f0)) x5_1 (wrap64 (x6_1 + 1))) else (none))) else ((bursarref03_Long_text.f k1 t320).bind fun t330 => (if t330.size + ((rd_T87 t313 x6_1).f0).size ≤ 9223372036854775807 then (bursarref03_Print.l0 k1 a0 t313 x4_1 (t330 ++ ((rd_T87 t313 x6_1).f0)) (wrap64 (x6_1 + 1))) else (none))))) = some r:=H
   have A10:=Aside0.mk A100
   clear A100
   have H':=Aside0.mk H
   clear H
   obtain ⟨Ao29,co29,eo29⟩:=Kd.N_slice HO_3.out
   subst eo29
   try go_wp2
   have n0_:=Aside0.mk (Kd.N_drew HO_3.out)
   have n1_:=Aside0.mk (below_drew1 HB.out)
   clear HO_3;clear HB;have HO_3:=n0_;have HB:=n1_;clear n0_ n1_
   have p319 : 0 ≤ (x6_1 : Int):=of_decide_eq_true (by first|(with_reducible assumption)|assumption)
   have q319 : x6_1 < (t313.length : Int):=of_decide_eq_true (by first|(with_reducible assumption)|assumption)
   obtain ⟨ad319,A319_1,c319_1,e319,hx319_0,hx319_1,hl319_1,hi319_1⟩:=at_T87 (Kd.N_reads' HO_3.out).2.2 x6_1 p319 q319
   cases e319
   obtain ⟨ce319,hce319,hMe319,hcc319⟩:=Kd.N_get HO_3.out z87 x6_1 p319 (by first|exact q319|exact of_decide_eq_true (by first|(with_reducible assumption)|assumption)|(have e_:=(Kd.N_reads' HO_3.out).1;omega))
   obtain ⟨ua319_1,uc319_1,rfl,ul319_1,ge319_1⟩:=k87_openF hMe319
   have hv319_1:=hcc319 1 _ rfl
   rw [add_field _ _ 1 (by omega)] at hv319_1
   replace hv319_1:=Option.some.inj (hv319_1.symm.trans hx319_1)
   injection hv319_1 with hva_ hvn_ hvc_
   rw [hva_] at ge319_1
   rw [hvc_] at ul319_1
   have HL319_1:=Aside0.mk (show Kd.V (Kd.int .i64) 3 _ w.heap.size _ _ ((rd_T87 t313 x6_1).f1.f0) from Kd.V_mk ul319_1 ge319_1)
   clear hva_ hvn_ hvc_ ge319_1 ul319_1;clear hcc319 hce319
   have HR319_1:=Aside0.mk hi319_1
   have HC319_1:=Aside0.mk hl319_1
   clear hi319_1 hl319_1
   replace p319:=eq_true p319
   replace q319:=eq_true q319
   refine start_ (n:=15) (S:=fun w' => w'.cell? (ad319.add ((x6_1).toNat * 2)) = some (.string ((rd_T87 t313 x6_1).f0)) ∧ w'.cell? ⟨(ad319.add ((x6_1).toNat * 2)).block,(ad319.add ((x6_1).toNat * 2)).off + 1,none⟩ = some (.slice A319_1 ((rd_T87 t313 x6_1).f1.f0).length c319_1)) (ds:=[]) (bl 0 15) (by kernel_rfl) rfl rfl ⟨hx319_0,hx319_1⟩ (fun hHeld => ?_);refine with_tabW bursarref03_Print.tab12 bursarref03_Print.bits12 (fun HT_ HW_ => ?_)
   generalize wr.drew = w30 at HO_3 HB HL319_1 HR319_1 hx319_0 hx319_1 hHeld ⊢
   refine pure_ (i:=0) (N:=some 28) (v:=?_) (a':=?_) (bl 1 14) rfl rfl (any_of HT_.out (by kernel_rfl)) (fun _ _ _ h => h) (Or.inl ⟨by rfl,?_⟩) ?_ ?_
   rotate_left;·intro w';go_simp;with_reducible rfl
   rotate_left;·simp only [Act.put,List.setIfInBounds_toArray,List.set_cons_zero,List.set_cons_succ,i64_w,i32_w];rfl
   refine pure_ (i:=2) (N:=some 30) (v:=?_) (a':=?_) #[true,false,true,false,false,false,false,false,false,false,false,false,false,false,false] rfl rfl (any_of HT_.out (by kernel_rfl)) (fun _ _ _ h => h) (Or.inl ⟨by rfl,?_⟩) ?_ ?_
   rotate_left;·intro w';go_simp;with_reducible rfl
   rotate_left;·simp only [Act.put,List.setIfInBounds_toArray,List.set_cons_zero,List.set_cons_succ,i64_w,i32_w];rfl
   refine pure_ (i:=3) (N:=some 31) (v:=?_) (a':=?_) #[true,false,true,true,false,false,false,false,false,false,false,false,false,false,false] rfl rfl (any_of HT_.out (by kernel_rfl)) (fun _ _ _ h => h) (Or.inl ⟨by rfl,?_⟩) ?_ ?_
   rotate_left;·intro w';go_simp;with_reducible rfl
   rotate_left;·simp only [Act.put,List.setIfInBounds_toArray,List.set_cons_zero,List.set_cons_succ,i64_w,i32_w];rfl
   refine pure_ (i:=4) (N:=some 32) (v:=?_) (a':=?_) #[true,false,true,true,true,false,false,false,false,false,false,false,false,false,false] rfl rfl (any_of HT_.out (by kernel_rfl)) (fun _ _ _ h => h) (Or.inl ⟨by rfl,?_⟩) ?_ ?_
   rotate_left;·intro w';go_simp;with_reducible rfl
   rotate_left;·simp only [Act.put,List.setIfInBounds_toArray,List.set_cons_zero,List.set_cons_succ,i64_w,i32_w];rfl
   refine pure_ (i:=5) (N:=some 33) (v:=?_) (a':=?_) #[true,false,true,true,true,true,false,false,false,false,false,false,false,false,false] rfl rfl (any_of HT_.out (by kernel_rfl)) (fun _ _ _ h => h) (Or.inl ⟨by rfl,?_⟩) ?_ ?_
   rotate_left;·intro w';go_simp;with_reducible rfl
   rotate_left;·simp only [Act.put,List.setIfInBounds_toArray,List.set_cons_zero,List.set_cons_succ,i64_w,i32_w];rfl
   refine take_ (i:=6) (N:=some 34) (v:=?_) (a':=?_) #[true,false,true,true,true,true,true,false,false,false,false,false,false,false,false] rfl rfl (take_ofW HT_.out HW_.out (by kernel_rfl)) (fun _ _ _ h => h) (Or.inl ⟨by rfl,?_⟩) hHeld ?_ ?_
   rotate_left
   ·rintro w' ⟨s0,s1⟩
    go_simp
    with_reducible rfl
   rotate_left
   ·simp only [Act.put,List.setIfInBounds_toArray,List.set_cons_zero,List.set_cons_succ,i64_w,i32_w]
    rfl
   refine join_ (σ:=Value × Value × Value × Nat × Nat) 2 (bl 13 2) (fun s_ => [(29,.agg #[s_.1]),(35,.tuple #[.agg #[s_.2.1],.agg #[s_.2.2.1]]),(7,.pointer (some ⟨s_.2.2.2.1,0,none⟩)),(8,.pointer (some ⟨s_.2.2.2.2,0,none⟩)),(27,.tuple #[.agg #[s_.2.1],.agg #[s_.2.2.1]]),(36,.agg #[s_.2.1]),(37,.agg #[s_.2.2.1])]) (fun s_ w' => (w'.cell? (ad319.add ((x6_1).toNat * 2)) = some (.string ((rd_T87 t313 x6_1).f0)) ∧ w'.cell? ⟨(ad319.add ((x6_1).toNat * 2)).block,(ad319.add ((x6_1).toNat * 2)).off + 1,none⟩ = some (.slice A319_1 ((rd_T87 t313 x6_1).f1.f0).length c319_1)) ∧ (Kd.V (Kd.int .i64) 3 w' w.heap.size (fun k_ => some k_ ≠ (s_.1 : Value).ownBlock ∧ some k_ ≠ (.slice (some ad319) t313.length co29 : Value).ownBlock ∧ k_ ≠ s_.2.2.2.1 ∧ k_ ≠ s_.2.2.2.2) (.slice A319_1 ((rd_T87 t313 x6_1).f1.f0).length c319_1) ((rd_T87 t313 x6_1).f1.f0)) ∧ (Kd.R (Kd.int .i64) 3 w' w.heap.size (fun _ => True) s_.1 t316) ∧ (Kd.V (Kd.int .i64) 3 w' w.heap.size (fun k_ => some k_ ≠ (s_.1 : Value).ownBlock ∧ some k_ ≠ (.slice (some ad319) t313.length co29 : Value).ownBlock ∧ k_ ≠ s_.2.2.2.1 ∧ k_ ≠ s_.2.2.2.2) s_.2.1 t320) ∧ (Kd.V (Kd.int .i64) 3 w' w.heap.size (fun k_ => some k_ ≠ (s_.1 : Value).ownBlock ∧ some k_ ≠ (.slice (some ad319) t313.length co29 : Value).ownBlock ∧ k_ ≠ s_.2.2.2.1 ∧ k_ ≠ s_.2.2.2.2) s_.2.2.1 t323) ∧ (Kd.N k87 87 w' w.heap.size (fun k_ => some k_ ≠ (s_.1 : Value).ownBlock ∧ k_ ≠ s_.2.2.2.1 ∧ k_ ≠ s_.2.2.2.2) (.slice (some ad319) t313.length co29) t313) ∧ (w'.heap[s_.2.2.2.1]? = some (.cells #[.slice none 0 0] 85 (0,0))) ∧ (w'.heap[s_.2.2.2.2]? = some (.cells #[.slice none 0 0] 85 (0,0))) ∧ (w.heap.size ≤ s_.2.2.2.1) ∧ (w.heap.size ≤ s_.2.2.2.1) ∧ (s_.2.2.2.2 ≠ s_.2.2.2.1) ∧ (s_.2.2.2.1 ≠ s_.2.2.2.2) ∧ (w.heap.size ≤ s_.2.2.2.2) ∧ (w.heap.size ≤ s_.2.2.2.2) ∧ (Below w.heap.size w w')) ?_ ?_
   rotate_left
   ·intro hJ1_7_11_12
    refine join_ (σ:=Value × Value × Value × Nat) 3 (bl 12 3) (fun s_ => [(29,.agg #[s_.1]),(35,.tuple #[.agg #[s_.2.1],.agg #[s_.2.2.1]]),(7,.pointer (some ⟨s_.2.2.2,0,none⟩)),(27,.tuple #[.agg #[s_.2.1],.agg #[s_.2.2.1]]),(36,.agg #[s_.2.1]),(37,.agg #[s_.2.2.1])]) (fun s_ w' => (w'.cell? (ad319.add ((x6_1).toNat * 2)) = some (.string ((rd_T87 t313 x6_1).f0)) ∧ w'.cell? ⟨(ad319.add ((x6_1).toNat * 2)).block,(ad319.add ((x6_1).toNat * 2)).off + 1,none⟩ = some (.slice A319_1 ((rd_T87 t313 x6_1).f1.f0).length c319_1)) ∧ (Kd.V (Kd.int .i64) 3 w' w.heap.size (fun k_ => some k_ ≠ (s_.1 : Value).ownBlock ∧ some k_ ≠ (.slice (some ad319) t313.length co29 : Value).ownBlock ∧ k_ ≠ s_.2.2.2) (.slice A319_1 ((rd_T87 t313 x6_1).f1.f0).length c319_1) ((rd_T87 t313 x6_1).f1.f0)) ∧ (Kd.R (Kd.int .i64) 3 w' w.heap.size (fun _ => True) s_.1 t316) ∧ (Kd.V (Kd.int .i64) 3 w' w.heap.size (fun k_ => some k_ ≠ (s_.1 : Value).ownBlock ∧ some k_ ≠ (.slice (some ad319) t313.length co29 : Value).ownBlock ∧ k_ ≠ s_.2.2.2) s_.2.1 t320) ∧ (Kd.V (Kd.int .i64) 3 w' w.heap.size (fun k_ => some k_ ≠ (s_.1 : Value).ownBlock ∧ some k_ ≠ (.slice (some ad319) t313.length co29 : Value).ownBlock ∧ k_ ≠ s_.2.2.2) s_.2.2.1 t323) ∧ (Kd.N k87 87 w' w.heap.size (fun k_ => some k_ ≠ (s_.1 : Value).ownBlock ∧ k_ ≠ s_.2.2.2) (.slice (some ad319) t313.length co29) t313) ∧ (w'.heap[s_.2.2.2]? = some (.cells #[.slice none 0 0] 85 (0,0))) ∧ (w.heap.size ≤ s_.2.2.2) ∧ (w.heap.size ≤ s_.2.2.2) ∧ (Below w.heap.size w w')) ?_ ?_
    rotate_left
    ·intro hJ1_7_11
     refine join_ (σ:=Value × Value × Value × Nat) 3 #[true,true,true,true,true,true,true,true,true,true,true,false,true,false,false] (fun s_ => [(29,.agg #[s_.1]),(35,.tuple #[.agg #[s_.2.1],.agg #[s_.2.2.1]]),(8,.pointer (some ⟨s_.2.2.2,0,none⟩)),(27,.tuple #[.agg #[s_.2.1],.agg #[s_.2.2.1]]),(36,.agg #[s_.2.1]),(37,.agg #[s_.2.2.1])]) (fun s_ w' => (w'.cell? (ad319.add ((x6_1).toNat * 2)) = some (.string ((rd_T87 t313 x6_1).f0)) ∧ w'.cell? ⟨(ad319.add ((x6_1).toNat * 2)).block,(ad319.add ((x6_1).toNat * 2)).off + 1,none⟩ = some (.slice A319_1 ((rd_T87 t313 x6_1).f1.f0).length c319_1)) ∧ (Kd.V (Kd.int .i64) 3 w' w.heap.size (fun k_ => some k_ ≠ (s_.1 : Value).ownBlock ∧ some k_ ≠ (.slice (some ad319) t313.length co29 : Value).ownBlock ∧ k_ ≠ s_.2.2.2) (.slice A319_1 ((rd_T87 t313 x6_1).f1.f0).length c319_1) ((rd_T87 t313 x6_1).f1.f0)) ∧ (Kd.R (Kd.int .i64) 3 w' w.heap.size (fun _ => True) s_.1 t316) ∧ (Kd.V (Kd.int .i64) 3 w' w.heap.size (fun k_ => some k_ ≠ (s_.1 : Value).ownBlock ∧ some k_ ≠ (.slice (some ad319) t313.length co29 : Value).ownBlock ∧ k_ ≠ s_.2.2.2) s_.2.1 t320) ∧ (Kd.V (Kd.int .i64) 3 w' w.heap.size (fun k_ => some k_ ≠ (s_.1 : Value).ownBlock ∧ some k_ ≠ (.slice (some ad319) t313.length co29 : Value).ownBlock ∧ k_ ≠ s_.2.2.2) s_.2.2.1 t323) ∧ (Kd.N k87 87 w' w.heap.size (fun k_ => some k_ ≠ (s_.1 : Value).ownBlock ∧ k_ ≠ s_.2.2.2) (.slice (some ad319) t313.length co29) t313) ∧ (w'.heap[s_.2.2.2]? = some (.cells #[.slice none 0 0] 85 (0,0))) ∧ (w.heap.size ≤ s_.2.2.2) ∧ (w.heap.size ≤ s_.2.2.2) ∧ (Below w.heap.size w w')) ?_ ?_
     rotate_left
     ·intro hJ1_7_12
      refine join_ (σ:=Value × Nat × Nat) 6 #[true,true,true,true,true,true,true,false,false,false,false,true,true,false,false] (fun s_ => [(29,.agg #[s_.1]),(7,.pointer (some ⟨s_.2.1,0,none⟩)),(8,.pointer (some ⟨s_.2.2,0,none⟩))]) (fun s_ w' => (w'.cell? (ad319.add ((x6_1).toNat * 2)) = some (.string ((rd_T87 t313 x6_1).f0)) ∧ w'.cell? ⟨(ad319.add ((x6_1).toNat * 2)).block,(ad319.add ((x6_1).toNat * 2)).off + 1,none⟩ = some (.slice A319_1 ((rd_T87 t313 x6_1).f1.f0).length c319_1)) ∧ (Kd.V (Kd.int .i64) 3 w' w.heap.size (fun k_ => some k_ ≠ (s_.1 : Value).ownBlock ∧ some k_ ≠ (.slice (some ad319) t313.length co29 : Value).ownBlock ∧ k_ ≠ s_.2.1 ∧ k_ ≠ s_.2.2) (.slice A319_1 ((rd_T87 t313 x6_1).f1.f0).length c319_1) ((rd_T87 t313 x6_1).f1.f0)) ∧ (Kd.R (Kd.int .i64) 3 w' w.heap.size (fun _ => True) s_.1 t316) ∧ (Kd.N k87 87 w' w.heap.size (fun k_ => some k_ ≠ (s_.1 : Value).ownBlock ∧ k_ ≠ s_.2.1 ∧ k_ ≠ s_.2.2) (.slice (some ad319) t313.length co29) t313) ∧ (w'.heap[s_.2.1]? = some (.cells #[.slice none 0 0] 85 (0,0))) ∧ (w'.heap[s_.2.2]? = some (.cells #[.slice none 0 0] 85 (0,0))) ∧ (w.heap.size ≤ s_.2.1) ∧ (w.heap.size ≤ s_.2.1) ∧ (s_.2.2 ≠ s_.2.1) ∧ (s_.2.1 ≠ s_.2.2) ∧ (w.heap.size ≤ s_.2.2) ∧ (w.heap.size ≤ s_.2.2) ∧ (Below w.heap.size w w')) ?_ ?_
      rotate_left
      ·intro hJ1_11_12
       refine join_ (σ:=Value × Value × Value) 4 (bl 11 4) (fun s_ => [(29,.agg #[s_.1]),(35,.tuple #[.agg #[s_.2.1],.agg #[s_.2.2]]),(27,.tuple #[.agg #[s_.2.1],.agg #[s_.2.2]]),(36,.agg #[s_.2.1]),(37,.agg #[s_.2.2])]) (fun s_ w' => (w'.cell? (ad319.add ((x6_1).toNat * 2)) = some (.string ((rd_T87 t313 x6_1).f0)) ∧ w'.cell? ⟨(ad319.add ((x6_1).toNat * 2)).block,(ad319.add ((x6_1).toNat * 2)).off + 1,none⟩ = some (.slice A319_1 ((rd_T87 t313 x6_1).f1.f0).length c319_1)) ∧ (Kd.V (Kd.int .i64) 3 w' w.heap.size (fun k_ => some k_ ≠ (s_.1 : Value).ownBlock ∧ some k_ ≠ (.slice (some ad319) t313.length co29 : Value).ownBlock) (.slice A319_1 ((rd_T87 t313 x6_1).f1.f0).length c319_1) ((rd_T87 t313 x6_1).f1.f0)) ∧ (Kd.R (Kd.int .i64) 3 w' w.heap.size (fun _ => True) s_.1 t316) ∧ (Kd.V (Kd.int .i64) 3 w' w.heap.size (fun k_ => some k_ ≠ (s_.1 : Value).ownBlock ∧ some k_ ≠ (.slice (some ad319) t313.length co29 : Value).ownBlock) s_.2.1 t320) ∧ (Kd.V (Kd.int .i64) 3 w' w.heap.size (fun k_ => some k_ ≠ (s_.1 : Value).ownBlock ∧ some k_ ≠ (.slice (some ad319) t313.length co29 : Value).ownBlock) s_.2.2 t323) ∧ (Kd.N k87 87 w' w.heap.size (fun k_ => some k_ ≠ (s_.1 : Value).ownBlock) (.slice (some ad319) t313.length co29) t313) ∧ (Below w.heap.size w w')) ?_ ?_
       rotate_left
       ·intro hJ1_7
        refine join_ (σ:=Value × Nat) 7 #[true,true,true,true,true,true,true,false,false,false,false,true,false,false,false] (fun s_ => [(29,.agg #[s_.1]),(7,.pointer (some ⟨s_.2,0,none⟩))]) (fun s_ w' => (w'.cell? (ad319.add ((x6_1).toNat * 2)) = some (.string ((rd_T87 t313 x6_1).f0)) ∧ w'.cell? ⟨(ad319.add ((x6_1).toNat * 2)).block,(ad319.add ((x6_1).toNat * 2)).off + 1,none⟩ = some (.slice A319_1 ((rd_T87 t313 x6_1).f1.f0).length c319_1)) ∧ (Kd.V (Kd.int .i64) 3 w' w.heap.size (fun k_ => some k_ ≠ (s_.1 : Value).ownBlock ∧ some k_ ≠ (.slice (some ad319) t313.length co29 : Value).ownBlock ∧ k_ ≠ s_.2) (.slice A319_1 ((rd_T87 t313 x6_1).f1.f0).length c319_1) ((rd_T87 t313 x6_1).f1.f0)) ∧ (Kd.R (Kd.int .i64) 3 w' w.heap.size (fun _ => True) s_.1 t316) ∧ (Kd.N k87 87 w' w.heap.size (fun k_ => some k_ ≠ (s_.1 : Value).ownBlock ∧ k_ ≠ s_.2) (.slice (some ad319) t313.length co29) t313) ∧ (w'.heap[s_.2]? = some (.cells #[.slice none 0 0] 85 (0,0))) ∧ (w.heap.size ≤ s_.2) ∧ (w.heap.size ≤ s_.2) ∧ (Below w.heap.size w w')) ?_ ?_
        rotate_left
        ·intro hJ1_11
         refine join_ (σ:=Value × Nat) 7 #[true,true,true,true,true,true,true,false,false,false,false,false,true,false,false] (fun s_ => [(29,.agg #[s_.1]),(8,.pointer (some ⟨s_.2,0,none⟩))]) (fun s_ w' => (w'.cell? (ad319.add ((x6_1).toNat * 2)) = some (.string ((rd_T87 t313 x6_1).f0)) ∧ w'.cell? ⟨(ad319.add ((x6_1).toNat * 2)).block,(ad319.add ((x6_1).toNat * 2)).off + 1,none⟩ = some (.slice A319_1 ((rd_T87 t313 x6_1).f1.f0).length c319_1)) ∧ (Kd.V (Kd.int .i64) 3 w' w.heap.size (fun k_ => some k_ ≠ (s_.1 : Value).ownBlock ∧ some k_ ≠ (.slice (some ad319) t313.length co29 : Value).ownBlock ∧ k_ ≠ s_.2) (.slice A319_1 ((rd_T87 t313 x6_1).f1.f0).length c319_1) ((rd_T87 t313 x6_1).f1.f0)) ∧ (Kd.R (Kd.int .i64) 3 w' w.heap.size (fun _ => True) s_.1 t316) ∧ (Kd.N k87 87 w' w.heap.size (fun k_ => some k_ ≠ (s_.1 : Value).ownBlock ∧ k_ ≠ s_.2) (.slice (some ad319) t313.length co29) t313) ∧ (w'.heap[s_.2]? = some (.cells #[.slice none 0 0] 85 (0,0))) ∧ (w.heap.size ≤ s_.2) ∧ (w.heap.size ≤ s_.2) ∧ (Below w.heap.size w w')) ?_ ?_
         rotate_left
         ·intro hJ1_12
          refine join_ (σ:=Nat × Nat) 7 #[true,false,true,true,true,true,true,false,false,false,false,true,true,false,false] (fun s_ => [(7,.pointer (some ⟨s_.1,0,none⟩)),(8,.pointer (some ⟨s_.2,0,none⟩))]) (fun s_ w' => (w'.cell? (ad319.add ((x6_1).toNat * 2)) = some (.string ((rd_T87 t313 x6_1).f0)) ∧ w'.cell? ⟨(ad319.add ((x6_1).toNat * 2)).block,(ad319.add ((x6_1).toNat * 2)).off + 1,none⟩ = some (.slice A319_1 ((rd_T87 t313 x6_1).f1.f0).length c319_1)) ∧ (Kd.V (Kd.int .i64) 3 w' w.heap.size (fun k_ => some k_ ≠ (.slice (some ad319) t313.length co29 : Value).ownBlock ∧ k_ ≠ s_.1 ∧ k_ ≠ s_.2) (.slice A319_1 ((rd_T87 t313 x6_1).f1.f0).length c319_1) ((rd_T87 t313 x6_1).f1.f0)) ∧ (Kd.N k87 87 w' w.heap.size (fun k_ => k_ ≠ s_.1 ∧ k_ ≠ s_.2) (.slice (some ad319) t313.length co29) t313) ∧ (w'.heap[s_.1]? = some (.cells #[.slice none 0 0] 85 (0,0))) ∧ (w'.heap[s_.2]? = some (.cells #[.slice none 0 0] 85 (0,0))) ∧ (w.heap.size ≤ s_.1) ∧ (w.heap.size ≤ s_.1) ∧ (s_.2 ≠ s_.1) ∧ (s_.1 ≠ s_.2) ∧ (w.heap.size ≤ s_.2) ∧ (w.heap.size ≤ s_.2) ∧ (Below w.heap.size w w')) ?_ ?_
          rotate_left
          ·intro hJ11_12
           refine join_ (σ:=Value) 8 (bl 7 8) (fun s_ => [(29,.agg #[s_])]) (fun s_ w' => (w'.cell? (ad319.add ((x6_1).toNat * 2)) = some (.string ((rd_T87 t313 x6_1).f0)) ∧ w'.cell? ⟨(ad319.add ((x6_1).toNat * 2)).block,(ad319.add ((x6_1).toNat * 2)).off + 1,none⟩ = some (.slice A319_1 ((rd_T87 t313 x6_1).f1.f0).length c319_1)) ∧ (Kd.V (Kd.int .i64) 3 w' w.heap.size (fun k_ => some k_ ≠ (s_ : Value).ownBlock ∧ some k_ ≠ (.slice (some ad319) t313.length co29 : Value).ownBlock) (.slice A319_1 ((rd_T87 t313 x6_1).f1.f0).length c319_1) ((rd_T87 t313 x6_1).f1.f0)) ∧ (Kd.R (Kd.int .i64) 3 w' w.heap.size (fun _ => True) s_ t316) ∧ (Kd.N k87 87 w' w.heap.size (fun k_ => some k_ ≠ (s_ : Value).ownBlock) (.slice (some ad319) t313.length co29) t313) ∧ (Below w.heap.size w w')) ?_ ?_
           rotate_left
           ·intro hJ1
            refine join_ (σ:=Nat) 8 #[true,false,true,true,true,true,true,false,false,false,false,true,false,false,false] (fun s_ => [(7,.pointer (some ⟨s_,0,none⟩))]) (fun s_ w' => (w'.cell? (ad319.add ((x6_1).toNat * 2)) = some (.string ((rd_T87 t313 x6_1).f0)) ∧ w'.cell? ⟨(ad319.add ((x6_1).toNat * 2)).block,(ad319.add ((x6_1).toNat * 2)).off + 1,none⟩ = some (.slice A319_1 ((rd_T87 t313 x6_1).f1.f0).length c319_1)) ∧ (Kd.V (Kd.int .i64) 3 w' w.heap.size (fun k_ => some k_ ≠ (.slice (some ad319) t313.length co29 : Value).ownBlock ∧ k_ ≠ s_) (.slice A319_1 ((rd_T87 t313 x6_1).f1.f0).length c319_1) ((rd_T87 t313 x6_1).f1.f0)) ∧ (Kd.N k87 87 w' w.heap.size (fun k_ => k_ ≠ s_) (.slice (some ad319) t313.length co29) t313) ∧ (w'.heap[s_]? = some (.cells #[.slice none 0 0] 85 (0,0))) ∧ (w.heap.size ≤ s_) ∧ (w.heap.size ≤ s_) ∧ (Below w.heap.size w w')) ?_ ?_
            rotate_left
            ·intro hJ11
             refine join_ (σ:=Nat) 8 #[true,false,true,true,true,true,true,false,false,false,false,false,true,false,false] (fun s_ => [(8,.pointer (some ⟨s_,0,none⟩))]) (fun s_ w' => (w'.cell? (ad319.add ((x6_1).toNat * 2)) = some (.string ((rd_T87 t313 x6_1).f0)) ∧ w'.cell? ⟨(ad319.add ((x6_1).toNat * 2)).block,(ad319.add ((x6_1).toNat * 2)).off + 1,none⟩ = some (.slice A319_1 ((rd_T87 t313 x6_1).f1.f0).length c319_1)) ∧ (Kd.V (Kd.int .i64) 3 w' w.heap.size (fun k_ => some k_ ≠ (.slice (some ad319) t313.length co29 : Value).ownBlock ∧ k_ ≠ s_) (.slice A319_1 ((rd_T87 t313 x6_1).f1.f0).length c319_1) ((rd_T87 t313 x6_1).f1.f0)) ∧ (Kd.N k87 87 w' w.heap.size (fun k_ => k_ ≠ s_) (.slice (some ad319) t313.length co29) t313) ∧ (w'.heap[s_]? = some (.cells #[.slice none 0 0] 85 (0,0))) ∧ (w.heap.size ≤ s_) ∧ (w.heap.size ≤ s_) ∧ (Below w.heap.size w w')) ?_ ?_
             rotate_left
             ·intro hJ12
              refine three_ (i:=1) (j:=11) (k:=12) (Ni:=some 29) (Nj:=some 7) (Nk:=some 8) (bl 7 8) #[true,false,true,true,true,true,true,false,false,false,false,true,false,false,false] #[true,false,true,true,true,true,true,false,false,false,false,false,true,false,false] rfl rfl rfl rfl rfl rfl (three_of HT_.out (by kernel_rfl)) (by decide) (by decide) (by decide) (fun K hK => ?_) (fun K hK => ?_) (fun K hK => ?_)
              ·skip
               refine goes_ Tryz.func62 (by kernel_rfl) rfl #[.int .i64 a0] (by rfl) rfl rfl (by (try simp only [List.map_toArray,List.map_cons,List.map_nil]);first|done|rfl|(simp only [List.length_drop,List.length_take];rfl)) ?_
               with_reducible refine (bursarref03_long.calls k1 a0 t316 _ A8.out).mono ?_
               rintro e w31 ⟨v317,rfl,ho0,hb⟩
               have HS0_:=(hb.cell (World.block_lt_of_cell? _ _ (hHeld.1))).trans (hHeld.1)
               have HS1_:=(hb.cell (World.block_lt_of_cell? _ _ (hHeld.2))).trans (hHeld.2)
               refine ⟨_,rfl,?_⟩
               have n0_:=Aside0.mk (Kd.N_elder' (by (with_reducible repeat (first|apply Kd.N_alloc|apply Kd.N_drewN|apply Kd.N_drew));exact HO_3.out) (Kd.R_base ho0) hb)
               have n1_:=Aside0.mk (Kd.V_elder' (by (with_reducible repeat (first|apply Kd.V_alloc|apply Kd.V_drewN|apply Kd.V_drew));exact HL319_1.out) (Kd.R_base ho0) hb)
               have n2_:=Aside0.mk (Kd.R_lower ho0 (below_size (by repeat (first|(with_reducible first|exact HB.out|apply below_alloc|apply pw_below_drewN|apply below_drew1)|exact HB.out))))
               have n3_:=Aside0.mk (Kd.C_below (by repeat (first|(with_reducible exact HR319_1.out)|(with_reducible refine Kd.C_alloc ?_ _)|(with_reducible refine Kd.C_drewN ?_ _)|(with_reducible refine Kd.C_drew ?_)|exact HR319_1.out)) hb)
               have n4_:=Aside0.mk (below_step (by repeat (first|(with_reducible first|exact HB.out|apply below_alloc|apply pw_below_drewN|apply below_drew1)|exact HB.out)) hb)
               clear HO_3;clear HL319_1;clear HR319_1;clear HB;have HO_3:=n0_;have HL319_1:=n1_;have HO318:=n2_;have HR319_1:=n3_;have HB:=n4_;clear n0_ n1_ n2_ n3_ n4_;(try clear hb);(try clear hb2);(try clear hk);(try clear hi);(try clear ho0)
               refine hK.out _ _ ⟨HS0_,HS1_⟩ (fun hHeld => ?_)
               clear hK K
               refine norm_ (a':=?_) ?_ ?_
               rotate_left
               ·show Act.put _ (some 29) _ = _
                simp only [Act.put,List.setIfInBounds_toArray,List.set_cons_zero,List.set_cons_succ,i64_w,i32_w]
                rfl
               exact norm_ (by first|(simp only [putAll,Act.put,List.setIfInBounds_toArray,List.set_cons_zero,List.set_cons_succ];done)|(simp only [putAll,Act.put,List.setIfInBounds_toArray,List.set_cons_zero,List.set_cons_succ];rfl)) (hJ1 (v317) _ ⟨hHeld,(by (with_reducible repeat (first|apply Kd.V_alloc|apply Kd.V_drewN|apply Kd.V_drew));exact Kd.V_mono HL319_1.out (fun _ hk => ⟨hk.2,hk.1.2⟩)),(by (with_reducible repeat (first|apply Kd.R_alloc|apply Kd.R_drewN|apply Kd.R_drew));exact HO318.out),(by (with_reducible repeat (first|apply Kd.N_alloc|apply Kd.N_drewN|apply Kd.N_drew));exact Kd.N_mono HO_3.out (fun _ hk => hk.2)),(by repeat (first|(with_reducible first|exact HB.out|apply below_alloc|apply pw_below_drewN|apply below_drew1)|exact HB.out))⟩)
              ·skip
               refine box_step ?hg (N:=7) ?hd (cs:=#[.slice none 0 0]) (t:=85) ?hr ?_;(case hd => rfl);(case hg => rfl);(case hr => first|(go_simp;done)|(go_simp;rfl))
               intro gb326 hg w31 hbox hb
               have HS0_:=(hb.cell (World.block_lt_of_cell? _ _ (hHeld.1))).trans (hHeld.1)
               have HS1_:=(hb.cell (World.block_lt_of_cell? _ _ (hHeld.2))).trans (hHeld.2)
               have n0_:=Aside0.mk (Kd.N_below (Kd.N_elderB (by (with_reducible repeat (first|apply Kd.N_alloc|apply Kd.N_drewN|apply Kd.N_drew));exact HO_3.out) gb326 (Nat.le_of_eq hg.symm)) hb)
               have n1_:=Aside0.mk (Kd.V_below (Kd.V_elderB (by (with_reducible repeat (first|apply Kd.V_alloc|apply Kd.V_drewN|apply Kd.V_drew));exact HL319_1.out) gb326 (Nat.le_of_eq hg.symm)) hb)
               have n2_:=Aside0.mk (Kd.C_below (by repeat (first|(with_reducible exact HR319_1.out)|(with_reducible refine Kd.C_alloc ?_ _)|(with_reducible refine Kd.C_drewN ?_ _)|(with_reducible refine Kd.C_drew ?_)|exact HR319_1.out)) hb)
               have n3_:=Aside0.mk (below_step (by repeat (first|(with_reducible first|exact HB.out|apply below_alloc|apply pw_below_drewN|apply below_drew1)|exact HB.out)) hb)
               have n4_:=Aside0.mk (hbox)
               have n5_:=Aside0.mk ((by rw [hg];exact (below_size (by repeat (first|(with_reducible first|exact HB.out|apply below_alloc|apply pw_below_drewN|apply below_drew1)|exact HB.out))) : w.heap.size ≤ gb326))
               have n6_:=Aside0.mk ((by rw [hg];exact (below_size (by repeat (first|(with_reducible first|exact HB.out|apply below_alloc|apply pw_below_drewN|apply below_drew1)|exact HB.out))) : w.heap.size ≤ gb326))
               clear HO_3;clear HL319_1;clear HR319_1;clear HB;have HO_3:=n0_;have HL319_1:=n1_;have HR319_1:=n2_;have HB:=n3_;have BK326:=n4_;have GW326:=n5_;have GE326:=n6_;clear n0_ n1_ n2_ n3_ n4_ n5_ n6_;clear hb hbox hg
               refine hK.out _ _ ⟨HS0_,HS1_⟩ (fun hHeld => ?_)
               clear hK K
               refine norm_ (a':=?_) ?_ ?_
               rotate_left
               ·show Act.put _ (some 7) _ = _
                simp only [Act.put,List.setIfInBounds_toArray,List.set_cons_zero,List.set_cons_succ,i64_w,i32_w]
                rfl
               exact norm_ (by first|(simp only [putAll,Act.put,List.setIfInBounds_toArray,List.set_cons_zero,List.set_cons_succ];done)|(simp only [putAll,Act.put,List.setIfInBounds_toArray,List.set_cons_zero,List.set_cons_succ];rfl)) (hJ11 (gb326) _ ⟨hHeld,(by (with_reducible repeat (first|apply Kd.V_alloc|apply Kd.V_drewN|apply Kd.V_drew));exact Kd.V_mono HL319_1.out (fun _ hk => ⟨hk.1.2,hk.2⟩)),(by (with_reducible repeat (first|apply Kd.N_alloc|apply Kd.N_drewN|apply Kd.N_drew));exact Kd.N_mono HO_3.out (fun _ hk => hk.2)),(by (with_reducible repeat (first|refine blk_drewN ?_ _|refine blk_drew ?_|refine blk_alloc ?_ _));exact BK326.out),GW326.out,GE326.out,(by repeat (first|(with_reducible first|exact HB.out|apply below_alloc|apply pw_below_drewN|apply below_drew1|refine below_set ?_ GE326.out)|exact HB.out))⟩)
              ·skip
               refine box_step ?hg (N:=8) ?hd (cs:=#[.slice none 0 0]) (t:=85) ?hr ?_;(case hd => rfl);(case hg => rfl);(case hr => first|(go_simp;done)|(go_simp;rfl))
               intro gb327 hg w31 hbox hb
               have HS0_:=(hb.cell (World.block_lt_of_cell? _ _ (hHeld.1))).trans (hHeld.1)
               have HS1_:=(hb.cell (World.block_lt_of_cell? _ _ (hHeld.2))).trans (hHeld.2)
               have n0_:=Aside0.mk (Kd.N_below (Kd.N_elderB (by (with_reducible repeat (first|apply Kd.N_alloc|apply Kd.N_drewN|apply Kd.N_drew));exact HO_3.out) gb327 (Nat.le_of_eq hg.symm)) hb)
               have n1_:=Aside0.mk (Kd.V_below (Kd.V_elderB (by (with_reducible repeat (first|apply Kd.V_alloc|apply Kd.V_drewN|apply Kd.V_drew));exact HL319_1.out) gb327 (Nat.le_of_eq hg.symm)) hb)
               have n2_:=Aside0.mk (Kd.C_below (by repeat (first|(with_reducible exact HR319_1.out)|(with_reducible refine Kd.C_alloc ?_ _)|(with_reducible refine Kd.C_drewN ?_ _)|(with_reducible refine Kd.C_drew ?_)|exact HR319_1.out)) hb)
               have n3_:=Aside0.mk (below_step (by repeat (first|(with_reducible first|exact HB.out|apply below_alloc|apply pw_below_drewN|apply below_drew1)|exact HB.out)) hb)
               have n4_:=Aside0.mk (hbox)
               have n5_:=Aside0.mk ((by rw [hg];exact (below_size (by repeat (first|(with_reducible first|exact HB.out|apply below_alloc|apply pw_below_drewN|apply below_drew1)|exact HB.out))) : w.heap.size ≤ gb327))
               have n6_:=Aside0.mk ((by rw [hg];exact (below_size (by repeat (first|(with_reducible first|exact HB.out|apply below_alloc|apply pw_below_drewN|apply below_drew1)|exact HB.out))) : w.heap.size ≤ gb327))
               clear HO_3;clear HL319_1;clear HR319_1;clear HB;have HO_3:=n0_;have HL319_1:=n1_;have HR319_1:=n2_;have HB:=n3_;have BK327:=n4_;have GW327:=n5_;have GE327:=n6_;clear n0_ n1_ n2_ n3_ n4_ n5_ n6_;clear hb hbox hg
               refine hK.out _ _ ⟨HS0_,HS1_⟩ (fun hHeld => ?_)
               clear hK K
               refine norm_ (a':=?_) ?_ ?_
               rotate_left
               ·show Act.put _ (some 8) _ = _
                simp only [Act.put,List.setIfInBounds_toArray,List.set_cons_zero,List.set_cons_succ,i64_w,i32_w]
                rfl
               exact norm_ (by first|(simp only [putAll,Act.put,List.setIfInBounds_toArray,List.set_cons_zero,List.set_cons_succ];done)|(simp only [putAll,Act.put,List.setIfInBounds_toArray,List.set_cons_zero,List.set_cons_succ];rfl)) (hJ12 (gb327) _ ⟨hHeld,(by (with_reducible repeat (first|apply Kd.V_alloc|apply Kd.V_drewN|apply Kd.V_drew));exact Kd.V_mono HL319_1.out (fun _ hk => ⟨hk.1.2,hk.2⟩)),(by (with_reducible repeat (first|apply Kd.N_alloc|apply Kd.N_drewN|apply Kd.N_drew));exact Kd.N_mono HO_3.out (fun _ hk => hk.2)),(by (with_reducible repeat (first|refine blk_drewN ?_ _|refine blk_drew ?_|refine blk_alloc ?_ _));exact BK327.out),GW327.out,GE327.out,(by repeat (first|(with_reducible first|exact HB.out|apply below_alloc|apply pw_below_drewN|apply below_drew1|refine below_set ?_ GE327.out)|exact HB.out))⟩)
             ·skip
              rintro gb327 w32 ⟨hS_,h0_,h1_,h2_,h3_,h4_,h5_⟩
              have n0_ : Aside0 (Kd.V (Kd.int .i64) 3 w32 w.heap.size (fun k_ => some k_ ≠ (.slice (some ad319) t313.length co29 : Value).ownBlock ∧ k_ ≠ gb327) (.slice A319_1 ((rd_T87 t313 x6_1).f1.f0).length c319_1) ((rd_T87 t313 x6_1).f1.f0)):=⟨h0_⟩
              have n1_ : Aside0 (Kd.N k87 87 w32 w.heap.size (fun k_ => k_ ≠ gb327) (.slice (some ad319) t313.length co29) t313):=⟨h1_⟩
              have n2_ : Aside0 (w32.heap[gb327]? = some (.cells #[.slice none 0 0] 85 (0,0))):=⟨h2_⟩
              have n3_ : Aside0 (w.heap.size ≤ gb327):=⟨h3_⟩
              have n4_ : Aside0 (w.heap.size ≤ gb327):=⟨h4_⟩
              have n5_ : Aside0 (Below w.heap.size w w32):=⟨h5_⟩
              clear HO_3;clear HB;clear h0_ h1_ h2_ h3_ h4_ h5_;have HL319_1:=n0_;have HO_3:=n1_;have BK327:=n2_;have GW327:=n3_;have GE327:=n4_;have HB:=n5_;clear n0_ n1_ n2_ n3_ n4_ n5_
              have hHeld : w32.cell? (ad319.add ((x6_1).toNat * 2)) = some (.string ((rd_T87 t313 x6_1).f0)) ∧ w32.cell? ⟨(ad319.add ((x6_1).toNat * 2)).block,(ad319.add ((x6_1).toNat * 2)).off + 1,none⟩ = some (.slice A319_1 ((rd_T87 t313 x6_1).f1.f0).length c319_1):=hS_
              refine norm_ (a':=?_) ?_ ?_
              rotate_left
              ·simp only [putAll,Act.put,List.setIfInBounds_toArray,List.set_cons_zero,List.set_cons_succ]
               rfl
              refine two_ (i:=1) (j:=11) (Ni:=some 29) (Nj:=some 7) #[true,true,true,true,true,true,true,false,false,false,false,false,true,false,false] #[true,false,true,true,true,true,true,false,false,false,false,true,true,false,false] rfl rfl rfl rfl (two_of HT_.out (by kernel_rfl)) (by decide) (by decide) (fun K hK => ?_) (fun K hK => ?_)
              ·skip
               refine goes_ Tryz.func62 (by kernel_rfl) rfl #[.int .i64 a0] (by rfl) rfl rfl (by (try simp only [List.map_toArray,List.map_cons,List.map_nil]);first|done|rfl|(simp only [List.length_drop,List.length_take];rfl)) ?_
               with_reducible refine (bursarref03_long.calls k1 a0 t316 _ A8.out).mono ?_
               rintro e w33 ⟨v317,rfl,ho0,hb⟩
               have HS0_:=(hb.cell (World.block_lt_of_cell? _ _ (hHeld.1))).trans (hHeld.1)
               have HS1_:=(hb.cell (World.block_lt_of_cell? _ _ (hHeld.2))).trans (hHeld.2)
               refine ⟨_,rfl,?_⟩
               have n0_:=Aside0.mk (Kd.N_elder' (by (with_reducible repeat (first|apply Kd.N_alloc|apply Kd.N_drewN|apply Kd.N_drew));exact HO_3.out) (Kd.R_base ho0) hb)
               have n1_:=Aside0.mk (Kd.V_elder' (by (with_reducible repeat (first|apply Kd.V_alloc|apply Kd.V_drewN|apply Kd.V_drew));exact HL319_1.out) (Kd.R_base ho0) hb)
               have n2_:=Aside0.mk (Kd.R_lower ho0 (below_size (by repeat (first|(with_reducible first|exact HB.out|apply below_alloc|apply pw_below_drewN|apply below_drew1|refine below_set ?_ GE327.out)|exact HB.out))))
               have n3_:=Aside0.mk (blk_below (g:=gb327) (o:=.cells #[.slice none 0 0] 85 (0,0)) (by (with_reducible repeat (first|refine blk_drewN ?_ _|refine blk_drew ?_|refine blk_alloc ?_ _));exact BK327.out) hb)
               have n4_:=Aside0.mk (below_step (by repeat (first|(with_reducible first|exact HB.out|apply below_alloc|apply pw_below_drewN|apply below_drew1|refine below_set ?_ GE327.out)|exact HB.out)) hb)
               clear HO_3;clear HL319_1;clear BK327;clear HB;have HO_3:=n0_;have HL319_1:=n1_;have HO318:=n2_;have BK327:=n3_;have HB:=n4_;clear n0_ n1_ n2_ n3_ n4_;(try clear hb);(try clear hb2);(try clear hk);(try clear hi);(try clear ho0)
               refine hK.out _ _ ⟨HS0_,HS1_⟩ (fun hHeld => ?_)
               clear hK K
               refine norm_ (a':=?_) ?_ ?_
               rotate_left
               ·show Act.put _ (some 29) _ = _
                simp only [Act.put,List.setIfInBounds_toArray,List.set_cons_zero,List.set_cons_succ,i64_w,i32_w]
                rfl
               exact norm_ (by first|(simp only [putAll,Act.put,List.setIfInBounds_toArray,List.set_cons_zero,List.set_cons_succ];done)|(simp only [putAll,Act.put,List.setIfInBounds_toArray,List.set_cons_zero,List.set_cons_succ];rfl)) (hJ1_12 (v317,gb327) _ ⟨hHeld,(by (with_reducible repeat (first|apply Kd.V_alloc|apply Kd.V_drewN|apply Kd.V_drew));exact Kd.V_mono HL319_1.out (fun _ hk => ⟨hk.2,⟨hk.1.1,hk.1.2⟩⟩)),(by (with_reducible repeat (first|apply Kd.R_alloc|apply Kd.R_drewN|apply Kd.R_drew));exact HO318.out),(by (with_reducible repeat (first|apply Kd.N_alloc|apply Kd.N_drewN|apply Kd.N_drew));exact Kd.N_mono HO_3.out (fun _ hk => ⟨hk.2,hk.1⟩)),(by (with_reducible repeat (first|refine blk_drewN ?_ _|refine blk_drew ?_|refine blk_alloc ?_ _));exact BK327.out),GW327.out,GE327.out,(by repeat (first|(with_reducible first|exact HB.out|apply below_alloc|apply pw_below_drewN|apply below_drew1|refine below_set ?_ GE327.out)|exact HB.out))⟩)
              ·skip
               refine box_step ?hg (N:=7) ?hd (cs:=#[.slice none 0 0]) (t:=85) ?hr ?_;(case hd => rfl);(case hg => rfl);(case hr => first|(go_simp;done)|(go_simp;rfl))
               intro gb326 hg w33 hbox hb
               have HS0_:=(hb.cell (World.block_lt_of_cell? _ _ (hHeld.1))).trans (hHeld.1)
               have HS1_:=(hb.cell (World.block_lt_of_cell? _ _ (hHeld.2))).trans (hHeld.2)
               have n0_:=Aside0.mk (Kd.N_below (Kd.N_elderB (by (with_reducible repeat (first|apply Kd.N_alloc|apply Kd.N_drewN|apply Kd.N_drew));exact HO_3.out) gb326 (Nat.le_of_eq hg.symm)) hb)
               have n1_:=Aside0.mk (Kd.V_below (Kd.V_elderB (by (with_reducible repeat (first|apply Kd.V_alloc|apply Kd.V_drewN|apply Kd.V_drew));exact HL319_1.out) gb326 (Nat.le_of_eq hg.symm)) hb)
               have n2_:=Aside0.mk (blk_below (g:=gb327) (o:=.cells #[.slice none 0 0] 85 (0,0)) (by (with_reducible repeat (first|refine blk_drewN ?_ _|refine blk_drew ?_|refine blk_alloc ?_ _));exact BK327.out) hb)
               have n3_:=Aside0.mk (below_step (by repeat (first|(with_reducible first|exact HB.out|apply below_alloc|apply pw_below_drewN|apply below_drew1|refine below_set ?_ GE327.out)|exact HB.out)) hb)
               have n4_:=Aside0.mk (hbox)
               have n5_:=Aside0.mk ((by rw [hg];exact (below_size (by repeat (first|(with_reducible first|exact HB.out|apply below_alloc|apply pw_below_drewN|apply below_drew1|refine below_set ?_ GE327.out)|exact HB.out))) : w.heap.size ≤ gb326))
               have n6_:=Aside0.mk ((by rw [hg];exact (below_size (by repeat (first|(with_reducible first|exact HB.out|apply below_alloc|apply pw_below_drewN|apply below_drew1|refine below_set ?_ GE327.out)|exact HB.out))) : w.heap.size ≤ gb326))
               have n7_:=Aside0.mk ((by rw [hg];exact Nat.ne_of_lt (blk_lt (g:=gb327) (o:=.cells #[.slice none 0 0] 85 (0,0)) (by (with_reducible repeat (first|refine blk_drewN ?_ _|refine blk_drew ?_|refine blk_alloc ?_ _));exact BK327.out)) : gb327 ≠ gb326))
               have n8_:=Aside0.mk ((by rw [hg];exact Nat.ne_of_gt (blk_lt (g:=gb327) (o:=.cells #[.slice none 0 0] 85 (0,0)) (by (with_reducible repeat (first|refine blk_drewN ?_ _|refine blk_drew ?_|refine blk_alloc ?_ _));exact BK327.out)) : gb326 ≠ gb327))
               clear HO_3;clear HL319_1;clear BK327;clear HB;have HO_3:=n0_;have HL319_1:=n1_;have BK327:=n2_;have HB:=n3_;have BK326:=n4_;have GW326:=n5_;have GE326:=n6_;have NB327_326:=n7_;have NB326_327:=n8_;clear n0_ n1_ n2_ n3_ n4_ n5_ n6_ n7_ n8_;clear hb hbox hg
               refine hK.out _ _ ⟨HS0_,HS1_⟩ (fun hHeld => ?_)
               clear hK K
               refine norm_ (a':=?_) ?_ ?_
               rotate_left
               ·show Act.put _ (some 7) _ = _
                simp only [Act.put,List.setIfInBounds_toArray,List.set_cons_zero,List.set_cons_succ,i64_w,i32_w]
                rfl
               exact norm_ (by first|(simp only [putAll,Act.put,List.setIfInBounds_toArray,List.set_cons_zero,List.set_cons_succ];done)|(simp only [putAll,Act.put,List.setIfInBounds_toArray,List.set_cons_zero,List.set_cons_succ];rfl)) (hJ11_12 (gb326,gb327) _ ⟨hHeld,(by (with_reducible repeat (first|apply Kd.V_alloc|apply Kd.V_drewN|apply Kd.V_drew));exact Kd.V_mono HL319_1.out (fun _ hk => ⟨hk.1.1,⟨hk.2,hk.1.2⟩⟩)),(by (with_reducible repeat (first|apply Kd.N_alloc|apply Kd.N_drewN|apply Kd.N_drew));exact Kd.N_mono HO_3.out (fun _ hk => ⟨hk.2,hk.1⟩)),(by (with_reducible repeat (first|refine blk_drewN ?_ _|refine blk_drew ?_|refine blk_alloc ?_ _));exact BK326.out),(by (with_reducible repeat (first|refine blk_drewN ?_ _|refine blk_drew ?_|refine blk_alloc ?_ _));exact BK327.out),GW326.out,GE326.out,NB327_326.out,NB326_327.out,GW327.out,GE327.out,(by repeat (first|(with_reducible first|exact HB.out|apply below_alloc|apply pw_below_drewN|apply below_drew1|refine below_set ?_ GE327.out|refine below_set ?_ GE326.out)|exact HB.out))⟩)
            ·skip
             rintro gb326 w32 ⟨hS_,h0_,h1_,h2_,h3_,h4_,h5_⟩
             have n0_ : Aside0 (Kd.V (Kd.int .i64) 3 w32 w.heap.size (fun k_ => some k_ ≠ (.slice (some ad319) t313.length co29 : Value).ownBlock ∧ k_ ≠ gb326) (.slice A319_1 ((rd_T87 t313 x6_1).f1.f0).length c319_1) ((rd_T87 t313 x6_1).f1.f0)):=⟨h0_⟩
             have n1_ : Aside0 (Kd.N k87 87 w32 w.heap.size (fun k_ => k_ ≠ gb326) (.slice (some ad319) t313.length co29) t313):=⟨h1_⟩
             have n2_ : Aside0 (w32.heap[gb326]? = some (.cells #[.slice none 0 0] 85 (0,0))):=⟨h2_⟩
             have n3_ : Aside0 (w.heap.size ≤ gb326):=⟨h3_⟩
             have n4_ : Aside0 (w.heap.size ≤ gb326):=⟨h4_⟩
             have n5_ : Aside0 (Below w.heap.size w w32):=⟨h5_⟩
             clear HO_3;clear HB;clear h0_ h1_ h2_ h3_ h4_ h5_;have HL319_1:=n0_;have HO_3:=n1_;have BK326:=n2_;have GW326:=n3_;have GE326:=n4_;have HB:=n5_;clear n0_ n1_ n2_ n3_ n4_ n5_
             have hHeld : w32.cell? (ad319.add ((x6_1).toNat * 2)) = some (.string ((rd_T87 t313 x6_1).f0)) ∧ w32.cell? ⟨(ad319.add ((x6_1).toNat * 2)).block,(ad319.add ((x6_1).toNat * 2)).off + 1,none⟩ = some (.slice A319_1 ((rd_T87 t313 x6_1).f1.f0).length c319_1):=hS_
             refine norm_ (a':=?_) ?_ ?_
             rotate_left
             ·simp only [putAll,Act.put,List.setIfInBounds_toArray,List.set_cons_zero,List.set_cons_succ]
              rfl
             refine two_ (i:=1) (j:=12) (Ni:=some 29) (Nj:=some 8) #[true,true,true,true,true,true,true,false,false,false,false,true,false,false,false] #[true,false,true,true,true,true,true,false,false,false,false,true,true,false,false] rfl rfl rfl rfl (two_of HT_.out (by kernel_rfl)) (by decide) (by decide) (fun K hK => ?_) (fun K hK => ?_)
             ·skip
              refine goes_ Tryz.func62 (by kernel_rfl) rfl #[.int .i64 a0] (by rfl) rfl rfl (by (try simp only [List.map_toArray,List.map_cons,List.map_nil]);first|done|rfl|(simp only [List.length_drop,List.length_take];rfl)) ?_
              with_reducible refine (bursarref03_long.calls k1 a0 t316 _ A8.out).mono ?_
              rintro e w33 ⟨v317,rfl,ho0,hb⟩
              have HS0_:=(hb.cell (World.block_lt_of_cell? _ _ (hHeld.1))).trans (hHeld.1)
              have HS1_:=(hb.cell (World.block_lt_of_cell? _ _ (hHeld.2))).trans (hHeld.2)
              refine ⟨_,rfl,?_⟩
              have n0_:=Aside0.mk (Kd.N_elder' (by (with_reducible repeat (first|apply Kd.N_alloc|apply Kd.N_drewN|apply Kd.N_drew));exact HO_3.out) (Kd.R_base ho0) hb)
              have n1_:=Aside0.mk (Kd.V_elder' (by (with_reducible repeat (first|apply Kd.V_alloc|apply Kd.V_drewN|apply Kd.V_drew));exact HL319_1.out) (Kd.R_base ho0) hb)
              have n2_:=Aside0.mk (Kd.R_lower ho0 (below_size (by repeat (first|(with_reducible first|exact HB.out|apply below_alloc|apply pw_below_drewN|apply below_drew1|refine below_set ?_ GE326.out)|exact HB.out))))
              have n3_:=Aside0.mk (blk_below (g:=gb326) (o:=.cells #[.slice none 0 0] 85 (0,0)) (by (with_reducible repeat (first|refine blk_drewN ?_ _|refine blk_drew ?_|refine blk_alloc ?_ _));exact BK326.out) hb)
              have n4_:=Aside0.mk (below_step (by repeat (first|(with_reducible first|exact HB.out|apply below_alloc|apply pw_below_drewN|apply below_drew1|refine below_set ?_ GE326.out)|exact HB.out)) hb)
              clear HO_3;clear HL319_1;clear BK326;clear HB;have HO_3:=n0_;have HL319_1:=n1_;have HO318:=n2_;have BK326:=n3_;have HB:=n4_;clear n0_ n1_ n2_ n3_ n4_;(try clear hb);(try clear hb2);(try clear hk);(try clear hi);(try clear ho0)
              refine hK.out _ _ ⟨HS0_,HS1_⟩ (fun hHeld => ?_)
              clear hK K
              refine norm_ (a':=?_) ?_ ?_
              rotate_left
              ·show Act.put _ (some 29) _ = _
               simp only [Act.put,List.setIfInBounds_toArray,List.set_cons_zero,List.set_cons_succ,i64_w,i32_w]
               rfl
              exact norm_ (by first|(simp only [putAll,Act.put,List.setIfInBounds_toArray,List.set_cons_zero,List.set_cons_succ];done)|(simp only [putAll,Act.put,List.setIfInBounds_toArray,List.set_cons_zero,List.set_cons_succ];rfl)) (hJ1_11 (v317,gb326) _ ⟨hHeld,(by (with_reducible repeat (first|apply Kd.V_alloc|apply Kd.V_drewN|apply Kd.V_drew));exact Kd.V_mono HL319_1.out (fun _ hk => ⟨hk.2,⟨hk.1.1,hk.1.2⟩⟩)),(by (with_reducible repeat (first|apply Kd.R_alloc|apply Kd.R_drewN|apply Kd.R_drew));exact HO318.out),(by (with_reducible repeat (first|apply Kd.N_alloc|apply Kd.N_drewN|apply Kd.N_drew));exact Kd.N_mono HO_3.out (fun _ hk => ⟨hk.2,hk.1⟩)),(by (with_reducible repeat (first|refine blk_drewN ?_ _|refine blk_drew ?_|refine blk_alloc ?_ _));exact BK326.out),GW326.out,GE326.out,(by repeat (first|(with_reducible first|exact HB.out|apply below_alloc|apply pw_below_drewN|apply below_drew1|refine below_set ?_ GE326.out)|exact HB.out))⟩)
             ·skip
              refine box_step ?hg (N:=8) ?hd (cs:=#[.slice none 0 0]) (t:=85) ?hr ?_;(case hd => rfl);(case hg => rfl);(case hr => first|(go_simp;done)|(go_simp;rfl))
              intro gb327 hg w33 hbox hb
              have HS0_:=(hb.cell (World.block_lt_of_cell? _ _ (hHeld.1))).trans (hHeld.1)
              have HS1_:=(hb.cell (World.block_lt_of_cell? _ _ (hHeld.2))).trans (hHeld.2)
              have n0_:=Aside0.mk (Kd.N_below (Kd.N_elderB (by (with_reducible repeat (first|apply Kd.N_alloc|apply Kd.N_drewN|apply Kd.N_drew));exact HO_3.out) gb327 (Nat.le_of_eq hg.symm)) hb)
              have n1_:=Aside0.mk (Kd.V_below (Kd.V_elderB (by (with_reducible repeat (first|apply Kd.V_alloc|apply Kd.V_drewN|apply Kd.V_drew));exact HL319_1.out) gb327 (Nat.le_of_eq hg.symm)) hb)
              have n2_:=Aside0.mk (blk_below (g:=gb326) (o:=.cells #[.slice none 0 0] 85 (0,0)) (by (with_reducible repeat (first|refine blk_drewN ?_ _|refine blk_drew ?_|refine blk_alloc ?_ _));exact BK326.out) hb)
              have n3_:=Aside0.mk (below_step (by repeat (first|(with_reducible first|exact HB.out|apply below_alloc|apply pw_below_drewN|apply below_drew1|refine below_set ?_ GE326.out)|exact HB.out)) hb)
              have n4_:=Aside0.mk (hbox)
              have n5_:=Aside0.mk ((by rw [hg];exact (below_size (by repeat (first|(with_reducible first|exact HB.out|apply below_alloc|apply pw_below_drewN|apply below_drew1|refine below_set ?_ GE326.out)|exact HB.out))) : w.heap.size ≤ gb327))
              have n6_:=Aside0.mk ((by rw [hg];exact (below_size (by repeat (first|(with_reducible first|exact HB.out|apply below_alloc|apply pw_below_drewN|apply below_drew1|refine below_set ?_ GE326.out)|exact HB.out))) : w.heap.size ≤ gb327))
              have n7_:=Aside0.mk ((by rw [hg];exact Nat.ne_of_lt (blk_lt (g:=gb326) (o:=.cells #[.slice none 0 0] 85 (0,0)) (by (with_reducible repeat (first|refine blk_drewN ?_ _|refine blk_drew ?_|refine blk_alloc ?_ _));exact BK326.out)) : gb326 ≠ gb327))
              have n8_:=Aside0.mk ((by rw [hg];exact Nat.ne_of_gt (blk_lt (g:=gb326) (o:=.cells #[.slice none 0 0] 85 (0,0)) (by (with_reducible repeat (first|refine blk_drewN ?_ _|refine blk_drew ?_|refine blk_alloc ?_ _));exact BK326.out)) : gb327 ≠ gb326))
              clear HO_3;clear HL319_1;clear BK326;clear HB;have HO_3:=n0_;have HL319_1:=n1_;have BK326:=n2_;have HB:=n3_;have BK327:=n4_;have GW327:=n5_;have GE327:=n6_;have NB326_327:=n7_;have NB327_326:=n8_;clear n0_ n1_ n2_ n3_ n4_ n5_ n6_ n7_ n8_;clear hb hbox hg
              refine hK.out _ _ ⟨HS0_,HS1_⟩ (fun hHeld => ?_)
              clear hK K
              refine norm_ (a':=?_) ?_ ?_
              rotate_left
              ·show Act.put _ (some 8) _ = _
               simp only [Act.put,List.setIfInBounds_toArray,List.set_cons_zero,List.set_cons_succ,i64_w,i32_w]
               rfl
              exact norm_ (by first|(simp only [putAll,Act.put,List.setIfInBounds_toArray,List.set_cons_zero,List.set_cons_succ];done)|(simp only [putAll,Act.put,List.setIfInBounds_toArray,List.set_cons_zero,List.set_cons_succ];rfl)) (hJ11_12 (gb326,gb327) _ ⟨hHeld,(by (with_reducible repeat (first|apply Kd.V_alloc|apply Kd.V_drewN|apply Kd.V_drew));exact Kd.V_mono HL319_1.out (fun _ hk => ⟨hk.1.1,⟨hk.1.2,hk.2⟩⟩)),(by (with_reducible repeat (first|apply Kd.N_alloc|apply Kd.N_drewN|apply Kd.N_drew));exact HO_3.out),(by (with_reducible repeat (first|refine blk_drewN ?_ _|refine blk_drew ?_|refine blk_alloc ?_ _));exact BK326.out),(by (with_reducible repeat (first|refine blk_drewN ?_ _|refine blk_drew ?_|refine blk_alloc ?_ _));exact BK327.out),GW326.out,GE326.out,NB327_326.out,NB326_327.out,GW327.out,GE327.out,(by repeat (first|(with_reducible first|exact HB.out|apply below_alloc|apply pw_below_drewN|apply below_drew1|refine below_set ?_ GE326.out|refine below_set ?_ GE327.out)|exact HB.out))⟩)
           ·skip
            rintro v317 w32 ⟨hS_,h0_,h1_,h2_,h3_⟩
            have n0_ : Aside0 (Kd.V (Kd.int .i64) 3 w32 w.heap.size (fun k_ => some k_ ≠ (v317 : Value).ownBlock ∧ some k_ ≠ (.slice (some ad319) t313.length co29 : Value).ownBlock) (.slice A319_1 ((rd_T87 t313 x6_1).f1.f0).length c319_1) ((rd_T87 t313 x6_1).f1.f0)):=⟨h0_⟩
            have n1_ : Aside0 (Kd.R (Kd.int .i64) 3 w32 w.heap.size (fun _ => True) v317 t316):=⟨h1_⟩
            have n2_ : Aside0 (Kd.N k87 87 w32 w.heap.size (fun k_ => some k_ ≠ (v317 : Value).ownBlock) (.slice (some ad319) t313.length co29) t313):=⟨h2_⟩
            have n3_ : Aside0 (Below w.heap.size w w32):=⟨h3_⟩
            clear HO_3;clear HB;clear h0_ h1_ h2_ h3_;have HL319_1:=n0_;have HO318:=n1_;have HO_3:=n2_;have HB:=n3_;clear n0_ n1_ n2_ n3_
            have hHeld : w32.cell? (ad319.add ((x6_1).toNat * 2)) = some (.string ((rd_T87 t313 x6_1).f0)) ∧ w32.cell? ⟨(ad319.add ((x6_1).toNat * 2)).block,(ad319.add ((x6_1).toNat * 2)).off + 1,none⟩ = some (.slice A319_1 ((rd_T87 t313 x6_1).f1.f0).length c319_1):=hS_
            obtain ⟨Ao33,co33,eo33⟩:=Kd.R_slice HO318.out
            (first|subst eo33|(injection eo33 with f1_ f2_ f3_;have f4_:=f1_.symm;have f5_:=f3_.symm;clear f1_ f2_ f3_;subst f4_;subst f5_))
            refine norm_ (a':=?_) ?_ ?_
            rotate_left
            ·simp only [putAll,Act.put,List.setIfInBounds_toArray,List.set_cons_zero,List.set_cons_succ]
             rfl
            refine three_ (i:=7) (j:=11) (k:=12) (Ni:=some 35) (Nj:=some 7) (Nk:=some 8) (bl 8 7) #[true,true,true,true,true,true,true,false,false,false,false,true,false,false,false] #[true,true,true,true,true,true,true,false,false,false,false,false,true,false,false] rfl rfl rfl rfl rfl rfl (three_of HT_.out (by kernel_rfl)) (by decide) (by decide) (by decide) (fun K hK => ?_) (fun K hK => ?_) (fun K hK => ?_)
            ·skip
             refine goes_ Tryz.func64 (by kernel_rfl) rfl #[.agg #[.slice Ao33 t316.length co33],.agg #[.slice A319_1 ((rd_T87 t313 x6_1).f1.f0).length c319_1]] (by rfl) rfl rfl (by (try simp only [List.map_toArray,List.map_cons,List.map_nil]);first|done|rfl|(simp only [List.length_drop,List.length_take];rfl)) ?_
             with_reducible refine (bursarref03_Long_by.calls k1 _ _ t316 _ _ ((rd_T87 t313 x6_1).f1.f0) t320 t323 _ ?side1 ?side2 ?side3 ?side4 A10.out).mono ?_
             (case side1 => repeat (first|exact (Kd.R_reads' HO318.out).2.2|(with_reducible refine Kd.C_alloc ?_ _)|(with_reducible refine Kd.C_drewN ?_ _)|(with_reducible refine Kd.C_drew ?_)))
             (case side2 => exact (Kd.R_reads' HO318.out).2.1)
             (case side3 => repeat (first|exact ((Kd.V_reads' (by (with_reducible repeat (first|apply Kd.V_alloc|apply Kd.V_drewN|apply Kd.V_drew));exact HL319_1.out)).2.2)|(with_reducible refine Kd.C_alloc ?_ _)|(with_reducible refine Kd.C_drewN ?_ _)|(with_reducible refine Kd.C_drew ?_)))
             (case side4 => exact HC319_1.out)
             rintro e w34 ⟨v321,v324,rfl,ho0,ho1,hb⟩
             have HS0_:=(hb.cell (World.block_lt_of_cell? _ _ (hHeld.1))).trans (hHeld.1)
             have HS1_:=(hb.cell (World.block_lt_of_cell? _ _ (hHeld.2))).trans (hHeld.2)
             refine ⟨_,rfl,?_⟩
             have n0_:=Aside0.mk (Kd.N_below (by (with_reducible repeat (first|apply Kd.N_alloc|apply Kd.N_drewN|apply Kd.N_drew));exact HO_3.out) hb)
             have n1_:=Aside0.mk (Kd.V_below (by (with_reducible repeat (first|apply Kd.V_alloc|apply Kd.V_drewN|apply Kd.V_drew));exact HL319_1.out) hb)
             have n2_:=Aside0.mk (Kd.R_below (by (with_reducible repeat (first|apply Kd.R_alloc|apply Kd.R_drewN|apply Kd.R_drew));exact HO318.out) hb)
             have n3_:=Aside0.mk (Kd.V_lower (Kd.V_mono (ok':=fun k_ => some k_ ≠ (.slice (some ad319) t313.length co29 : Value).ownBlock ∧ some k_ ≠ (.slice Ao33 t316.length co33 : Value).ownBlock) ho0 (fun k_ hk_ => ⟨(Kd.fresh' (Kd.N_lt (by (with_reducible repeat (first|apply Kd.N_alloc|apply Kd.N_drewN|apply Kd.N_drew));exact HO_3.out)) k_ hk_),(Kd.fresh' (Kd.R_lt (by (with_reducible repeat (first|apply Kd.R_alloc|apply Kd.R_drewN|apply Kd.R_drew));exact HO318.out)) k_ hk_)⟩)) (below_size (by repeat (first|(with_reducible first|exact HB.out|apply below_alloc|apply pw_below_drewN|apply below_drew1)|exact HB.out))))
             have n4_:=Aside0.mk (Kd.V_lower (Kd.V_mono (ok':=fun k_ => some k_ ≠ (.slice (some ad319) t313.length co29 : Value).ownBlock ∧ some k_ ≠ (.slice Ao33 t316.length co33 : Value).ownBlock) ho1 (fun k_ hk_ => ⟨(Kd.fresh' (Kd.N_lt (by (with_reducible repeat (first|apply Kd.N_alloc|apply Kd.N_drewN|apply Kd.N_drew));exact HO_3.out)) k_ hk_),(Kd.fresh' (Kd.R_lt (by (with_reducible repeat (first|apply Kd.R_alloc|apply Kd.R_drewN|apply Kd.R_drew));exact HO318.out)) k_ hk_)⟩)) (below_size (by repeat (first|(with_reducible first|exact HB.out|apply below_alloc|apply pw_below_drewN|apply below_drew1)|exact HB.out))))
             have n5_:=Aside0.mk (below_step (by repeat (first|(with_reducible first|exact HB.out|apply below_alloc|apply pw_below_drewN|apply below_drew1)|exact HB.out)) hb)
             clear HO_3;clear HL319_1;clear HO318;clear HB;have HO_3:=n0_;have HL319_1:=n1_;have HO318:=n2_;have HO322:=n3_;have HO325:=n4_;have HB:=n5_;clear n0_ n1_ n2_ n3_ n4_ n5_;(try clear hb);(try clear hb2);(try clear hk);(try clear hi);(try clear ho0);(try clear ho1)
             refine hK.out _ _ ⟨HS0_,HS1_⟩ (fun hHeld => ?_)
             clear hK K
             refine norm_ (a':=?_) ?_ ?_
             rotate_left
             ·show Act.put _ (some 35) _ = _
              simp only [Act.put,List.setIfInBounds_toArray,List.set_cons_zero,List.set_cons_succ,i64_w,i32_w]
              rfl
             refine pure_ (i:=8) (N:=some 27) (v:=?_) (a':=?_) (bl 9 6) rfl rfl (any_of HT_.out (by kernel_rfl)) (fun _ _ _ h => h) (Or.inl ⟨by rfl,?_⟩) ?_ ?_
             rotate_left;·intro w';go_simp;with_reducible rfl
             rotate_left;·simp only [Act.put,List.setIfInBounds_toArray,List.set_cons_zero,List.set_cons_succ,i64_w,i32_w];rfl
             refine pure_ (i:=9) (N:=some 36) (v:=?_) (a':=?_) (bl 10 5) rfl rfl (any_of HT_.out (by kernel_rfl)) (fun _ _ _ h => h) (Or.inl ⟨by rfl,?_⟩) ?_ ?_
             rotate_left;·intro w';go_simp;with_reducible rfl
             rotate_left;·simp only [Act.put,List.setIfInBounds_toArray,List.set_cons_zero,List.set_cons_succ,i64_w,i32_w];rfl
             refine pure_ (i:=10) (N:=some 37) (v:=?_) (a':=?_) (bl 11 4) rfl rfl (any_of HT_.out (by kernel_rfl)) (fun _ _ _ h => h) (Or.inl ⟨by rfl,?_⟩) ?_ ?_
             rotate_left;·intro w';go_simp;with_reducible rfl
             rotate_left;·simp only [Act.put,List.setIfInBounds_toArray,List.set_cons_zero,List.set_cons_succ,i64_w,i32_w];rfl
             exact norm_ (by first|(simp only [putAll,Act.put,List.setIfInBounds_toArray,List.set_cons_zero,List.set_cons_succ];done)|(simp only [putAll,Act.put,List.setIfInBounds_toArray,List.set_cons_zero,List.set_cons_succ];rfl)) (hJ1_7 (.slice Ao33 t316.length co33,v321,v324) _ ⟨hHeld,(by (with_reducible repeat (first|apply Kd.V_alloc|apply Kd.V_drewN|apply Kd.V_drew));exact HL319_1.out),(by (with_reducible repeat (first|apply Kd.R_alloc|apply Kd.R_drewN|apply Kd.R_drew));exact HO318.out),(by (with_reducible repeat (first|apply Kd.V_alloc|apply Kd.V_drewN|apply Kd.V_drew));exact Kd.V_mono HO322.out (fun _ hk => ⟨hk.2,hk.1⟩)),(by (with_reducible repeat (first|apply Kd.V_alloc|apply Kd.V_drewN|apply Kd.V_drew));exact Kd.V_mono HO325.out (fun _ hk => ⟨hk.2,hk.1⟩)),(by (with_reducible repeat (first|apply Kd.N_alloc|apply Kd.N_drewN|apply Kd.N_drew));exact HO_3.out),(by repeat (first|(with_reducible first|exact HB.out|apply below_alloc|apply pw_below_drewN|apply below_drew1)|exact HB.out))⟩)
            ·skip
             refine box_step ?hg (N:=7) ?hd (cs:=#[.slice none 0 0]) (t:=85) ?hr ?_;(case hd => rfl);(case hg => rfl);(case hr => first|(go_simp;done)|(go_simp;rfl))
             intro gb326 hg w33 hbox hb
             have HS0_:=(hb.cell (World.block_lt_of_cell? _ _ (hHeld.1))).trans (hHeld.1)
             have HS1_:=(hb.cell (World.block_lt_of_cell? _ _ (hHeld.2))).trans (hHeld.2)
             have n0_:=Aside0.mk (Kd.N_below (Kd.N_elderB (by (with_reducible repeat (first|apply Kd.N_alloc|apply Kd.N_drewN|apply Kd.N_drew));exact HO_3.out) gb326 (Nat.le_of_eq hg.symm)) hb)
             have n1_:=Aside0.mk (Kd.V_below (Kd.V_elderB (by (with_reducible repeat (first|apply Kd.V_alloc|apply Kd.V_drewN|apply Kd.V_drew));exact HL319_1.out) gb326 (Nat.le_of_eq hg.symm)) hb)
             have n2_:=Aside0.mk (Kd.R_below (by (with_reducible repeat (first|apply Kd.R_alloc|apply Kd.R_drewN|apply Kd.R_drew));exact HO318.out) hb)
             have n3_:=Aside0.mk (below_step (by repeat (first|(with_reducible first|exact HB.out|apply below_alloc|apply pw_below_drewN|apply below_drew1)|exact HB.out)) hb)
             have n4_:=Aside0.mk (hbox)
             have n5_:=Aside0.mk ((by rw [hg];exact (below_size (by repeat (first|(with_reducible first|exact HB.out|apply below_alloc|apply pw_below_drewN|apply below_drew1)|exact HB.out))) : w.heap.size ≤ gb326))
             have n6_:=Aside0.mk ((by rw [hg];exact (below_size (by repeat (first|(with_reducible first|exact HB.out|apply below_alloc|apply pw_below_drewN|apply below_drew1)|exact HB.out))) : w.heap.size ≤ gb326))
             clear HO_3;clear HL319_1;clear HO318;clear HB;have HO_3:=n0_;have HL319_1:=n1_;have HO318:=n2_;have HB:=n3_;have BK326:=n4_;have GW326:=n5_;have GE326:=n6_;clear n0_ n1_ n2_ n3_ n4_ n5_ n6_;clear hb hbox hg
             refine hK.out _ _ ⟨HS0_,HS1_⟩ (fun hHeld => ?_)
             clear hK K
             refine norm_ (a':=?_) ?_ ?_
             rotate_left
             ·show Act.put _ (some 7) _ = _
              simp only [Act.put,List.setIfInBounds_toArray,List.set_cons_zero,List.set_cons_succ,i64_w,i32_w]
              rfl
             exact norm_ (by first|(simp only [putAll,Act.put,List.setIfInBounds_toArray,List.set_cons_zero,List.set_cons_succ];done)|(simp only [putAll,Act.put,List.setIfInBounds_toArray,List.set_cons_zero,List.set_cons_succ];rfl)) (hJ1_11 ((.slice Ao33 t316.length co33),gb326) _ ⟨hHeld,(by (with_reducible repeat (first|apply Kd.V_alloc|apply Kd.V_drewN|apply Kd.V_drew));exact Kd.V_mono HL319_1.out (fun _ hk => ⟨hk.1.1,⟨hk.1.2,hk.2⟩⟩)),(by (with_reducible repeat (first|apply Kd.R_alloc|apply Kd.R_drewN|apply Kd.R_drew));exact HO318.out),(by (with_reducible repeat (first|apply Kd.N_alloc|apply Kd.N_drewN|apply Kd.N_drew));exact HO_3.out),(by (with_reducible repeat (first|refine blk_drewN ?_ _|refine blk_drew ?_|refine blk_alloc ?_ _));exact BK326.out),GW326.out,GE326.out,(by repeat (first|(with_reducible first|exact HB.out|apply below_alloc|apply pw_below_drewN|apply below_drew1|refine below_set ?_ GE326.out)|exact HB.out))⟩)
            ·skip
             refine box_step ?hg (N:=8) ?hd (cs:=#[.slice none 0 0]) (t:=85) ?hr ?_;(case hd => rfl);(case hg => rfl);(case hr => first|(go_simp;done)|(go_simp;rfl))
             intro gb327 hg w33 hbox hb
             have HS0_:=(hb.cell (World.block_lt_of_cell? _ _ (hHeld.1))).trans (hHeld.1)
             have HS1_:=(hb.cell (World.block_lt_of_cell? _ _ (hHeld.2))).trans (hHeld.2)
             have n0_:=Aside0.mk (Kd.N_below (Kd.N_elderB (by (with_reducible repeat (first|apply Kd.N_alloc|apply Kd.N_drewN|apply Kd.N_drew));exact HO_3.out) gb327 (Nat.le_of_eq hg.symm)) hb)
             have n1_:=Aside0.mk (Kd.V_below (Kd.V_elderB (by (with_reducible repeat (first|apply Kd.V_alloc|apply Kd.V_drewN|apply Kd.V_drew));exact HL319_1.out) gb327 (Nat.le_of_eq hg.symm)) hb)
             have n2_:=Aside0.mk (Kd.R_below (by (with_reducible repeat (first|apply Kd.R_alloc|apply Kd.R_drewN|apply Kd.R_drew));exact HO318.out) hb)
             have n3_:=Aside0.mk (below_step (by repeat (first|(with_reducible first|exact HB.out|apply below_alloc|apply pw_below_drewN|apply below_drew1)|exact HB.out)) hb)
             have n4_:=Aside0.mk (hbox)
             have n5_:=Aside0.mk ((by rw [hg];exact (below_size (by repeat (first|(with_reducible first|exact HB.out|apply below_alloc|apply pw_below_drewN|apply below_drew1)|exact HB.out))) : w.heap.size ≤ gb327))
             have n6_:=Aside0.mk ((by rw [hg];exact (below_size (by repeat (first|(with_reducible first|exact HB.out|apply below_alloc|apply pw_below_drewN|apply below_drew1)|exact HB.out))) : w.heap.size ≤ gb327))
             clear HO_3;clear HL319_1;clear HO318;clear HB;have HO_3:=n0_;have HL319_1:=n1_;have HO318:=n2_;have HB:=n3_;have BK327:=n4_;have GW327:=n5_;have GE327:=n6_;clear n0_ n1_ n2_ n3_ n4_ n5_ n6_;clear hb hbox hg
             refine hK.out _ _ ⟨HS0_,HS1_⟩ (fun hHeld => ?_)
             clear hK K
             refine norm_ (a':=?_) ?_ ?_
             rotate_left
             ·show Act.put _ (some 8) _ = _
              simp only [Act.put,List.setIfInBounds_toArray,List.set_cons_zero,List.set_cons_succ,i64_w,i32_w]
              rfl
             exact norm_ (by first|(simp only [putAll,Act.put,List.setIfInBounds_toArray,List.set_cons_zero,List.set_cons_succ];done)|(simp only [putAll,Act.put,List.setIfInBounds_toArray,List.set_cons_zero,List.set_cons_succ];rfl)) (hJ1_12 ((.slice Ao33 t316.length co33),gb327) _ ⟨hHeld,(by (with_reducible repeat (first|apply Kd.V_alloc|apply Kd.V_drewN|apply Kd.V_drew));exact Kd.V_mono HL319_1.out (fun _ hk => ⟨hk.1.1,⟨hk.1.2,hk.2⟩⟩)),(by (with_reducible repeat (first|apply Kd.R_alloc|apply Kd.R_drewN|apply Kd.R_drew));exact HO318.out),(by (with_reducible repeat (first|apply Kd.N_alloc|apply Kd.N_drewN|apply Kd.N_drew));exact HO_3.out),(by (with_reducible repeat (first|refine blk_drewN ?_ _|refine blk_drew ?_|refine blk_alloc ?_ _));exact BK327.out),GW327.out,GE327.out,(by repeat (first|(with_reducible first|exact HB.out|apply below_alloc|apply pw_below_drewN|apply below_drew1|refine below_set ?_ GE327.out)|exact HB.out))⟩)
          ·skip
           rintro ⟨gb326,gb327⟩ w33 ⟨hS_,h0_,h1_,h2_,h3_,h4_,h5_,h6_,h7_,h8_,h9_,h10_⟩
           have n0_ : Aside0 (Kd.V (Kd.int .i64) 3 w33 w.heap.size (fun k_ => some k_ ≠ (.slice (some ad319) t313.length co29 : Value).ownBlock ∧ k_ ≠ gb326 ∧ k_ ≠ gb327) (.slice A319_1 ((rd_T87 t313 x6_1).f1.f0).length c319_1) ((rd_T87 t313 x6_1).f1.f0)):=⟨h0_⟩
           have n1_ : Aside0 (Kd.N k87 87 w33 w.heap.size (fun k_ => k_ ≠ gb326 ∧ k_ ≠ gb327) (.slice (some ad319) t313.length co29) t313):=⟨h1_⟩
           have n2_ : Aside0 (w33.heap[gb326]? = some (.cells #[.slice none 0 0] 85 (0,0))):=⟨h2_⟩
           have n3_ : Aside0 (w33.heap[gb327]? = some (.cells #[.slice none 0 0] 85 (0,0))):=⟨h3_⟩
           have n4_ : Aside0 (w.heap.size ≤ gb326):=⟨h4_⟩
           have n5_ : Aside0 (w.heap.size ≤ gb326):=⟨h5_⟩
           have n6_ : Aside0 (gb327 ≠ gb326):=⟨h6_⟩
           have n7_ : Aside0 (gb326 ≠ gb327):=⟨h7_⟩
           have n8_ : Aside0 (w.heap.size ≤ gb327):=⟨h8_⟩
           have n9_ : Aside0 (w.heap.size ≤ gb327):=⟨h9_⟩
           have n10_ : Aside0 (Below w.heap.size w w33):=⟨h10_⟩
           clear HO_3;clear HB;clear h0_ h1_ h2_ h3_ h4_ h5_ h6_ h7_ h8_ h9_ h10_;have HL319_1:=n0_;have HO_3:=n1_;have BK326:=n2_;have BK327:=n3_;have GW326:=n4_;have GE326:=n5_;have NB327_326:=n6_;have NB326_327:=n7_;have GW327:=n8_;have GE327:=n9_;have HB:=n10_;clear n0_ n1_ n2_ n3_ n4_ n5_ n6_ n7_ n8_ n9_ n10_
           have hHeld : w33.cell? (ad319.add ((x6_1).toNat * 2)) = some (.string ((rd_T87 t313 x6_1).f0)) ∧ w33.cell? ⟨(ad319.add ((x6_1).toNat * 2)).block,(ad319.add ((x6_1).toNat * 2)).off + 1,none⟩ = some (.slice A319_1 ((rd_T87 t313 x6_1).f1.f0).length c319_1):=hS_
           refine norm_ (a':=?_) ?_ ?_
           rotate_left
           ·simp only [putAll,Act.put,List.setIfInBounds_toArray,List.set_cons_zero,List.set_cons_succ]
            rfl
           refine one_ (i:=1) (N:=some 29) #[true,true,true,true,true,true,true,false,false,false,false,true,true,false,false] rfl rfl (one_of HT_.out (by kernel_rfl)) (by decide) (fun K hK => ?_)
           refine goes_ Tryz.func62 (by kernel_rfl) rfl #[.int .i64 a0] (by rfl) rfl rfl (by (try simp only [List.map_toArray,List.map_cons,List.map_nil]);first|done|rfl|(simp only [List.length_drop,List.length_take];rfl)) ?_
           with_reducible refine (bursarref03_long.calls k1 a0 t316 _ A8.out).mono ?_
           rintro e w34 ⟨v317,rfl,ho0,hb⟩
           have HS0_:=(hb.cell (World.block_lt_of_cell? _ _ (hHeld.1))).trans (hHeld.1)
           have HS1_:=(hb.cell (World.block_lt_of_cell? _ _ (hHeld.2))).trans (hHeld.2)
           refine ⟨_,rfl,?_⟩
           have n0_:=Aside0.mk (Kd.N_elder' (by (with_reducible repeat (first|apply Kd.N_alloc|apply Kd.N_drewN|apply Kd.N_drew));exact HO_3.out) (Kd.R_base ho0) hb)
           have n1_:=Aside0.mk (Kd.V_elder' (by (with_reducible repeat (first|apply Kd.V_alloc|apply Kd.V_drewN|apply Kd.V_drew));exact HL319_1.out) (Kd.R_base ho0) hb)
           have n2_:=Aside0.mk (Kd.R_lower ho0 (below_size (by repeat (first|(with_reducible first|exact HB.out|apply below_alloc|apply pw_below_drewN|apply below_drew1|refine below_set ?_ GE326.out|refine below_set ?_ GE327.out)|exact HB.out))))
           have n3_:=Aside0.mk (blk_below (g:=gb326) (o:=.cells #[.slice none 0 0] 85 (0,0)) (by (with_reducible repeat (first|refine blk_drewN ?_ _|refine blk_drew ?_|refine blk_alloc ?_ _));exact BK326.out) hb)
           have n4_:=Aside0.mk (blk_below (g:=gb327) (o:=.cells #[.slice none 0 0] 85 (0,0)) (by (with_reducible repeat (first|refine blk_drewN ?_ _|refine blk_drew ?_|refine blk_alloc ?_ _));exact BK327.out) hb)
           have n5_:=Aside0.mk (below_step (by repeat (first|(with_reducible first|exact HB.out|apply below_alloc|apply pw_below_drewN|apply below_drew1|refine below_set ?_ GE326.out|refine below_set ?_ GE327.out)|exact HB.out)) hb)
           clear HO_3;clear HL319_1;clear BK326;clear BK327;clear HB;have HO_3:=n0_;have HL319_1:=n1_;have HO318:=n2_;have BK326:=n3_;have BK327:=n4_;have HB:=n5_;clear n0_ n1_ n2_ n3_ n4_ n5_;(try clear hb);(try clear hb2);(try clear hk);(try clear hi);(try clear ho0)
           refine hK.out _ _ ⟨HS0_,HS1_⟩ (fun hHeld => ?_)
           clear hK K
           refine norm_ (a':=?_) ?_ ?_
           rotate_left
           ·show Act.put _ (some 29) _ = _
            simp only [Act.put,List.setIfInBounds_toArray,List.set_cons_zero,List.set_cons_succ,i64_w,i32_w]
            rfl
           exact norm_ (by first|(simp only [putAll,Act.put,List.setIfInBounds_toArray,List.set_cons_zero,List.set_cons_succ];done)|(simp only [putAll,Act.put,List.setIfInBounds_toArray,List.set_cons_zero,List.set_cons_succ];rfl)) (hJ1_11_12 (v317,gb326,gb327) _ ⟨hHeld,(by (with_reducible repeat (first|apply Kd.V_alloc|apply Kd.V_drewN|apply Kd.V_drew));exact Kd.V_mono HL319_1.out (fun _ hk => ⟨hk.2,⟨hk.1.1,⟨hk.1.2.1,hk.1.2.2⟩⟩⟩)),(by (with_reducible repeat (first|apply Kd.R_alloc|apply Kd.R_drewN|apply Kd.R_drew));exact HO318.out),(by (with_reducible repeat (first|apply Kd.N_alloc|apply Kd.N_drewN|apply Kd.N_drew));exact Kd.N_mono HO_3.out (fun _ hk => ⟨hk.2,⟨hk.1.1,hk.1.2⟩⟩)),(by (with_reducible repeat (first|refine blk_drewN ?_ _|refine blk_drew ?_|refine blk_alloc ?_ _));exact BK326.out),(by (with_reducible repeat (first|refine blk_drewN ?_ _|refine blk_drew ?_|refine blk_alloc ?_ _));exact BK327.out),GW326.out,GE326.out,NB327_326.out,NB326_327.out,GW327.out,GE327.out,(by repeat (first|(with_reducible first|exact HB.out|apply below_alloc|apply pw_below_drewN|apply below_drew1|refine below_set ?_ GE326.out|refine below_set ?_ GE327.out)|exact HB.out))⟩)
         ·skip
          rintro ⟨v317,gb327⟩ w33 ⟨hS_,h0_,h1_,h2_,h3_,h4_,h5_,h6_⟩
          have n0_ : Aside0 (Kd.V (Kd.int .i64) 3 w33 w.heap.size (fun k_ => some k_ ≠ (v317 : Value).ownBlock ∧ some k_ ≠ (.slice (some ad319) t313.length co29 : Value).ownBlock ∧ k_ ≠ gb327) (.slice A319_1 ((rd_T87 t313 x6_1).f1.f0).length c319_1) ((rd_T87 t313 x6_1).f1.f0)):=⟨h0_⟩
          have n1_ : Aside0 (Kd.R (Kd.int .i64) 3 w33 w.heap.size (fun _ => True) v317 t316):=⟨h1_⟩
          have n2_ : Aside0 (Kd.N k87 87 w33 w.heap.size (fun k_ => some k_ ≠ (v317 : Value).ownBlock ∧ k_ ≠ gb327) (.slice (some ad319) t313.length co29) t313):=⟨h2_⟩
          have n3_ : Aside0 (w33.heap[gb327]? = some (.cells #[.slice none 0 0] 85 (0,0))):=⟨h3_⟩
          have n4_ : Aside0 (w.heap.size ≤ gb327):=⟨h4_⟩
          have n5_ : Aside0 (w.heap.size ≤ gb327):=⟨h5_⟩
          have n6_ : Aside0 (Below w.heap.size w w33):=⟨h6_⟩
          clear HO_3;clear HB;clear h0_ h1_ h2_ h3_ h4_ h5_ h6_;have HL319_1:=n0_;have HO318:=n1_;have HO_3:=n2_;have BK327:=n3_;have GW327:=n4_;have GE327:=n5_;have HB:=n6_;clear n0_ n1_ n2_ n3_ n4_ n5_ n6_
          have hHeld : w33.cell? (ad319.add ((x6_1).toNat * 2)) = some (.string ((rd_T87 t313 x6_1).f0)) ∧ w33.cell? ⟨(ad319.add ((x6_1).toNat * 2)).block,(ad319.add ((x6_1).toNat * 2)).off + 1,none⟩ = some (.slice A319_1 ((rd_T87 t313 x6_1).f1.f0).length c319_1):=hS_
          obtain ⟨Ao34,co34,eo34⟩:=Kd.R_slice HO318.out
          (first|subst eo34|(injection eo34 with f1_ f2_ f3_;have f4_:=f1_.symm;have f5_:=f3_.symm;clear f1_ f2_ f3_;subst f4_;subst f5_))
          refine norm_ (a':=?_) ?_ ?_
          rotate_left
          ·simp only [putAll,Act.put,List.setIfInBounds_toArray,List.set_cons_zero,List.set_cons_succ]
           rfl
          refine two_ (i:=7) (j:=11) (Ni:=some 35) (Nj:=some 7) #[true,true,true,true,true,true,true,true,false,false,false,false,true,false,false] #[true,true,true,true,true,true,true,false,false,false,false,true,true,false,false] rfl rfl rfl rfl (two_of HT_.out (by kernel_rfl)) (by decide) (by decide) (fun K hK => ?_) (fun K hK => ?_)
          ·skip
           refine goes_ Tryz.func64 (by kernel_rfl) rfl #[.agg #[.slice Ao34 t316.length co34],.agg #[.slice A319_1 ((rd_T87 t313 x6_1).f1.f0).length c319_1]] (by rfl) rfl rfl (by (try simp only [List.map_toArray,List.map_cons,List.map_nil]);first|done|rfl|(simp only [List.length_drop,List.length_take];rfl)) ?_
           with_reducible refine (bursarref03_Long_by.calls k1 _ _ t316 _ _ ((rd_T87 t313 x6_1).f1.f0) t320 t323 _ ?side1 ?side2 ?side3 ?side4 A10.out).mono ?_
           (case side1 => repeat (first|exact (Kd.R_reads' HO318.out).2.2|(with_reducible refine Kd.C_alloc ?_ _)|(with_reducible refine Kd.C_drewN ?_ _)|(with_reducible refine Kd.C_drew ?_)))
           (case side2 => exact (Kd.R_reads' HO318.out).2.1)
           (case side3 => repeat (first|exact ((Kd.V_reads' (by (with_reducible repeat (first|apply Kd.V_alloc|apply Kd.V_drewN|apply Kd.V_drew));exact HL319_1.out)).2.2)|(with_reducible refine Kd.C_alloc ?_ _)|(with_reducible refine Kd.C_drewN ?_ _)|(with_reducible refine Kd.C_drew ?_)))
           (case side4 => exact HC319_1.out)
           rintro e w35 ⟨v321,v324,rfl,ho0,ho1,hb⟩
           have HS0_:=(hb.cell (World.block_lt_of_cell? _ _ (hHeld.1))).trans (hHeld.1)
           have HS1_:=(hb.cell (World.block_lt_of_cell? _ _ (hHeld.2))).trans (hHeld.2)
           refine ⟨_,rfl,?_⟩
           have n0_:=Aside0.mk (Kd.N_below (by (with_reducible repeat (first|apply Kd.N_alloc|apply Kd.N_drewN|apply Kd.N_drew));exact HO_3.out) hb)
           have n1_:=Aside0.mk (Kd.V_below (by (with_reducible repeat (first|apply Kd.V_alloc|apply Kd.V_drewN|apply Kd.V_drew));exact HL319_1.out) hb)
           have n2_:=Aside0.mk (Kd.R_below (by (with_reducible repeat (first|apply Kd.R_alloc|apply Kd.R_drewN|apply Kd.R_drew));exact HO318.out) hb)
           have n3_:=Aside0.mk (Kd.V_lower (Kd.V_mono (ok':=fun k_ => some k_ ≠ (.slice (some ad319) t313.length co29 : Value).ownBlock ∧ some k_ ≠ (.slice Ao34 t316.length co34 : Value).ownBlock ∧ k_ ≠ gb327) ho0 (fun k_ hk_ => ⟨(Kd.fresh' (Kd.N_lt (by (with_reducible repeat (first|apply Kd.N_alloc|apply Kd.N_drewN|apply Kd.N_drew));exact HO_3.out)) k_ hk_),(Kd.fresh' (Kd.R_lt (by (with_reducible repeat (first|apply Kd.R_alloc|apply Kd.R_drewN|apply Kd.R_drew));exact HO318.out)) k_ hk_),(Kd.freshB (g:=gb327) (o:=.cells #[.slice none 0 0] 85 (0,0)) (by (with_reducible repeat (first|refine blk_drewN ?_ _|refine blk_drew ?_|refine blk_alloc ?_ _));exact BK327.out) k_ hk_)⟩)) (below_size (by repeat (first|(with_reducible first|exact HB.out|apply below_alloc|apply pw_below_drewN|apply below_drew1|refine below_set ?_ GE327.out)|exact HB.out))))
           have n4_:=Aside0.mk (Kd.V_lower (Kd.V_mono (ok':=fun k_ => some k_ ≠ (.slice (some ad319) t313.length co29 : Value).ownBlock ∧ some k_ ≠ (.slice Ao34 t316.length co34 : Value).ownBlock ∧ k_ ≠ gb327) ho1 (fun k_ hk_ => ⟨(Kd.fresh' (Kd.N_lt (by (with_reducible repeat (first|apply Kd.N_alloc|apply Kd.N_drewN|apply Kd.N_drew));exact HO_3.out)) k_ hk_),(Kd.fresh' (Kd.R_lt (by (with_reducible repeat (first|apply Kd.R_alloc|apply Kd.R_drewN|apply Kd.R_drew));exact HO318.out)) k_ hk_),(Kd.freshB (g:=gb327) (o:=.cells #[.slice none 0 0] 85 (0,0)) (by (with_reducible repeat (first|refine blk_drewN ?_ _|refine blk_drew ?_|refine blk_alloc ?_ _));exact BK327.out) k_ hk_)⟩)) (below_size (by repeat (first|(with_reducible first|exact HB.out|apply below_alloc|apply pw_below_drewN|apply below_drew1|refine below_set ?_ GE327.out)|exact HB.out))))
           have n5_:=Aside0.mk (blk_below (g:=gb327) (o:=.cells #[.slice none 0 0] 85 (0,0)) (by (with_reducible repeat (first|refine blk_drewN ?_ _|refine blk_drew ?_|refine blk_alloc ?_ _));exact BK327.out) hb)
           have n6_:=Aside0.mk (below_step (by repeat (first|(with_reducible first|exact HB.out|apply below_alloc|apply pw_below_drewN|apply below_drew1|refine below_set ?_ GE327.out)|exact HB.out)) hb)
           clear HO_3;clear HL319_1;clear HO318;clear BK327;clear HB;have HO_3:=n0_;have HL319_1:=n1_;have HO318:=n2_;have HO322:=n3_;have HO325:=n4_;have BK327:=n5_;have HB:=n6_;clear n0_ n1_ n2_ n3_ n4_ n5_ n6_;(try clear hb);(try clear hb2);(try clear hk);(try clear hi);(try clear ho0);(try clear ho1)
           refine hK.out _ _ ⟨HS0_,HS1_⟩ (fun hHeld => ?_)
           clear hK K
           refine norm_ (a':=?_) ?_ ?_
           rotate_left
           ·show Act.put _ (some 35) _ = _
            simp only [Act.put,List.setIfInBounds_toArray,List.set_cons_zero,List.set_cons_succ,i64_w,i32_w]
            rfl
           refine pure_ (i:=8) (N:=some 27) (v:=?_) (a':=?_) #[true,true,true,true,true,true,true,true,true,false,false,false,true,false,false] rfl rfl (any_of HT_.out (by kernel_rfl)) (fun _ _ _ h => h) (Or.inl ⟨by rfl,?_⟩) ?_ ?_
           rotate_left;·intro w';go_simp;with_reducible rfl
           rotate_left;·simp only [Act.put,List.setIfInBounds_toArray,List.set_cons_zero,List.set_cons_succ,i64_w,i32_w];rfl
           refine pure_ (i:=9) (N:=some 36) (v:=?_) (a':=?_) #[true,true,true,true,true,true,true,true,true,true,false,false,true,false,false] rfl rfl (any_of HT_.out (by kernel_rfl)) (fun _ _ _ h => h) (Or.inl ⟨by rfl,?_⟩) ?_ ?_
           rotate_left;·intro w';go_simp;with_reducible rfl
           rotate_left;·simp only [Act.put,List.setIfInBounds_toArray,List.set_cons_zero,List.set_cons_succ,i64_w,i32_w];rfl
           refine pure_ (i:=10) (N:=some 37) (v:=?_) (a':=?_) #[true,true,true,true,true,true,true,true,true,true,true,false,true,false,false] rfl rfl (any_of HT_.out (by kernel_rfl)) (fun _ _ _ h => h) (Or.inl ⟨by rfl,?_⟩) ?_ ?_
           rotate_left;·intro w';go_simp;with_reducible rfl
           rotate_left;·simp only [Act.put,List.setIfInBounds_toArray,List.set_cons_zero,List.set_cons_succ,i64_w,i32_w];rfl
           exact norm_ (by first|(simp only [putAll,Act.put,List.setIfInBounds_toArray,List.set_cons_zero,List.set_cons_succ];done)|(simp only [putAll,Act.put,List.setIfInBounds_toArray,List.set_cons_zero,List.set_cons_succ];rfl)) (hJ1_7_12 (.slice Ao34 t316.length co34,v321,v324,gb327) _ ⟨hHeld,(by (with_reducible repeat (first|apply Kd.V_alloc|apply Kd.V_drewN|apply Kd.V_drew));exact HL319_1.out),(by (with_reducible repeat (first|apply Kd.R_alloc|apply Kd.R_drewN|apply Kd.R_drew));exact HO318.out),(by (with_reducible repeat (first|apply Kd.V_alloc|apply Kd.V_drewN|apply Kd.V_drew));exact Kd.V_mono HO322.out (fun _ hk => ⟨hk.2.1,⟨hk.1,hk.2.2⟩⟩)),(by (with_reducible repeat (first|apply Kd.V_alloc|apply Kd.V_drewN|apply Kd.V_drew));exact Kd.V_mono HO325.out (fun _ hk => ⟨hk.2.1,⟨hk.1,hk.2.2⟩⟩)),(by (with_reducible repeat (first|apply Kd.N_alloc|apply Kd.N_drewN|apply Kd.N_drew));exact HO_3.out),(by (with_reducible repeat (first|refine blk_drewN ?_ _|refine blk_drew ?_|refine blk_alloc ?_ _));exact BK327.out),GW327.out,GE327.out,(by repeat (first|(with_reducible first|exact HB.out|apply below_alloc|apply pw_below_drewN|apply below_drew1|refine below_set ?_ GE327.out)|exact HB.out))⟩)
          ·skip
           refine box_step ?hg (N:=7) ?hd (cs:=#[.slice none 0 0]) (t:=85) ?hr ?_;(case hd => rfl);(case hg => rfl);(case hr => first|(go_simp;done)|(go_simp;rfl))
           intro gb326 hg w34 hbox hb
           have HS0_:=(hb.cell (World.block_lt_of_cell? _ _ (hHeld.1))).trans (hHeld.1)
           have HS1_:=(hb.cell (World.block_lt_of_cell? _ _ (hHeld.2))).trans (hHeld.2)
           have n0_:=Aside0.mk (Kd.N_below (Kd.N_elderB (by (with_reducible repeat (first|apply Kd.N_alloc|apply Kd.N_drewN|apply Kd.N_drew));exact HO_3.out) gb326 (Nat.le_of_eq hg.symm)) hb)
           have n1_:=Aside0.mk (Kd.V_below (Kd.V_elderB (by (with_reducible repeat (first|apply Kd.V_alloc|apply Kd.V_drewN|apply Kd.V_drew));exact HL319_1.out) gb326 (Nat.le_of_eq hg.symm)) hb)
           have n2_:=Aside0.mk (Kd.R_below (by (with_reducible repeat (first|apply Kd.R_alloc|apply Kd.R_drewN|apply Kd.R_drew));exact HO318.out) hb)
           have n3_:=Aside0.mk (blk_below (g:=gb327) (o:=.cells #[.slice none 0 0] 85 (0,0)) (by (with_reducible repeat (first|refine blk_drewN ?_ _|refine blk_drew ?_|refine blk_alloc ?_ _));exact BK327.out) hb)
           have n4_:=Aside0.mk (below_step (by repeat (first|(with_reducible first|exact HB.out|apply below_alloc|apply pw_below_drewN|apply below_drew1|refine below_set ?_ GE327.out)|exact HB.out)) hb)
           have n5_:=Aside0.mk (hbox)
           have n6_:=Aside0.mk ((by rw [hg];exact (below_size (by repeat (first|(with_reducible first|exact HB.out|apply below_alloc|apply pw_below_drewN|apply below_drew1|refine below_set ?_ GE327.out)|exact HB.out))) : w.heap.size ≤ gb326))
           have n7_:=Aside0.mk ((by rw [hg];exact (below_size (by repeat (first|(with_reducible first|exact HB.out|apply below_alloc|apply pw_below_drewN|apply below_drew1|refine below_set ?_ GE327.out)|exact HB.out))) : w.heap.size ≤ gb326))
           have n8_:=Aside0.mk ((by rw [hg];exact Nat.ne_of_lt (blk_lt (g:=gb327) (o:=.cells #[.slice none 0 0] 85 (0,0)) (by (with_reducible repeat (first|refine blk_drewN ?_ _|refine blk_drew ?_|refine blk_alloc ?_ _));exact BK327.out)) : gb327 ≠ gb326))
           have n9_:=Aside0.mk ((by rw [hg];exact Nat.ne_of_gt (blk_lt (g:=gb327) (o:=.cells #[.slice none 0 0] 85 (0,0)) (by (with_reducible repeat (first|refine blk_drewN ?_ _|refine blk_drew ?_|refine blk_alloc ?_ _));exact BK327.out)) : gb326 ≠ gb327))
           clear HO_3;clear HL319_1;clear HO318;clear BK327;clear HB;have HO_3:=n0_;have HL319_1:=n1_;have HO318:=n2_;have BK327:=n3_;have HB:=n4_;have BK326:=n5_;have GW326:=n6_;have GE326:=n7_;have NB327_326:=n8_;have NB326_327:=n9_;clear n0_ n1_ n2_ n3_ n4_ n5_ n6_ n7_ n8_ n9_;clear hb hbox hg
           refine hK.out _ _ ⟨HS0_,HS1_⟩ (fun hHeld => ?_)
           clear hK K
           refine norm_ (a':=?_) ?_ ?_
           rotate_left
           ·show Act.put _ (some 7) _ = _
            simp only [Act.put,List.setIfInBounds_toArray,List.set_cons_zero,List.set_cons_succ,i64_w,i32_w]
            rfl
           exact norm_ (by first|(simp only [putAll,Act.put,List.setIfInBounds_toArray,List.set_cons_zero,List.set_cons_succ];done)|(simp only [putAll,Act.put,List.setIfInBounds_toArray,List.set_cons_zero,List.set_cons_succ];rfl)) (hJ1_11_12 ((.slice Ao34 t316.length co34),gb326,gb327) _ ⟨hHeld,(by (with_reducible repeat (first|apply Kd.V_alloc|apply Kd.V_drewN|apply Kd.V_drew));exact Kd.V_mono HL319_1.out (fun _ hk => ⟨hk.1.1,⟨hk.1.2.1,⟨hk.2,hk.1.2.2⟩⟩⟩)),(by (with_reducible repeat (first|apply Kd.R_alloc|apply Kd.R_drewN|apply Kd.R_drew));exact HO318.out),(by (with_reducible repeat (first|apply Kd.N_alloc|apply Kd.N_drewN|apply Kd.N_drew));exact Kd.N_mono HO_3.out (fun _ hk => ⟨hk.1.1,⟨hk.2,hk.1.2⟩⟩)),(by (with_reducible repeat (first|refine blk_drewN ?_ _|refine blk_drew ?_|refine blk_alloc ?_ _));exact BK326.out),(by (with_reducible repeat (first|refine blk_drewN ?_ _|refine blk_drew ?_|refine blk_alloc ?_ _));exact BK327.out),GW326.out,GE326.out,NB327_326.out,NB326_327.out,GW327.out,GE327.out,(by repeat (first|(with_reducible first|exact HB.out|apply below_alloc|apply pw_below_drewN|apply below_drew1|refine below_set ?_ GE327.out|refine below_set ?_ GE326.out)|exact HB.out))⟩)
        ·skip
         rintro ⟨v317,gb326⟩ w33 ⟨hS_,h0_,h1_,h2_,h3_,h4_,h5_,h6_⟩
         have n0_ : Aside0 (Kd.V (Kd.int .i64) 3 w33 w.heap.size (fun k_ => some k_ ≠ (v317 : Value).ownBlock ∧ some k_ ≠ (.slice (some ad319) t313.length co29 : Value).ownBlock ∧ k_ ≠ gb326) (.slice A319_1 ((rd_T87 t313 x6_1).f1.f0).length c319_1) ((rd_T87 t313 x6_1).f1.f0)):=⟨h0_⟩
         have n1_ : Aside0 (Kd.R (Kd.int .i64) 3 w33 w.heap.size (fun _ => True) v317 t316):=⟨h1_⟩
         have n2_ : Aside0 (Kd.N k87 87 w33 w.heap.size (fun k_ => some k_ ≠ (v317 : Value).ownBlock ∧ k_ ≠ gb326) (.slice (some ad319) t313.length co29) t313):=⟨h2_⟩
         have n3_ : Aside0 (w33.heap[gb326]? = some (.cells #[.slice none 0 0] 85 (0,0))):=⟨h3_⟩
         have n4_ : Aside0 (w.heap.size ≤ gb326):=⟨h4_⟩
         have n5_ : Aside0 (w.heap.size ≤ gb326):=⟨h5_⟩
         have n6_ : Aside0 (Below w.heap.size w w33):=⟨h6_⟩
         clear HO_3;clear HB;clear h0_ h1_ h2_ h3_ h4_ h5_ h6_;have HL319_1:=n0_;have HO318:=n1_;have HO_3:=n2_;have BK326:=n3_;have GW326:=n4_;have GE326:=n5_;have HB:=n6_;clear n0_ n1_ n2_ n3_ n4_ n5_ n6_
         have hHeld : w33.cell? (ad319.add ((x6_1).toNat * 2)) = some (.string ((rd_T87 t313 x6_1).f0)) ∧ w33.cell? ⟨(ad319.add ((x6_1).toNat * 2)).block,(ad319.add ((x6_1).toNat * 2)).off + 1,none⟩ = some (.slice A319_1 ((rd_T87 t313 x6_1).f1.f0).length c319_1):=hS_
         obtain ⟨Ao34,co34,eo34⟩:=Kd.R_slice HO318.out
         (first|subst eo34|(injection eo34 with f1_ f2_ f3_;have f4_:=f1_.symm;have f5_:=f3_.symm;clear f1_ f2_ f3_;subst f4_;subst f5_))
         refine norm_ (a':=?_) ?_ ?_
         rotate_left
         ·simp only [putAll,Act.put,List.setIfInBounds_toArray,List.set_cons_zero,List.set_cons_succ]
          rfl
         refine two_ (i:=7) (j:=12) (Ni:=some 35) (Nj:=some 8) #[true,true,true,true,true,true,true,true,false,false,false,true,false,false,false] #[true,true,true,true,true,true,true,false,false,false,false,true,true,false,false] rfl rfl rfl rfl (two_of HT_.out (by kernel_rfl)) (by decide) (by decide) (fun K hK => ?_) (fun K hK => ?_)
         ·skip
          refine goes_ Tryz.func64 (by kernel_rfl) rfl #[.agg #[.slice Ao34 t316.length co34],.agg #[.slice A319_1 ((rd_T87 t313 x6_1).f1.f0).length c319_1]] (by rfl) rfl rfl (by (try simp only [List.map_toArray,List.map_cons,List.map_nil]);first|done|rfl|(simp only [List.length_drop,List.length_take];rfl)) ?_
          with_reducible refine (bursarref03_Long_by.calls k1 _ _ t316 _ _ ((rd_T87 t313 x6_1).f1.f0) t320 t323 _ ?side1 ?side2 ?side3 ?side4 A10.out).mono ?_
          (case side1 => repeat (first|exact (Kd.R_reads' HO318.out).2.2|(with_reducible refine Kd.C_alloc ?_ _)|(with_reducible refine Kd.C_drewN ?_ _)|(with_reducible refine Kd.C_drew ?_)))
          (case side2 => exact (Kd.R_reads' HO318.out).2.1)
          (case side3 => repeat (first|exact ((Kd.V_reads' (by (with_reducible repeat (first|apply Kd.V_alloc|apply Kd.V_drewN|apply Kd.V_drew));exact HL319_1.out)).2.2)|(with_reducible refine Kd.C_alloc ?_ _)|(with_reducible refine Kd.C_drewN ?_ _)|(with_reducible refine Kd.C_drew ?_)))
          (case side4 => exact HC319_1.out)
          rintro e w35 ⟨v321,v324,rfl,ho0,ho1,hb⟩
          have HS0_:=(hb.cell (World.block_lt_of_cell? _ _ (hHeld.1))).trans (hHeld.1)
          have HS1_:=(hb.cell (World.block_lt_of_cell? _ _ (hHeld.2))).trans (hHeld.2)
          refine ⟨_,rfl,?_⟩
          have n0_:=Aside0.mk (Kd.N_below (by (with_reducible repeat (first|apply Kd.N_alloc|apply Kd.N_drewN|apply Kd.N_drew));exact HO_3.out) hb)
          have n1_:=Aside0.mk (Kd.V_below (by (with_reducible repeat (first|apply Kd.V_alloc|apply Kd.V_drewN|apply Kd.V_drew));exact HL319_1.out) hb)
          have n2_:=Aside0.mk (Kd.R_below (by (with_reducible repeat (first|apply Kd.R_alloc|apply Kd.R_drewN|apply Kd.R_drew));exact HO318.out) hb)
          have n3_:=Aside0.mk (Kd.V_lower (Kd.V_mono (ok':=fun k_ => some k_ ≠ (.slice (some ad319) t313.length co29 : Value).ownBlock ∧ some k_ ≠ (.slice Ao34 t316.length co34 : Value).ownBlock ∧ k_ ≠ gb326) ho0 (fun k_ hk_ => ⟨(Kd.fresh' (Kd.N_lt (by (with_reducible repeat (first|apply Kd.N_alloc|apply Kd.N_drewN|apply Kd.N_drew));exact HO_3.out)) k_ hk_),(Kd.fresh' (Kd.R_lt (by (with_reducible repeat (first|apply Kd.R_alloc|apply Kd.R_drewN|apply Kd.R_drew));exact HO318.out)) k_ hk_),(Kd.freshB (g:=gb326) (o:=.cells #[.slice none 0 0] 85 (0,0)) (by (with_reducible repeat (first|refine blk_drewN ?_ _|refine blk_drew ?_|refine blk_alloc ?_ _));exact BK326.out) k_ hk_)⟩)) (below_size (by repeat (first|(with_reducible first|exact HB.out|apply below_alloc|apply pw_below_drewN|apply below_drew1|refine below_set ?_ GE326.out)|exact HB.out))))
          have n4_:=Aside0.mk (Kd.V_lower (Kd.V_mono (ok':=fun k_ => some k_ ≠ (.slice (some ad319) t313.length co29 : Value).ownBlock ∧ some k_ ≠ (.slice Ao34 t316.length co34 : Value).ownBlock ∧ k_ ≠ gb326) ho1 (fun k_ hk_ => ⟨(Kd.fresh' (Kd.N_lt (by (with_reducible repeat (first|apply Kd.N_alloc|apply Kd.N_drewN|apply Kd.N_drew));exact HO_3.out)) k_ hk_),(Kd.fresh' (Kd.R_lt (by (with_reducible repeat (first|apply Kd.R_alloc|apply Kd.R_drewN|apply Kd.R_drew));exact HO318.out)) k_ hk_),(Kd.freshB (g:=gb326) (o:=.cells #[.slice none 0 0] 85 (0,0)) (by (with_reducible repeat (first|refine blk_drewN ?_ _|refine blk_drew ?_|refine blk_alloc ?_ _));exact BK326.out) k_ hk_)⟩)) (below_size (by repeat (first|(with_reducible first|exact HB.out|apply below_alloc|apply pw_below_drewN|apply below_drew1|refine below_set ?_ GE326.out)|exact HB.out))))
          have n5_:=Aside0.mk (blk_below (g:=gb326) (o:=.cells #[.slice none 0 0] 85 (0,0)) (by (with_reducible repeat (first|refine blk_drewN ?_ _|refine blk_drew ?_|refine blk_alloc ?_ _));exact BK326.out) hb)
          have n6_:=Aside0.mk (below_step (by repeat (first|(with_reducible first|exact HB.out|apply below_alloc|apply pw_below_drewN|apply below_drew1|refine below_set ?_ GE326.out)|exact HB.out)) hb)
          clear HO_3;clear HL319_1;clear HO318;clear BK326;clear HB;have HO_3:=n0_;have HL319_1:=n1_;have HO318:=n2_;have HO322:=n3_;have HO325:=n4_;have BK326:=n5_;have HB:=n6_;clear n0_ n1_ n2_ n3_ n4_ n5_ n6_;(try clear hb);(try clear hb2);(try clear hk);(try clear hi);(try clear ho0);(try clear ho1)
          refine hK.out _ _ ⟨HS0_,HS1_⟩ (fun hHeld => ?_)
          clear hK K
          refine norm_ (a':=?_) ?_ ?_
          rotate_left
          ·show Act.put _ (some 35) _ = _
           simp only [Act.put,List.setIfInBounds_toArray,List.set_cons_zero,List.set_cons_succ,i64_w,i32_w]
           rfl
          refine pure_ (i:=8) (N:=some 27) (v:=?_) (a':=?_) #[true,true,true,true,true,true,true,true,true,false,false,true,false,false,false] rfl rfl (any_of HT_.out (by kernel_rfl)) (fun _ _ _ h => h) (Or.inl ⟨by rfl,?_⟩) ?_ ?_
          rotate_left;·intro w';go_simp;with_reducible rfl
          rotate_left;·simp only [Act.put,List.setIfInBounds_toArray,List.set_cons_zero,List.set_cons_succ,i64_w,i32_w];rfl
          refine pure_ (i:=9) (N:=some 36) (v:=?_) (a':=?_) #[true,true,true,true,true,true,true,true,true,true,false,true,false,false,false] rfl rfl (any_of HT_.out (by kernel_rfl)) (fun _ _ _ h => h) (Or.inl ⟨by rfl,?_⟩) ?_ ?_
          rotate_left;·intro w';go_simp;with_reducible rfl
          rotate_left;·simp only [Act.put,List.setIfInBounds_toArray,List.set_cons_zero,List.set_cons_succ,i64_w,i32_w];rfl
          refine pure_ (i:=10) (N:=some 37) (v:=?_) (a':=?_) (bl 12 3) rfl rfl (any_of HT_.out (by kernel_rfl)) (fun _ _ _ h => h) (Or.inl ⟨by rfl,?_⟩) ?_ ?_
          rotate_left;·intro w';go_simp;with_reducible rfl
          rotate_left;·simp only [Act.put,List.setIfInBounds_toArray,List.set_cons_zero,List.set_cons_succ,i64_w,i32_w];rfl
          exact norm_ (by first|(simp only [putAll,Act.put,List.setIfInBounds_toArray,List.set_cons_zero,List.set_cons_succ];done)|(simp only [putAll,Act.put,List.setIfInBounds_toArray,List.set_cons_zero,List.set_cons_succ];rfl)) (hJ1_7_11 (.slice Ao34 t316.length co34,v321,v324,gb326) _ ⟨hHeld,(by (with_reducible repeat (first|apply Kd.V_alloc|apply Kd.V_drewN|apply Kd.V_drew));exact HL319_1.out),(by (with_reducible repeat (first|apply Kd.R_alloc|apply Kd.R_drewN|apply Kd.R_drew));exact HO318.out),(by (with_reducible repeat (first|apply Kd.V_alloc|apply Kd.V_drewN|apply Kd.V_drew));exact Kd.V_mono HO322.out (fun _ hk => ⟨hk.2.1,⟨hk.1,hk.2.2⟩⟩)),(by (with_reducible repeat (first|apply Kd.V_alloc|apply Kd.V_drewN|apply Kd.V_drew));exact Kd.V_mono HO325.out (fun _ hk => ⟨hk.2.1,⟨hk.1,hk.2.2⟩⟩)),(by (with_reducible repeat (first|apply Kd.N_alloc|apply Kd.N_drewN|apply Kd.N_drew));exact HO_3.out),(by (with_reducible repeat (first|refine blk_drewN ?_ _|refine blk_drew ?_|refine blk_alloc ?_ _));exact BK326.out),GW326.out,GE326.out,(by repeat (first|(with_reducible first|exact HB.out|apply below_alloc|apply pw_below_drewN|apply below_drew1|refine below_set ?_ GE326.out)|exact HB.out))⟩)
         ·skip
          refine box_step ?hg (N:=8) ?hd (cs:=#[.slice none 0 0]) (t:=85) ?hr ?_;(case hd => rfl);(case hg => rfl);(case hr => first|(go_simp;done)|(go_simp;rfl))
          intro gb327 hg w34 hbox hb
          have HS0_:=(hb.cell (World.block_lt_of_cell? _ _ (hHeld.1))).trans (hHeld.1)
          have HS1_:=(hb.cell (World.block_lt_of_cell? _ _ (hHeld.2))).trans (hHeld.2)
          have n0_:=Aside0.mk (Kd.N_below (Kd.N_elderB (by (with_reducible repeat (first|apply Kd.N_alloc|apply Kd.N_drewN|apply Kd.N_drew));exact HO_3.out) gb327 (Nat.le_of_eq hg.symm)) hb)
          have n1_:=Aside0.mk (Kd.V_below (Kd.V_elderB (by (with_reducible repeat (first|apply Kd.V_alloc|apply Kd.V_drewN|apply Kd.V_drew));exact HL319_1.out) gb327 (Nat.le_of_eq hg.symm)) hb)
          have n2_:=Aside0.mk (Kd.R_below (by (with_reducible repeat (first|apply Kd.R_alloc|apply Kd.R_drewN|apply Kd.R_drew));exact HO318.out) hb)
          have n3_:=Aside0.mk (blk_below (g:=gb326) (o:=.cells #[.slice none 0 0] 85 (0,0)) (by (with_reducible repeat (first|refine blk_drewN ?_ _|refine blk_drew ?_|refine blk_alloc ?_ _));exact BK326.out) hb)
          have n4_:=Aside0.mk (below_step (by repeat (first|(with_reducible first|exact HB.out|apply below_alloc|apply pw_below_drewN|apply below_drew1|refine below_set ?_ GE326.out)|exact HB.out)) hb)
          have n5_:=Aside0.mk (hbox)
          have n6_:=Aside0.mk ((by rw [hg];exact (below_size (by repeat (first|(with_reducible first|exact HB.out|apply below_alloc|apply pw_below_drewN|apply below_drew1|refine below_set ?_ GE326.out)|exact HB.out))) : w.heap.size ≤ gb327))
          have n7_:=Aside0.mk ((by rw [hg];exact (below_size (by repeat (first|(with_reducible first|exact HB.out|apply below_alloc|apply pw_below_drewN|apply below_drew1|refine below_set ?_ GE326.out)|exact HB.out))) : w.heap.size ≤ gb327))
          have n8_:=Aside0.mk ((by rw [hg];exact Nat.ne_of_lt (blk_lt (g:=gb326) (o:=.cells #[.slice none 0 0] 85 (0,0)) (by (with_reducible repeat (first|refine blk_drewN ?_ _|refine blk_drew ?_|refine blk_alloc ?_ _));exact BK326.out)) : gb326 ≠ gb327))
          have n9_:=Aside0.mk ((by rw [hg];exact Nat.ne_of_gt (blk_lt (g:=gb326) (o:=.cells #[.slice none 0 0] 85 (0,0)) (by (with_reducible repeat (first|refine blk_drewN ?_ _|refine blk_drew ?_|refine blk_alloc ?_ _));exact BK326.out)) : gb327 ≠ gb326))
          clear HO_3;clear HL319_1;clear HO318;clear BK326;clear HB;have HO_3:=n0_;have HL319_1:=n1_;have HO318:=n2_;have BK326:=n3_;have HB:=n4_;have BK327:=n5_;have GW327:=n6_;have GE327:=n7_;have NB326_327:=n8_;have NB327_326:=n9_;clear n0_ n1_ n2_ n3_ n4_ n5_ n6_ n7_ n8_ n9_;clear hb hbox hg
          refine hK.out _ _ ⟨HS0_,HS1_⟩ (fun hHeld => ?_)
          clear hK K
          refine norm_ (a':=?_) ?_ ?_
          rotate_left
          ·show Act.put _ (some 8) _ = _
           simp only [Act.put,List.setIfInBounds_toArray,List.set_cons_zero,List.set_cons_succ,i64_w,i32_w]
           rfl
          exact norm_ (by first|(simp only [putAll,Act.put,List.setIfInBounds_toArray,List.set_cons_zero,List.set_cons_succ];done)|(simp only [putAll,Act.put,List.setIfInBounds_toArray,List.set_cons_zero,List.set_cons_succ];rfl)) (hJ1_11_12 ((.slice Ao34 t316.length co34),gb326,gb327) _ ⟨hHeld,(by (with_reducible repeat (first|apply Kd.V_alloc|apply Kd.V_drewN|apply Kd.V_drew));exact Kd.V_mono HL319_1.out (fun _ hk => ⟨hk.1.1,⟨hk.1.2.1,⟨hk.1.2.2,hk.2⟩⟩⟩)),(by (with_reducible repeat (first|apply Kd.R_alloc|apply Kd.R_drewN|apply Kd.R_drew));exact HO318.out),(by (with_reducible repeat (first|apply Kd.N_alloc|apply Kd.N_drewN|apply Kd.N_drew));exact Kd.N_mono HO_3.out (fun _ hk => ⟨hk.1.1,⟨hk.1.2,hk.2⟩⟩)),(by (with_reducible repeat (first|refine blk_drewN ?_ _|refine blk_drew ?_|refine blk_alloc ?_ _));exact BK326.out),(by (with_reducible repeat (first|refine blk_drewN ?_ _|refine blk_drew ?_|refine blk_alloc ?_ _));exact BK327.out),GW326.out,GE326.out,NB327_326.out,NB326_327.out,GW327.out,GE327.out,(by repeat (first|(with_reducible first|exact HB.out|apply below_alloc|apply pw_below_drewN|apply below_drew1|refine below_set ?_ GE326.out|refine below_set ?_ GE327.out)|exact HB.out))⟩)
       ·skip
        rintro ⟨v317,v321,v324⟩ w34 ⟨hS_,h0_,h1_,h2_,h3_,h4_,h5_⟩
        have n0_ : Aside0 (Kd.V (Kd.int .i64) 3 w34 w.heap.size (fun k_ => some k_ ≠ (v317 : Value).ownBlock ∧ some k_ ≠ (.slice (some ad319) t313.length co29 : Value).ownBlock) (.slice A319_1 ((rd_T87 t313 x6_1).f1.f0).length c319_1) ((rd_T87 t313 x6_1).f1.f0)):=⟨h0_⟩
        have n1_ : Aside0 (Kd.R (Kd.int .i64) 3 w34 w.heap.size (fun _ => True) v317 t316):=⟨h1_⟩
        have n2_ : Aside0 (Kd.V (Kd.int .i64) 3 w34 w.heap.size (fun k_ => some k_ ≠ (v317 : Value).ownBlock ∧ some k_ ≠ (.slice (some ad319) t313.length co29 : Value).ownBlock) v321 t320):=⟨h2_⟩
        have n3_ : Aside0 (Kd.V (Kd.int .i64) 3 w34 w.heap.size (fun k_ => some k_ ≠ (v317 : Value).ownBlock ∧ some k_ ≠ (.slice (some ad319) t313.length co29 : Value).ownBlock) v324 t323):=⟨h3_⟩
        have n4_ : Aside0 (Kd.N k87 87 w34 w.heap.size (fun k_ => some k_ ≠ (v317 : Value).ownBlock) (.slice (some ad319) t313.length co29) t313):=⟨h4_⟩
        have n5_ : Aside0 (Below w.heap.size w w34):=⟨h5_⟩
        clear HO_3;clear HB;clear h0_ h1_ h2_ h3_ h4_ h5_;have HL319_1:=n0_;have HO318:=n1_;have HO322:=n2_;have HO325:=n3_;have HO_3:=n4_;have HB:=n5_;clear n0_ n1_ n2_ n3_ n4_ n5_
        have hHeld : w34.cell? (ad319.add ((x6_1).toNat * 2)) = some (.string ((rd_T87 t313 x6_1).f0)) ∧ w34.cell? ⟨(ad319.add ((x6_1).toNat * 2)).block,(ad319.add ((x6_1).toNat * 2)).off + 1,none⟩ = some (.slice A319_1 ((rd_T87 t313 x6_1).f1.f0).length c319_1):=hS_
        refine norm_ (a':=?_) ?_ ?_
        rotate_left
        ·simp only [putAll,Act.put,List.setIfInBounds_toArray,List.set_cons_zero,List.set_cons_succ]
         rfl
        refine two_ (i:=11) (j:=12) (Ni:=some 7) (Nj:=some 8) (bl 12 3) #[true,true,true,true,true,true,true,true,true,true,true,false,true,false,false] rfl rfl rfl rfl (two_of HT_.out (by kernel_rfl)) (by decide) (by decide) (fun K hK => ?_) (fun K hK => ?_)
        ·skip
         refine box_step ?hg (N:=7) ?hd (cs:=#[.slice none 0 0]) (t:=85) ?hr ?_;(case hd => rfl);(case hg => rfl);(case hr => first|(go_simp;done)|(go_simp;rfl))
         intro gb326 hg w35 hbox hb
         have HS0_:=(hb.cell (World.block_lt_of_cell? _ _ (hHeld.1))).trans (hHeld.1)
         have HS1_:=(hb.cell (World.block_lt_of_cell? _ _ (hHeld.2))).trans (hHeld.2)
         have n0_:=Aside0.mk (Kd.N_below (Kd.N_elderB (by (with_reducible repeat (first|apply Kd.N_alloc|apply Kd.N_drewN|apply Kd.N_drew));exact HO_3.out) gb326 (Nat.le_of_eq hg.symm)) hb)
         have n1_:=Aside0.mk (Kd.V_below (Kd.V_elderB (by (with_reducible repeat (first|apply Kd.V_alloc|apply Kd.V_drewN|apply Kd.V_drew));exact HL319_1.out) gb326 (Nat.le_of_eq hg.symm)) hb)
         have n2_:=Aside0.mk (Kd.R_below (by (with_reducible repeat (first|apply Kd.R_alloc|apply Kd.R_drewN|apply Kd.R_drew));exact HO318.out) hb)
         have n3_:=Aside0.mk (Kd.V_below (Kd.V_elderB (by (with_reducible repeat (first|apply Kd.V_alloc|apply Kd.V_drewN|apply Kd.V_drew));exact HO322.out) gb326 (Nat.le_of_eq hg.symm)) hb)
         have n4_:=Aside0.mk (Kd.V_below (Kd.V_elderB (by (with_reducible repeat (first|apply Kd.V_alloc|apply Kd.V_drewN|apply Kd.V_drew));exact HO325.out) gb326 (Nat.le_of_eq hg.symm)) hb)
         have n5_:=Aside0.mk (below_step (by repeat (first|(with_reducible first|exact HB.out|apply below_alloc|apply pw_below_drewN|apply below_drew1)|exact HB.out)) hb)
         have n6_:=Aside0.mk (hbox)
         have n7_:=Aside0.mk ((by rw [hg];exact (below_size (by repeat (first|(with_reducible first|exact HB.out|apply below_alloc|apply pw_below_drewN|apply below_drew1)|exact HB.out))) : w.heap.size ≤ gb326))
         have n8_:=Aside0.mk ((by rw [hg];exact (below_size (by repeat (first|(with_reducible first|exact HB.out|apply below_alloc|apply pw_below_drewN|apply below_drew1)|exact HB.out))) : w.heap.size ≤ gb326))
         clear HO_3;clear HL319_1;clear HO318;clear HO322;clear HO325;clear HB;have HO_3:=n0_;have HL319_1:=n1_;have HO318:=n2_;have HO322:=n3_;have HO325:=n4_;have HB:=n5_;have BK326:=n6_;have GW326:=n7_;have GE326:=n8_;clear n0_ n1_ n2_ n3_ n4_ n5_ n6_ n7_ n8_;clear hb hbox hg
         refine hK.out _ _ ⟨HS0_,HS1_⟩ (fun hHeld => ?_)
         clear hK K
         refine norm_ (a':=?_) ?_ ?_
         rotate_left
         ·show Act.put _ (some 7) _ = _
          simp only [Act.put,List.setIfInBounds_toArray,List.set_cons_zero,List.set_cons_succ,i64_w,i32_w]
          rfl
         exact norm_ (by first|(simp only [putAll,Act.put,List.setIfInBounds_toArray,List.set_cons_zero,List.set_cons_succ];done)|(simp only [putAll,Act.put,List.setIfInBounds_toArray,List.set_cons_zero,List.set_cons_succ];rfl)) (hJ1_7_11 (v317,v321,v324,gb326) _ ⟨hHeld,(by (with_reducible repeat (first|apply Kd.V_alloc|apply Kd.V_drewN|apply Kd.V_drew));exact Kd.V_mono HL319_1.out (fun _ hk => ⟨hk.1.1,⟨hk.1.2,hk.2⟩⟩)),(by (with_reducible repeat (first|apply Kd.R_alloc|apply Kd.R_drewN|apply Kd.R_drew));exact HO318.out),(by (with_reducible repeat (first|apply Kd.V_alloc|apply Kd.V_drewN|apply Kd.V_drew));exact Kd.V_mono HO322.out (fun _ hk => ⟨hk.1.1,⟨hk.1.2,hk.2⟩⟩)),(by (with_reducible repeat (first|apply Kd.V_alloc|apply Kd.V_drewN|apply Kd.V_drew));exact Kd.V_mono HO325.out (fun _ hk => ⟨hk.1.1,⟨hk.1.2,hk.2⟩⟩)),(by (with_reducible repeat (first|apply Kd.N_alloc|apply Kd.N_drewN|apply Kd.N_drew));exact HO_3.out),(by (with_reducible repeat (first|refine blk_drewN ?_ _|refine blk_drew ?_|refine blk_alloc ?_ _));exact BK326.out),GW326.out,GE326.out,(by repeat (first|(with_reducible first|exact HB.out|apply below_alloc|apply pw_below_drewN|apply below_drew1|refine below_set ?_ GE326.out)|exact HB.out))⟩)
        ·skip
         refine box_step ?hg (N:=8) ?hd (cs:=#[.slice none 0 0]) (t:=85) ?hr ?_;(case hd => rfl);(case hg => rfl);(case hr => first|(go_simp;done)|(go_simp;rfl))
         intro gb327 hg w35 hbox hb
         have HS0_:=(hb.cell (World.block_lt_of_cell? _ _ (hHeld.1))).trans (hHeld.1)
         have HS1_:=(hb.cell (World.block_lt_of_cell? _ _ (hHeld.2))).trans (hHeld.2)
         have n0_:=Aside0.mk (Kd.N_below (Kd.N_elderB (by (with_reducible repeat (first|apply Kd.N_alloc|apply Kd.N_drewN|apply Kd.N_drew));exact HO_3.out) gb327 (Nat.le_of_eq hg.symm)) hb)
         have n1_:=Aside0.mk (Kd.V_below (Kd.V_elderB (by (with_reducible repeat (first|apply Kd.V_alloc|apply Kd.V_drewN|apply Kd.V_drew));exact HL319_1.out) gb327 (Nat.le_of_eq hg.symm)) hb)
         have n2_:=Aside0.mk (Kd.R_below (by (with_reducible repeat (first|apply Kd.R_alloc|apply Kd.R_drewN|apply Kd.R_drew));exact HO318.out) hb)
         have n3_:=Aside0.mk (Kd.V_below (Kd.V_elderB (by (with_reducible repeat (first|apply Kd.V_alloc|apply Kd.V_drewN|apply Kd.V_drew));exact HO322.out) gb327 (Nat.le_of_eq hg.symm)) hb)
         have n4_:=Aside0.mk (Kd.V_below (Kd.V_elderB (by (with_reducible repeat (first|apply Kd.V_alloc|apply Kd.V_drewN|apply Kd.V_drew));exact HO325.out) gb327 (Nat.le_of_eq hg.symm)) hb)
         have n5_:=Aside0.mk (below_step (by repeat (first|(with_reducible first|exact HB.out|apply below_alloc|apply pw_below_drewN|apply below_drew1)|exact HB.out)) hb)
         have n6_:=Aside0.mk (hbox)
         have n7_:=Aside0.mk ((by rw [hg];exact (below_size (by repeat (first|(with_reducible first|exact HB.out|apply below_alloc|apply pw_below_drewN|apply below_drew1)|exact HB.out))) : w.heap.size ≤ gb327))
         have n8_:=Aside0.mk ((by rw [hg];exact (below_size (by repeat (first|(with_reducible first|exact HB.out|apply below_alloc|apply pw_below_drewN|apply below_drew1)|exact HB.out))) : w.heap.size ≤ gb327))
         clear HO_3;clear HL319_1;clear HO318;clear HO322;clear HO325;clear HB;have HO_3:=n0_;have HL319_1:=n1_;have HO318:=n2_;have HO322:=n3_;have HO325:=n4_;have HB:=n5_;have BK327:=n6_;have GW327:=n7_;have GE327:=n8_;clear n0_ n1_ n2_ n3_ n4_ n5_ n6_ n7_ n8_;clear hb hbox hg
         refine hK.out _ _ ⟨HS0_,HS1_⟩ (fun hHeld => ?_)
         clear hK K
         refine norm_ (a':=?_) ?_ ?_
         rotate_left
         ·show Act.put _ (some 8) _ = _
          simp only [Act.put,List.setIfInBounds_toArray,List.set_cons_zero,List.set_cons_succ,i64_w,i32_w]
          rfl
         exact norm_ (by first|(simp only [putAll,Act.put,List.setIfInBounds_toArray,List.set_cons_zero,List.set_cons_succ];done)|(simp only [putAll,Act.put,List.setIfInBounds_toArray,List.set_cons_zero,List.set_cons_succ];rfl)) (hJ1_7_12 (v317,v321,v324,gb327) _ ⟨hHeld,(by (with_reducible repeat (first|apply Kd.V_alloc|apply Kd.V_drewN|apply Kd.V_drew));exact Kd.V_mono HL319_1.out (fun _ hk => ⟨hk.1.1,⟨hk.1.2,hk.2⟩⟩)),(by (with_reducible repeat (first|apply Kd.R_alloc|apply Kd.R_drewN|apply Kd.R_drew));exact HO318.out),(by (with_reducible repeat (first|apply Kd.V_alloc|apply Kd.V_drewN|apply Kd.V_drew));exact Kd.V_mono HO322.out (fun _ hk => ⟨hk.1.1,⟨hk.1.2,hk.2⟩⟩)),(by (with_reducible repeat (first|apply Kd.V_alloc|apply Kd.V_drewN|apply Kd.V_drew));exact Kd.V_mono HO325.out (fun _ hk => ⟨hk.1.1,⟨hk.1.2,hk.2⟩⟩)),(by (with_reducible repeat (first|apply Kd.N_alloc|apply Kd.N_drewN|apply Kd.N_drew));exact HO_3.out),(by (with_reducible repeat (first|refine blk_drewN ?_ _|refine blk_drew ?_|refine blk_alloc ?_ _));exact BK327.out),GW327.out,GE327.out,(by repeat (first|(with_reducible first|exact HB.out|apply below_alloc|apply pw_below_drewN|apply below_drew1|refine below_set ?_ GE327.out)|exact HB.out))⟩)
      ·skip
       rintro ⟨v317,gb326,gb327⟩ w34 ⟨hS_,h0_,h1_,h2_,h3_,h4_,h5_,h6_,h7_,h8_,h9_,h10_,h11_⟩
       have n0_ : Aside0 (Kd.V (Kd.int .i64) 3 w34 w.heap.size (fun k_ => some k_ ≠ (v317 : Value).ownBlock ∧ some k_ ≠ (.slice (some ad319) t313.length co29 : Value).ownBlock ∧ k_ ≠ gb326 ∧ k_ ≠ gb327) (.slice A319_1 ((rd_T87 t313 x6_1).f1.f0).length c319_1) ((rd_T87 t313 x6_1).f1.f0)):=⟨h0_⟩
       have n1_ : Aside0 (Kd.R (Kd.int .i64) 3 w34 w.heap.size (fun _ => True) v317 t316):=⟨h1_⟩
       have n2_ : Aside0 (Kd.N k87 87 w34 w.heap.size (fun k_ => some k_ ≠ (v317 : Value).ownBlock ∧ k_ ≠ gb326 ∧ k_ ≠ gb327) (.slice (some ad319) t313.length co29) t313):=⟨h2_⟩
       have n3_ : Aside0 (w34.heap[gb326]? = some (.cells #[.slice none 0 0] 85 (0,0))):=⟨h3_⟩
       have n4_ : Aside0 (w34.heap[gb327]? = some (.cells #[.slice none 0 0] 85 (0,0))):=⟨h4_⟩
       have n5_ : Aside0 (w.heap.size ≤ gb326):=⟨h5_⟩
       have n6_ : Aside0 (w.heap.size ≤ gb326):=⟨h6_⟩
       have n7_ : Aside0 (gb327 ≠ gb326):=⟨h7_⟩
       have n8_ : Aside0 (gb326 ≠ gb327):=⟨h8_⟩
       have n9_ : Aside0 (w.heap.size ≤ gb327):=⟨h9_⟩
       have n10_ : Aside0 (w.heap.size ≤ gb327):=⟨h10_⟩
       have n11_ : Aside0 (Below w.heap.size w w34):=⟨h11_⟩
       clear HO_3;clear HB;clear h0_ h1_ h2_ h3_ h4_ h5_ h6_ h7_ h8_ h9_ h10_ h11_;have HL319_1:=n0_;have HO318:=n1_;have HO_3:=n2_;have BK326:=n3_;have BK327:=n4_;have GW326:=n5_;have GE326:=n6_;have NB327_326:=n7_;have NB326_327:=n8_;have GW327:=n9_;have GE327:=n10_;have HB:=n11_;clear n0_ n1_ n2_ n3_ n4_ n5_ n6_ n7_ n8_ n9_ n10_ n11_
       have hHeld : w34.cell? (ad319.add ((x6_1).toNat * 2)) = some (.string ((rd_T87 t313 x6_1).f0)) ∧ w34.cell? ⟨(ad319.add ((x6_1).toNat * 2)).block,(ad319.add ((x6_1).toNat * 2)).off + 1,none⟩ = some (.slice A319_1 ((rd_T87 t313 x6_1).f1.f0).length c319_1):=hS_
       obtain ⟨Ao35,co35,eo35⟩:=Kd.R_slice HO318.out
       (first|subst eo35|(injection eo35 with f1_ f2_ f3_;have f4_:=f1_.symm;have f5_:=f3_.symm;clear f1_ f2_ f3_;subst f4_;subst f5_))
       refine norm_ (a':=?_) ?_ ?_
       rotate_left
       ·simp only [putAll,Act.put,List.setIfInBounds_toArray,List.set_cons_zero,List.set_cons_succ]
        rfl
       refine one_ (i:=7) (N:=some 35) #[true,true,true,true,true,true,true,true,false,false,false,true,true,false,false] rfl rfl (one_of HT_.out (by kernel_rfl)) (by decide) (fun K hK => ?_)
       refine goes_ Tryz.func64 (by kernel_rfl) rfl #[.agg #[.slice Ao35 t316.length co35],.agg #[.slice A319_1 ((rd_T87 t313 x6_1).f1.f0).length c319_1]] (by rfl) rfl rfl (by (try simp only [List.map_toArray,List.map_cons,List.map_nil]);first|done|rfl|(simp only [List.length_drop,List.length_take];rfl)) ?_
       with_reducible refine (bursarref03_Long_by.calls k1 _ _ t316 _ _ ((rd_T87 t313 x6_1).f1.f0) t320 t323 _ ?side1 ?side2 ?side3 ?side4 A10.out).mono ?_
       (case side1 => repeat (first|exact (Kd.R_reads' HO318.out).2.2|(with_reducible refine Kd.C_alloc ?_ _)|(with_reducible refine Kd.C_drewN ?_ _)|(with_reducible refine Kd.C_drew ?_)))
       (case side2 => exact (Kd.R_reads' HO318.out).2.1)
       (case side3 => repeat (first|exact ((Kd.V_reads' (by (with_reducible repeat (first|apply Kd.V_alloc|apply Kd.V_drewN|apply Kd.V_drew));exact HL319_1.out)).2.2)|(with_reducible refine Kd.C_alloc ?_ _)|(with_reducible refine Kd.C_drewN ?_ _)|(with_reducible refine Kd.C_drew ?_)))
       (case side4 => exact HC319_1.out)
       rintro e w36 ⟨v321,v324,rfl,ho0,ho1,hb⟩
       have HS0_:=(hb.cell (World.block_lt_of_cell? _ _ (hHeld.1))).trans (hHeld.1)
       have HS1_:=(hb.cell (World.block_lt_of_cell? _ _ (hHeld.2))).trans (hHeld.2)
       refine ⟨_,rfl,?_⟩
       have n0_:=Aside0.mk (Kd.N_below (by (with_reducible repeat (first|apply Kd.N_alloc|apply Kd.N_drewN|apply Kd.N_drew));exact HO_3.out) hb)
       have n1_:=Aside0.mk (Kd.V_below (by (with_reducible repeat (first|apply Kd.V_alloc|apply Kd.V_drewN|apply Kd.V_drew));exact HL319_1.out) hb)
       have n2_:=Aside0.mk (Kd.R_below (by (with_reducible repeat (first|apply Kd.R_alloc|apply Kd.R_drewN|apply Kd.R_drew));exact HO318.out) hb)
       have n3_:=Aside0.mk (Kd.V_lower (Kd.V_mono (ok':=fun k_ => some k_ ≠ (.slice (some ad319) t313.length co29 : Value).ownBlock ∧ some k_ ≠ (.slice Ao35 t316.length co35 : Value).ownBlock ∧ k_ ≠ gb326 ∧ k_ ≠ gb327) ho0 (fun k_ hk_ => ⟨(Kd.fresh' (Kd.N_lt (by (with_reducible repeat (first|apply Kd.N_alloc|apply Kd.N_drewN|apply Kd.N_drew));exact HO_3.out)) k_ hk_),(Kd.fresh' (Kd.R_lt (by (with_reducible repeat (first|apply Kd.R_alloc|apply Kd.R_drewN|apply Kd.R_drew));exact HO318.out)) k_ hk_),(Kd.freshB (g:=gb326) (o:=.cells #[.slice none 0 0] 85 (0,0)) (by (with_reducible repeat (first|refine blk_drewN ?_ _|refine blk_drew ?_|refine blk_alloc ?_ _));exact BK326.out) k_ hk_),(Kd.freshB (g:=gb327) (o:=.cells #[.slice none 0 0] 85 (0,0)) (by (with_reducible repeat (first|refine blk_drewN ?_ _|refine blk_drew ?_|refine blk_alloc ?_ _));exact BK327.out) k_ hk_)⟩)) (below_size (by repeat (first|(with_reducible first|exact HB.out|apply below_alloc|apply pw_below_drewN|apply below_drew1|refine below_set ?_ GE326.out|refine below_set ?_ GE327.out)|exact HB.out))))
       have n4_:=Aside0.mk (Kd.V_lower (Kd.V_mono (ok':=fun k_ => some k_ ≠ (.slice (some ad319) t313.length co29 : Value).ownBlock ∧ some k_ ≠ (.slice Ao35 t316.length co35 : Value).ownBlock ∧ k_ ≠ gb326 ∧ k_ ≠ gb327) ho1 (fun k_ hk_ => ⟨(Kd.fresh' (Kd.N_lt (by (with_reducible repeat (first|apply Kd.N_alloc|apply Kd.N_drewN|apply Kd.N_drew));exact HO_3.out)) k_ hk_),(Kd.fresh' (Kd.R_lt (by (with_reducible repeat (first|apply Kd.R_alloc|apply Kd.R_drewN|apply Kd.R_drew));exact HO318.out)) k_ hk_),(Kd.freshB (g:=gb326) (o:=.cells #[.slice none 0 0] 85 (0,0)) (by (with_reducible repeat (first|refine blk_drewN ?_ _|refine blk_drew ?_|refine blk_alloc ?_ _));exact BK326.out) k_ hk_),(Kd.freshB (g:=gb327) (o:=.cells #[.slice none 0 0] 85 (0,0)) (by (with_reducible repeat (first|refine blk_drewN ?_ _|refine blk_drew ?_|refine blk_alloc ?_ _));exact BK327.out) k_ hk_)⟩)) (below_size (by repeat (first|(with_reducible first|exact HB.out|apply below_alloc|apply pw_below_drewN|apply below_drew1|refine below_set ?_ GE326.out|refine below_set ?_ GE327.out)|exact HB.out))))
       have n5_:=Aside0.mk (blk_below (g:=gb326) (o:=.cells #[.slice none 0 0] 85 (0,0)) (by (with_reducible repeat (first|refine blk_drewN ?_ _|refine blk_drew ?_|refine blk_alloc ?_ _));exact BK326.out) hb)
       have n6_:=Aside0.mk (blk_below (g:=gb327) (o:=.cells #[.slice none 0 0] 85 (0,0)) (by (with_reducible repeat (first|refine blk_drewN ?_ _|refine blk_drew ?_|refine blk_alloc ?_ _));exact BK327.out) hb)
       have n7_:=Aside0.mk (below_step (by repeat (first|(with_reducible first|exact HB.out|apply below_alloc|apply pw_below_drewN|apply below_drew1|refine below_set ?_ GE326.out|refine below_set ?_ GE327.out)|exact HB.out)) hb)
       clear HO_3;clear HL319_1;clear HO318;clear BK326;clear BK327;clear HB;have HO_3:=n0_;have HL319_1:=n1_;have HO318:=n2_;have HO322:=n3_;have HO325:=n4_;have BK326:=n5_;have BK327:=n6_;have HB:=n7_;clear n0_ n1_ n2_ n3_ n4_ n5_ n6_ n7_;(try clear hb);(try clear hb2);(try clear hk);(try clear hi);(try clear ho0);(try clear ho1)
       refine hK.out _ _ ⟨HS0_,HS1_⟩ (fun hHeld => ?_)
       clear hK K
       refine norm_ (a':=?_) ?_ ?_
       rotate_left
       ·show Act.put _ (some 35) _ = _
        simp only [Act.put,List.setIfInBounds_toArray,List.set_cons_zero,List.set_cons_succ,i64_w,i32_w]
        rfl
       refine pure_ (i:=8) (N:=some 27) (v:=?_) (a':=?_) #[true,true,true,true,true,true,true,true,true,false,false,true,true,false,false] rfl rfl (any_of HT_.out (by kernel_rfl)) (fun _ _ _ h => h) (Or.inl ⟨by rfl,?_⟩) ?_ ?_
       rotate_left;·intro w';go_simp;with_reducible rfl
       rotate_left;·simp only [Act.put,List.setIfInBounds_toArray,List.set_cons_zero,List.set_cons_succ,i64_w,i32_w];rfl
       refine pure_ (i:=9) (N:=some 36) (v:=?_) (a':=?_) #[true,true,true,true,true,true,true,true,true,true,false,true,true,false,false] rfl rfl (any_of HT_.out (by kernel_rfl)) (fun _ _ _ h => h) (Or.inl ⟨by rfl,?_⟩) ?_ ?_
       rotate_left;·intro w';go_simp;with_reducible rfl
       rotate_left;·simp only [Act.put,List.setIfInBounds_toArray,List.set_cons_zero,List.set_cons_succ,i64_w,i32_w];rfl
       refine pure_ (i:=10) (N:=some 37) (v:=?_) (a':=?_) (bl 13 2) rfl rfl (any_of HT_.out (by kernel_rfl)) (fun _ _ _ h => h) (Or.inl ⟨by rfl,?_⟩) ?_ ?_
       rotate_left;·intro w';go_simp;with_reducible rfl
       rotate_left;·simp only [Act.put,List.setIfInBounds_toArray,List.set_cons_zero,List.set_cons_succ,i64_w,i32_w];rfl
       exact norm_ (by first|(simp only [putAll,Act.put,List.setIfInBounds_toArray,List.set_cons_zero,List.set_cons_succ];done)|(simp only [putAll,Act.put,List.setIfInBounds_toArray,List.set_cons_zero,List.set_cons_succ];rfl)) (hJ1_7_11_12 (.slice Ao35 t316.length co35,v321,v324,gb326,gb327) _ ⟨hHeld,(by (with_reducible repeat (first|apply Kd.V_alloc|apply Kd.V_drewN|apply Kd.V_drew));exact HL319_1.out),(by (with_reducible repeat (first|apply Kd.R_alloc|apply Kd.R_drewN|apply Kd.R_drew));exact HO318.out),(by (with_reducible repeat (first|apply Kd.V_alloc|apply Kd.V_drewN|apply Kd.V_drew));exact Kd.V_mono HO322.out (fun _ hk => ⟨hk.2.1,⟨hk.1,⟨hk.2.2.1,hk.2.2.2⟩⟩⟩)),(by (with_reducible repeat (first|apply Kd.V_alloc|apply Kd.V_drewN|apply Kd.V_drew));exact Kd.V_mono HO325.out (fun _ hk => ⟨hk.2.1,⟨hk.1,⟨hk.2.2.1,hk.2.2.2⟩⟩⟩)),(by (with_reducible repeat (first|apply Kd.N_alloc|apply Kd.N_drewN|apply Kd.N_drew));exact HO_3.out),(by (with_reducible repeat (first|refine blk_drewN ?_ _|refine blk_drew ?_|refine blk_alloc ?_ _));exact BK326.out),(by (with_reducible repeat (first|refine blk_drewN ?_ _|refine blk_drew ?_|refine blk_alloc ?_ _));exact BK327.out),GW326.out,GE326.out,NB327_326.out,NB326_327.out,GW327.out,GE327.out,(by repeat (first|(with_reducible first|exact HB.out|apply below_alloc|apply pw_below_drewN|apply below_drew1|refine below_set ?_ GE326.out|refine below_set ?_ GE327.out)|exact HB.out))⟩)
     ·skip
      rintro ⟨v317,v321,v324,gb327⟩ w35 ⟨hS_,h0_,h1_,h2_,h3_,h4_,h5_,h6_,h7_,h8_⟩
      have n0_ : Aside0 (Kd.V (Kd.int .i64) 3 w35 w.heap.size (fun k_ => some k_ ≠ (v317 : Value).ownBlock ∧ some k_ ≠ (.slice (some ad319) t313.length co29 : Value).ownBlock ∧ k_ ≠ gb327) (.slice A319_1 ((rd_T87 t313 x6_1).f1.f0).length c319_1) ((rd_T87 t313 x6_1).f1.f0)):=⟨h0_⟩
      have n1_ : Aside0 (Kd.R (Kd.int .i64) 3 w35 w.heap.size (fun _ => True) v317 t316):=⟨h1_⟩
      have n2_ : Aside0 (Kd.V (Kd.int .i64) 3 w35 w.heap.size (fun k_ => some k_ ≠ (v317 : Value).ownBlock ∧ some k_ ≠ (.slice (some ad319) t313.length co29 : Value).ownBlock ∧ k_ ≠ gb327) v321 t320):=⟨h2_⟩
      have n3_ : Aside0 (Kd.V (Kd.int .i64) 3 w35 w.heap.size (fun k_ => some k_ ≠ (v317 : Value).ownBlock ∧ some k_ ≠ (.slice (some ad319) t313.length co29 : Value).ownBlock ∧ k_ ≠ gb327) v324 t323):=⟨h3_⟩
      have n4_ : Aside0 (Kd.N k87 87 w35 w.heap.size (fun k_ => some k_ ≠ (v317 : Value).ownBlock ∧ k_ ≠ gb327) (.slice (some ad319) t313.length co29) t313):=⟨h4_⟩
      have n5_ : Aside0 (w35.heap[gb327]? = some (.cells #[.slice none 0 0] 85 (0,0))):=⟨h5_⟩
      have n6_ : Aside0 (w.heap.size ≤ gb327):=⟨h6_⟩
      have n7_ : Aside0 (w.heap.size ≤ gb327):=⟨h7_⟩
      have n8_ : Aside0 (Below w.heap.size w w35):=⟨h8_⟩
      clear HO_3;clear HB;clear h0_ h1_ h2_ h3_ h4_ h5_ h6_ h7_ h8_;have HL319_1:=n0_;have HO318:=n1_;have HO322:=n2_;have HO325:=n3_;have HO_3:=n4_;have BK327:=n5_;have GW327:=n6_;have GE327:=n7_;have HB:=n8_;clear n0_ n1_ n2_ n3_ n4_ n5_ n6_ n7_ n8_
      have hHeld : w35.cell? (ad319.add ((x6_1).toNat * 2)) = some (.string ((rd_T87 t313 x6_1).f0)) ∧ w35.cell? ⟨(ad319.add ((x6_1).toNat * 2)).block,(ad319.add ((x6_1).toNat * 2)).off + 1,none⟩ = some (.slice A319_1 ((rd_T87 t313 x6_1).f1.f0).length c319_1):=hS_
      refine norm_ (a':=?_) ?_ ?_
      rotate_left
      ·simp only [putAll,Act.put,List.setIfInBounds_toArray,List.set_cons_zero,List.set_cons_succ]
       rfl
      refine one_ (i:=11) (N:=some 7) (bl 13 2) rfl rfl (one_of HT_.out (by kernel_rfl)) (by decide) (fun K hK => ?_)
      refine box_step ?hg (N:=7) ?hd (cs:=#[.slice none 0 0]) (t:=85) ?hr ?_;(case hd => rfl);(case hg => rfl);(case hr => first|(go_simp;done)|(go_simp;rfl))
      intro gb326 hg w36 hbox hb
      have HS0_:=(hb.cell (World.block_lt_of_cell? _ _ (hHeld.1))).trans (hHeld.1)
      have HS1_:=(hb.cell (World.block_lt_of_cell? _ _ (hHeld.2))).trans (hHeld.2)
      have n0_:=Aside0.mk (Kd.N_below (Kd.N_elderB (by (with_reducible repeat (first|apply Kd.N_alloc|apply Kd.N_drewN|apply Kd.N_drew));exact HO_3.out) gb326 (Nat.le_of_eq hg.symm)) hb)
      have n1_:=Aside0.mk (Kd.V_below (Kd.V_elderB (by (with_reducible repeat (first|apply Kd.V_alloc|apply Kd.V_drewN|apply Kd.V_drew));exact HL319_1.out) gb326 (Nat.le_of_eq hg.symm)) hb)
      have n2_:=Aside0.mk (Kd.R_below (by (with_reducible repeat (first|apply Kd.R_alloc|apply Kd.R_drewN|apply Kd.R_drew));exact HO318.out) hb)
      have n3_:=Aside0.mk (Kd.V_below (Kd.V_elderB (by (with_reducible repeat (first|apply Kd.V_alloc|apply Kd.V_drewN|apply Kd.V_drew));exact HO322.out) gb326 (Nat.le_of_eq hg.symm)) hb)
      have n4_:=Aside0.mk (Kd.V_below (Kd.V_elderB (by (with_reducible repeat (first|apply Kd.V_alloc|apply Kd.V_drewN|apply Kd.V_drew));exact HO325.out) gb326 (Nat.le_of_eq hg.symm)) hb)
      have n5_:=Aside0.mk (blk_below (g:=gb327) (o:=.cells #[.slice none 0 0] 85 (0,0)) (by (with_reducible repeat (first|refine blk_drewN ?_ _|refine blk_drew ?_|refine blk_alloc ?_ _));exact BK327.out) hb)
      have n6_:=Aside0.mk (below_step (by repeat (first|(with_reducible first|exact HB.out|apply below_alloc|apply pw_below_drewN|apply below_drew1|refine below_set ?_ GE327.out)|exact HB.out)) hb)
      have n7_:=Aside0.mk (hbox)
      have n8_:=Aside0.mk ((by rw [hg];exact (below_size (by repeat (first|(with_reducible first|exact HB.out|apply below_alloc|apply pw_below_drewN|apply below_drew1|refine below_set ?_ GE327.out)|exact HB.out))) : w.heap.size ≤ gb326))
      have n9_:=Aside0.mk ((by rw [hg];exact (below_size (by repeat (first|(with_reducible first|exact HB.out|apply below_alloc|apply pw_below_drewN|apply below_drew1|refine below_set ?_ GE327.out)|exact HB.out))) : w.heap.size ≤ gb326))
      have n10_:=Aside0.mk ((by rw [hg];exact Nat.ne_of_lt (blk_lt (g:=gb327) (o:=.cells #[.slice none 0 0] 85 (0,0)) (by (with_reducible repeat (first|refine blk_drewN ?_ _|refine blk_drew ?_|refine blk_alloc ?_ _));exact BK327.out)) : gb327 ≠ gb326))
      have n11_:=Aside0.mk ((by rw [hg];exact Nat.ne_of_gt (blk_lt (g:=gb327) (o:=.cells #[.slice none 0 0] 85 (0,0)) (by (with_reducible repeat (first|refine blk_drewN ?_ _|refine blk_drew ?_|refine blk_alloc ?_ _));exact BK327.out)) : gb326 ≠ gb327))
      clear HO_3;clear HL319_1;clear HO318;clear HO322;clear HO325;clear BK327;clear HB;have HO_3:=n0_;have HL319_1:=n1_;have HO318:=n2_;have HO322:=n3_;have HO325:=n4_;have BK327:=n5_;have HB:=n6_;have BK326:=n7_;have GW326:=n8_;have GE326:=n9_;have NB327_326:=n10_;have NB326_327:=n11_;clear n0_ n1_ n2_ n3_ n4_ n5_ n6_ n7_ n8_ n9_ n10_ n11_;clear hb hbox hg
      refine hK.out _ _ ⟨HS0_,HS1_⟩ (fun hHeld => ?_)
      clear hK K
      refine norm_ (a':=?_) ?_ ?_
      rotate_left
      ·show Act.put _ (some 7) _ = _
       simp only [Act.put,List.setIfInBounds_toArray,List.set_cons_zero,List.set_cons_succ,i64_w,i32_w]
       rfl
      exact norm_ (by first|(simp only [putAll,Act.put,List.setIfInBounds_toArray,List.set_cons_zero,List.set_cons_succ];done)|(simp only [putAll,Act.put,List.setIfInBounds_toArray,List.set_cons_zero,List.set_cons_succ];rfl)) (hJ1_7_11_12 (v317,v321,v324,gb326,gb327) _ ⟨hHeld,(by (with_reducible repeat (first|apply Kd.V_alloc|apply Kd.V_drewN|apply Kd.V_drew));exact Kd.V_mono HL319_1.out (fun _ hk => ⟨hk.1.1,⟨hk.1.2.1,⟨hk.2,hk.1.2.2⟩⟩⟩)),(by (with_reducible repeat (first|apply Kd.R_alloc|apply Kd.R_drewN|apply Kd.R_drew));exact HO318.out),(by (with_reducible repeat (first|apply Kd.V_alloc|apply Kd.V_drewN|apply Kd.V_drew));exact Kd.V_mono HO322.out (fun _ hk => ⟨hk.1.1,⟨hk.1.2.1,⟨hk.2,hk.1.2.2⟩⟩⟩)),(by (with_reducible repeat (first|apply Kd.V_alloc|apply Kd.V_drewN|apply Kd.V_drew));exact Kd.V_mono HO325.out (fun _ hk => ⟨hk.1.1,⟨hk.1.2.1,⟨hk.2,hk.1.2.2⟩⟩⟩)),(by (with_reducible repeat (first|apply Kd.N_alloc|apply Kd.N_drewN|apply Kd.N_drew));exact Kd.N_mono HO_3.out (fun _ hk => ⟨hk.1.1,⟨hk.2,hk.1.2⟩⟩)),(by (with_reducible repeat (first|refine blk_drewN ?_ _|refine blk_drew ?_|refine blk_alloc ?_ _));exact BK326.out),(by (with_reducible repeat (first|refine blk_drewN ?_ _|refine blk_drew ?_|refine blk_alloc ?_ _));exact BK327.out),GW326.out,GE326.out,NB327_326.out,NB326_327.out,GW327.out,GE327.out,(by repeat (first|(with_reducible first|exact HB.out|apply below_alloc|apply pw_below_drewN|apply below_drew1|refine below_set ?_ GE327.out|refine below_set ?_ GE326.out)|exact HB.out))⟩)
    ·skip
     rintro ⟨v317,v321,v324,gb326⟩ w35 ⟨hS_,h0_,h1_,h2_,h3_,h4_,h5_,h6_,h7_,h8_⟩
     have n0_ : Aside0 (Kd.V (Kd.int .i64) 3 w35 w.heap.size (fun k_ => some k_ ≠ (v317 : Value).ownBlock ∧ some k_ ≠ (.slice (some ad319) t313.length co29 : Value).ownBlock ∧ k_ ≠ gb326) (.slice A319_1 ((rd_T87 t313 x6_1).f1.f0).length c319_1) ((rd_T87 t313 x6_1).f1.f0)):=⟨h0_⟩
     have n1_ : Aside0 (Kd.R (Kd.int .i64) 3 w35 w.heap.size (fun _ => True) v317 t316):=⟨h1_⟩
     have n2_ : Aside0 (Kd.V (Kd.int .i64) 3 w35 w.heap.size (fun k_ => some k_ ≠ (v317 : Value).ownBlock ∧ some k_ ≠ (.slice (some ad319) t313.length co29 : Value).ownBlock ∧ k_ ≠ gb326) v321 t320):=⟨h2_⟩
     have n3_ : Aside0 (Kd.V (Kd.int .i64) 3 w35 w.heap.size (fun k_ => some k_ ≠ (v317 : Value).ownBlock ∧ some k_ ≠ (.slice (some ad319) t313.length co29 : Value).ownBlock ∧ k_ ≠ gb326) v324 t323):=⟨h3_⟩
     have n4_ : Aside0 (Kd.N k87 87 w35 w.heap.size (fun k_ => some k_ ≠ (v317 : Value).ownBlock ∧ k_ ≠ gb326) (.slice (some ad319) t313.length co29) t313):=⟨h4_⟩
     have n5_ : Aside0 (w35.heap[gb326]? = some (.cells #[.slice none 0 0] 85 (0,0))):=⟨h5_⟩
     have n6_ : Aside0 (w.heap.size ≤ gb326):=⟨h6_⟩
     have n7_ : Aside0 (w.heap.size ≤ gb326):=⟨h7_⟩
     have n8_ : Aside0 (Below w.heap.size w w35):=⟨h8_⟩
     clear HO_3;clear HB;clear h0_ h1_ h2_ h3_ h4_ h5_ h6_ h7_ h8_;have HL319_1:=n0_;have HO318:=n1_;have HO322:=n2_;have HO325:=n3_;have HO_3:=n4_;have BK326:=n5_;have GW326:=n6_;have GE326:=n7_;have HB:=n8_;clear n0_ n1_ n2_ n3_ n4_ n5_ n6_ n7_ n8_
     have hHeld : w35.cell? (ad319.add ((x6_1).toNat * 2)) = some (.string ((rd_T87 t313 x6_1).f0)) ∧ w35.cell? ⟨(ad319.add ((x6_1).toNat * 2)).block,(ad319.add ((x6_1).toNat * 2)).off + 1,none⟩ = some (.slice A319_1 ((rd_T87 t313 x6_1).f1.f0).length c319_1):=hS_
     refine norm_ (a':=?_) ?_ ?_
     rotate_left
     ·simp only [putAll,Act.put,List.setIfInBounds_toArray,List.set_cons_zero,List.set_cons_succ]
      rfl
     refine one_ (i:=12) (N:=some 8) (bl 13 2) rfl rfl (one_of HT_.out (by kernel_rfl)) (by decide) (fun K hK => ?_)
     refine box_step ?hg (N:=8) ?hd (cs:=#[.slice none 0 0]) (t:=85) ?hr ?_;(case hd => rfl);(case hg => rfl);(case hr => first|(go_simp;done)|(go_simp;rfl))
     intro gb327 hg w36 hbox hb
     have HS0_:=(hb.cell (World.block_lt_of_cell? _ _ (hHeld.1))).trans (hHeld.1)
     have HS1_:=(hb.cell (World.block_lt_of_cell? _ _ (hHeld.2))).trans (hHeld.2)
     have n0_:=Aside0.mk (Kd.N_below (Kd.N_elderB (by (with_reducible repeat (first|apply Kd.N_alloc|apply Kd.N_drewN|apply Kd.N_drew));exact HO_3.out) gb327 (Nat.le_of_eq hg.symm)) hb)
     have n1_:=Aside0.mk (Kd.V_below (Kd.V_elderB (by (with_reducible repeat (first|apply Kd.V_alloc|apply Kd.V_drewN|apply Kd.V_drew));exact HL319_1.out) gb327 (Nat.le_of_eq hg.symm)) hb)
     have n2_:=Aside0.mk (Kd.R_below (by (with_reducible repeat (first|apply Kd.R_alloc|apply Kd.R_drewN|apply Kd.R_drew));exact HO318.out) hb)
     have n3_:=Aside0.mk (Kd.V_below (Kd.V_elderB (by (with_reducible repeat (first|apply Kd.V_alloc|apply Kd.V_drewN|apply Kd.V_drew));exact HO322.out) gb327 (Nat.le_of_eq hg.symm)) hb)
     have n4_:=Aside0.mk (Kd.V_below (Kd.V_elderB (by (with_reducible repeat (first|apply Kd.V_alloc|apply Kd.V_drewN|apply Kd.V_drew));exact HO325.out) gb327 (Nat.le_of_eq hg.symm)) hb)
     have n5_:=Aside0.mk (blk_below (g:=gb326) (o:=.cells #[.slice none 0 0] 85 (0,0)) (by (with_reducible repeat (first|refine blk_drewN ?_ _|refine blk_drew ?_|refine blk_alloc ?_ _));exact BK326.out) hb)
     have n6_:=Aside0.mk (below_step (by repeat (first|(with_reducible first|exact HB.out|apply below_alloc|apply pw_below_drewN|apply below_drew1|refine below_set ?_ GE326.out)|exact HB.out)) hb)
     have n7_:=Aside0.mk (hbox)
     have n8_:=Aside0.mk ((by rw [hg];exact (below_size (by repeat (first|(with_reducible first|exact HB.out|apply below_alloc|apply pw_below_drewN|apply below_drew1|refine below_set ?_ GE326.out)|exact HB.out))) : w.heap.size ≤ gb327))
     have n9_:=Aside0.mk ((by rw [hg];exact (below_size (by repeat (first|(with_reducible first|exact HB.out|apply below_alloc|apply pw_below_drewN|apply below_drew1|refine below_set ?_ GE326.out)|exact HB.out))) : w.heap.size ≤ gb327))
     have n10_:=Aside0.mk ((by rw [hg];exact Nat.ne_of_lt (blk_lt (g:=gb326) (o:=.cells #[.slice none 0 0] 85 (0,0)) (by (with_reducible repeat (first|refine blk_drewN ?_ _|refine blk_drew ?_|refine blk_alloc ?_ _));exact BK326.out)) : gb326 ≠ gb327))
     have n11_:=Aside0.mk ((by rw [hg];exact Nat.ne_of_gt (blk_lt (g:=gb326) (o:=.cells #[.slice none 0 0] 85 (0,0)) (by (with_reducible repeat (first|refine blk_drewN ?_ _|refine blk_drew ?_|refine blk_alloc ?_ _));exact BK326.out)) : gb327 ≠ gb326))
     clear HO_3;clear HL319_1;clear HO318;clear HO322;clear HO325;clear BK326;clear HB;have HO_3:=n0_;have HL319_1:=n1_;have HO318:=n2_;have HO322:=n3_;have HO325:=n4_;have BK326:=n5_;have HB:=n6_;have BK327:=n7_;have GW327:=n8_;have GE327:=n9_;have NB326_327:=n10_;have NB327_326:=n11_;clear n0_ n1_ n2_ n3_ n4_ n5_ n6_ n7_ n8_ n9_ n10_ n11_;clear hb hbox hg
     refine hK.out _ _ ⟨HS0_,HS1_⟩ (fun hHeld => ?_)
     clear hK K
     refine norm_ (a':=?_) ?_ ?_
     rotate_left
     ·show Act.put _ (some 8) _ = _
      simp only [Act.put,List.setIfInBounds_toArray,List.set_cons_zero,List.set_cons_succ,i64_w,i32_w]
      rfl
     exact norm_ (by first|(simp only [putAll,Act.put,List.setIfInBounds_toArray,List.set_cons_zero,List.set_cons_succ];done)|(simp only [putAll,Act.put,List.setIfInBounds_toArray,List.set_cons_zero,List.set_cons_succ];rfl)) (hJ1_7_11_12 (v317,v321,v324,gb326,gb327) _ ⟨hHeld,(by (with_reducible repeat (first|apply Kd.V_alloc|apply Kd.V_drewN|apply Kd.V_drew));exact Kd.V_mono HL319_1.out (fun _ hk => ⟨hk.1.1,⟨hk.1.2.1,⟨hk.1.2.2,hk.2⟩⟩⟩)),(by (with_reducible repeat (first|apply Kd.R_alloc|apply Kd.R_drewN|apply Kd.R_drew));exact HO318.out),(by (with_reducible repeat (first|apply Kd.V_alloc|apply Kd.V_drewN|apply Kd.V_drew));exact Kd.V_mono HO322.out (fun _ hk => ⟨hk.1.1,⟨hk.1.2.1,⟨hk.1.2.2,hk.2⟩⟩⟩)),(by (with_reducible repeat (first|apply Kd.V_alloc|apply Kd.V_drewN|apply Kd.V_drew));exact Kd.V_mono HO325.out (fun _ hk => ⟨hk.1.1,⟨hk.1.2.1,⟨hk.1.2.2,hk.2⟩⟩⟩)),(by (with_reducible repeat (first|apply Kd.N_alloc|apply Kd.N_drewN|apply Kd.N_drew));exact Kd.N_mono HO_3.out (fun _ hk => ⟨hk.1.1,⟨hk.1.2,hk.2⟩⟩)),(by (with_reducible repeat (first|refine blk_drewN ?_ _|refine blk_drew ?_|refine blk_alloc ?_ _));exact BK326.out),(by (with_reducible repeat (first|refine blk_drewN ?_ _|refine blk_drew ?_|refine blk_alloc ?_ _));exact BK327.out),GW326.out,GE326.out,NB327_326.out,NB326_327.out,GW327.out,GE327.out,(by repeat (first|(with_reducible first|exact HB.out|apply below_alloc|apply pw_below_drewN|apply below_drew1|refine below_set ?_ GE326.out|refine below_set ?_ GE327.out)|exact HB.out))⟩)
   rintro ⟨v317,v321,v324,gb326,gb327⟩ w36 ⟨hS_,h0_,h1_,h2_,h3_,h4_,h5_,h6_,h7_,h8_,h9_,h10_,h11_,h12_,h13_⟩
   have n0_ : Aside0 (Kd.V (Kd.int .i64) 3 w36 w.heap.size (fun k_ => some k_ ≠ (v317 : Value).ownBlock ∧ some k_ ≠ (.slice (some ad319) t313.length co29 : Value).ownBlock ∧ k_ ≠ gb326 ∧ k_ ≠ gb327) (.slice A319_1 ((rd_T87 t313 x6_1).f1.f0).length c319_1) ((rd_T87 t313 x6_1).f1.f0)):=⟨h0_⟩
   have n1_ : Aside0 (Kd.R (Kd.int .i64) 3 w36 w.heap.size (fun _ => True) v317 t316):=⟨h1_⟩
   have n2_ : Aside0 (Kd.V (Kd.int .i64) 3 w36 w.heap.size (fun k_ => some k_ ≠ (v317 : Value).ownBlock ∧ some k_ ≠ (.slice (some ad319) t313.length co29 : Value).ownBlock ∧ k_ ≠ gb326 ∧ k_ ≠ gb327) v321 t320):=⟨h2_⟩
   have n3_ : Aside0 (Kd.V (Kd.int .i64) 3 w36 w.heap.size (fun k_ => some k_ ≠ (v317 : Value).ownBlock ∧ some k_ ≠ (.slice (some ad319) t313.length co29 : Value).ownBlock ∧ k_ ≠ gb326 ∧ k_ ≠ gb327) v324 t323):=⟨h3_⟩
   have n4_ : Aside0 (Kd.N k87 87 w36 w.heap.size (fun k_ => some k_ ≠ (v317 : Value).ownBlock ∧ k_ ≠ gb326 ∧ k_ ≠ gb327) (.slice (some ad319) t313.length co29) t313):=⟨h4_⟩
   have n5_ : Aside0 (w36.heap[gb326]? = some (.cells #[.slice none 0 0] 85 (0,0))):=⟨h5_⟩
   have n6_ : Aside0 (w36.heap[gb327]? = some (.cells #[.slice none 0 0] 85 (0,0))):=⟨h6_⟩
   have n7_ : Aside0 (w.heap.size ≤ gb326):=⟨h7_⟩
   have n8_ : Aside0 (w.heap.size ≤ gb326):=⟨h8_⟩
   have n9_ : Aside0 (gb327 ≠ gb326):=⟨h9_⟩
   have n10_ : Aside0 (gb326 ≠ gb327):=⟨h10_⟩
   have n11_ : Aside0 (w.heap.size ≤ gb327):=⟨h11_⟩
   have n12_ : Aside0 (w.heap.size ≤ gb327):=⟨h12_⟩
   have n13_ : Aside0 (Below w.heap.size w w36):=⟨h13_⟩
   clear HO_3;clear HB;clear h0_ h1_ h2_ h3_ h4_ h5_ h6_ h7_ h8_ h9_ h10_ h11_ h12_ h13_;have HL319_1:=n0_;have HO318:=n1_;have HO322:=n2_;have HO325:=n3_;have HO_3:=n4_;have BK326:=n5_;have BK327:=n6_;have GW326:=n7_;have GE326:=n8_;have NB327_326:=n9_;have NB326_327:=n10_;have GW327:=n11_;have GE327:=n12_;have HB:=n13_;clear n0_ n1_ n2_ n3_ n4_ n5_ n6_ n7_ n8_ n9_ n10_ n11_ n12_ n13_
   have hHeld : w36.cell? (ad319.add ((x6_1).toNat * 2)) = some (.string ((rd_T87 t313 x6_1).f0)) ∧ w36.cell? ⟨(ad319.add ((x6_1).toNat * 2)).block,(ad319.add ((x6_1).toNat * 2)).off + 1,none⟩ = some (.slice A319_1 ((rd_T87 t313 x6_1).f1.f0).length c319_1):=hS_
   obtain ⟨Ao37,co37,eo37⟩:=Kd.V_slice HO322.out
   (first|subst eo37|(injection eo37 with f1_ f2_ f3_;have f4_:=f1_.symm;have f5_:=f3_.symm;clear f1_ f2_ f3_;subst f4_;subst f5_))
   obtain ⟨Ao39,co39,eo39⟩:=Kd.V_slice HO325.out
   (first|subst eo39|(injection eo39 with f1_ f2_ f3_;have f4_:=f1_.symm;have f5_:=f3_.symm;clear f1_ f2_ f3_;subst f4_;subst f5_))
   refine norm_ (a':=?_) ?_ ?_
   rotate_left
   ·simp only [putAll,Act.put,List.setIfInBounds_toArray,List.set_cons_zero,List.set_cons_succ]
    rfl
   refine one_ (i:=13) (N:=none) (bl 14 1) rfl rfl (one_of HT_.out (by kernel_rfl)) (by decide) (fun K hK => ?_)
   have hs38 : w36.cell? ⟨gb326,0,none⟩ = some (.slice none 0 0):=(blk_cell BK326.out 0).trans rfl
   have hfs38:=blk_frozen BK326.out 0
   have hns38_1:=NB327_326.out
   have hms38_1:=NB326_327.out
   refine skip_ (w1:=?_) (by rfl) rfl ?_ ?_
   rotate_left
   ·go_simp
    rfl
   refine hK.out _ _ ⟨((cell_far (p:=⟨gb326,_,none⟩) (by first|exact Kd.own_blk (Kd.N_away HO_3.out (fun _ hk => hk.2.1))|(rw [add_block];exact Kd.own_blk (Kd.N_away HO_3.out (fun _ hk => hk.2.1)))|(show (Addr.add _ _).block ≠ _;rw [add_block];exact Kd.own_blk (Kd.N_away HO_3.out (fun _ hk => hk.2.1)))|(dsimp only;exact Kd.own_blk (Kd.N_away HO_3.out (fun _ hk => hk.2.1)))) _).trans (hHeld.1)),((cell_far (p:=⟨gb326,_,none⟩) (by first|exact Kd.own_blk (Kd.N_away HO_3.out (fun _ hk => hk.2.1))|(rw [add_block];exact Kd.own_blk (Kd.N_away HO_3.out (fun _ hk => hk.2.1)))|(show (Addr.add _ _).block ≠ _;rw [add_block];exact Kd.own_blk (Kd.N_away HO_3.out (fun _ hk => hk.2.1)))|(dsimp only;exact Kd.own_blk (Kd.N_away HO_3.out (fun _ hk => hk.2.1)))) _).trans (hHeld.2))⟩ (fun hHeld => ?_)
   clear hK K
   refine one_ (i:=14) (N:=none) (bl 15 0) rfl rfl (one_of HT_.out (by kernel_rfl)) (by decide) (fun K hK => ?_)
   have hs40 : w36.cell? ⟨gb327,0,none⟩ = some (.slice none 0 0):=(blk_cell BK327.out 0).trans rfl
   have hfs40:=blk_frozen BK327.out 0
   have hns40_0:=NB326_327.out
   have hms40_0:=NB327_326.out
   refine skip_ (w1:=?_) (by rfl) rfl ?_ ?_
   rotate_left
   ·go_simp
    rfl
   refine hK.out _ _ ⟨((cell_far (p:=⟨gb327,_,none⟩) (by first|exact Kd.own_blk (Kd.N_away HO_3.out (fun _ hk => hk.2.2))|(rw [add_block];exact Kd.own_blk (Kd.N_away HO_3.out (fun _ hk => hk.2.2)))|(show (Addr.add _ _).block ≠ _;rw [add_block];exact Kd.own_blk (Kd.N_away HO_3.out (fun _ hk => hk.2.2)))|(dsimp only;exact Kd.own_blk (Kd.N_away HO_3.out (fun _ hk => hk.2.2)))) _).trans (hHeld.1)),((cell_far (p:=⟨gb327,_,none⟩) (by first|exact Kd.own_blk (Kd.N_away HO_3.out (fun _ hk => hk.2.2))|(rw [add_block];exact Kd.own_blk (Kd.N_away HO_3.out (fun _ hk => hk.2.2)))|(show (Addr.add _ _).block ≠ _;rw [add_block];exact Kd.own_blk (Kd.N_away HO_3.out (fun _ hk => hk.2.2)))|(dsimp only;exact Kd.own_blk (Kd.N_away HO_3.out (fun _ hk => hk.2.2)))) _).trans (hHeld.2))⟩ (fun hHeld => ?_)
   clear hK K
   refine done_ (done_of HT_.out (by kernel_rfl)) ?_
   have hnb41:=NB327_326.out
   have hnc41:=NB326_327.out
   have hcz42_0 : w36.cell? ⟨gb327,0,none⟩ = some (.slice none 0 0):=(blk_cell BK327.out 0).trans rfl
   have hfz42_0:=blk_frozen BK327.out 0
   have H:=H'.out
   clear H'
   by_cases c11 : (t323.length : Int) > 0
   ·rw [if_pos c11] at H
    have c11b0 : decide (0 < (t323.length : Int)) = true:=decide_eq_true c11
    have c11b1 : decide (0 < t323.length) = true:=decide_eq_true (by omega)
    clear c11
    have H':=Aside0.mk H
    clear H
    try go_wp2
    go_roundg k1
    case measure => have:=HK1.out;omega
    case rel => exact ⟨(x4_1),(x5_1),(wrap64 (x6_1 + 1)),(by first|rfl|(simp;done)|(simp [*];done)|(simp;rw [Bool.eq_iff_iff];simp;done)|(rw [Bool.eq_iff_iff];simp;done)),(by first|rfl|(simp;done)|(simp [*];done)|(simp;rw [Bool.eq_iff_iff];simp;done)|(rw [Bool.eq_iff_iff];simp;done)),(by first|rfl|(simp;done)|(simp [*];done)|(simp;rw [Bool.eq_iff_iff];simp;done)|(rw [Bool.eq_iff_iff];simp;done)),H',⟨by have:=HK1.out;omega⟩,⟨by (with_reducible repeat (first|apply Kd.N_alloc|apply Kd.N_drewN|apply Kd.N_drew));exact Kd.N_mono (Kd.N_far (p:=⟨gb327,0,none⟩) (Kd.N_far (p:=⟨gb326,0,none⟩) (Kd.N_mono (Kd.N_mono HO_3.out (fun k_ hk => (⟨hk,hk.2.1⟩ : _ ∧ k_ ≠ gb326))) (fun k_ hk => (⟨hk,hk.1.2.2⟩ : _ ∧ k_ ≠ gb327))) (fun _ hk => hk.1.2) (.slice Ao37 t320.length co37)) (fun _ hk => hk.2) (.slice Ao39 t323.length co39)) (fun _ hk => trivial)⟩,⟨by repeat (first|(with_reducible first|exact HB.out|apply below_alloc|apply pw_below_drewN|apply below_drew1|refine below_set ?_ GE326.out|refine below_set ?_ GE327.out)|exact HB.out)⟩⟩
   rw [if_neg c11] at H
   have c11b0 : decide (0 < (t323.length : Int)) = false:=decide_eq_false c11
   have c11b1 : decide (0 < t323.length) = false:=decide_eq_false (by omega)
   clear c11
   by_cases c26 : x6_1 < 7
   ·rw [if_pos c26] at H
    have c26b0 : decide (x6_1 < 7) = true:=decide_eq_true c26
    clear c26
    replace H:=Option.bind_eq_some_iff.mp H
    obtain ⟨t328,A270,H⟩:=H
    replace H : (if t328.size + ((rd_T87 t313 x6_1).f0).size ≤ 9223372036854775807 then (bursarref03_Print.l0 k1 a0 t313 (t328 ++ ((rd_T87 t313 x6_1).f0)) x5_1 (wrap64 (x6_1 + 1))) else (none)) = some r:=H
    have A27:=Aside0.mk A270
    clear A270
    by_cases c28 : t328.size + ((rd_T87 t313 x6_1).f0).size ≤ 9223372036854775807
    rotate_left
    ·rw [if_neg c28] at H
     exact absurd H (by simp)
    rw [if_pos c28] at H
    have c28b0:=eq_true c28
    have c28b1 : decide (t328.size + ((rd_T87 t313 x6_1).f0).size ≤ 9223372036854775807) = true:=decide_eq_true c28
    try have c28b2 : (9223372036854775807 < t328.size + ((rd_T87 t313 x6_1).f0).size) = False:=eq_false (Nat.not_lt.2 c28)
    have H':=Aside0.mk H
    clear H
    try go_wp2
    have n0_ : Aside0 (Kd.N k87 87 ((w36.setCell ⟨gb326,0,none⟩ (.slice Ao37 t320.length co37)).setCell ⟨gb327,0,none⟩ (.slice Ao39 t323.length co39)) w.heap.size (fun k_ => some k_ ≠ (v317 : Value).ownBlock ∧ k_ ≠ gb326 ∧ k_ ≠ gb327) (.slice (some ad319) t313.length co29) t313):=⟨by (with_reducible repeat (first|apply Kd.N_alloc|apply Kd.N_drewN|apply Kd.N_drew));exact Kd.N_mono (Kd.N_far (p:=⟨gb327,0,none⟩) (Kd.N_far (p:=⟨gb326,0,none⟩) (Kd.N_mono (Kd.N_mono HO_3.out (fun k_ hk => (⟨hk,hk.2.1⟩ : _ ∧ k_ ≠ gb326))) (fun k_ hk => (⟨hk,hk.1.2.2⟩ : _ ∧ k_ ≠ gb327))) (fun _ hk => hk.1.2) (.slice Ao37 t320.length co37)) (fun _ hk => hk.2) (.slice Ao39 t323.length co39)) (fun _ hk => ⟨hk.1.1.1,⟨hk.1.1.2.1,hk.1.1.2.2⟩⟩)⟩
    have n1_ : Aside0 (Kd.V (Kd.int .i64) 3 ((w36.setCell ⟨gb326,0,none⟩ (.slice Ao37 t320.length co37)).setCell ⟨gb327,0,none⟩ (.slice Ao39 t323.length co39)) w.heap.size (fun k_ => some k_ ≠ (.slice (some ad319) t313.length co29 : Value).ownBlock ∧ some k_ ≠ (v317 : Value).ownBlock ∧ k_ ≠ gb326 ∧ k_ ≠ gb327) (.slice A319_1 ((rd_T87 t313 x6_1).f1.f0).length c319_1) ((rd_T87 t313 x6_1).f1.f0)):=⟨by (with_reducible repeat (first|apply Kd.V_alloc|apply Kd.V_drewN|apply Kd.V_drew));exact Kd.V_mono (Kd.V_far (p:=⟨gb327,0,none⟩) (Kd.V_far (p:=⟨gb326,0,none⟩) (Kd.V_mono (Kd.V_mono HL319_1.out (fun k_ hk => (⟨hk,hk.2.2.1⟩ : _ ∧ k_ ≠ gb326))) (fun k_ hk => (⟨hk,hk.1.2.2.2⟩ : _ ∧ k_ ≠ gb327))) (fun _ hk => hk.1.2) (.slice Ao37 t320.length co37)) (fun _ hk => hk.2) (.slice Ao39 t323.length co39)) (fun _ hk => ⟨hk.1.1.2.1,⟨hk.1.1.1,⟨hk.1.1.2.2.1,hk.1.1.2.2.2⟩⟩⟩)⟩
    have n2_ : Aside0 (Kd.R (Kd.int .i64) 3 ((w36.setCell ⟨gb326,0,none⟩ (.slice Ao37 t320.length co37)).setCell ⟨gb327,0,none⟩ (.slice Ao39 t323.length co39)) w.heap.size (fun _ => True) v317 t316):=⟨by (with_reducible repeat (first|apply Kd.R_alloc|apply Kd.R_drewN|apply Kd.R_drew));exact Kd.R_mono (Kd.R_far (p:=⟨gb327,0,none⟩) (Kd.R_far (p:=⟨gb326,0,none⟩) (Kd.R_types (Kd.R_types HO318.out BK326.out (by decide)) BK327.out (by decide)) (fun _ hk => hk.1.2) (.slice Ao37 t320.length co37)) (fun _ hk => hk.2) (.slice Ao39 t323.length co39)) (fun _ hk => trivial)⟩
    have n3_ : Aside0 (Kd.V (Kd.int .i64) 3 ((w36.setCell ⟨gb326,0,none⟩ (.slice Ao37 t320.length co37)).setCell ⟨gb327,0,none⟩ (.slice Ao39 t323.length co39)) w.heap.size (fun k_ => some k_ ≠ (.slice (some ad319) t313.length co29 : Value).ownBlock ∧ some k_ ≠ (v317 : Value).ownBlock ∧ k_ ≠ gb326 ∧ k_ ≠ gb327) (.slice Ao37 t320.length co37) t320):=⟨by (with_reducible repeat (first|apply Kd.V_alloc|apply Kd.V_drewN|apply Kd.V_drew));exact Kd.V_mono (Kd.V_far (p:=⟨gb327,0,none⟩) (Kd.V_far (p:=⟨gb326,0,none⟩) (Kd.V_mono (Kd.V_mono HO322.out (fun k_ hk => (⟨hk,hk.2.2.1⟩ : _ ∧ k_ ≠ gb326))) (fun k_ hk => (⟨hk,hk.1.2.2.2⟩ : _ ∧ k_ ≠ gb327))) (fun _ hk => hk.1.2) (.slice Ao37 t320.length co37)) (fun _ hk => hk.2) (.slice Ao39 t323.length co39)) (fun _ hk => ⟨hk.1.1.2.1,⟨hk.1.1.1,⟨hk.1.1.2.2.1,hk.1.1.2.2.2⟩⟩⟩)⟩
    have n4_ : Aside0 (Kd.V (Kd.int .i64) 3 ((w36.setCell ⟨gb326,0,none⟩ (.slice Ao37 t320.length co37)).setCell ⟨gb327,0,none⟩ (.slice Ao39 t323.length co39)) w.heap.size (fun k_ => some k_ ≠ (.slice (some ad319) t313.length co29 : Value).ownBlock ∧ some k_ ≠ (v317 : Value).ownBlock ∧ k_ ≠ gb326 ∧ k_ ≠ gb327) (.slice Ao39 t323.length co39) t323):=⟨by (with_reducible repeat (first|apply Kd.V_alloc|apply Kd.V_drewN|apply Kd.V_drew));exact Kd.V_mono (Kd.V_far (p:=⟨gb327,0,none⟩) (Kd.V_far (p:=⟨gb326,0,none⟩) (Kd.V_mono (Kd.V_mono HO325.out (fun k_ hk => (⟨hk,hk.2.2.1⟩ : _ ∧ k_ ≠ gb326))) (fun k_ hk => (⟨hk,hk.1.2.2.2⟩ : _ ∧ k_ ≠ gb327))) (fun _ hk => hk.1.2) (.slice Ao37 t320.length co37)) (fun _ hk => hk.2) (.slice Ao39 t323.length co39)) (fun _ hk => ⟨hk.1.1.2.1,⟨hk.1.1.1,⟨hk.1.1.2.2.1,hk.1.1.2.2.2⟩⟩⟩)⟩
    have n5_ : Aside0 (((w36.setCell ⟨gb326,0,none⟩ (.slice Ao37 t320.length co37)).setCell ⟨gb327,0,none⟩ (.slice Ao39 t323.length co39)).heap[gb326]? = some (.cells #[.slice Ao37 t320.length co37] 85 (0,0))):=⟨by (with_reducible repeat (first|refine blk_drewN ?_ _|refine blk_drew ?_|refine blk_alloc ?_ _));refine blk_far ?_ NB326_327.out _;(with_reducible repeat (first|refine blk_drewN ?_ _|refine blk_drew ?_|refine blk_alloc ?_ _));refine blk_put (cs:=#[.slice none 0 0]) ?_ 0 _ rfl;(with_reducible repeat (first|refine blk_drewN ?_ _|refine blk_drew ?_|refine blk_alloc ?_ _));exact BK326.out⟩
    have n6_ : Aside0 (((w36.setCell ⟨gb326,0,none⟩ (.slice Ao37 t320.length co37)).setCell ⟨gb327,0,none⟩ (.slice Ao39 t323.length co39)).heap[gb327]? = some (.cells #[.slice Ao39 t323.length co39] 85 (0,0))):=⟨by (with_reducible repeat (first|refine blk_drewN ?_ _|refine blk_drew ?_|refine blk_alloc ?_ _));refine blk_put (cs:=#[.slice none 0 0]) ?_ 0 _ rfl;(with_reducible repeat (first|refine blk_drewN ?_ _|refine blk_drew ?_|refine blk_alloc ?_ _));refine blk_far ?_ NB327_326.out _;(with_reducible repeat (first|refine blk_drewN ?_ _|refine blk_drew ?_|refine blk_alloc ?_ _));exact BK327.out⟩
    have n7_ : Aside0 (Below w.heap.size w ((w36.setCell ⟨gb326,0,none⟩ (.slice Ao37 t320.length co37)).setCell ⟨gb327,0,none⟩ (.slice Ao39 t323.length co39))):=⟨by repeat (first|(with_reducible first|exact HB.out|apply below_alloc|apply pw_below_drewN|apply below_drew1|refine below_set ?_ GE326.out|refine below_set ?_ GE327.out)|exact HB.out)⟩
    (try clear HO_3);(try clear HL319_1);(try clear HO318);(try clear HO322);(try clear HO325);(try clear BK326);(try clear BK327);(try clear HB)
    generalize ((w36.setCell ⟨gb326,0,none⟩ (.slice Ao37 t320.length co37)).setCell ⟨gb327,0,none⟩ (.slice Ao39 t323.length co39)) = w43 at n0_ n1_ n2_ n3_ n4_ n5_ n6_ n7_ ⊢
    have HO_3:=n0_;have HL319_1:=n1_;have HO318:=n2_;have HO322:=n3_;have HO325:=n4_;have BK326:=n5_;have BK327:=n6_;have HB:=n7_;clear n0_ n1_ n2_ n3_ n4_ n5_ n6_ n7_
    have n0_:=Aside0.mk (Kd.N_drew HO_3.out)
    have n1_:=Aside0.mk (Kd.V_drew HL319_1.out)
    have n2_:=Aside0.mk (Kd.R_drew HO318.out)
    have n3_:=Aside0.mk (Kd.V_drew HO322.out)
    have n4_:=Aside0.mk (Kd.V_drew HO325.out)
    have n5_:=Aside0.mk (blk_drew BK326.out)
    have n6_:=Aside0.mk (blk_drew BK327.out)
    have n7_:=Aside0.mk (below_drew1 HB.out)
    clear HO_3;clear HL319_1;clear HO318;clear HO322;clear HO325;clear BK326;clear BK327;clear HB;have HO_3:=n0_;have HL319_1:=n1_;have HO318:=n2_;have HO322:=n3_;have HO325:=n4_;have BK326:=n5_;have BK327:=n6_;have HB:=n7_;clear n0_ n1_ n2_ n3_ n4_ n5_ n6_ n7_
    have p329 : 0 ≤ (x6_1 : Int):=of_decide_eq_true (by first|(with_reducible assumption)|assumption)
    have q329 : x6_1 < (t313.length : Int):=of_decide_eq_true (by first|(with_reducible assumption)|assumption)
    obtain ⟨ad329,A329_1,c329_1,e329,hx329_0,hx329_1,hl329_1,hi329_1⟩:=at_T87 (Kd.N_reads' HO_3.out).2.2 x6_1 p329 q329
    obtain rfl : ad319 = ad329:=(by injection e329)
    obtain ⟨ce329,hce329,hMe329,hcc329⟩:=Kd.N_get HO_3.out z87 x6_1 p329 (by first|exact q329|exact of_decide_eq_true (by first|(with_reducible assumption)|assumption)|(have e_:=(Kd.N_reads' HO_3.out).1;omega))
    obtain ⟨ua329_1,uc329_1,rfl,ul329_1,ge329_1⟩:=k87_openF hMe329
    have hv329_1:=hcc329 1 _ rfl
    rw [add_field _ _ 1 (by omega)] at hv329_1
    replace hv329_1:=Option.some.inj (hv329_1.symm.trans hx329_1)
    injection hv329_1 with hva_ hvn_ hvc_
    rw [hva_] at ge329_1
    rw [hvc_] at ul329_1
    have HL329_1:=Aside0.mk (show Kd.V (Kd.int .i64) 3 _ w.heap.size _ _ ((rd_T87 t313 x6_1).f1.f0) from Kd.V_mk ul329_1 ge329_1)
    clear hva_ hvn_ hvc_ ge329_1 ul329_1;clear hcc329 hce329
    have HR329_1:=Aside0.mk hi329_1
    have HC329_1:=Aside0.mk hl329_1
    clear hi329_1 hl329_1
    replace p329:=eq_true p329
    replace q329:=eq_true q329
    refine start_ (n:=9) (S:=fun w' => w'.cell? ⟨gb326,0,none⟩ = some (.slice Ao37 t320.length co37) ∧ w'.cell? (ad319.add ((x6_1).toNat * 2)) = some (.string ((rd_T87 t313 x6_1).f0)) ∧ w'.cell? ⟨(ad319.add ((x6_1).toNat * 2)).block,(ad319.add ((x6_1).toNat * 2)).off + 1,none⟩ = some (.slice A329_1 ((rd_T87 t313 x6_1).f1.f0).length c329_1)) (ds:=[]) #[false,false,false,false,false,false,false,false,false] (by kernel_rfl) rfl rfl ⟨(blk_cell BK326.out 0).trans rfl,hx329_0,hx329_1⟩ (fun hHeld => ?_);refine with_tabW bursarref03_Print.tab15 bursarref03_Print.bits15 (fun HT_ HW_ => ?_)
    generalize w43.drew = w44 at HO_3 HL319_1 HO318 HO322 HO325 BK326 BK327 HB HL329_1 HR329_1 hx329_0 hx329_1 hHeld ⊢
    refine pure_ (i:=2) (N:=some 46) (v:=?_) (a':=?_) #[false,false,true,false,false,false,false,false,false] rfl rfl (any_of HT_.out (by kernel_rfl)) (fun _ _ _ h => h) (Or.inl ⟨by rfl,?_⟩) ?_ ?_
    rotate_left;·intro w';go_simp;with_reducible rfl
    rotate_left;·simp only [Act.put,List.setIfInBounds_toArray,List.set_cons_zero,List.set_cons_succ,i64_w,i32_w];rfl
    refine pure_ (i:=3) (N:=some 47) (v:=?_) (a':=?_) #[false,false,true,true,false,false,false,false,false] rfl rfl (any_of HT_.out (by kernel_rfl)) (fun _ _ _ h => h) (Or.inl ⟨by rfl,?_⟩) ?_ ?_
    rotate_left;·intro w';go_simp;with_reducible rfl
    rotate_left;·simp only [Act.put,List.setIfInBounds_toArray,List.set_cons_zero,List.set_cons_succ,i64_w,i32_w];rfl
    refine pure_ (i:=4) (N:=some 48) (v:=?_) (a':=?_) #[false,false,true,true,true,false,false,false,false] rfl rfl (any_of HT_.out (by kernel_rfl)) (fun _ _ _ h => h) (Or.inl ⟨by rfl,?_⟩) ?_ ?_
    rotate_left;·intro w';go_simp;with_reducible rfl
    rotate_left;·simp only [Act.put,List.setIfInBounds_toArray,List.set_cons_zero,List.set_cons_succ,i64_w,i32_w];rfl
    refine pure_ (i:=5) (N:=some 49) (v:=?_) (a':=?_) #[false,false,true,true,true,true,false,false,false] rfl rfl (any_of HT_.out (by kernel_rfl)) (fun _ _ _ h => h) (Or.inl ⟨by rfl,?_⟩) ?_ ?_
    rotate_left;·intro w';go_simp;with_reducible rfl
    rotate_left;·simp only [Act.put,List.setIfInBounds_toArray,List.set_cons_zero,List.set_cons_succ,i64_w,i32_w];rfl
    refine take_ (i:=0) (N:=some 44) (v:=?_) (a':=?_) #[true,false,true,true,true,true,false,false,false] rfl rfl (take_ofW HT_.out HW_.out (by kernel_rfl)) (fun _ _ _ h => h) (Or.inl ⟨by rfl,?_⟩) hHeld ?_ ?_
    rotate_left
    ·rintro w' ⟨s0,s1,s2⟩
     go_simp
     with_reducible rfl
    rotate_left
    ·simp only [Act.put,List.setIfInBounds_toArray,List.set_cons_zero,List.set_cons_succ,i64_w,i32_w]
     rfl
    refine take_ (i:=6) (N:=some 50) (v:=?_) (a':=?_) #[true,false,true,true,true,true,true,false,false] rfl rfl (take_ofW HT_.out HW_.out (by kernel_rfl)) (fun _ _ _ h => h) (Or.inl ⟨by rfl,?_⟩) hHeld ?_ ?_
    rotate_left
    ·rintro w' ⟨s0,s1,s2⟩
     go_simp
     with_reducible rfl
    rotate_left
    ·simp only [Act.put,List.setIfInBounds_toArray,List.set_cons_zero,List.set_cons_succ,i64_w,i32_w]
     rfl
    refine one_ (i:=1) (N:=some 45) #[true,true,true,true,true,true,true,false,false] rfl rfl (one_of HT_.out (by kernel_rfl)) (by decide) (fun K hK => ?_)
    refine goes_ Tryz.func63 (by kernel_rfl) rfl #[.agg #[.slice Ao37 t320.length co37]] (by rfl) rfl rfl (by (try simp only [List.map_toArray,List.map_cons,List.map_nil]);first|done|rfl|(simp only [List.length_drop,List.length_take];rfl)) ?_
    with_reducible refine (bursarref03_Long_text.calls k1 _ _ t320 t328 _ ?side1 ?side2 A27.out).mono ?_
    (case side1 => repeat (first|exact (Kd.V_reads' HO322.out).2.2|(with_reducible refine Kd.C_alloc ?_ _)|(with_reducible refine Kd.C_drewN ?_ _)|(with_reducible refine Kd.C_drew ?_)))
    (case side2 => exact (Kd.V_reads' HO322.out).2.1)
    rintro e w45 ⟨rfl,hb⟩
    have HS1_:=(hb.cell (World.block_lt_of_cell? _ _ (hHeld.2.1))).trans (hHeld.2.1)
    have HS2_:=(hb.cell (World.block_lt_of_cell? _ _ (hHeld.2.2))).trans (hHeld.2.2)
    refine ⟨_,rfl,?_⟩
    have n0_:=Aside0.mk (Kd.N_below (by (with_reducible repeat (first|apply Kd.N_alloc|apply Kd.N_drewN|apply Kd.N_drew));exact HO_3.out) hb)
    have n1_:=Aside0.mk (Kd.V_below (by (with_reducible repeat (first|apply Kd.V_alloc|apply Kd.V_drewN|apply Kd.V_drew));exact HL319_1.out) hb)
    have n2_:=Aside0.mk (Kd.R_below (by (with_reducible repeat (first|apply Kd.R_alloc|apply Kd.R_drewN|apply Kd.R_drew));exact HO318.out) hb)
    have n3_:=Aside0.mk (Kd.V_below (by (with_reducible repeat (first|apply Kd.V_alloc|apply Kd.V_drewN|apply Kd.V_drew));exact HO322.out) hb)
    have n4_:=Aside0.mk (Kd.V_below (by (with_reducible repeat (first|apply Kd.V_alloc|apply Kd.V_drewN|apply Kd.V_drew));exact HO325.out) hb)
    have n5_:=Aside0.mk (Kd.V_below (by (with_reducible repeat (first|apply Kd.V_alloc|apply Kd.V_drewN|apply Kd.V_drew));exact HL329_1.out) hb)
    have n6_:=Aside0.mk (blk_below (g:=gb326) (o:=.cells #[.slice Ao37 t320.length co37] 85 (0,0)) (by (with_reducible repeat (first|refine blk_drewN ?_ _|refine blk_drew ?_|refine blk_alloc ?_ _));exact BK326.out) hb)
    have n7_:=Aside0.mk (blk_below (g:=gb327) (o:=.cells #[.slice Ao39 t323.length co39] 85 (0,0)) (by (with_reducible repeat (first|refine blk_drewN ?_ _|refine blk_drew ?_|refine blk_alloc ?_ _));exact BK327.out) hb)
    have n8_:=Aside0.mk (Kd.C_below (by repeat (first|(with_reducible exact HR329_1.out)|(with_reducible refine Kd.C_alloc ?_ _)|(with_reducible refine Kd.C_drewN ?_ _)|(with_reducible refine Kd.C_drew ?_)|exact HR329_1.out)) hb)
    have n9_:=Aside0.mk (below_step (by repeat (first|(with_reducible first|exact HB.out|apply below_alloc|apply pw_below_drewN|apply below_drew1|refine below_set ?_ GE326.out|refine below_set ?_ GE327.out)|exact HB.out)) hb)
    clear HO_3;clear HL319_1;clear HO318;clear HO322;clear HO325;clear HL329_1;clear BK326;clear BK327;clear HR329_1;clear HB;have HO_3:=n0_;have HL319_1:=n1_;have HO318:=n2_;have HO322:=n3_;have HO325:=n4_;have HL329_1:=n5_;have BK326:=n6_;have BK327:=n7_;have HR329_1:=n8_;have HB:=n9_;clear n0_ n1_ n2_ n3_ n4_ n5_ n6_ n7_ n8_ n9_;(try clear hb);(try clear hb2);(try clear hk);(try clear hi)
    refine hK.out _ _ ⟨(blk_cell BK326.out 0).trans rfl,HS1_,HS2_⟩ (fun hHeld => ?_)
    clear hK K
    refine norm_ (a':=?_) ?_ ?_
    rotate_left
    ·show Act.put _ (some 45) _ = _
     simp only [Act.put,List.setIfInBounds_toArray,List.set_cons_zero,List.set_cons_succ,i64_w,i32_w]
     rfl
    refine pure_ (i:=7) (N:=some 51) (v:=?_) (a':=?_) #[true,true,true,true,true,true,true,true,false] rfl rfl (any_of HT_.out (by kernel_rfl)) (fun _ _ _ h => h) (Or.inl ⟨by rfl,?_⟩) ?_ ?_
    rotate_left;·intro w';go_simp;with_reducible rfl
    rotate_left;·simp only [Act.put,List.setIfInBounds_toArray,List.set_cons_zero,List.set_cons_succ,i64_w,i32_w];rfl
    refine pure_ (i:=8) (N:=some 4) (v:=?_) (a':=?_) #[true,true,true,true,true,true,true,true,true] rfl rfl (any_of HT_.out (by kernel_rfl)) (fun _ _ _ h => h) (Or.inl ⟨by rfl,?_⟩) ?_ ?_
    rotate_left;·intro w';go_simp;with_reducible rfl
    rotate_left;·simp only [Act.put,List.setIfInBounds_toArray,List.set_cons_zero,List.set_cons_succ,i64_w,i32_w];rfl
    refine done_ (done_of HT_.out (by kernel_rfl)) ?_
    try go_wp2
    go_roundg k1
    case measure => have:=HK1.out;omega
    case rel => exact ⟨(t328 ++ ((rd_T87 t313 x6_1).f0)),(x5_1),(wrap64 (x6_1 + 1)),(by first|rfl|(simp;done)|(simp [*];done)|(simp;rw [Bool.eq_iff_iff];simp;done)|(rw [Bool.eq_iff_iff];simp;done)),(by first|rfl|(simp;done)|(simp [*];done)|(simp;rw [Bool.eq_iff_iff];simp;done)|(rw [Bool.eq_iff_iff];simp;done)),(by first|rfl|(simp;done)|(simp [*];done)|(simp;rw [Bool.eq_iff_iff];simp;done)|(rw [Bool.eq_iff_iff];simp;done)),H',⟨by have:=HK1.out;omega⟩,⟨by (with_reducible repeat (first|apply Kd.N_alloc|apply Kd.N_drewN|apply Kd.N_drew));exact Kd.N_mono HO_3.out (fun _ hk => trivial)⟩,⟨by repeat (first|(with_reducible first|exact HB.out|apply below_alloc|apply pw_below_drewN|apply below_drew1|refine below_set ?_ GE326.out|refine below_set ?_ GE327.out)|exact HB.out)⟩⟩
   rw [if_neg c26] at H
   have c26b0 : decide (x6_1 < 7) = false:=decide_eq_false c26
   clear c26
   replace H:=Option.bind_eq_some_iff.mp H
   obtain ⟨t330,A460,H⟩:=H
   replace H : (if t330.size + ((rd_T87 t313 x6_1).f0).size ≤ 9223372036854775807 then (bursarref03_Print.l0 k1 a0 t313 x4_1 (t330 ++ ((rd_T87 t313 x6_1).f0)) (wrap64 (x6_1 + 1))) else (none)) = some r:=H
   have A46:=Aside0.mk A460
   clear A460
   by_cases c47 : t330.size + ((rd_T87 t313 x6_1).f0).size ≤ 9223372036854775807
   rotate_left
   ·rw [if_neg c47] at H
    exact absurd H (by simp)
   rw [if_pos c47] at H
   have c47b0:=eq_true c47
   have c47b1 : decide (t330.size + ((rd_T87 t313 x6_1).f0).size ≤ 9223372036854775807) = true:=decide_eq_true c47
   try have c47b2 : (9223372036854775807 < t330.size + ((rd_T87 t313 x6_1).f0).size) = False:=eq_false (Nat.not_lt.2 c47)
   have H':=Aside0.mk H
   clear H
   try go_wp2
   have n0_ : Aside0 (Kd.N k87 87 ((w36.setCell ⟨gb326,0,none⟩ (.slice Ao37 t320.length co37)).setCell ⟨gb327,0,none⟩ (.slice Ao39 t323.length co39)) w.heap.size (fun k_ => some k_ ≠ (v317 : Value).ownBlock ∧ k_ ≠ gb326 ∧ k_ ≠ gb327) (.slice (some ad319) t313.length co29) t313):=⟨by (with_reducible repeat (first|apply Kd.N_alloc|apply Kd.N_drewN|apply Kd.N_drew));exact Kd.N_mono (Kd.N_far (p:=⟨gb327,0,none⟩) (Kd.N_far (p:=⟨gb326,0,none⟩) (Kd.N_mono (Kd.N_mono HO_3.out (fun k_ hk => (⟨hk,hk.2.1⟩ : _ ∧ k_ ≠ gb326))) (fun k_ hk => (⟨hk,hk.1.2.2⟩ : _ ∧ k_ ≠ gb327))) (fun _ hk => hk.1.2) (.slice Ao37 t320.length co37)) (fun _ hk => hk.2) (.slice Ao39 t323.length co39)) (fun _ hk => ⟨hk.1.1.1,⟨hk.1.1.2.1,hk.1.1.2.2⟩⟩)⟩
   have n1_ : Aside0 (Kd.V (Kd.int .i64) 3 ((w36.setCell ⟨gb326,0,none⟩ (.slice Ao37 t320.length co37)).setCell ⟨gb327,0,none⟩ (.slice Ao39 t323.length co39)) w.heap.size (fun k_ => some k_ ≠ (.slice (some ad319) t313.length co29 : Value).ownBlock ∧ some k_ ≠ (v317 : Value).ownBlock ∧ k_ ≠ gb326 ∧ k_ ≠ gb327) (.slice A319_1 ((rd_T87 t313 x6_1).f1.f0).length c319_1) ((rd_T87 t313 x6_1).f1.f0)):=⟨by (with_reducible repeat (first|apply Kd.V_alloc|apply Kd.V_drewN|apply Kd.V_drew));exact Kd.V_mono (Kd.V_far (p:=⟨gb327,0,none⟩) (Kd.V_far (p:=⟨gb326,0,none⟩) (Kd.V_mono (Kd.V_mono HL319_1.out (fun k_ hk => (⟨hk,hk.2.2.1⟩ : _ ∧ k_ ≠ gb326))) (fun k_ hk => (⟨hk,hk.1.2.2.2⟩ : _ ∧ k_ ≠ gb327))) (fun _ hk => hk.1.2) (.slice Ao37 t320.length co37)) (fun _ hk => hk.2) (.slice Ao39 t323.length co39)) (fun _ hk => ⟨hk.1.1.2.1,⟨hk.1.1.1,⟨hk.1.1.2.2.1,hk.1.1.2.2.2⟩⟩⟩)⟩
   have n2_ : Aside0 (Kd.R (Kd.int .i64) 3 ((w36.setCell ⟨gb326,0,none⟩ (.slice Ao37 t320.length co37)).setCell ⟨gb327,0,none⟩ (.slice Ao39 t323.length co39)) w.heap.size (fun _ => True) v317 t316):=⟨by (with_reducible repeat (first|apply Kd.R_alloc|apply Kd.R_drewN|apply Kd.R_drew));exact Kd.R_mono (Kd.R_far (p:=⟨gb327,0,none⟩) (Kd.R_far (p:=⟨gb326,0,none⟩) (Kd.R_types (Kd.R_types HO318.out BK326.out (by decide)) BK327.out (by decide)) (fun _ hk => hk.1.2) (.slice Ao37 t320.length co37)) (fun _ hk => hk.2) (.slice Ao39 t323.length co39)) (fun _ hk => trivial)⟩
   have n3_ : Aside0 (Kd.V (Kd.int .i64) 3 ((w36.setCell ⟨gb326,0,none⟩ (.slice Ao37 t320.length co37)).setCell ⟨gb327,0,none⟩ (.slice Ao39 t323.length co39)) w.heap.size (fun k_ => some k_ ≠ (.slice (some ad319) t313.length co29 : Value).ownBlock ∧ some k_ ≠ (v317 : Value).ownBlock ∧ k_ ≠ gb326 ∧ k_ ≠ gb327) (.slice Ao37 t320.length co37) t320):=⟨by (with_reducible repeat (first|apply Kd.V_alloc|apply Kd.V_drewN|apply Kd.V_drew));exact Kd.V_mono (Kd.V_far (p:=⟨gb327,0,none⟩) (Kd.V_far (p:=⟨gb326,0,none⟩) (Kd.V_mono (Kd.V_mono HO322.out (fun k_ hk => (⟨hk,hk.2.2.1⟩ : _ ∧ k_ ≠ gb326))) (fun k_ hk => (⟨hk,hk.1.2.2.2⟩ : _ ∧ k_ ≠ gb327))) (fun _ hk => hk.1.2) (.slice Ao37 t320.length co37)) (fun _ hk => hk.2) (.slice Ao39 t323.length co39)) (fun _ hk => ⟨hk.1.1.2.1,⟨hk.1.1.1,⟨hk.1.1.2.2.1,hk.1.1.2.2.2⟩⟩⟩)⟩
   have n4_ : Aside0 (Kd.V (Kd.int .i64) 3 ((w36.setCell ⟨gb326,0,none⟩ (.slice Ao37 t320.length co37)).setCell ⟨gb327,0,none⟩ (.slice Ao39 t323.length co39)) w.heap.size (fun k_ => some k_ ≠ (.slice (some ad319) t313.length co29 : Value).ownBlock ∧ some k_ ≠ (v317 : Value).ownBlock ∧ k_ ≠ gb326 ∧ k_ ≠ gb327) (.slice Ao39 t323.length co39) t323):=⟨by (with_reducible repeat (first|apply Kd.V_alloc|apply Kd.V_drewN|apply Kd.V_drew));exact Kd.V_mono (Kd.V_far (p:=⟨gb327,0,none⟩) (Kd.V_far (p:=⟨gb326,0,none⟩) (Kd.V_mono (Kd.V_mono HO325.out (fun k_ hk => (⟨hk,hk.2.2.1⟩ : _ ∧ k_ ≠ gb326))) (fun k_ hk => (⟨hk,hk.1.2.2.2⟩ : _ ∧ k_ ≠ gb327))) (fun _ hk => hk.1.2) (.slice Ao37 t320.length co37)) (fun _ hk => hk.2) (.slice Ao39 t323.length co39)) (fun _ hk => ⟨hk.1.1.2.1,⟨hk.1.1.1,⟨hk.1.1.2.2.1,hk.1.1.2.2.2⟩⟩⟩)⟩
   have n5_ : Aside0 (((w36.setCell ⟨gb326,0,none⟩ (.slice Ao37 t320.length co37)).setCell ⟨gb327,0,none⟩ (.slice Ao39 t323.length co39)).heap[gb326]? = some (.cells #[.slice Ao37 t320.length co37] 85 (0,0))):=⟨by (with_reducible repeat (first|refine blk_drewN ?_ _|refine blk_drew ?_|refine blk_alloc ?_ _));refine blk_far ?_ NB326_327.out _;(with_reducible repeat (first|refine blk_drewN ?_ _|refine blk_drew ?_|refine blk_alloc ?_ _));refine blk_put (cs:=#[.slice none 0 0]) ?_ 0 _ rfl;(with_reducible repeat (first|refine blk_drewN ?_ _|refine blk_drew ?_|refine blk_alloc ?_ _));exact BK326.out⟩
   have n6_ : Aside0 (((w36.setCell ⟨gb326,0,none⟩ (.slice Ao37 t320.length co37)).setCell ⟨gb327,0,none⟩ (.slice Ao39 t323.length co39)).heap[gb327]? = some (.cells #[.slice Ao39 t323.length co39] 85 (0,0))):=⟨by (with_reducible repeat (first|refine blk_drewN ?_ _|refine blk_drew ?_|refine blk_alloc ?_ _));refine blk_put (cs:=#[.slice none 0 0]) ?_ 0 _ rfl;(with_reducible repeat (first|refine blk_drewN ?_ _|refine blk_drew ?_|refine blk_alloc ?_ _));refine blk_far ?_ NB327_326.out _;(with_reducible repeat (first|refine blk_drewN ?_ _|refine blk_drew ?_|refine blk_alloc ?_ _));exact BK327.out⟩
   have n7_ : Aside0 (Below w.heap.size w ((w36.setCell ⟨gb326,0,none⟩ (.slice Ao37 t320.length co37)).setCell ⟨gb327,0,none⟩ (.slice Ao39 t323.length co39))):=⟨by repeat (first|(with_reducible first|exact HB.out|apply below_alloc|apply pw_below_drewN|apply below_drew1|refine below_set ?_ GE326.out|refine below_set ?_ GE327.out)|exact HB.out)⟩
   (try clear HO_3);(try clear HL319_1);(try clear HO318);(try clear HO322);(try clear HO325);(try clear BK326);(try clear BK327);(try clear HB)
   generalize ((w36.setCell ⟨gb326,0,none⟩ (.slice Ao37 t320.length co37)).setCell ⟨gb327,0,none⟩ (.slice Ao39 t323.length co39)) = w62 at n0_ n1_ n2_ n3_ n4_ n5_ n6_ n7_ ⊢
   have HO_3:=n0_;have HL319_1:=n1_;have HO318:=n2_;have HO322:=n3_;have HO325:=n4_;have BK326:=n5_;have BK327:=n6_;have HB:=n7_;clear n0_ n1_ n2_ n3_ n4_ n5_ n6_ n7_
   have n0_:=Aside0.mk (Kd.N_drew HO_3.out)
   have n1_:=Aside0.mk (Kd.V_drew HL319_1.out)
   have n2_:=Aside0.mk (Kd.R_drew HO318.out)
   have n3_:=Aside0.mk (Kd.V_drew HO322.out)
   have n4_:=Aside0.mk (Kd.V_drew HO325.out)
   have n5_:=Aside0.mk (blk_drew BK326.out)
   have n6_:=Aside0.mk (blk_drew BK327.out)
   have n7_:=Aside0.mk (below_drew1 HB.out)
   clear HO_3;clear HL319_1;clear HO318;clear HO322;clear HO325;clear BK326;clear BK327;clear HB;have HO_3:=n0_;have HL319_1:=n1_;have HO318:=n2_;have HO322:=n3_;have HO325:=n4_;have BK326:=n5_;have BK327:=n6_;have HB:=n7_;clear n0_ n1_ n2_ n3_ n4_ n5_ n6_ n7_
   have p331 : 0 ≤ (x6_1 : Int):=of_decide_eq_true (by first|(with_reducible assumption)|assumption)
   have q331 : x6_1 < (t313.length : Int):=of_decide_eq_true (by first|(with_reducible assumption)|assumption)
   obtain ⟨ad331,A331_1,c331_1,e331,hx331_0,hx331_1,hl331_1,hi331_1⟩:=at_T87 (Kd.N_reads' HO_3.out).2.2 x6_1 p331 q331
   obtain rfl : ad319 = ad331:=(by injection e331)
   obtain ⟨ce331,hce331,hMe331,hcc331⟩:=Kd.N_get HO_3.out z87 x6_1 p331 (by first|exact q331|exact of_decide_eq_true (by first|(with_reducible assumption)|assumption)|(have e_:=(Kd.N_reads' HO_3.out).1;omega))
   obtain ⟨ua331_1,uc331_1,rfl,ul331_1,ge331_1⟩:=k87_openF hMe331
   have hv331_1:=hcc331 1 _ rfl
   rw [add_field _ _ 1 (by omega)] at hv331_1
   replace hv331_1:=Option.some.inj (hv331_1.symm.trans hx331_1)
   injection hv331_1 with hva_ hvn_ hvc_
   rw [hva_] at ge331_1
   rw [hvc_] at ul331_1
   have HL331_1:=Aside0.mk (show Kd.V (Kd.int .i64) 3 _ w.heap.size _ _ ((rd_T87 t313 x6_1).f1.f0) from Kd.V_mk ul331_1 ge331_1)
   clear hva_ hvn_ hvc_ ge331_1 ul331_1;clear hcc331 hce331
   have HR331_1:=Aside0.mk hi331_1
   have HC331_1:=Aside0.mk hl331_1
   clear hi331_1 hl331_1
   replace p331:=eq_true p331
   replace q331:=eq_true q331
   refine start_ (n:=9) (S:=fun w' => w'.cell? ⟨gb326,0,none⟩ = some (.slice Ao37 t320.length co37) ∧ w'.cell? (ad319.add ((x6_1).toNat * 2)) = some (.string ((rd_T87 t313 x6_1).f0)) ∧ w'.cell? ⟨(ad319.add ((x6_1).toNat * 2)).block,(ad319.add ((x6_1).toNat * 2)).off + 1,none⟩ = some (.slice A331_1 ((rd_T87 t313 x6_1).f1.f0).length c331_1)) (ds:=[]) #[false,false,false,false,false,false,false,false,false] (by kernel_rfl) rfl rfl ⟨(blk_cell BK326.out 0).trans rfl,hx331_0,hx331_1⟩ (fun hHeld => ?_);refine with_tabW bursarref03_Print.tab16 bursarref03_Print.bits16 (fun HT_ HW_ => ?_)
   generalize w62.drew = w63 at HO_3 HL319_1 HO318 HO322 HO325 BK326 BK327 HB HL331_1 HR331_1 hx331_0 hx331_1 hHeld ⊢
   refine pure_ (i:=2) (N:=some 54) (v:=?_) (a':=?_) #[false,false,true,false,false,false,false,false,false] rfl rfl (any_of HT_.out (by kernel_rfl)) (fun _ _ _ h => h) (Or.inl ⟨by rfl,?_⟩) ?_ ?_
   rotate_left;·intro w';go_simp;with_reducible rfl
   rotate_left;·simp only [Act.put,List.setIfInBounds_toArray,List.set_cons_zero,List.set_cons_succ,i64_w,i32_w];rfl
   refine pure_ (i:=3) (N:=some 55) (v:=?_) (a':=?_) #[false,false,true,true,false,false,false,false,false] rfl rfl (any_of HT_.out (by kernel_rfl)) (fun _ _ _ h => h) (Or.inl ⟨by rfl,?_⟩) ?_ ?_
   rotate_left;·intro w';go_simp;with_reducible rfl
   rotate_left;·simp only [Act.put,List.setIfInBounds_toArray,List.set_cons_zero,List.set_cons_succ,i64_w,i32_w];rfl
   refine pure_ (i:=4) (N:=some 56) (v:=?_) (a':=?_) #[false,false,true,true,true,false,false,false,false] rfl rfl (any_of HT_.out (by kernel_rfl)) (fun _ _ _ h => h) (Or.inl ⟨by rfl,?_⟩) ?_ ?_
   rotate_left;·intro w';go_simp;with_reducible rfl
   rotate_left;·simp only [Act.put,List.setIfInBounds_toArray,List.set_cons_zero,List.set_cons_succ,i64_w,i32_w];rfl
   refine pure_ (i:=5) (N:=some 57) (v:=?_) (a':=?_) #[false,false,true,true,true,true,false,false,false] rfl rfl (any_of HT_.out (by kernel_rfl)) (fun _ _ _ h => h) (Or.inl ⟨by rfl,?_⟩) ?_ ?_
   rotate_left;·intro w';go_simp;with_reducible rfl
   rotate_left;·simp only [Act.put,List.setIfInBounds_toArray,List.set_cons_zero,List.set_cons_succ,i64_w,i32_w];rfl
   refine take_ (i:=0) (N:=some 52) (v:=?_) (a':=?_) #[true,false,true,true,true,true,false,false,false] rfl rfl (take_ofW HT_.out HW_.out (by kernel_rfl)) (fun _ _ _ h => h) (Or.inl ⟨by rfl,?_⟩) hHeld ?_ ?_
   rotate_left
   ·rintro w' ⟨s0,s1,s2⟩
    go_simp
    with_reducible rfl
   rotate_left
   ·simp only [Act.put,List.setIfInBounds_toArray,List.set_cons_zero,List.set_cons_succ,i64_w,i32_w]
    rfl
   refine take_ (i:=6) (N:=some 58) (v:=?_) (a':=?_) #[true,false,true,true,true,true,true,false,false] rfl rfl (take_ofW HT_.out HW_.out (by kernel_rfl)) (fun _ _ _ h => h) (Or.inl ⟨by rfl,?_⟩) hHeld ?_ ?_
   rotate_left
   ·rintro w' ⟨s0,s1,s2⟩
    go_simp
    with_reducible rfl
   rotate_left
   ·simp only [Act.put,List.setIfInBounds_toArray,List.set_cons_zero,List.set_cons_succ,i64_w,i32_w]
    rfl
   refine one_ (i:=1) (N:=some 53) #[true,true,true,true,true,true,true,false,false] rfl rfl (one_of HT_.out (by kernel_rfl)) (by decide) (fun K hK => ?_)
   refine goes_ Tryz.func63 (by kernel_rfl) rfl #[.agg #[.slice Ao37 t320.length co37]] (by rfl) rfl rfl (by (try simp only [List.map_toArray,List.map_cons,List.map_nil]);first|done|rfl|(simp only [List.length_drop,List.length_take];rfl)) ?_
   with_reducible refine (bursarref03_Long_text.calls k1 _ _ t320 t330 _ ?side1 ?side2 A46.out).mono ?_
   (case side1 => repeat (first|exact (Kd.V_reads' HO322.out).2.2|(with_reducible refine Kd.C_alloc ?_ _)|(with_reducible refine Kd.C_drewN ?_ _)|(with_reducible refine Kd.C_drew ?_)))
   (case side2 => exact (Kd.V_reads' HO322.out).2.1)
   rintro e w64 ⟨rfl,hb⟩
   have HS1_:=(hb.cell (World.block_lt_of_cell? _ _ (hHeld.2.1))).trans (hHeld.2.1)
   have HS2_:=(hb.cell (World.block_lt_of_cell? _ _ (hHeld.2.2))).trans (hHeld.2.2)
   refine ⟨_,rfl,?_⟩
   have n0_:=Aside0.mk (Kd.N_below (by (with_reducible repeat (first|apply Kd.N_alloc|apply Kd.N_drewN|apply Kd.N_drew));exact HO_3.out) hb)
   have n1_:=Aside0.mk (Kd.V_below (by (with_reducible repeat (first|apply Kd.V_alloc|apply Kd.V_drewN|apply Kd.V_drew));exact HL319_1.out) hb)
   have n2_:=Aside0.mk (Kd.R_below (by (with_reducible repeat (first|apply Kd.R_alloc|apply Kd.R_drewN|apply Kd.R_drew));exact HO318.out) hb)
   have n3_:=Aside0.mk (Kd.V_below (by (with_reducible repeat (first|apply Kd.V_alloc|apply Kd.V_drewN|apply Kd.V_drew));exact HO322.out) hb)
   have n4_:=Aside0.mk (Kd.V_below (by (with_reducible repeat (first|apply Kd.V_alloc|apply Kd.V_drewN|apply Kd.V_drew));exact HO325.out) hb)
   have n5_:=Aside0.mk (Kd.V_below (by (with_reducible repeat (first|apply Kd.V_alloc|apply Kd.V_drewN|apply Kd.V_drew));exact HL331_1.out) hb)
   have n6_:=Aside0.mk (blk_below (g:=gb326) (o:=.cells #[.slice Ao37 t320.length co37] 85 (0,0)) (by (with_reducible repeat (first|refine blk_drewN ?_ _|refine blk_drew ?_|refine blk_alloc ?_ _));exact BK326.out) hb)
   have n7_:=Aside0.mk (blk_below (g:=gb327) (o:=.cells #[.slice Ao39 t323.length co39] 85 (0,0)) (by (with_reducible repeat (first|refine blk_drewN ?_ _|refine blk_drew ?_|refine blk_alloc ?_ _));exact BK327.out) hb)
   have n8_:=Aside0.mk (Kd.C_below (by repeat (first|(with_reducible exact HR331_1.out)|(with_reducible refine Kd.C_alloc ?_ _)|(with_reducible refine Kd.C_drewN ?_ _)|(with_reducible refine Kd.C_drew ?_)|exact HR331_1.out)) hb)
   have n9_:=Aside0.mk (below_step (by repeat (first|(with_reducible first|exact HB.out|apply below_alloc|apply pw_below_drewN|apply below_drew1|refine below_set ?_ GE326.out|refine below_set ?_ GE327.out)|exact HB.out)) hb)
   clear HO_3;clear HL319_1;clear HO318;clear HO322;clear HO325;clear HL331_1;clear BK326;clear BK327;clear HR331_1;clear HB;have HO_3:=n0_;have HL319_1:=n1_;have HO318:=n2_;have HO322:=n3_;have HO325:=n4_;have HL331_1:=n5_;have BK326:=n6_;have BK327:=n7_;have HR331_1:=n8_;have HB:=n9_;clear n0_ n1_ n2_ n3_ n4_ n5_ n6_ n7_ n8_ n9_;(try clear hb);(try clear hb2);(try clear hk);(try clear hi)
   refine hK.out _ _ ⟨(blk_cell BK326.out 0).trans rfl,HS1_,HS2_⟩ (fun hHeld => ?_)
   clear hK K
   refine norm_ (a':=?_) ?_ ?_
   rotate_left
   ·show Act.put _ (some 53) _ = _
    simp only [Act.put,List.setIfInBounds_toArray,List.set_cons_zero,List.set_cons_succ,i64_w,i32_w]
    rfl
   refine pure_ (i:=7) (N:=some 59) (v:=?_) (a':=?_) #[true,true,true,true,true,true,true,true,false] rfl rfl (any_of HT_.out (by kernel_rfl)) (fun _ _ _ h => h) (Or.inl ⟨by rfl,?_⟩) ?_ ?_
   rotate_left;·intro w';go_simp;with_reducible rfl
   rotate_left;·simp only [Act.put,List.setIfInBounds_toArray,List.set_cons_zero,List.set_cons_succ,i64_w,i32_w];rfl
   refine pure_ (i:=8) (N:=some 5) (v:=?_) (a':=?_) #[true,true,true,true,true,true,true,true,true] rfl rfl (any_of HT_.out (by kernel_rfl)) (fun _ _ _ h => h) (Or.inl ⟨by rfl,?_⟩) ?_ ?_
   rotate_left;·intro w';go_simp;with_reducible rfl
   rotate_left;·simp only [Act.put,List.setIfInBounds_toArray,List.set_cons_zero,List.set_cons_succ,i64_w,i32_w];rfl
   refine done_ (done_of HT_.out (by kernel_rfl)) ?_
   try go_wp2
   go_roundg k1
   case measure => have:=HK1.out;omega
   case rel => exact ⟨(x4_1),(t330 ++ ((rd_T87 t313 x6_1).f0)),(wrap64 (x6_1 + 1)),(by first|rfl|(simp;done)|(simp [*];done)|(simp;rw [Bool.eq_iff_iff];simp;done)|(rw [Bool.eq_iff_iff];simp;done)),(by first|rfl|(simp;done)|(simp [*];done)|(simp;rw [Bool.eq_iff_iff];simp;done)|(rw [Bool.eq_iff_iff];simp;done)),(by first|rfl|(simp;done)|(simp [*];done)|(simp;rw [Bool.eq_iff_iff];simp;done)|(rw [Bool.eq_iff_iff];simp;done)),H',⟨by have:=HK1.out;omega⟩,⟨by (with_reducible repeat (first|apply Kd.N_alloc|apply Kd.N_drewN|apply Kd.N_drew));exact Kd.N_mono HO_3.out (fun _ hk => trivial)⟩,⟨by repeat (first|(with_reducible first|exact HB.out|apply below_alloc|apply pw_below_drewN|apply below_drew1|refine below_set ?_ GE326.out|refine below_set ?_ GE327.out)|exact HB.out)⟩⟩
end Go.Proofs.YtejgbdclhlolkaaGreatDoor.Q
namespace Go.Proofs.YtejgbdclhlolkaaGreatDoor.Q
open Go.RowKit Go.Proofs.YtejgbdclhlolkaaGreatDoorW.PrintWords Go.Proofs.YtejgbdclhlolkaaGreatDoorW.PrintLast Go.Proofs.YtejgbdclhlolkaaGreatDoorW.PrintMore
attribute [local go_sem] max2_int min2_int max_two min_two max_three min_three max_four min_four   -- for this text's walks alone
set_option linter.unusedVariables false
set_option linter.unusedSimpArgs false
def bursarlaw03_QuantPrints.f (k : Nat) (a0 : Int) : Option (Bool) := (bursarlaw03_known.f k).bind fun t332 => (if t332 = true then ((quant_Print.f k a0).bind fun t333 => ((bursarref03_Print.f k a0).bind fun t334 => (some (t333.toList == t334.toList)))) else (some false))
theorem bursarlaw03_QuantPrints.mono : ∀ a0 k, LeO (bursarlaw03_QuantPrints.f k a0) (bursarlaw03_QuantPrints.f (k + 1) a0) := by
 intro a0 k
 unfold bursarlaw03_QuantPrints.f
 repeat' first
  |(with_reducible exact bursarlaw03_known.mono _)
  |(with_reducible exact bursarref03_Print.mono _ _)
  |(with_reducible exact quant_Print.mono _ _)
  |(with_reducible exact LeO.refl _)
  |(with_reducible exact LeO.none _)
  |(with_reducible refine LeO.ite ?_ ?_)
  |(with_reducible refine LeO.bind ?_ (fun _ => ?_))
  |exact bursarlaw03_known.mono _
  |exact bursarref03_Print.mono _ _
  |exact quant_Print.mono _ _
  |exact LeO.none _
  |refine LeO.ite ?_ ?_
  |refine LeO.bind ?_ (fun _ => ?_)
set_option maxHeartbeats 8000000 in
set_option maxRecDepth 100000 in
theorem bursarlaw03_QuantPrints.calls (k : Nat) (a0 : Int) (r : Bool) (w : World) (h : bursarlaw03_QuantPrints.f k a0 = some r) (hG : Glob w) :
  Calls Tryz.prog 4 #[.int .i64 a0] w fun e w' => e = .returned (.bool r) ∧ Below w.heap.size w w':=by
 have HB:=Aside0.mk (Below.refl w.heap.size w)
 have H : ((bursarlaw03_known.f k).bind fun t332 => (if t332 = true then ((quant_Print.f k a0).bind fun t333 => ((bursarref03_Print.f k a0).bind fun t334 => (some (t333.toList == t334.toList)))) else (some false))) = some r:=h
 clear h
 replace H:=Option.bind_eq_some_iff.mp H
 obtain ⟨t332,A20,H⟩:=H
 replace H : (if t332 = true then ((quant_Print.f k a0).bind fun t333 => ((bursarref03_Print.f k a0).bind fun t334 => (some (t333.toList == t334.toList)))) else (some false)) = some r:=H
 have A2:=Aside0.mk A20
 clear A20
 by_cases c3 : t332 = true
 ·subst c3
  have H1 : ((quant_Print.f k a0).bind fun t333 => ((bursarref03_Print.f k a0).bind fun t334 => (some (t333.toList == t334.toList)))) = some r:=by rw [if_pos rfl] at H;exact H
  clear H;have H:=H1;clear H1
  replace H:=Option.bind_eq_some_iff.mp H
  obtain ⟨t333,A40,H⟩:=H
  replace H : ((bursarref03_Print.f k a0).bind fun t334 => (some (t333.toList == t334.toList))) = some r:=H
  have A4:=Aside0.mk A40
  clear A40
  replace H:=Option.bind_eq_some_iff.mp H
  obtain ⟨t334,A50,H⟩:=H
  replace H : (some (t333.toList == t334.toList)) = some r:=H
  have A5:=Aside0.mk A50
  clear A50
  obtain rfl:=Option.some.inj H
  go_enter Tryz.func4,Tryz.ntmps4
  go_wp2_with (first|((with_reducible refine gate_callee (f:=16) rfl ?_);refine goesL_ (some 4) rfl rfl Tryz.func16 (by kernel_rfl) rfl #[] rfl (by (try simp only [List.map_toArray,List.map_cons,List.map_nil]);first|done|rfl|(simp only [List.length_drop,List.length_take];rfl)) ?_;(with_reducible refine (bursarlaw03_known.calls k  true _ A2.out (Glob.below hG (by repeat (first|(with_reducible first|exact HB.out|apply below_alloc|apply pw_below_drewN|apply below_drew1)|exact HB.out)))).mono ?_);rintro e w6 ⟨rfl,hb⟩;refine ⟨_,rfl,?_⟩;have n0_:=Aside0.mk (below_step (by repeat (first|(with_reducible first|exact HB.out|apply below_alloc|apply pw_below_drewN|apply below_drew1)|exact HB.out)) hb);clear HB;have HB:=n0_;clear n0_;(try clear hb);(try clear hb2);(try clear hk);(try clear hi))|((with_reducible refine gate_callee (f:=19) rfl ?_);refine goesL_ (some 7) rfl rfl Tryz.func19 (by kernel_rfl) rfl #[.int .i64 a0] rfl (by (try simp only [List.map_toArray,List.map_cons,List.map_nil]);first|done|rfl|(simp only [List.length_drop,List.length_take];rfl)) ?_;(with_reducible refine (quant_Print.calls k a0 t333 _ A4.out (Glob.below hG (by repeat (first|(with_reducible first|exact HB.out|apply below_alloc|apply pw_below_drewN|apply below_drew1)|exact HB.out)))).mono ?_);rintro e w7 ⟨rfl,hb⟩;refine ⟨_,rfl,?_⟩;have n0_:=Aside0.mk (below_step (by repeat (first|(with_reducible first|exact HB.out|apply below_alloc|apply pw_below_drewN|apply below_drew1)|exact HB.out)) hb);clear HB;have HB:=n0_;clear n0_;(try clear hb);(try clear hb2);(try clear hk);(try clear hi))|((with_reducible refine gate_callee (f:=20) rfl ?_);refine goesL_ (some 10) rfl rfl Tryz.func20 (by kernel_rfl) rfl #[.int .i64 a0] rfl (by (try simp only [List.map_toArray,List.map_cons,List.map_nil]);first|done|rfl|(simp only [List.length_drop,List.length_take];rfl)) ?_;(with_reducible refine (bursarref03_Print.calls k a0 t334 _ A5.out).mono ?_);rintro e w8 ⟨rfl,hb⟩;refine ⟨_,rfl,?_⟩;have n0_:=Aside0.mk (below_step (by repeat (first|(with_reducible first|exact HB.out|apply below_alloc|apply pw_below_drewN|apply below_drew1)|exact HB.out)) hb);clear HB;have HB:=n0_;clear n0_;(try clear hb);(try clear hb2);(try clear hk);(try clear hi)))
  go_ret
  exact ⟨by first|rfl|(simp [errW_none,errW_some] <;> rfl)|(simp [*,errW_none,errW_some] <;> rfl),by repeat (first|(with_reducible first|exact HB.out|apply below_alloc|apply pw_below_drewN|apply below_drew1)|exact HB.out)⟩
 ·replace c3:=Bool.eq_false_iff.mpr c3
  subst c3
  have H1 : (some false) = some r:=by rw [if_neg (show ¬ (false = true) by decide)] at H;exact H
  clear H;have H:=H1;clear H1
  obtain rfl:=Option.some.inj H
  go_enter Tryz.func4,Tryz.ntmps4
  go_wp2_with (first|((with_reducible refine gate_callee (f:=16) rfl ?_);refine goesL_ (some 4) rfl rfl Tryz.func16 (by kernel_rfl) rfl #[] rfl (by (try simp only [List.map_toArray,List.map_cons,List.map_nil]);first|done|rfl|(simp only [List.length_drop,List.length_take];rfl)) ?_;(with_reducible refine (bursarlaw03_known.calls k  false _ A2.out (Glob.below hG (by repeat (first|(with_reducible first|exact HB.out|apply below_alloc|apply pw_below_drewN|apply below_drew1)|exact HB.out)))).mono ?_);rintro e w9 ⟨rfl,hb⟩;refine ⟨_,rfl,?_⟩;have n0_:=Aside0.mk (below_step (by repeat (first|(with_reducible first|exact HB.out|apply below_alloc|apply pw_below_drewN|apply below_drew1)|exact HB.out)) hb);clear HB;have HB:=n0_;clear n0_;(try clear hb);(try clear hb2);(try clear hk);(try clear hi)))
  go_ret
  exact ⟨by first|rfl|(simp [errW_none,errW_some] <;> rfl)|(simp [*,errW_none,errW_some] <;> rfl),by repeat (first|(with_reducible first|exact HB.out|apply below_alloc|apply pw_below_drewN|apply below_drew1)|exact HB.out)⟩
end Go.Proofs.YtejgbdclhlolkaaGreatDoor.Q
namespace Go.Proofs.YtejgbdclhlolkaaGreatDoor.Q
open Go.RowKit Go.Proofs.YtejgbdclhlolkaaGreatDoorW.PrintWords Go.Proofs.YtejgbdclhlolkaaGreatDoorW.PrintLast
set_option linter.unusedVariables false
set_option linter.unusedSimpArgs false
set_option maxRecDepth 100000 in
theorem known_at : bursarlaw03_known.f 60 = some true := by decide +kernel
theorem known_ev : Ev (fun k => bursarlaw03_known.f k) true := Ev.of bursarlaw03_known.mono known_at
end Go.Proofs.YtejgbdclhlolkaaGreatDoor.Q
namespace Go.Proofs.YtejgbdclhlolkaaGreatDoor.Q
open Go.RowKit Go.Proofs.YtejgbdclhlolkaaGreatDoorW.PrintWords Go.Proofs.YtejgbdclhlolkaaGreatDoorW.PrintLast Go.Proofs.YtejgbdclhlolkaaGreatDoorW.PrintMore
attribute [local go_sem] max2_int min2_int max_two min_two max_three min_three max_four min_four   -- for this text's walks alone
set_option linter.unusedVariables false
set_option linter.unusedSimpArgs false
mutual
def bursarref03_Long_plus.l0 : Nat → List Int → Int → Int → List Int → List Int → Option (List Int)
|0,_,_,_,_,_ => none
|k + 1,x5,x6,x7,x241000,x242000 => if x7 < (x241000.length : Int) then (bursarref03_Long_plus.j1 k x5 x6 x7 true x241000 x242000) else (if x7 < (x242000.length : Int) then (bursarref03_Long_plus.j1 k x5 x6 x7 true x241000 x242000) else (bursarref03_Long_plus.j1 k x5 x6 x7 (decide (x6 > 0)) x241000 x242000))
def bursarref03_Long_plus.j1 : Nat → List Int → Int → Int → Bool → List Int → List Int → Option (List Int)
|0,_,_,_,_,_,_ => none
|k + 1,x5,x6,x7,x24,x241000,x242000 => if x24 = true then ((bursarref03_Long_at.f x241000 x7).bind fun t243 => ((bursarref03_Long_at.f x242000 x7).bind fun t244 => (if x5.length < 17592186044416 then (bursarref03_Long_plus.l0 k (x5 ++ [Int.tmod (wrap64 ((wrap64 (t243 + t244)) + x6)) 10]) (wrap64 (Int.tdiv (wrap64 ((wrap64 (t243 + t244)) + x6)) 10)) (wrap64 (x7 + 1)) x241000 x242000) else (none)))) else ((bursarref03_cut.f k x5).bind fun t248 => (some t248))
end
def bursarref03_Long_plus.f (k : Nat) (l0_0 : List Int) (l1_0 : List Int) : Option (List Int) := bursarref03_Long_plus.l0 k ([] : List Int) 0 0 l0_0 l1_0
theorem bursarref03_Long_plus.mono_l : ∀ k, (∀ y0 y1 y2 y3 y4, LeO (bursarref03_Long_plus.l0 k y0 y1 y2 y3 y4) (bursarref03_Long_plus.l0 (k + 1) y0 y1 y2 y3 y4)) ∧ (∀ y0 y1 y2 y3 y4 y5, LeO (bursarref03_Long_plus.j1 k y0 y1 y2 y3 y4 y5) (bursarref03_Long_plus.j1 (k + 1) y0 y1 y2 y3 y4 y5))
|0 => ⟨fun _ _ _ _ _ r h => by simp [bursarref03_Long_plus.l0] at h,fun _ _ _ _ _ _ r h => by simp [bursarref03_Long_plus.j1] at h⟩
|k + 1 => by
  obtain ⟨ih0,ih1⟩:=bursarref03_Long_plus.mono_l k
  refine ⟨?_,?_⟩
  ·intro y0 y1 y2 y3 y4
   unfold bursarref03_Long_plus.l0
   repeat' first
  |(with_reducible exact ih0 _ _ _ _ _)
  |(with_reducible exact ih1 _ _ _ _ _ _)
  |(with_reducible exact bursarref03_cut.mono _ _)
  |(with_reducible exact LeO.refl _)
  |(with_reducible exact LeO.none _)
  |(with_reducible refine LeO.ite ?_ ?_)
  |(with_reducible refine LeO.bind ?_ (fun _ => ?_))
  |exact ih0 _ _ _ _ _
  |exact ih1 _ _ _ _ _ _
  |exact bursarref03_cut.mono _ _
  |exact LeO.none _
  |refine LeO.ite ?_ ?_
  |refine LeO.bind ?_ (fun _ => ?_)
  ·intro y0 y1 y2 y3 y4 y5
   unfold bursarref03_Long_plus.j1
   repeat' first
  |(with_reducible exact ih0 _ _ _ _ _)
  |(with_reducible exact ih1 _ _ _ _ _ _)
  |(with_reducible exact bursarref03_cut.mono _ _)
  |(with_reducible exact LeO.refl _)
  |(with_reducible exact LeO.none _)
  |(with_reducible refine LeO.ite ?_ ?_)
  |(with_reducible refine LeO.bind ?_ (fun _ => ?_))
  |exact ih0 _ _ _ _ _
  |exact ih1 _ _ _ _ _ _
  |exact bursarref03_cut.mono _ _
  |exact LeO.none _
  |refine LeO.ite ?_ ?_
  |refine LeO.bind ?_ (fun _ => ?_)
theorem bursarref03_Long_plus.mono : ∀ a0 a1 k, LeO (bursarref03_Long_plus.f k a0 a1) (bursarref03_Long_plus.f (k + 1) a0 a1) := by
 intro a0 a1 k
 obtain ⟨ih0,ih1⟩:=bursarref03_Long_plus.mono_l k
 unfold bursarref03_Long_plus.f
 repeat' first
  |(with_reducible exact ih0 _ _ _ _ _)
  |(with_reducible exact ih1 _ _ _ _ _ _)
  |(with_reducible exact bursarref03_cut.mono _ _)
  |(with_reducible exact LeO.refl _)
  |(with_reducible exact LeO.none _)
  |(with_reducible refine LeO.ite ?_ ?_)
  |(with_reducible refine LeO.bind ?_ (fun _ => ?_))
  |exact ih0 _ _ _ _ _
  |exact ih1 _ _ _ _ _ _
  |exact bursarref03_cut.mono _ _
  |exact LeO.none _
  |refine LeO.ite ?_ ?_
  |refine LeO.bind ?_ (fun _ => ?_)
end Go.Proofs.YtejgbdclhlolkaaGreatDoor.Q
namespace Go.Proofs.YtejgbdclhlolkaaGreatDoor.Q
open Go.RowKit Go.Proofs.YtejgbdclhlolkaaGreatDoorW.PrintWords Go.Proofs.YtejgbdclhlolkaaGreatDoorW.PrintLast Go.Proofs.YtejgbdclhlolkaaGreatDoorW.PrintMore
attribute [local go_sem] max2_int min2_int max_two min_two max_three min_three max_four min_four   -- for this text's walks alone
set_option linter.unusedVariables false
set_option linter.unusedSimpArgs false
def bursarref03_Long_value.l0 : Nat → Int → Int → List Int → Option (Int × Bool)
|0,_,_,_ => none
|k + 1,x4,x5,x252000 => if x5 ≥ 0 then (if 0 ≤ x5 then (if x5 < (x252000.length : Int) then (bursarref03_Long_value.l0 k (wrap64 ((wrap64 (x4 * 10)) + (rd x252000 x5))) (wrap64 (x5 - 1)) x252000) else (none)) else (none)) else (some (x4,true))
def bursarref03_Long_value.f (k : Nat) (l0_0 : List Int) : Option (Int × Bool) := (bursarref03_long.f k 9223372036854775807).bind fun t252 => ((bursarref03_Long_less.f k t252 l0_0).bind fun t255 => (if t255 = true then (some (0, false)) else (bursarref03_Long_value.l0 k 0 (wrap64 ((l0_0.length : Int) - 1)) l0_0)))
theorem bursarref03_Long_value.mono_l : ∀ k, (∀ y0 y1 y2, LeO (bursarref03_Long_value.l0 k y0 y1 y2) (bursarref03_Long_value.l0 (k + 1) y0 y1 y2))
|0 => fun _ _ _ r h => by simp [bursarref03_Long_value.l0] at h
|k + 1 => by
  have ih0:=bursarref03_Long_value.mono_l k
  ·intro y0 y1 y2
   unfold bursarref03_Long_value.l0
   repeat' first
  |(with_reducible exact ih0 _ _ _)
  |(with_reducible exact bursarref03_Long_less.mono _ _ _)
  |(with_reducible exact bursarref03_long.mono _ _)
  |(with_reducible exact LeO.refl _)
  |(with_reducible exact LeO.none _)
  |(with_reducible refine LeO.ite ?_ ?_)
  |(with_reducible refine LeO.bind ?_ (fun _ => ?_))
  |exact ih0 _ _ _
  |exact bursarref03_Long_less.mono _ _ _
  |exact bursarref03_long.mono _ _
  |exact LeO.none _
  |refine LeO.ite ?_ ?_
  |refine LeO.bind ?_ (fun _ => ?_)
theorem bursarref03_Long_value.mono : ∀ a0 k, LeO (bursarref03_Long_value.f k a0) (bursarref03_Long_value.f (k + 1) a0) := by
 intro a0 k
 have ih0:=bursarref03_Long_value.mono_l k
 unfold bursarref03_Long_value.f
 repeat' first
  |(with_reducible exact ih0 _ _ _)
  |(with_reducible exact bursarref03_Long_less.mono _ _ _)
  |(with_reducible exact bursarref03_long.mono _ _)
  |(with_reducible exact LeO.refl _)
  |(with_reducible exact LeO.none _)
  |(with_reducible refine LeO.ite ?_ ?_)
  |(with_reducible refine LeO.bind ?_ (fun _ => ?_))
  |exact ih0 _ _ _
  |exact bursarref03_Long_less.mono _ _ _
  |exact bursarref03_long.mono _ _
  |exact LeO.none _
  |refine LeO.ite ?_ ?_
  |refine LeO.bind ?_ (fun _ => ?_)
end Go.Proofs.YtejgbdclhlolkaaGreatDoor.Q
namespace Go.Proofs.LongLaw
set_option linter.unusedVariables false
set_option linter.unusedSimpArgs false
def dval : List Int → Int
  | [] => 0
  | d :: r => d + 10 * dval r
def Digits (l : List Int) : Prop := ∀ x ∈ l, 0 ≤ x ∧ x ≤ 9
def longL (n : Nat) : List Int := if h : n = 0 then [] else ((n % 10 : Nat) : Int) :: longL (n / 10)
termination_by n
decreasing_by omega
theorem longL_zero : longL 0 = [] := by unfold longL; simp
theorem longL_pos (n : Nat) (h : n ≠ 0) : longL n = ((n % 10 : Nat) : Int) :: longL (n / 10) := by rw [longL]; simp [h]
theorem dval_nonneg {l : List Int} (h : Digits l) : 0 ≤ dval l := by
  induction l with
  | nil => simp [dval]
  | cons d r ih =>
    have h1 := h d (by simp)
    have h2 := ih (fun x hx => h x (by simp [hx]))
    simp only [dval]; omega
theorem longL_digits (n : Nat) : Digits (longL n) := by
  induction n using Nat.strongRecOn with
  | _ n ih =>
    by_cases h : n = 0
    · subst h; rw [longL_zero]; intro x hx; cases hx
    · rw [longL_pos n h]
      intro x hx
      rcases List.mem_cons.1 hx with rfl | hx
      · omega
      · exact ih (n / 10) (by omega) x hx
theorem dval_longL (n : Nat) : dval (longL n) = n := by
  induction n using Nat.strongRecOn with
  | _ n ih =>
    by_cases h : n = 0
    · subst h; rw [longL_zero]; rfl
    · rw [longL_pos n h]
      simp only [dval]
      rw [ih (n / 10) (by omega)]
      omega
theorem dval_app (a b : List Int) : dval (a ++ b) = dval a + 10 ^ a.length * dval b := by
  induction a with
  | nil => simp [dval]
  | cons x a ih =>
    simp only [List.cons_append, dval, ih, List.length_cons, Int.pow_succ]
    rw [Int.mul_add, ← Int.mul_assoc, Int.mul_comm 10 (10 ^ a.length)]
    omega
theorem dval_lt {l : List Int} (h : Digits l) : dval l < 10 ^ l.length := by
  induction l with
  | nil => simp [dval]
  | cons d r ih =>
    have h1 := h d (by simp)
    have h2 := ih (fun x hx => h x (by simp [hx]))
    simp only [dval, List.length_cons, Int.pow_succ]
    omega
theorem longL_length_lt (n : Nat) : n < 10 ^ (longL n).length := by
  have := dval_lt (longL_digits n)
  rw [dval_longL] at this
  have e : ((10 : Int) ^ (longL n).length) = ((10 ^ (longL n).length : Nat) : Int) := by simp
  rw [e] at this
  omega
theorem longL_length_ge (n : Nat) (h : n ≠ 0) : 10 ^ ((longL n).length - 1) ≤ n := by
  induction n using Nat.strongRecOn with
  | _ n ih =>
    rw [longL_pos n h, List.length_cons, Nat.add_sub_cancel]
    by_cases h2 : n / 10 = 0
    · rw [h2, longL_zero]; simp; omega
    · have := ih (n / 10) (by omega) h2
      have e : (longL (n / 10)).length = ((longL (n / 10)).length - 1) + 1 := by rw [longL_pos _ h2]; simp
      rw [e, Nat.pow_succ]
      omega
theorem longL_length_mono {a b : Nat} (h : (longL a).length < (longL b).length) : a < b := by
  have h1 := longL_length_lt a
  have hb : b ≠ 0 := fun e => by rw [e, longL_zero] at h; simp at h
  have h2 := longL_length_ge b hb
  have h3 : 10 ^ (longL a).length ≤ 10 ^ ((longL b).length - 1) := Nat.pow_le_pow_right (by omega) (by omega)
  omega
theorem dval_take_succ (l : List Int) : ∀ i : Nat, dval (l.take (i + 1)) = dval (l.take i) + 10 ^ i * l.getD i 0 := by
  induction l with
  | nil => intro i; simp [dval]
  | cons d r ih =>
    intro i
    cases i with
    | zero => simp [dval]
    | succ i =>
      simp only [List.take_succ_cons, dval, List.getD_cons_succ]
      rw [ih i, Int.pow_succ, Int.mul_add, ← Int.mul_assoc, Int.mul_comm 10 (10 ^ i)]
      omega
theorem dval_drop_cons (l : List Int) (i : Nat) (h : i < l.length) : dval (l.drop i) = l.getD i 0 + 10 * dval (l.drop (i + 1)) := by
  rw [List.drop_eq_getElem_cons h]
  simp [dval, List.getD_eq_getElem?_getD, List.getElem?_eq_getElem h]
theorem digits_snoc {l : List Int} {x : Int} (h : Digits l) (h0 : 0 ≤ x) (h1 : x ≤ 9) : Digits (l ++ [x]) := by
  intro y hy
  rcases List.mem_append.1 hy with hy | hy
  · exact h y hy
  · simp at hy; omega
theorem digits_set {l : List Int} {x : Int} (h : Digits l) (i : Nat) (h0 : 0 ≤ x) (h1 : x ≤ 9) : Digits (l.set i x) := by
  intro y hy
  rcases List.mem_or_eq_of_mem_set hy with hy | hy
  · exact h y hy
  · omega
theorem dval_snoc (l : List Int) (x : Int) : dval (l ++ [x]) = dval l + 10 ^ l.length * x := by rw [dval_app]; simp [dval]
theorem digits_get {l : List Int} (h : Digits l) (i : Nat) : 0 ≤ l.getD i 0 ∧ l.getD i 0 ≤ 9 := by
  by_cases hi : i < l.length
  · rw [List.getD_eq_getElem?_getD, List.getElem?_eq_getElem hi]
    exact h _ (List.getElem_mem hi)
  · rw [List.getD_eq_getElem?_getD, List.getElem?_eq_none (by omega)]
    simp
end Go.Proofs.LongLaw
namespace Go.Proofs.YtejgbdclhlolkaaGreatDoor.Q
open Go.RowKit Go.Proofs.YtejgbdclhlolkaaGreatDoorW.PrintWords Go.Proofs.YtejgbdclhlolkaaGreatDoorW.PrintLast Go.Proofs.LongLaw
set_option linter.unusedVariables false
set_option linter.unusedSimpArgs false
theorem w64_in {i : Int} (h0 : -9223372036854775808 ≤ i) (h1 : i ≤ 9223372036854775807) : wrap64 i = i := by unfold wrap64; omega
theorem rd_nat (l : List Int) (i : Nat) : rd l (i : Int) = l.getD i 0 := by
  first | rfl | simp [rd, rdOf]
theorem at_is (l : List Int) (i : Nat) : bursarref03_Long_at.f l (i : Int) = some (l.getD i 0) := by
  unfold bursarref03_Long_at.f
  by_cases h : i < l.length
  · rw [if_pos (by omega), if_pos (by omega), rd_nat]
  · rw [if_neg (by omega), List.getD_eq_getElem?_getD, List.getElem?_eq_none (by omega)]
    rfl
theorem long_l0 (n : Nat) : ∀ acc : List Int, n ≤ 9223372036854775807 → acc.length + (longL n).length < 17592186044416 → Ev (fun k => bursarref03_long.l0 k (n : Int) acc) (acc ++ longL n) := by
  induction n using Nat.strongRecOn with
  | _ n ih =>
    intro acc hn hl
    by_cases h : n = 0
    · subst h
      rw [longL_zero, List.append_nil]
      exact Ev.step (f := fun _ => some acc) (fun k => by simp only [bursarref03_long.l0]; rw [if_neg (by omega)]) (Ev.now _)
    · rw [longL_pos n h, List.length_cons] at hl
      rw [longL_pos n h]
      refine Ev.step (f := fun k => bursarref03_long.l0 k ((n / 10 : Nat) : Int) (acc ++ [((n % 10 : Nat) : Int)])) (fun k => ?_) ?_
      · simp only [bursarref03_long.l0]
        rw [if_pos (by omega), if_pos (by omega), Int.tdiv_eq_ediv_of_nonneg (by omega), Int.tmod_eq_emod_of_nonneg (by omega), w64_in (by omega) (by omega)]
        rfl
      · have := ih (n / 10) (by omega) (acc ++ [((n % 10 : Nat) : Int)]) (by omega) (by simp; omega)
        rw [List.append_assoc] at this
        exact this
theorem longL_le (m : Nat) : ∀ n, n < 10 ^ m → (longL n).length ≤ m := by
  induction m with
  | zero => intro n h; obtain rfl : n = 0 := by omega
            rw [longL_zero]; exact Nat.le_refl _
  | succ m ih =>
    intro n h
    by_cases h0 : n = 0
    · subst h0; rw [longL_zero]; exact Nat.zero_le _
    · rw [longL_pos n h0, List.length_cons]
      have := ih (n / 10) (by rw [Nat.pow_succ] at h; omega)
      omega
theorem long_ev (n : Nat) (h : n ≤ 9223372036854775807) : Ev (fun k => bursarref03_long.f k (n : Int)) (longL n) := by
  have := long_l0 n [] h (by have := longL_le 19 n (by omega); simp; omega)
  simpa [bursarref03_long.f] using this
theorem take_zero_cut (l : List Int) (i : Nat) (hd : Digits l) (hi : i < l.length) (h0 : l.getD i 0 = 0) : dval (l.take (i + 1)) = dval (l.take i) := by
  rw [dval_take_succ, h0]; simp
theorem digits_take {l : List Int} (h : Digits l) (i : Nat) : Digits (l.take i) := fun x hx => h x (List.mem_of_mem_take hx)
theorem longL_dval : ∀ {l : List Int}, Digits l → (l = [] ∨ l.getD (l.length - 1) 0 ≠ 0) → longL (dval l).toNat = l
  | [], _, _ => by simp [dval, longL_zero]
  | d :: r, h, ht => by
    have h1 := h d (by simp)
    have hr : Digits r := fun x hx => h x (by simp [hx])
    have h3 := dval_nonneg hr
    simp only [dval]
    rcases ht with ht | ht
    · cases ht
    · cases r with
      | nil =>
        simp at ht
        have e : (d + 10 * dval []).toNat = d.toNat := by simp [dval]
        rw [e, longL_pos _ (by omega), show d.toNat / 10 = 0 by omega, longL_zero]
        congr 1
        omega
      | cons x s =>
        have ih := longL_dval hr (.inr (by simpa using ht))
        have hne : dval (x :: s) ≠ 0 := by
          intro e
          rw [e] at ih
          simp [longL_zero] at ih
        rw [longL_pos _ (by omega)]
        have e1 : (d + 10 * dval (x :: s)).toNat / 10 = (dval (x :: s)).toNat := by omega
        have e2 : (((d + 10 * dval (x :: s)).toNat % 10 : Nat) : Int) = d := by omega
        rw [e1, e2, ih]
theorem cut_l0 (l : List Int) (hd : Digits l) (hl : l.length < 4611686018427387904) : ∀ i : Nat, i ≤ l.length → Ev (fun k => bursarref03_cut.l0 k l (i : Int)) (longL (dval (l.take i)).toNat) := by
  intro i
  induction i with
  | zero =>
    intro _
    have e : longL (dval (l.take 0)).toNat = [] := by simp [dval, longL_zero]
    rw [e]
    exact Ev.step (f := fun _ => some []) (fun k => by simp only [bursarref03_cut.l0]; rw [if_neg (by omega), if_pos (by omega), if_pos (by omega)]; simp) (Ev.now _)
  | succ i ih =>
    intro hi
    have hw : wrap64 (((i + 1 : Nat) : Int) - 1) = (i : Int) := by rw [w64_in (by omega) (by omega)]; omega
    by_cases h0 : l.getD i 0 = 0
    · rw [take_zero_cut l i hd (by omega) h0]
      refine Ev.step (f := fun k => bursarref03_cut.l0 k l (i : Int)) (fun k => ?_) (ih (by omega))
      simp only [bursarref03_cut.l0]
      rw [hw, if_pos (by omega), if_pos (by omega), if_pos (by omega), rd_nat, if_pos h0]
    · have e : longL (dval (l.take (i + 1))).toNat = l.take (i + 1) := by
        refine longL_dval (digits_take hd _) (.inr ?_)
        rw [List.length_take, show min (i + 1) l.length = i + 1 by omega, Nat.add_sub_cancel]
        rw [List.getD_eq_getElem?_getD, List.getElem?_take_of_lt (by omega), ← List.getD_eq_getElem?_getD]
        exact h0
      rw [e]
      refine Ev.step (f := fun _ => some (l.take (i + 1))) (fun k => ?_) (Ev.now _)
      simp only [bursarref03_cut.l0]
      rw [hw, if_pos (by omega), if_pos (by omega), if_pos (by omega), rd_nat, if_neg h0, if_pos (by omega), if_pos (by omega)]
      rfl
theorem cut_ev (l : List Int) (hd : Digits l) (hl : l.length < 4611686018427387904) : Ev (fun k => bursarref03_cut.f k l) (longL (dval l).toNat) := by
  have := cut_l0 l hd hl l.length (Nat.le_refl _)
  rw [List.take_length] at this
  exact this
theorem dval_drop_getD (l : List Int) (i : Nat) : dval (l.drop i) = l.getD i 0 + 10 * dval (l.drop (i + 1)) := by
  by_cases h : i < l.length
  · exact dval_drop_cons l i h
  · rw [List.drop_eq_nil_of_le (by omega), List.drop_eq_nil_of_le (by omega), List.getD_eq_getElem?_getD, List.getElem?_eq_none (by omega)]
    simp [dval]
theorem less_top (P A B a b : Int) (hA : 0 ≤ A) (hAP : A < P) (hB : 0 ≤ B) (hBP : B < P) (hab : a < b) : A + P * a < B + P * b := by
  have h : P * a + P ≤ P * b := by
    have : P * (a + 1) ≤ P * b := Int.mul_le_mul_of_nonneg_left (by omega) (by omega)
    rw [Int.mul_add, Int.mul_one] at this
    exact this
  omega
theorem less_l0 (a b : List Int) (ha : Digits a) (hb : Digits b) (hl : a.length = b.length) (hla : a.length < 1000000) :
    ∀ i : Nat, i ≤ a.length → Ev (fun k => bursarref03_Long_less.l0 k ((i : Int) - 1) a b) (decide (dval (a.take i) < dval (b.take i))) := by
  intro i
  induction i with
  | zero =>
    intro _
    have e : decide (dval (a.take 0) < dval (b.take 0)) = false := by simp [dval]
    rw [e]
    refine Ev.step (f := fun _ => some false) (fun k => ?_) (Ev.now _)
    simp only [bursarref03_Long_less.l0]
    rw [if_neg (by omega)]
  | succ i ih =>
    intro hi
    have e1 : (((i + 1 : Nat) : Int) - 1) = (i : Int) := by omega
    rw [e1, dval_take_succ, dval_take_succ]
    by_cases h : a.getD i 0 = b.getD i 0
    · have e2 : decide (dval (a.take i) + 10 ^ i * a.getD i 0 < dval (b.take i) + 10 ^ i * b.getD i 0) = decide (dval (a.take i) < dval (b.take i)) := by
        rw [h]; congr 1; simp
      rw [e2]
      refine Ev.step (f := fun k => bursarref03_Long_less.l0 k ((i : Int) - 1) a b) (fun k => ?_) (ih (by omega))
      simp only [bursarref03_Long_less.l0]
      rw [if_pos (by omega), if_pos (by omega), if_pos (by omega), if_pos (by omega), rd_nat, rd_nat, if_pos h, w64_in (by omega) (by omega)]
    · have e2 : decide (dval (a.take i) + 10 ^ i * a.getD i 0 < dval (b.take i) + 10 ^ i * b.getD i 0) = decide (a.getD i 0 < b.getD i 0) := by
        have hA := dval_nonneg (digits_take ha i)
        have hB := dval_nonneg (digits_take hb i)
        have hAP := dval_lt (digits_take ha i)
        have hBP := dval_lt (digits_take hb i)
        rw [List.length_take, show min i a.length = i by omega] at hAP
        rw [List.length_take, show min i b.length = i by omega] at hBP
        by_cases hlt : a.getD i 0 < b.getD i 0
        · rw [decide_eq_true hlt, decide_eq_true (less_top _ _ _ _ _ hA hAP hB hBP hlt)]
        · rw [decide_eq_false hlt, decide_eq_false]
          have := less_top _ _ _ _ _ hB hBP hA hAP (show b.getD i 0 < a.getD i 0 by omega)
          omega
      rw [e2]
      refine Ev.step (f := fun _ => some (decide (a.getD i 0 < b.getD i 0))) (fun k => ?_) (Ev.now _)
      simp only [bursarref03_Long_less.l0]
      rw [if_pos (by omega), if_pos (by omega), if_pos (by omega), if_pos (by omega), rd_nat, rd_nat, if_neg h]
theorem less_ev (n m : Nat) (hn : (longL n).length < 1000000) (hm : (longL m).length < 1000000) : Ev (fun k => bursarref03_Long_less.f k (longL n) (longL m)) (decide (n < m)) := by
  by_cases h : (longL n).length = (longL m).length
  · have := less_l0 (longL n) (longL m) (longL_digits n) (longL_digits m) h hn (longL n).length (Nat.le_refl _)
    rw [List.take_length, h, List.take_length, dval_longL, dval_longL] at this
    have e : decide ((n : Int) < (m : Int)) = decide (n < m) := by congr 1; simp
    rw [e] at this
    refine Ev.congr (fun k => ?_) this
    unfold bursarref03_Long_less.f
    rw [if_pos (by omega), w64_in (by omega) (by omega), h]
  · refine Ev.congr (f := fun _ => some (decide (n < m))) (fun k => ?_) (Ev.now _)
    unfold bursarref03_Long_less.f
    rw [if_neg (by omega)]
    congr 1
    by_cases hlt : (longL n).length < (longL m).length
    · rw [decide_eq_true (show ((longL n).length : Int) < ((longL m).length : Int) by omega), decide_eq_true (longL_length_mono hlt)]
    · have := longL_length_mono (a := m) (b := n) (by omega)
      rw [decide_eq_false (show ¬ ((longL n).length : Int) < ((longL m).length : Int) by omega), decide_eq_false (by omega)]
theorem minus_step (A P c a A' b B' s : Int) (hs : s = a - b - c) : A + P * s + P * 10 * (A' - B' - 0) = A + P * (a + 10 * A' - (b + 10 * B') - c) := by
  subst hs; grind
theorem minus_step1 (A P c a A' b B' s : Int) (hs : s = a - b - c) : A + P * (s + 10) + P * 10 * (A' - B' - 1) = A + P * (a + 10 * A' - (b + 10 * B') - c) := by
  subst hs; grind
theorem minus_l0 (a b : List Int) (ha : Digits a) (hb : Digits b) (hla : a.length < 1000000) (hlb : b.length < 1000000) (hlen : b.length ≤ a.length) :
    ∀ (d i : Nat) (acc : List Int) (c : Int), Digits acc → acc.length = i → 0 ≤ c → c ≤ 1 → i + d = a.length → 0 ≤ dval (a.drop i) - dval (b.drop i) - c →
      Ev (fun k => bursarref03_Long_minus.l0 k acc c (i : Int) a b) (longL (dval acc + 10 ^ i * (dval (a.drop i) - dval (b.drop i) - c)).toNat) := by
  intro d
  induction d with
  | zero =>
    intro i acc c hA hi h0 h1 hd hge
    rw [List.drop_eq_nil_of_le (by omega), List.drop_eq_nil_of_le (by omega)] at hge ⊢
    have hc0 : c = 0 := by simp [dval] at hge; omega
    subst hc0
    have e : longL (dval acc + 10 ^ i * (dval [] - dval [] - 0)).toNat = longL (dval acc).toNat := by simp [dval]
    rw [e]
    refine Ev.step (f := fun k => (bursarref03_cut.f k acc).bind fun t => some t) (fun k => ?_) (Ev.bind (cut_ev acc hA (by omega)) (Ev.now _))
    simp only [bursarref03_Long_minus.l0]
    rw [if_neg (by omega)]
  | succ d ih =>
    intro i acc c hA hi h0 h1 hd hge
    have ga := digits_get ha i
    have gb := digits_get hb i
    rw [dval_drop_getD a i, dval_drop_getD b i] at hge ⊢
    have hw : ∀ k, bursarref03_Long_minus.l0 (k + 1) acc c (i : Int) a b = if a.getD i 0 - b.getD i 0 - c < 0 then bursarref03_Long_minus.l0 k (acc ++ [a.getD i 0 - b.getD i 0 - c + 10]) 1 ((i + 1 : Nat) : Int) a b else bursarref03_Long_minus.l0 k (acc ++ [a.getD i 0 - b.getD i 0 - c]) 0 ((i + 1 : Nat) : Int) a b := by
      intro k
      simp only [bursarref03_Long_minus.l0]
      rw [if_pos (by omega), if_pos (by omega), at_is]
      simp only [Option.bind_some, rd_nat]
      rw [w64_in (i := a.getD i 0 - b.getD i 0) (by omega) (by omega), w64_in (i := a.getD i 0 - b.getD i 0 - c) (by omega) (by omega), w64_in (i := a.getD i 0 - b.getD i 0 - c + 10) (by omega) (by omega), w64_in (i := (i : Int) + 1) (by omega) (by omega), if_pos (show acc.length < 17592186044416 by omega), if_pos (show acc.length < 17592186044416 by omega)]
      rfl
    by_cases hneg : a.getD i 0 - b.getD i 0 - c < 0
    · have key := ih (i + 1) (acc ++ [a.getD i 0 - b.getD i 0 - c + 10]) 1 (digits_snoc hA (by omega) (by omega)) (by simp [hi]) (by omega) (by omega) (by omega) (by omega)
      rw [dval_snoc, hi, Int.pow_succ, minus_step1 _ _ c (a.getD i 0) _ (b.getD i 0) _ _ rfl] at key
      exact Ev.step (fun k => by rw [hw, if_pos hneg]) key
    · have key := ih (i + 1) (acc ++ [a.getD i 0 - b.getD i 0 - c]) 0 (digits_snoc hA (by omega) (by omega)) (by simp [hi]) (by omega) (by omega) (by omega) (by omega)
      rw [dval_snoc, hi, Int.pow_succ, minus_step _ _ c (a.getD i 0) _ (b.getD i 0) _ _ rfl] at key
      exact Ev.step (fun k => by rw [hw, if_neg hneg]) key
theorem longL_mono {n m : Nat} (h : n ≤ m) : (longL n).length ≤ (longL m).length := by
  rcases Nat.lt_or_ge (longL m).length (longL n).length with hl | hl
  · have := longL_length_mono hl; omega
  · exact hl
theorem minus_ev (n m : Nat) (hle : m ≤ n) (hn : (longL n).length < 1000000) : Ev (fun k => bursarref03_Long_minus.f k (longL n) (longL m)) (longL (n - m)) := by
  have hm := longL_mono hle
  have := minus_l0 (longL n) (longL m) (longL_digits n) (longL_digits m) hn (by omega) hm (longL n).length 0 [] 0 (by intro x hx; cases hx) rfl (by omega) (by omega) (by omega) (by simp only [List.drop_zero, dval_longL]; omega)
  simp only [dval, List.drop_zero, dval_longL] at this
  have e : (0 + 10 ^ 0 * ((n : Int) - (m : Int) - 0)).toNat = n - m := by rw [show (10 : Int) ^ 0 = 1 from rfl]; omega
  rw [e] at this
  exact this
end Go.Proofs.YtejgbdclhlolkaaGreatDoor.Q
namespace Go.Proofs.YtejgbdclhlolkaaGreatDoor.Q
open Go.RowKit Go.Proofs.YtejgbdclhlolkaaGreatDoorW.PrintWords Go.Proofs.YtejgbdclhlolkaaGreatDoorW.PrintLast Go.Proofs.LongLaw
set_option linter.unusedVariables false
set_option linter.unusedSimpArgs false
theorem set_get (l : List Int) (i : Nat) (x : Int) (h : i < l.length) (p : Nat) : (l.set i x).getD p 0 = if p = i then x else l.getD p 0 := by
  rw [List.getD_eq_getElem?_getD, List.getElem?_set]
  by_cases e : i = p
  · subst e; rw [if_pos rfl, if_pos h, if_pos rfl]; rfl
  · rw [if_neg e, if_neg (fun h => e h.symm), List.getD_eq_getElem?_getD]
theorem digits_zero (n : Nat) : Digits (List.replicate n 0) := fun x hx => by rw [List.eq_of_mem_replicate hx]; omega
theorem getD_zero (n p : Nat) : (List.replicate n (0 : Int)).getD p 0 = 0 := by
  rw [List.getD_eq_getElem?_getD, List.getElem?_replicate]
  split <;> rfl
end Go.Proofs.YtejgbdclhlolkaaGreatDoor.Q
namespace Go.Proofs.YtejgbdclhlolkaaGreatDoor.Q
open Go.RowKit Go.Proofs.YtejgbdclhlolkaaGreatDoorW.PrintWords Go.Proofs.YtejgbdclhlolkaaGreatDoorW.PrintLast Go.Proofs.LongLaw
set_option linter.unusedVariables false
set_option linter.unusedSimpArgs false
theorem front_length (n d : Nat) (hd : d < 10) : (longL (d + 10 * n)).length ≤ (longL n).length + 1 := by
  by_cases h : d + 10 * n = 0
  · rw [h, longL_zero]; exact Nat.zero_le _
  · rw [longL_pos _ h, List.length_cons, show (d + 10 * n) / 10 = n by omega]
    exact Nat.le_refl _
theorem front_ev (d : Int) (n : Nat) (h0 : 0 ≤ d) (h9 : d ≤ 9) (hl : (longL n).length < 100000) : Ev (fun k => bursarref03_cut.f k ([d] ++ longL n)) (longL (d.toNat + 10 * n)) := by
  have hD : Digits ([d] ++ longL n) := by
    intro x hx
    rcases List.mem_append.1 hx with hx | hx
    · simp at hx; omega
    · exact longL_digits n x hx
  have := cut_ev ([d] ++ longL n) hD (by simp; omega)
  have e : (dval ([d] ++ longL n)).toNat = d.toNat + 10 * n := by
    simp only [List.singleton_append, dval, dval_longL]
    omega
  rw [e] at this
  exact this
theorem by_l1 (a : List Int) (B : Nat) (hB : 0 < B) (hBs : (longL B).length < 100000) (i : Nat) (hi6 : i < 100000) (res : List Int × List Int) (r0 : Nat) (q0 : List Int) (hi : i < q0.length) (hr0 : r0 < 10 * B) (hr0s : (longL r0).length < 1000000)
    (hK : Ev (fun k => bursarref03_Long_by.l0 k (q0.set i ((r0 / B : Nat) : Int)) ((i : Int) - 1) a (longL B) (longL (r0 % B))) res) :
    ∀ (m : Nat) (r c : Nat), r0 = c * B + r → r / B = m → Ev (fun k => bursarref03_Long_by.l1 k (q0.set i (c : Int)) (i : Int) a (longL B) (longL r)) res := by
  intro m
  induction m with
  | zero =>
    intro r c hr hm
    have hlt : r < B := by
      rcases Nat.lt_or_ge r B with h | h
      · exact h
      · have := Nat.div_pos h hB; omega
    have hc : r0 / B = c := by rw [hr, Nat.add_comm, Nat.add_mul_div_right _ _ hB, hm, Nat.zero_add]
    have hrm : r0 % B = r := by rw [hr, Nat.add_comm, Nat.add_mul_mod_self_right, Nat.mod_eq_of_lt hlt]
    rw [hc, hrm] at hK
    have hrs : (longL r).length < 1000000 := Nat.lt_of_le_of_lt (longL_mono (n := r) (m := r0) (by omega)) hr0s
    refine Ev.step (f := fun k => (bursarref03_Long_less.f k (longL r) (longL B)).bind fun t => if t = true then bursarref03_Long_by.l0 k (q0.set i (c : Int)) (wrap64 ((i : Int) - 1)) a (longL B) (longL r) else ((bursarref03_Long_minus.f k (longL r) (longL B)).bind fun t378 => (if 0 ≤ (i : Int) then (if (i : Int) < ((q0.set i (c : Int)).length : Int) then (bursarref03_Long_by.l1 k ((q0.set i (c : Int)).set ((i : Int) : Int).toNat (wrap64 ((rd (q0.set i (c : Int)) (i : Int)) + 1))) (i : Int) a (longL B) t378) else (none)) else (none)))) (fun k => by simp only [bursarref03_Long_by.l1]) (Ev.bind (less_ev r B hrs (by omega)) ?_)
    refine Ev.congr (fun k => if_pos (decide_eq_true hlt)) ?_
    have e : wrap64 ((i : Int) - 1) = (i : Int) - 1 := w64_in (by omega) (by omega)
    rw [e]
    exact hK
  | succ m ih =>
    intro r c hr hm
    have hge : B ≤ r := by
      rcases Nat.lt_or_ge r B with h | h
      · rw [Nat.div_eq_of_lt h] at hm; omega
      · exact h
    have hc9 : c < 10 := by
      rcases Nat.lt_or_ge c 10 with h | h
      · exact h
      · have := Nat.mul_le_mul_right B h; omega
    have hrs : (longL r).length < 1000000 := Nat.lt_of_le_of_lt (longL_mono (n := r) (m := r0) (by omega)) hr0s
    have key := ih (r - B) (c + 1) (by rw [Nat.succ_mul]; omega) (by rw [Nat.sub_eq_of_eq_add (show r = (r - B) + B by omega)]; have h1 : r / B = (r - B) / B + 1 := by rw [← Nat.add_div_right _ hB]; congr 1; omega
                                                                     omega)
    refine Ev.step (f := fun k => (bursarref03_Long_less.f k (longL r) (longL B)).bind fun t => if t = true then bursarref03_Long_by.l0 k (q0.set i (c : Int)) (wrap64 ((i : Int) - 1)) a (longL B) (longL r) else ((bursarref03_Long_minus.f k (longL r) (longL B)).bind fun t378 => (if 0 ≤ (i : Int) then (if (i : Int) < ((q0.set i (c : Int)).length : Int) then (bursarref03_Long_by.l1 k ((q0.set i (c : Int)).set ((i : Int) : Int).toNat (wrap64 ((rd (q0.set i (c : Int)) (i : Int)) + 1))) (i : Int) a (longL B) t378) else (none)) else (none)))) (fun k => by simp only [bursarref03_Long_by.l1]) (Ev.bind (less_ev r B hrs (by omega)) ?_)
    refine Ev.congr (fun k => if_neg (by rw [decide_eq_false (by omega)]; exact Bool.false_ne_true)) (Ev.bind (minus_ev r B hge hrs) ?_)
    refine Ev.congr (fun k => if_pos (by omega)) (Ev.congr (fun k => if_pos (by rw [List.length_set]; omega)) ?_)
    have e : (q0.set i (c : Int)).set ((i : Int) : Int).toNat (wrap64 ((rd (q0.set i (c : Int)) (i : Int)) + 1)) = q0.set i ((c + 1 : Nat) : Int) := by
      rw [rd_nat, set_get q0 i _ hi, if_pos rfl, w64_in (by omega) (by omega), Int.toNat_natCast, List.set_set]
      rfl
    rw [e]
    exact key
theorem by_step (aj B A Q r r0 q rest : Int) (h1 : A = Q * B + r) (h2 : r0 = aj + 10 * r) (h3 : r0 = q * B + rest) : aj + 10 * A = (q + 10 * Q) * B + rest := by
  grind
theorem drop_set_succ (l : List Int) (j : Nat) (x : Int) : (l.set j x).drop (j + 1) = l.drop (j + 1) := by
  apply List.ext_getElem?
  intro t
  rw [List.getElem?_drop, List.getElem?_drop, List.getElem?_set, if_neg (by omega)]
theorem by_l0 (a : List Int) (ha : Digits a) (hla : a.length < 100000) (B : Nat) (hB : 0 < B) (hBs : (longL B).length < 90000) :
    ∀ (j : Nat) (q : List Int) (r : Nat), j ≤ a.length → q.length = a.length → Digits q → r < B → dval (a.drop j) = dval (q.drop j) * B + r → (∀ p, p < j → q.getD p 0 = 0) →
      Ev (fun k => bursarref03_Long_by.l0 k q ((j : Int) - 1) a (longL B) (longL r)) (longL ((dval a).toNat / B), longL ((dval a).toNat % B)) := by
  intro j
  induction j with
  | zero =>
    intro q r hj hql hD hr hv hz
    rw [List.drop_zero, List.drop_zero] at hv
    have hq0 := dval_nonneg hD
    obtain ⟨Q, hQ⟩ : ∃ Q : Nat, dval q = Q := ⟨(dval q).toNat, by omega⟩
    have hA : (dval a).toNat = Q * B + r := by rw [hv, hQ, ← Int.natCast_mul]; omega
    rw [hA, Nat.add_comm, Nat.add_mul_div_right _ _ hB, Nat.add_mul_mod_self_right, Nat.mod_eq_of_lt hr, Nat.div_eq_of_lt hr, Nat.zero_add]
    have hcut := cut_ev q hD (by omega)
    rw [hQ, Int.toNat_natCast] at hcut
    refine Ev.step (f := fun k => (bursarref03_cut.f k q).bind fun t => some (t, longL r)) (fun k => ?_) (Ev.bind hcut (Ev.now _))
    simp only [bursarref03_Long_by.l0]
    rw [if_neg (by omega)]
  | succ j ih =>
    intro q r hj hql hD hr hv hz
    have ga := digits_get ha j
    have HV := Lib.hid hv
    clear hv
    have hrs : (longL r).length < 90000 := Nat.lt_of_le_of_lt (longL_mono (by omega)) hBs
    obtain ⟨d, hd⟩ : ∃ d : Nat, a.getD j 0 = d := ⟨(a.getD j 0).toNat, by omega⟩
    obtain ⟨r0, hr0⟩ : ∃ r0, r0 = d + 10 * r := ⟨_, rfl⟩
    have hr0b : r0 < 10 * B := by omega
    have hr0s : (longL r0).length < 1000000 := by have := front_length r d (by omega); rw [← hr0] at this; omega
    have hq9 : r0 / B < 10 := by rw [Nat.div_lt_iff_lt_mul hB]; exact hr0b
    have key := ih (q.set j ((r0 / B : Nat) : Int)) (r0 % B) (by omega) (by rw [List.length_set]; exact hql) (digits_set hD j (Int.natCast_nonneg _) (Int.ofNat_le.2 (Nat.le_of_lt_succ hq9))) (Nat.mod_lt _ hB) (by
        rw [dval_drop_getD a j, dval_drop_getD (q.set j _) j, drop_set_succ, set_get q j _ (by omega), if_pos rfl]
        exact by_step _ _ _ _ _ (r0 : Int) _ _ HV.out (by rw [hr0, hd]; omega) (by have := Nat.div_add_mod r0 B; rw [Nat.mul_comm] at this; rw [← Int.natCast_mul]; omega))
      (fun p hp => by rw [set_get q j _ (by omega), if_neg (by omega)]; exact hz p (by omega))
    have l1 := by_l1 a B hB (by omega) j (by omega) _ r0 q (by omega) hr0b hr0s key (r0 / B) r0 0 (by omega) rfl
    have hq : q.set j ((0 : Nat) : Int) = q := by
      apply List.ext_getElem?
      intro t
      rw [List.getElem?_set]
      by_cases e : j = t
      · subst e
        rw [if_pos rfl, if_pos (by omega)]
        have := hz j (by omega)
        rw [List.getD_eq_getElem?_getD, List.getElem?_eq_getElem (by omega)] at this
        rw [List.getElem?_eq_getElem (by omega)]
        simpa using this.symm
      · rw [if_neg e]
    rw [hq] at l1
    have fr := front_ev (a.getD j 0) r ga.1 ga.2 (by omega)
    rw [hd, Int.toNat_natCast, ← hr0, ← hd] at fr
    refine Ev.step (f := fun k => (bursarref03_cut.f k ([a.getD j 0] ++ longL r)).bind fun t => bursarref03_Long_by.l1 k q (j : Int) a (longL B) t) (fun k => ?_) (Ev.bind fr l1)
    simp only [bursarref03_Long_by.l0]
    rw [show (((j + 1 : Nat) : Int) - 1) = (j : Int) by omega, if_pos (by omega), if_pos (by omega), if_pos (by omega), if_pos (by decide), rd_nat, Option.bind_some, if_pos (by simp; omega)]
    rfl
theorem by_ev (n m : Nat) (hm : 0 < m) (hn : (longL n).length < 90000) (hms : (longL m).length < 90000) : Ev (fun k => bursarref03_Long_by.f k (longL n) (longL m)) (longL (n / m), longL (n % m)) := by
  have := by_l0 (longL n) (longL_digits n) (by omega) m hm hms (longL n).length (List.replicate (longL n).length 0) 0 (Nat.le_refl _) (by simp) (digits_zero _) hm (by rw [List.drop_eq_nil_of_le (Nat.le_refl _), List.drop_eq_nil_of_le (by simp)]; simp [dval]) (fun p _ => getD_zero _ _)
  rw [dval_longL, Int.toNat_natCast] at this
  refine Ev.congr (fun k => ?_) this
  unfold bursarref03_Long_by.f
  rw [if_pos (by omega), Int.toNat_natCast, if_pos (by omega), w64_in (by omega) (by omega), longL_zero]
end Go.Proofs.YtejgbdclhlolkaaGreatDoor.Q
namespace Go.Proofs.YtejgbdclhlolkaaGreatDoor.Q
open Go.RowKit Go.Proofs.YtejgbdclhlolkaaGreatDoorW.PrintWords Go.Proofs.YtejgbdclhlolkaaGreatDoorW.PrintLast Go.Proofs.YtejgbdclhlolkaaGreatDoorW.PrintMore
attribute [local go_sem] max2_int min2_int max_two min_two max_three min_three max_four min_four   -- for this text's walks alone
set_option linter.unusedVariables false
set_option linter.unusedSimpArgs false
def quant_Scale.j0 : Nat → Int → Int → Int → Bool → Option (Int × Int)
|0,_,_,_,_ => none
|k + 1,x0,x1,x2,x19 => if x19 = true then (some (0,1)) else ((bits_Mul64.f (IntKind.u64.wrap (x0)) (IntKind.u64.wrap (x1))).bind fun bt398 => ((quant_over.f k bt398.1 bt398.2 (IntKind.u64.wrap (x2))).bind fun bt400 => (some (bt400.1,bt400.2))))
def quant_Scale.f (k : Nat) (a0 : Int) (a1 : Int) (a2 : Int) : Option (Int × Int) := if a0 < 0 then (quant_Scale.j0 k a0 a1 a2 true) else (if a1 < 0 then (quant_Scale.j0 k a0 a1 a2 true) else (quant_Scale.j0 k a0 a1 a2 (decide (a2 < 1))))
theorem quant_Scale.mono_l : ∀ k, (∀ y0 y1 y2 y3, LeO (quant_Scale.j0 k y0 y1 y2 y3) (quant_Scale.j0 (k + 1) y0 y1 y2 y3))
|0 => fun _ _ _ _ r h => by simp [quant_Scale.j0] at h
|k + 1 => by
  have ih0:=quant_Scale.mono_l k
  ·intro y0 y1 y2 y3
   unfold quant_Scale.j0
   repeat' first
  |(with_reducible exact ih0 _ _ _ _)
  |(with_reducible exact quant_over.mono _ _ _ _)
  |(with_reducible exact LeO.refl _)
  |(with_reducible exact LeO.none _)
  |(with_reducible refine LeO.ite ?_ ?_)
  |(with_reducible refine LeO.bind ?_ (fun _ => ?_))
  |exact ih0 _ _ _ _
  |exact quant_over.mono _ _ _ _
  |exact LeO.none _
  |refine LeO.ite ?_ ?_
  |refine LeO.bind ?_ (fun _ => ?_)
theorem quant_Scale.mono : ∀ a0 a1 a2 k, LeO (quant_Scale.f k a0 a1 a2) (quant_Scale.f (k + 1) a0 a1 a2) := by
 intro a0 a1 a2 k
 have ih0:=quant_Scale.mono_l k
 unfold quant_Scale.f
 repeat' first
  |(with_reducible exact ih0 _ _ _ _)
  |(with_reducible exact quant_over.mono _ _ _ _)
  |(with_reducible exact LeO.refl _)
  |(with_reducible exact LeO.none _)
  |(with_reducible refine LeO.ite ?_ ?_)
  |(with_reducible refine LeO.bind ?_ (fun _ => ?_))
  |exact ih0 _ _ _ _
  |exact quant_over.mono _ _ _ _
  |exact LeO.none _
  |refine LeO.ite ?_ ?_
  |refine LeO.bind ?_ (fun _ => ?_)
end Go.Proofs.YtejgbdclhlolkaaGreatDoor.Q
namespace Go.Proofs.DivLaw
end Go.Proofs.DivLaw
namespace Go.Proofs.YtejgbdclhlolkaaGreatDoor.Q
open Go.RowKit Go.Proofs.YtejgbdclhlolkaaGreatDoorW.PrintWords Go.Proofs.YtejgbdclhlolkaaGreatDoorW.PrintLast Go.Proofs.YtejgbdclhlolkaaGreatDoorW.PrintMore Go.Proofs.DivLaw
set_option linter.unusedVariables false
set_option linter.unusedSimpArgs false
theorem u64w (x : Int) : IntKind.u64.wrap x = x % 18446744073709551616 := by simp [IntKind.wrap, IntKind.bits, IntKind.signed]
theorem u64i {x : Int} (h0 : 0 ≤ x) (h1 : x < 18446744073709551616) : IntKind.u64.wrap x = x := by rw [u64w]; omega
theorem u64n {n : Nat} (h1 : n < 18446744073709551616) : IntKind.u64.wrap (n : Int) = n := u64i (by omega) (by omega)
end Go.Proofs.YtejgbdclhlolkaaGreatDoor.Q
namespace Go.Proofs.YtejgbdclhlolkaaGreatDoor.Q
end Go.Proofs.YtejgbdclhlolkaaGreatDoor.Q
namespace Go.Proofs.YtejgbdclhlolkaaGreatDoor.Q
open Go.RowKit Go.Proofs.YtejgbdclhlolkaaGreatDoorW.PrintWords Go.Proofs.YtejgbdclhlolkaaGreatDoorW.PrintLast
set_option linter.unusedVariables false
set_option linter.unusedSimpArgs false
def nd (n : Nat) : Nat := (Lib.decDigits n).length
theorem dec_small {n : Nat} (h : n < 10) : Lib.decDigits n = [UInt8.ofNat (48 + n)] := by rw [Lib.decDigits, dif_pos h]
theorem dec_big {n : Nat} (h : 10 ≤ n) : Lib.decDigits n = Lib.decDigits (n / 10) ++ [UInt8.ofNat (48 + n % 10)] := by rw [Lib.decDigits, dif_neg (by omega)]
theorem nd_small {n : Nat} (h : n < 10) : nd n = 1 := by unfold nd; rw [dec_small h]; rfl
theorem nd_big {n : Nat} (h : 10 ≤ n) : nd n = nd (n / 10) + 1 := by unfold nd; rw [dec_big h]; simp
theorem nd_pos (n : Nat) : 1 ≤ nd n := by
  by_cases h : n < 10
  · rw [nd_small h]; exact Nat.le_refl _
  · rw [nd_big (by omega)]; omega
theorem nd_le : ∀ (k n : Nat), 1 ≤ k → n < 10 ^ k → nd n ≤ k := by
  intro k
  induction k with
  | zero => intro n h; omega
  | succ k ih =>
    intro n _ h
    by_cases h1 : n < 10
    · rw [nd_small h1]; omega
    · rw [nd_big (by omega)]
      by_cases hk : k = 0
      · subst hk; simp at h; omega
      · have := ih (n / 10) (by omega) (by rw [Nat.pow_succ] at h; omega)
        omega
theorem nd19 {n : Nat} (h : n ≤ 9223372036854775807) : nd n ≤ 19 := nd_le 19 n (by decide) (by omega)
theorem numeral_list (n : Nat) : (numeral n).data.toList = Lib.decDigits n := by simp [numeral]
theorem numeral_size (n : Nat) : (numeral n).size = nd n := by rw [Lib.size_eq, numeral_list]; rfl
theorem itoa_nat (n : Nat) : itoaB (n : Int) = numeral n := by
  unfold itoaB numeral Lib.itoa
  rw [if_neg (by omega), Int.toNat_natCast]
def formG (v : Nat) : List S66 → ByteArray → ByteArray
  | [], b => b
  | u :: r, b => formG v r (if v % u.f1.toNat = 0 then numeral (v / u.f1.toNat) ++ u.f0 else b)
theorem rd66 (l : List S66) (i : Nat) (h : i < l.length) : rd_T66 l (i : Int) = l[i] := by simp [rd_T66, List.getD_eq_getElem?_getD, h]
theorem form_l0 (v : Nat) (hv : v ≤ 9223372036854775807) (l : List S66) (hl : l.length < 1000) (hw : ∀ u ∈ l, 0 < u.f1 ∧ u.f0.size < 1000) : ∀ (m i : Nat) (b : ByteArray), i + m = l.length → Ev (fun k => quant_form.l0 k (v : Int) b l (l.length : Int) (i : Int)) (formG v (l.drop i) b) := by
  intro m
  induction m with
  | zero =>
    intro i b hi
    rw [List.drop_eq_nil_of_le (by omega)]
    refine Ev.step (f := fun _ => some b) (fun k => ?_) (Ev.now _)
    simp only [quant_form.l0]
    rw [if_neg (by omega)]
  | succ m ih =>
    intro i b hi
    have hil : i < l.length := by omega
    rw [List.drop_eq_getElem_cons hil, formG]
    obtain ⟨h0, hs⟩ := hw l[i] (List.getElem_mem hil)
    have key := ih (i + 1) (if v % (l[i]).f1.toNat = 0 then numeral (v / (l[i]).f1.toNat) ++ (l[i]).f0 else b) (by omega)
    have hwi : wrap64 ((i : Int) + 1) = ((i + 1 : Nat) : Int) := by unfold wrap64; omega
    refine Ev.step (fun k => ?_) key
    simp only [quant_form.l0]
    rw [if_pos (by omega), if_pos (by omega), if_pos (by omega), rd66 l i hil, hwi]
    generalize (l[i]).f0 = s at *
    obtain ⟨w, hww⟩ : ∃ w : Nat, (l[i]).f1 = (w : Int) := ⟨(l[i]).f1.toNat, by omega⟩
    rw [hww] at h0 ⊢
    rw [if_neg (by omega), Int.tmod_eq_emod_of_nonneg (by omega), Int.tdiv_eq_ediv_of_nonneg (by omega), Int.toNat_natCast, ← Int.natCast_emod, ← Int.natCast_ediv]
    have hq : v / w ≤ v := Nat.div_le_self _ _
    clear key ih hwi
    obtain ⟨q, hqq⟩ : ∃ q, q = v / w := ⟨_, rfl⟩
    obtain ⟨r, hrr⟩ : ∃ r, r = v % w := ⟨_, rfl⟩
    rw [← hqq] at hq ⊢
    rw [← hrr]
    clear hqq hrr
    by_cases hm : r = 0
    · rw [if_pos (by omega), if_pos hm]
      have hf : strconv_FormatUint.f (IntKind.u64.wrap (q : Int)) 10 = some (numeral q) := by
        rw [u64n (by omega)]
        unfold strconv_FormatUint.f
        rw [if_pos ⟨by omega, by omega, rfl⟩, Int.toNat_natCast]
      have h19 := nd19 (n := q) (by omega)
      rw [hf, Option.bind_some, if_pos (by rw [numeral_size]; omega)]
    · rw [if_neg (by omega), if_neg hm]
theorem form_ev (v : Nat) (hv : v ≤ 9223372036854775807) (l : List S66) (hl : l.length < 1000) (hw : ∀ u ∈ l, 0 < u.f1 ∧ u.f0.size < 1000) : Ev (fun k => quant_form.f k (v : Int) l) (formG v l ⟨#[]⟩) :=
  form_l0 v hv l hl hw l.length 0 _ (by omega)
def sufB (i : Nat) : ByteArray := (unitsL.getD i ⟨⟨#[]⟩, 0⟩).f0
def wN (i : Nat) : Nat := (unitsL.getD i ⟨⟨#[]⟩, 0⟩).f1.toNat
def txt (v i : Nat) : ByteArray := numeral (v / wN i) ++ sufB i
theorem bytes_empty_iff (b : ByteArray) : b.toList = [] ↔ b.size = 0 := by
  rw [ByteArray.toList_eq, Lib.size_eq, List.length_eq_zero_iff]
def pickP (t u : ByteArray) : ByteArray := if u.toList = ([] : List UInt8) then t else if u.size < t.size then u else t
def printP (v : Nat) : ByteArray :=
  if v % 1000 ≠ 0 then txt v 10 else if v = 0 then ⟨#[48]⟩ else pickP (tensOf (v : Int) (formG v tensL ⟨#[]⟩)) (formG v twosL ⟨#[]⟩)
theorem units_ok : (∀ u ∈ tensL, 0 < u.f1 ∧ u.f0.size < 1000) ∧ (∀ u ∈ twosL, 0 < u.f1 ∧ u.f0.size < 1000) := by
  constructor
  · intro u hu
    simp only [tensL, unitsL, List.drop_succ_cons, List.drop_zero, List.take_succ_cons, List.take_zero, List.mem_cons, List.mem_nil_iff, or_false] at hu
    rcases hu with rfl | rfl | rfl | rfl | rfl <;> exact ⟨by decide, by decide⟩
  · intro u hu
    simp only [twosL, unitsL, List.drop_succ_cons, List.drop_zero, List.take_succ_cons, List.take_zero, List.mem_cons, List.mem_nil_iff, or_false] at hu
    rcases hu with rfl | rfl | rfl | rfl | rfl <;> exact ⟨by decide, by decide⟩
theorem print_ev (v : Nat) (hv : v ≤ 9223372036854775807) : Ev (fun k => quant_Print.f k (v : Int)) (printP v) := by
  have ht : Int.tmod (v : Int) 1000 = ((v % 1000 : Nat) : Int) := by rw [Int.tmod_eq_emod_of_nonneg (by omega)]; omega
  unfold printP
  by_cases h1 : v % 1000 ≠ 0
  · rw [if_pos h1]
    have h19 := nd19 hv
    refine Ev.congr (f := fun _ => some (txt v 10)) (fun k => ?_) (Ev.now _)
    unfold quant_Print.f
    rw [if_neg (by omega), if_neg (by omega), ht, if_pos (by omega), itoa_nat, if_pos (by rw [numeral_size]; omega)]
    unfold txt
    rw [show wN 10 = 1 from rfl, Nat.div_one]
    rfl
  · rw [if_neg h1]
    by_cases h2 : v = 0
    · rw [if_pos h2]
      refine Ev.congr (f := fun _ => some (⟨#[48]⟩ : ByteArray)) (fun k => ?_) (Ev.now _)
      unfold quant_Print.f
      rw [if_neg (by omega), if_neg (by omega), ht, if_neg (by omega), if_pos (by omega)]
    · rw [if_neg h2]
      have hj : ∀ k, quant_Print.f k (v : Int) = ((quant_form.f k (v : Int) tensL).bind fun t => ((quant_form.f k (v : Int) twosL).bind fun u => some (pickP (tensOf (v : Int) t) u))) := by
        intro k
        unfold quant_Print.f
        rw [if_neg (by omega), if_neg (by omega), ht, if_neg (by omega), if_neg (by omega)]
        congr 1
        funext t
        congr 1
        funext u
        unfold pickP
        split
        · rfl
        · split <;> rfl
      exact Ev.congr hj (Ev.bind (form_ev v hv tensL (by decide) units_ok.1) (Ev.bind (form_ev v hv twosL (by decide) units_ok.2) (Ev.now _)))
end Go.Proofs.YtejgbdclhlolkaaGreatDoor.Q
namespace Go.Proofs.YtejgbdclhlolkaaGreatDoor.Q
open Go.RowKit Go.Proofs.YtejgbdclhlolkaaGreatDoorW.PrintWords Go.Proofs.YtejgbdclhlolkaaGreatDoorW.PrintLast
set_option linter.unusedVariables false
set_option linter.unusedSimpArgs false
theorem wN_pos (i : Nat) (hi : i < 12) : 0 < wN i := by
  have h : ∀ j : Fin 12, 0 < wN j.1 := by decide
  exact h ⟨i, hi⟩
theorem sufB_le (i : Nat) (hi : i < 12) : (sufB i).size ≤ 2 := by
  have h : ∀ j : Fin 12, (sufB j.1).size ≤ 2 := by decide
  exact h ⟨i, hi⟩
end Go.Proofs.YtejgbdclhlolkaaGreatDoor.Q
namespace Go.Proofs.YtejgbdclhlolkaaGreatDoor.Q
open Go.RowKit Go.Proofs.YtejgbdclhlolkaaGreatDoorW.PrintWords Go.Proofs.YtejgbdclhlolkaaGreatDoorW.PrintLast Go.Proofs.YtejgbdclhlolkaaGreatDoorW.PrintMore
attribute [local go_sem] max2_int min2_int max_two min_two max_three min_three max_four min_four   -- for this text's walks alone
set_option linter.unusedVariables false
set_option linter.unusedSimpArgs false
def quant_Of.l0 : Nat → ByteArray → List (S57) → Int → Int → Option (Int × Bool)
|0,_,_,_,_ => none
|k + 1,x1,x8,x9,x10 => if x10 < x9 then (if 0 ≤ x10 then (if x10 < (x8.length : Int) then (if ((rd_T57 x8 x10).f0).toList = x1.toList then (some ((rd_T57 x8 x10).f1,true)) else (quant_Of.l0 k x1 x8 x9 (wrap64 (x10 + 1)))) else (none)) else (none)) else (some (0,false))
def quant_Of.f (k : Nat) (l0 : List (S57)) (a1 : ByteArray) : Option (Int × Bool) := quant_Of.l0 k a1 l0 (l0.length : Int) 0
theorem quant_Of.mono_l : ∀ k, (∀ y0 y1 y2 y3, LeO (quant_Of.l0 k y0 y1 y2 y3) (quant_Of.l0 (k + 1) y0 y1 y2 y3))
|0 => fun _ _ _ _ r h => by simp [quant_Of.l0] at h
|k + 1 => by
  have ih0:=quant_Of.mono_l k
  ·intro y0 y1 y2 y3
   unfold quant_Of.l0
   repeat' first
  |(with_reducible exact ih0 _ _ _ _)
  |(with_reducible exact LeO.refl _)
  |(with_reducible exact LeO.none _)
  |(with_reducible refine LeO.ite ?_ ?_)
  |(with_reducible refine LeO.bind ?_ (fun _ => ?_))
  |exact ih0 _ _ _ _
  |exact LeO.none _
  |refine LeO.ite ?_ ?_
  |refine LeO.bind ?_ (fun _ => ?_)
theorem quant_Of.mono : ∀ a0 a1 k, LeO (quant_Of.f k a0 a1) (quant_Of.f (k + 1) a0 a1) := by
 intro a0 a1 k
 have ih0:=quant_Of.mono_l k
 unfold quant_Of.f
 repeat' first
  |(with_reducible exact ih0 _ _ _ _)
  |(with_reducible exact LeO.refl _)
  |(with_reducible exact LeO.none _)
  |(with_reducible refine LeO.ite ?_ ?_)
  |(with_reducible refine LeO.bind ?_ (fun _ => ?_))
  |exact ih0 _ _ _ _
  |exact LeO.none _
  |refine LeO.ite ?_ ?_
  |refine LeO.bind ?_ (fun _ => ?_)
end Go.Proofs.YtejgbdclhlolkaaGreatDoor.Q
namespace Go.Proofs.YtejgbdclhlolkaaGreatDoor.Q
open Go.RowKit Go.Proofs.YtejgbdclhlolkaaGreatDoorW.PrintWords Go.Proofs.YtejgbdclhlolkaaGreatDoorW.PrintLast Go.Proofs.YtejgbdclhlolkaaGreatDoorW.PrintMore
attribute [local go_sem] max2_int min2_int max_two min_two max_three min_three max_four min_four   -- for this text's walks alone
set_option linter.unusedVariables false
set_option linter.unusedSimpArgs false
def bursarref03_Of.l0 : Nat → List (S57) → ByteArray → Int → Option (Int × Bool)
|0,_,_,_ => none
|k + 1,x0,x1,x6 => if x6 < (x0.length : Int) then (if 0 ≤ x6 then (if ((rd_T57 x0 x6).f0).toList = x1.toList then (some ((rd_T57 x0 x6).f1,true)) else (bursarref03_Of.l0 k x0 x1 (wrap64 (x6 + 1)))) else (none)) else (some (0,false))
def bursarref03_Of.f (k : Nat) (l0 : List (S57)) (a1 : ByteArray) : Option (Int × Bool) := bursarref03_Of.l0 k l0 a1 0
theorem bursarref03_Of.mono_l : ∀ k, (∀ y0 y1 y2, LeO (bursarref03_Of.l0 k y0 y1 y2) (bursarref03_Of.l0 (k + 1) y0 y1 y2))
|0 => fun _ _ _ r h => by simp [bursarref03_Of.l0] at h
|k + 1 => by
  have ih0:=bursarref03_Of.mono_l k
  ·intro y0 y1 y2
   unfold bursarref03_Of.l0
   repeat' first
  |(with_reducible exact ih0 _ _ _)
  |(with_reducible exact LeO.refl _)
  |(with_reducible exact LeO.none _)
  |(with_reducible refine LeO.ite ?_ ?_)
  |(with_reducible refine LeO.bind ?_ (fun _ => ?_))
  |exact ih0 _ _ _
  |exact LeO.none _
  |refine LeO.ite ?_ ?_
  |refine LeO.bind ?_ (fun _ => ?_)
theorem bursarref03_Of.mono : ∀ a0 a1 k, LeO (bursarref03_Of.f k a0 a1) (bursarref03_Of.f (k + 1) a0 a1) := by
 intro a0 a1 k
 have ih0:=bursarref03_Of.mono_l k
 unfold bursarref03_Of.f
 repeat' first
  |(with_reducible exact ih0 _ _ _)
  |(with_reducible exact LeO.refl _)
  |(with_reducible exact LeO.none _)
  |(with_reducible refine LeO.ite ?_ ?_)
  |(with_reducible refine LeO.bind ?_ (fun _ => ?_))
  |exact ih0 _ _ _
  |exact LeO.none _
  |refine LeO.ite ?_ ?_
  |refine LeO.bind ?_ (fun _ => ?_)
end Go.Proofs.YtejgbdclhlolkaaGreatDoor.Q
namespace Go.Proofs.YtejgbdclhlolkaaGreatDoor.Q
open Go.RowKit Go.Proofs.YtejgbdclhlolkaaGreatDoorW.PrintWords Go.Proofs.YtejgbdclhlolkaaGreatDoorW.PrintLast Go.Proofs.YtejgbdclhlolkaaGreatDoorW.PrintMore
attribute [local go_sem] max2_int min2_int max_two min_two max_three min_three max_four min_four   -- for this text's walks alone
set_option linter.unusedVariables false
set_option linter.unusedSimpArgs false
attribute [local go_sem high] eqA57
def bursarlaw03_same.l0 : Nat → List (S57) → List (S57) → Int → Option (Bool)
|0,_,_,_ => none
|k + 1,x0,x1,x5 => if x5 < (x0.length : Int) then (if 0 ≤ x5 then (if x5 < (x1.length : Int) then (if (!((((rd_T57 x0 x5).f0).toList) == (((rd_T57 x1 x5).f0).toList)) || (!(((rd_T57 x0 x5).f1) == ((rd_T57 x1 x5).f1)))) = true then (some false) else (bursarlaw03_same.l0 k x0 x1 (wrap64 (x5 + 1)))) else (none)) else (none)) else (some true)
def bursarlaw03_same.f (k : Nat) (l0 : List (S57)) (l1 : List (S57)) : Option (Bool) := if (l0.length : Int) = (l1.length : Int) then (bursarlaw03_same.l0 k l0 l1 0) else (some false)
theorem bursarlaw03_same.mono_l : ∀ k, (∀ y0 y1 y2, LeO (bursarlaw03_same.l0 k y0 y1 y2) (bursarlaw03_same.l0 (k + 1) y0 y1 y2))
|0 => fun _ _ _ r h => by simp [bursarlaw03_same.l0] at h
|k + 1 => by
  have ih0:=bursarlaw03_same.mono_l k
  ·intro y0 y1 y2
   unfold bursarlaw03_same.l0
   repeat' first
  |(with_reducible exact ih0 _ _ _)
  |(with_reducible exact LeO.refl _)
  |(with_reducible exact LeO.none _)
  |(with_reducible refine LeO.ite ?_ ?_)
  |(with_reducible refine LeO.bind ?_ (fun _ => ?_))
  |exact ih0 _ _ _
  |exact LeO.none _
  |refine LeO.ite ?_ ?_
  |refine LeO.bind ?_ (fun _ => ?_)
theorem bursarlaw03_same.mono : ∀ a0 a1 k, LeO (bursarlaw03_same.f k a0 a1) (bursarlaw03_same.f (k + 1) a0 a1) := by
 intro a0 a1 k
 have ih0:=bursarlaw03_same.mono_l k
 unfold bursarlaw03_same.f
 repeat' first
  |(with_reducible exact ih0 _ _ _)
  |(with_reducible exact LeO.refl _)
  |(with_reducible exact LeO.none _)
  |(with_reducible refine LeO.ite ?_ ?_)
  |(with_reducible refine LeO.bind ?_ (fun _ => ?_))
  |exact ih0 _ _ _
  |exact LeO.none _
  |refine LeO.ite ?_ ?_
  |refine LeO.bind ?_ (fun _ => ?_)
end Go.Proofs.YtejgbdclhlolkaaGreatDoor.Q
namespace Go.Proofs.YtejgbdclhlolkaaGreatDoor.Q
open Go.RowKit Go.Proofs.YtejgbdclhlolkaaGreatDoorW.PrintWords Go.Proofs.YtejgbdclhlolkaaGreatDoorW.PrintLast
set_option linter.unusedVariables false
set_option linter.unusedSimpArgs false
def markS : S57 := ⟨⟨#[109, 97, 114, 107]⟩, 77⟩
def bursarlaw03_behind.f (l0 : List S57) : Option (List S57) := if l0.length ≤ 4000000000 then some (l0 ++ [markS]) else none
end Go.Proofs.YtejgbdclhlolkaaGreatDoor.Q
namespace Go.Proofs.YtejgbdclhlolkaaGreatDoor.Q
open Go.RowKit Go.Proofs.YtejgbdclhlolkaaGreatDoorW.PrintWords Go.Proofs.YtejgbdclhlolkaaGreatDoorW.PrintLast
attribute [local go_sem high] eqA57
set_option linter.unusedVariables false
set_option linter.unusedSimpArgs false
def bursarlaw03_untouched.f (k : Nat) (l0 l1 : List S57) : Option Bool :=
  if 4000000000 < l1.length then none else if l0.length = l1.length + 1 then ((bursarlaw03_same.f k (l0.take l1.length) l1).bind fun t => if t = true then some ((rd_T57 l0 (l1.length : Int)).f0.toList == (⟨#[109, 97, 114, 107]⟩ : ByteArray).toList && ((rd_T57 l0 (l1.length : Int)).f1 == 77)) else some false) else some false
theorem bursarlaw03_untouched.mono : ∀ a0 a1 k, LeO (bursarlaw03_untouched.f k a0 a1) (bursarlaw03_untouched.f (k + 1) a0 a1) := by
  intro a0 a1 k
  unfold bursarlaw03_untouched.f
  repeat' first
    | exact LeO.refl _
    | refine LeO.ite ?_ ?_
    | (refine LeO.bind (bursarlaw03_same.mono _ _ _) (fun _ => ?_))
end Go.Proofs.YtejgbdclhlolkaaGreatDoor.Q
namespace Go.Proofs.YtejgbdclhlolkaaGreatDoor.Q
open Go.RowKit Go.Proofs.YtejgbdclhlolkaaGreatDoorW.PrintWords Go.Proofs.YtejgbdclhlolkaaGreatDoorW.PrintLast
set_option linter.unusedVariables false
set_option linter.unusedSimpArgs false
theorem wl (i : Nat) (h : i < 9223372036854775807) : wrap64 ((i : Int) + 1) = ((i + 1 : Nat) : Int) := by unfold wrap64; omega
end Go.Proofs.YtejgbdclhlolkaaGreatDoor.Q
namespace Go.Proofs.YtejgbdclhlolkaaGreatDoor.Q
open Go.RowKit Go.Proofs.YtejgbdclhlolkaaGreatDoorW.PrintWords Go.Proofs.YtejgbdclhlolkaaGreatDoorW.PrintLast Go.Proofs.LongLaw
set_option linter.unusedVariables false
set_option linter.unusedSimpArgs false
def sufL : List S87 := [⟨(⟨#[109]⟩ : ByteArray), ⟨[1]⟩⟩,
  ⟨(⟨#[]⟩ : ByteArray), ⟨[0, 0, 0, 1]⟩⟩,
  ⟨(⟨#[107]⟩ : ByteArray), ⟨[0, 0, 0, 0, 0, 0, 1]⟩⟩,
  ⟨(⟨#[77]⟩ : ByteArray), ⟨[0, 0, 0, 0, 0, 0, 0, 0, 0, 1]⟩⟩,
  ⟨(⟨#[71]⟩ : ByteArray), ⟨[0, 0, 0, 0, 0, 0, 0, 0, 0, 0, 0, 0, 1]⟩⟩,
  ⟨(⟨#[84]⟩ : ByteArray), ⟨[0, 0, 0, 0, 0, 0, 0, 0, 0, 0, 0, 0, 0, 0, 0, 1]⟩⟩,
  ⟨(⟨#[80]⟩ : ByteArray), ⟨[0, 0, 0, 0, 0, 0, 0, 0, 0, 0, 0, 0, 0, 0, 0, 0, 0, 0, 1]⟩⟩,
  ⟨(⟨#[75, 105]⟩ : ByteArray), ⟨[0, 0, 0, 4, 2, 0, 1]⟩⟩,
  ⟨(⟨#[77, 105]⟩ : ByteArray), ⟨[0, 0, 0, 6, 7, 5, 8, 4, 0, 1]⟩⟩,
  ⟨(⟨#[71, 105]⟩ : ByteArray), ⟨[0, 0, 0, 4, 2, 8, 1, 4, 7, 3, 7, 0, 1]⟩⟩,
  ⟨(⟨#[84, 105]⟩ : ByteArray), ⟨[0, 0, 0, 6, 7, 7, 7, 2, 6, 1, 1, 5, 9, 9, 0, 1]⟩⟩,
  ⟨(⟨#[80, 105]⟩ : ByteArray), ⟨[0, 0, 0, 4, 2, 6, 2, 4, 8, 6, 0, 9, 9, 9, 8, 5, 2, 1, 1]⟩⟩]
set_option maxRecDepth 100000 in
theorem suf_at : bursarref03_suffixes.f 400 = some sufL := by kernel_rfl
theorem suffixes_ev : Ev (fun k => bursarref03_suffixes.f k) sufL := Ev.of (fun k => bursarref03_suffixes.mono k) suf_at
def unitR (i : Nat) : Nat := [10, 11, 5, 6, 7, 8, 9, 0, 1, 2, 3, 4].getD i 0
theorem long_lit (l : List Int) (n : Nat) (h : ∀ x ∈ l, 0 ≤ x ∧ x ≤ 9) (h1 : l.getD (l.length - 1) 0 ≠ 0) (e : (dval l).toNat = n) : l = longL n := by
  rw [← e]
  exact (longL_dval h (.inr h1)).symm
theorem suf_get (i : Nat) (hi : i < 12) : (rd_T87 sufL (i : Int)).f0 = sufB (unitR i) ∧ (rd_T87 sufL (i : Int)).f1.f0 = longL (wN (unitR i)) ∧ unitR i < 12 := by
  obtain rfl | rfl | rfl | rfl | rfl | rfl | rfl | rfl | rfl | rfl | rfl | rfl : i = 0 ∨ i = 1 ∨ i = 2 ∨ i = 3 ∨ i = 4 ∨ i = 5 ∨ i = 6 ∨ i = 7 ∨ i = 8 ∨ i = 9 ∨ i = 10 ∨ i = 11 := by omega
  · exact ⟨rfl, long_lit [1] _ (by decide) (by decide) (by kernel_rfl), by decide⟩
  · exact ⟨rfl, long_lit [0, 0, 0, 1] _ (by decide) (by decide) (by kernel_rfl), by decide⟩
  · exact ⟨rfl, long_lit [0, 0, 0, 0, 0, 0, 1] _ (by decide) (by decide) (by kernel_rfl), by decide⟩
  · exact ⟨rfl, long_lit [0, 0, 0, 0, 0, 0, 0, 0, 0, 1] _ (by decide) (by decide) (by kernel_rfl), by decide⟩
  · exact ⟨rfl, long_lit [0, 0, 0, 0, 0, 0, 0, 0, 0, 0, 0, 0, 1] _ (by decide) (by decide) (by kernel_rfl), by decide⟩
  · exact ⟨rfl, long_lit [0, 0, 0, 0, 0, 0, 0, 0, 0, 0, 0, 0, 0, 0, 0, 1] _ (by decide) (by decide) (by kernel_rfl), by decide⟩
  · exact ⟨rfl, long_lit [0, 0, 0, 0, 0, 0, 0, 0, 0, 0, 0, 0, 0, 0, 0, 0, 0, 0, 1] _ (by decide) (by decide) (by kernel_rfl), by decide⟩
  · exact ⟨rfl, long_lit [0, 0, 0, 4, 2, 0, 1] _ (by decide) (by decide) (by kernel_rfl), by decide⟩
  · exact ⟨rfl, long_lit [0, 0, 0, 6, 7, 5, 8, 4, 0, 1] _ (by decide) (by decide) (by kernel_rfl), by decide⟩
  · exact ⟨rfl, long_lit [0, 0, 0, 4, 2, 8, 1, 4, 7, 3, 7, 0, 1] _ (by decide) (by decide) (by kernel_rfl), by decide⟩
  · exact ⟨rfl, long_lit [0, 0, 0, 6, 7, 7, 7, 2, 6, 1, 1, 5, 9, 9, 0, 1] _ (by decide) (by decide) (by kernel_rfl), by decide⟩
  · exact ⟨rfl, long_lit [0, 0, 0, 4, 2, 6, 2, 4, 8, 6, 0, 9, 9, 9, 8, 5, 2, 1, 1] _ (by decide) (by decide) (by kernel_rfl), by decide⟩
theorem suf_len : sufL.length = 12 := rfl
def revB (l : List Int) : List UInt8 := l.reverse.map (fun d => UInt8.ofNat (48 + d.toNat))
theorem revB_snoc (l : List Int) (x : Int) : revB (l ++ [x]) = UInt8.ofNat (48 + x.toNat) :: revB l := by
  unfold revB
  rw [List.reverse_append]
  rfl
theorem revB_cons (l : List Int) (x : Int) : revB (x :: l) = revB l ++ [UInt8.ofNat (48 + x.toNat)] := by
  unfold revB
  rw [List.reverse_cons, List.map_append]
  rfl
theorem dec_rev (n : Nat) (h : n ≠ 0) : Lib.decDigits n = revB (longL n) := by
  induction n using Nat.strongRecOn with
  | _ n ih =>
    rw [longL_pos n h, revB_cons, Int.toNat_natCast]
    by_cases h1 : n < 10
    · rw [dec_small h1, show n / 10 = 0 by omega, longL_zero, show n % 10 = n by omega]
      rfl
    · rw [dec_big (by omega), ih (n / 10) (by omega) (by omega)]
theorem ext_dig (d : Nat) (h : d < 10) : (⟨#[48, 49, 50, 51, 52, 53, 54, 55, 56, 57]⟩ : ByteArray).extract d (d + 1) = ⟨#[UInt8.ofNat (48 + d)]⟩ := by
  obtain rfl | rfl | rfl | rfl | rfl | rfl | rfl | rfl | rfl | rfl : d = 0 ∨ d = 1 ∨ d = 2 ∨ d = 3 ∨ d = 4 ∨ d = 5 ∨ d = 6 ∨ d = 7 ∨ d = 8 ∨ d = 9 := by omega
  all_goals rfl
theorem text_l0 (L : List Int) (hD : Digits L) (hl : L.length < 100000) : ∀ (j : Nat) (s : ByteArray), j ≤ L.length → s.size + j ≤ 200000 → Ev (fun k => bursarref03_Long_text.l0 k s ((j : Int) - 1) L) ⟨(s.data.toList ++ revB (L.take j)).toArray⟩ := by
  intro j
  induction j with
  | zero =>
    intro s hj hs
    have e : (⟨(s.data.toList ++ revB (L.take 0)).toArray⟩ : ByteArray) = s := by cases s; simp [revB]
    rw [e]
    refine Ev.step (f := fun _ => some s) (fun k => ?_) (Ev.now _)
    simp only [bursarref03_Long_text.l0]
    rw [if_neg (by omega)]
  | succ j ih =>
    intro s hj hs
    have g := digits_get hD j
    obtain ⟨d, hd⟩ : ∃ d : Nat, L.getD j 0 = d := ⟨(L.getD j 0).toNat, by omega⟩
    have hd10 : d < 10 := by omega
    have hsz : (s ++ (⟨#[UInt8.ofNat (48 + d)]⟩ : ByteArray)).size = s.size + 1 := by rw [ByteArray.size_append]; rfl
    have key := ih (s ++ (⟨#[UInt8.ofNat (48 + d)]⟩ : ByteArray)) (by omega) (by omega)
    have e : (s ++ (⟨#[UInt8.ofNat (48 + d)]⟩ : ByteArray)).data.toList ++ revB (L.take j) = s.data.toList ++ revB (L.take (j + 1)) := by
      have hg : L[j]'(by omega) = (d : Int) := by rw [← hd, List.getD_eq_getElem?_getD, List.getElem?_eq_getElem (by omega)]; rfl
      rw [List.take_succ_eq_append_getElem (by omega), hg, revB_snoc, Int.toNat_natCast, ByteArray.data_append, Array.toList_append, List.append_assoc]
      rfl
    rw [e] at key
    refine Ev.step (fun k => ?_) key
    simp only [bursarref03_Long_text.l0]
    rw [show (((j + 1 : Nat) : Int) - 1) = (j : Int) by omega, if_pos (by omega), if_pos (by omega), if_pos (by omega), rd_nat, hd, w64_in (i := (d : Int) + 1) (by omega) (by omega), if_pos (by omega), if_pos (by omega), if_pos (by omega), Int.toNat_natCast, show ((d : Int) + 1).toNat = d + 1 by omega, ext_dig d hd10, if_pos (by rw [show (⟨#[UInt8.ofNat (48 + d)]⟩ : ByteArray).size = 1 from rfl]; omega), w64_in (i := (j : Int) - 1) (by omega) (by omega)]
theorem text_ev (n : Nat) (hl : (longL n).length < 100000) : Ev (fun k => bursarref03_Long_text.f k (longL n)) (numeral n) := by
  by_cases h : n = 0
  · subst h
    rw [longL_zero]
    refine Ev.congr (f := fun _ => some (numeral 0)) (fun k => ?_) (Ev.now _)
    unfold bursarref03_Long_text.f
    rw [if_pos (show (([] : List Int).length : Int) = 0 from rfl)]
    unfold numeral
    rw [dec_small (by decide)]
    rfl
  · have hp : 0 < (longL n).length := by rw [longL_pos n h, List.length_cons]; omega
    have key := text_l0 (longL n) (longL_digits n) hl (longL n).length ⟨#[]⟩ (Nat.le_refl _) (by show 0 + _ ≤ 200000; omega)
    rw [List.take_length] at key
    have e : (⟨((⟨#[]⟩ : ByteArray).data.toList ++ revB (longL n)).toArray⟩ : ByteArray) = numeral n := by
      unfold numeral
      rw [dec_rev n h]
      rfl
    rw [e] at key
    refine Ev.congr (fun k => ?_) key
    unfold bursarref03_Long_text.f
    rw [if_neg (by omega), w64_in (by omega) (by omega)]
theorem long19 {n : Nat} (h : n ≤ 9223372036854775807) : (longL n).length ≤ 19 := longL_le 19 n (by omega)
theorem wN_le (i : Nat) (hi : i < 12) : wN i ≤ 9223372036854775807 := by
  have h : ∀ j : Fin 12, wN j.1 ≤ 9223372036854775807 := by decide
  exact h ⟨i, hi⟩
def stepF (v i : Nat) (f : ByteArray) : ByteArray := if v % wN (unitR i) = 0 then txt v (unitR i) else f
theorem rp_step (v : Nat) (hv : v ≤ 9223372036854775807) (i : Nat) (hi : i < 12) (f s R : ByteArray)
    (h : Ev (fun k => bursarref03_Print.l0 k (v : Int) sufL (if i < 7 then stepF v i f else f) (if i < 7 then s else stepF v i s) ((i + 1 : Nat) : Int)) R) :
    Ev (fun k => bursarref03_Print.l0 k (v : Int) sufL f s (i : Int)) R := by
  obtain ⟨e0, e1, hu⟩ := suf_get i hi
  have hw := wN_pos (unitR i) hu
  have hwl := long19 (wN_le (unitR i) hu)
  have hvl := long19 hv
  have hs2 := sufB_le (unitR i) hu
  have hq := Nat.div_le_self v (wN (unitR i))
  have hql : (longL (v / wN (unitR i))).length ≤ 19 := long19 (by omega)
  have hnq : nd (v / wN (unitR i)) ≤ 19 := nd19 (by omega)
  have hir : (i : Int) < (sufL.length : Int) := by rw [suf_len]; omega
  have hi0 : (0 : Int) ≤ (i : Int) := by omega
  have hwl1 := wl i (by omega)
  have htx : numeral (v / wN (unitR i)) ++ sufB (unitR i) = txt v (unitR i) := rfl
  generalize hj : unitR i = j at *
  refine Ev.step (f := fun k => (bursarref03_long.f k (v : Int)).bind fun t => (bursarref03_Long_by.f k t (longL (wN j))).bind fun bt => (if (bt.2.length : Int) > 0 then (bursarref03_Print.l0 k (v : Int) sufL f s ((i + 1 : Nat) : Int)) else (if (i : Int) < 7 then ((bursarref03_Long_text.f k bt.1).bind fun t => (if t.size + (sufB j).size ≤ 9223372036854775807 then (bursarref03_Print.l0 k (v : Int) sufL (t ++ sufB j) s ((i + 1 : Nat) : Int)) else none)) else ((bursarref03_Long_text.f k bt.1).bind fun t => (if t.size + (sufB j).size ≤ 9223372036854775807 then (bursarref03_Print.l0 k (v : Int) sufL f (t ++ sufB j) ((i + 1 : Nat) : Int)) else none))))) (fun k => ?_) (Ev.bind (long_ev v hv) (Ev.bind (by_ev v (wN j) hw (by omega) (by omega)) ?_))
  · simp only [bursarref03_Print.l0]
    rw [if_pos hir, hwl1, e0, e1]
    congr 1 <;> (funext t; rw [if_pos hi0])
  · unfold stepF at h
    rw [hj] at h
    by_cases hm : v % wN j = 0
    · rw [if_pos hm, if_pos hm] at h
      rw [hm, longL_zero]
      refine Ev.congr (fun k => if_neg (show ¬ ((([] : List Int).length : Int) > 0) by decide)) ?_
      by_cases h7 : i < 7
      · rw [if_pos h7, if_pos h7] at h
        refine Ev.congr (fun k => if_pos (by omega)) (Ev.bind (text_ev _ (by omega)) (Ev.congr (fun k => if_pos (by rw [numeral_size]; omega)) ?_))
        rw [htx]
        exact h
      · rw [if_neg h7, if_neg h7] at h
        refine Ev.congr (fun k => if_neg (by omega)) (Ev.bind (text_ev _ (by omega)) (Ev.congr (fun k => if_pos (by rw [numeral_size]; omega)) ?_))
        rw [htx]
        exact h
    · rw [if_neg hm, if_neg hm] at h
      have hp : ((longL (v % wN j)).length : Int) > 0 := by rw [longL_pos _ hm, List.length_cons]; omega
      refine Ev.congr (fun k => if_pos hp) ?_
      by_cases h7 : i < 7
      · rw [if_pos h7, if_pos h7] at h; exact h
      · rw [if_neg h7, if_neg h7] at h; exact h
theorem form_or (v : Nat) : ∀ (l : List S66) (b : ByteArray), formG v l b = if (formG v l ⟨#[]⟩).toList = ([] : List UInt8) then b else formG v l ⟨#[]⟩
  | [], b => by
    unfold formG
    rw [if_pos ((bytes_empty_iff _).2 rfl)]
  | u :: r, b => by
    unfold formG
    by_cases h : v % u.f1.toNat = 0
    · rw [if_pos h, if_pos h, form_or v r]
      have hne : (numeral (v / u.f1.toNat) ++ u.f0).toList ≠ [] := by
        rw [Ne, bytes_empty_iff, ByteArray.size_append, numeral_size]
        have := nd_pos (v / u.f1.toNat)
        omega
      by_cases h2 : (formG v r ⟨#[]⟩).toList = ([] : List UInt8)
      · rw [if_pos h2, if_neg hne]
      · rw [if_neg h2, if_neg h2]
    · rw [if_neg h, if_neg h]
      exact form_or v r b
theorem tens_eq (v : Nat) (h : v % 1000 = 0) : formG v tensL (stepF v 1 ⟨#[]⟩) = tensOf (v : Int) (formG v tensL ⟨#[]⟩) := by
  have e : stepF v 1 ⟨#[]⟩ = numeral (v / 1000) := by
    show (if v % 1000 = 0 then txt v 11 else _) = _
    rw [if_pos h]
    exact ByteArray.ext (by show (numeral (v / 1000) ++ (⟨#[]⟩ : ByteArray)).data = _; rw [ByteArray.data_append]; simp)
  rw [e, form_or v tensL (numeral (v / 1000))]
  unfold tensOf
  rw [show ((v : Int) / 1000).toNat = v / 1000 by omega]
theorem refPrint_ev (v : Nat) (hv : v ≤ 9223372036854775807) : Ev (fun k => bursarref03_Print.f k (v : Int)) (printP v) := by
  have ht : Int.tmod (v : Int) 1000 = ((v % 1000 : Nat) : Int) := by rw [Int.tmod_eq_emod_of_nonneg (by omega)]; omega
  have hvl := long19 hv
  have hvn := nd19 hv
  unfold printP
  by_cases h1 : v % 1000 = 0
  · rw [if_neg (by omega)]
    by_cases h2 : v = 0
    · rw [if_pos h2]
      refine Ev.congr (f := fun _ => some (⟨#[48]⟩ : ByteArray)) (fun k => ?_) (Ev.now _)
      unfold bursarref03_Print.f
      rw [if_neg (by omega), ht, if_pos (by omega), if_pos (by omega)]
    · rw [if_neg h2]
      refine Ev.congr (f := fun k => (bursarref03_suffixes.f k).bind fun t => bursarref03_Print.l0 k (v : Int) t ⟨#[]⟩ ⟨#[]⟩ 1) (fun k => ?_) (Ev.bind suffixes_ev ?_)
      · unfold bursarref03_Print.f
        rw [if_neg (by omega), ht, if_pos (by omega), if_neg (by omega)]
      · rw [← tens_eq v h1]
        refine rp_step v hv 1 (by decide) _ _ _ (rp_step v hv 2 (by decide) _ _ _ (rp_step v hv 3 (by decide) _ _ _ (rp_step v hv 4 (by decide) _ _ _ (rp_step v hv 5 (by decide) _ _ _ (rp_step v hv 6 (by decide) _ _ _ (rp_step v hv 7 (by decide) _ _ _ (rp_step v hv 8 (by decide) _ _ _ (rp_step v hv 9 (by decide) _ _ _ (rp_step v hv 10 (by decide) _ _ _ (rp_step v hv 11 (by decide) _ _ _ ?_))))))))))
        show Ev (fun k => bursarref03_Print.l0 k (v : Int) sufL (formG v tensL (stepF v 1 ⟨#[]⟩)) (formG v twosL ⟨#[]⟩) ((12 : Nat) : Int)) _
        generalize formG v tensL (stepF v 1 ⟨#[]⟩) = F
        generalize formG v twosL ⟨#[]⟩ = S
        refine Ev.step (f := fun _ => some (pickP F S)) (fun k => ?_) (Ev.now _)
        simp only [bursarref03_Print.l0]
        rw [suf_len, if_neg (by omega)]
        unfold pickP
        by_cases h3 : S.toList = ([] : List UInt8)
        · rw [if_pos h3, if_pos h3]
        · rw [if_neg h3, if_neg h3]
          by_cases h4 : S.size < F.size
          · rw [if_pos (by omega), if_pos h4]
          · rw [if_neg (by omega), if_neg h4]
  · rw [if_pos h1]
    refine Ev.congr (f := fun k => (bursarref03_long.f k (v : Int)).bind fun t => (bursarref03_Long_text.f k t).bind fun t => if t.size + 1 ≤ 9223372036854775807 then some (t ++ (⟨#[109]⟩ : ByteArray)) else none) (fun k => ?_) (Ev.bind (long_ev v hv) (Ev.bind (text_ev v (by omega)) (Ev.congr (f := fun _ => some (txt v 10)) (fun k => ?_) (Ev.now _))))
    · unfold bursarref03_Print.f
      rw [if_neg (by omega), ht, if_neg (by omega)]
    · rw [if_pos (by rw [numeral_size]; omega)]
      unfold txt
      rw [show wN 10 = 1 from rfl, Nat.div_one]
      rfl
end Go.Proofs.YtejgbdclhlolkaaGreatDoor.Q
namespace Go.Proofs.YtejgbdclhlolkaaGreatDoor.Pure
open Go.RowKit Go.Proofs.YtejgbdclhlolkaaGreatDoorW.PrintWords Go.Proofs.YtejgbdclhlolkaaGreatDoorW.PrintLast Go.Proofs.YtejgbdclhlolkaaGreatDoor.Q
set_option linter.unusedVariables false
set_option linter.unusedSimpArgs false
theorem in64p {a : Int} (h : (Lit.int .i64 a).wf = true) : -9223372036854775808 ≤ a ∧ a ≤ 9223372036854775807 := by
  simp only [Lit.wf, IntKind.min, IntKind.max, IntKind.signed, IntKind.bits, Bool.and_eq_true, decide_eq_true_eq, if_true] at h
  omega
theorem QuantPrints (a : Int) (ha : (Lit.int .i64 a).wf = true) : ∃ k, bursarlaw03_QuantPrints.f k a = some true := by
  have h1 := in64p ha
  refine Ev.rounds ?_
  refine Ev.bind known_ev (Ev.congr (fun k => if_pos rfl) ?_)
  by_cases hneg : a < 0
  · have hp : Ev (fun k => quant_Print.f k a) (⟨#[]⟩ : ByteArray) := Ev.congr (f := fun _ => some (⟨#[]⟩ : ByteArray)) (fun k => by unfold quant_Print.f; rw [if_pos hneg]) (Ev.now _)
    have hr : Ev (fun k => bursarref03_Print.f k a) (⟨#[]⟩ : ByteArray) := Ev.congr (f := fun _ => some (⟨#[]⟩ : ByteArray)) (fun k => by unfold bursarref03_Print.f; rw [if_pos hneg]) (Ev.now _)
    refine Ev.bind hp (Ev.bind hr (Ev.congr (f := fun _ => some true) (fun k => ?_) (Ev.now _)))
    rw [beq_self_eq_true]
  · obtain ⟨v, rfl⟩ : ∃ v : Nat, a = v := ⟨a.toNat, by omega⟩
    refine Ev.bind (print_ev v (by omega)) (Ev.bind (refPrint_ev v (by omega)) (Ev.congr (f := fun _ => some true) (fun k => ?_) (Ev.now _)))
    rw [beq_self_eq_true]
end Go.Proofs.YtejgbdclhlolkaaGreatDoor.Pure
namespace Go.Proofs.YtejgbdclhlolkaaGreatDoor.Q
open Go.RowKit Go.Lib Go.ChangeShapes Go.Proofs.YtejgbdclhlolkaaGreatDoorW.PrintWords Go.Proofs.YtejgbdclhlolkaaGreatDoorW.PrintLast
set_option linter.unusedVariables false
set_option linter.unusedSimpArgs false
theorem laid_one {P : Program} {w : World} {l : List (String × DataW Unit)} {n : String} {d : DataW Unit} (h : laidMetH P l w) (hl : (l.filter fun x => x.1 == n) = [(n, d)]) (hd : d.handleName? = none) : laidMet P [(n, d)] w := by
  have h1 := h.filter (fun x => x.1 == n)
  rw [hl] at h1
  have h2 := (laidMetH_iff.1 h1).1
  have e : ([(n, d)] : List (String × DataW Unit)).filter (fun x => x.2.handleName?.isNone) = [(n, d)] := by simp [List.filter_cons, hd]
  rw [e] at h2
  exact h2
theorem struct_si {H : Type} {enc : TypeId × Value → H} {P : Program} {w : World} {base : Nat} {sp : Nat → Bool} {held : Bool} {fuel : Nat} {t : TypeId} {f0 f1 : Field} {k : IntKind} {cs : List Value} {l : List UInt8} {v : Int} {p : List MemPlace}
    (ht : P.underlying t = some (.struct #[f0, f1])) (h0 : P.underlying f0.type = some .string) (h1 : P.underlying f1.type = some (.int k)) (o0 : f0.offset = 0) (o1 : f1.offset = 1) (c0 : P.cellsOf f0.type = 1) (c1 : P.cellsOf f1.type = 1) (c : P.cellsOf t = 2)
    (h : DataW.trod enc P w base sp held fuel t cs = some (.agg [.lit (.string l), .lit (.int k v)], p)) : cs = [.string ⟨l.toArray⟩, .int k v] := by
  obtain ⟨y0, y1, n, hx, hl, e0, e1⟩ := trod_struct2 ht h
  rw [o0, c0] at e0
  rw [o1, c1] at e1
  rw [c] at hl
  injection hx with hx _
  injection hx with hx
  injection hx with hx0 hx
  injection hx with hx1 _
  match cs, hl with
  | [a, b], _ =>
    simp only [List.drop_zero, List.take_succ_cons, List.take_zero, List.drop_succ_cons] at e0 e1
    obtain ⟨s, hs, rfl, _⟩ := DataW.trod_string h0 e0
    obtain ⟨z, hz, rfl, _⟩ := DataW.trod_int h1 e1
    injection hs with hs _
    injection hz with hz _
    subst hs hz
    simp only [DataW.lit.injEq, Lit.string.injEq, Lit.int.injEq, true_and] at hx0 hx1
    subst hx0 hx1
    rfl
theorem arr_at {H : Type} {enc : TypeId × Value → H} {P : Program} {w : World} {base : Nat} {sp : Nat → Bool} {held : Bool} {fuel : Nat} {t e : TypeId} {n : Nat} {cs : List Value} {ds : List (DataW H)} {p : List MemPlace}
    (ht : P.underlying t = some (.array n e)) (h : DataW.trod enc P w base sp held fuel t cs = some (.agg ds, p)) (i : Nat) (hi : i < n) : ∃ f d q, ds[i]? = some d ∧ DataW.trod enc P w base sp held f e ((cs.drop (i * P.cellsOf e)).take (P.cellsOf e)) = some (d, q) := by
  cases fuel with
  | zero => simp [DataW.trod] at h
  | succ fuel =>
    simp only [DataW.trod, ht] at h
    split at h
    · obtain ⟨xs, hm, hx⟩ := Option.map_eq_some_iff.1 h
      injection hx with hx _
      injection hx with hx
      obtain ⟨b, hb, hf⟩ := mapM_at hm i i (by simp [hi])
      exact ⟨fuel, b.1, b.2, by rw [← hx]; simp [hb], hf⟩
    · cases h
theorem units_laid {w : World} (h : laidMet Tryz.prog [("bursar/quant.units", Rows.laid_bursar_quant_units)] w) : ∀ j x, unitCells[j]? = some x → w.cell? ⟨1, j, none⟩ = some x := by
  obtain ⟨ps, ⟨g', t', cs, fuel, p, q, hg', ht', hvar, hd, _, _⟩, _⟩ := h
  obtain rfl : g' = 1 := Option.some.inj (hg'.symm.trans (by kernel_rfl))
  obtain rfl : t' = 67 := Option.some.inj (ht'.symm.trans (by kernel_rfl))
  intro j x hx
  rw [World.var?_cell hg' hvar j]
  have hj : j < 24 := (List.getElem?_eq_some_iff.1 hx).1
  obtain ⟨f, d, q', hd1, hd2⟩ := arr_at Tryz.underlying67 hd (j / 2) (by omega)
  rw [show Tryz.prog.cellsOf 66 = 2 by kernel_rfl] at hd2
  have key : ∀ (l : List UInt8) (v : Int), d = .agg [.lit (.string l), .lit (.int .u64 v)] → ((cs.toList.drop (j / 2 * 2)).take 2) = [.string ⟨l.toArray⟩, .int .u64 v] := fun l v e => by
    subst e
    exact struct_si Tryz.underlying66 Tryz.underlying9 Tryz.underlying36 rfl rfl (by kernel_rfl) (by kernel_rfl) (by kernel_rfl) hd2
  have get : ∀ (a b : Value), ((cs.toList.drop (j / 2 * 2)).take 2) = [a, b] → cs[j]? = if j % 2 = 0 then some a else some b := fun a b e => by
    have e1 : ((cs.toList.drop (j / 2 * 2)).take 2)[j % 2]? = [a, b][j % 2]? := by rw [e]
    rw [List.getElem?_take_of_lt (by omega), List.getElem?_drop, show j / 2 * 2 + j % 2 = j by omega, Array.getElem?_toList] at e1
    rw [e1]
    obtain h | h : j % 2 = 0 ∨ j % 2 = 1 := by omega
    · rw [h]; rfl
    · rw [h]; rfl
  obtain rfl | rfl | rfl | rfl | rfl | rfl | rfl | rfl | rfl | rfl | rfl | rfl | rfl | rfl | rfl | rfl | rfl | rfl | rfl | rfl | rfl | rfl | rfl | rfl : j = 0 ∨ j = 1 ∨ j = 2 ∨ j = 3 ∨ j = 4 ∨ j = 5 ∨ j = 6 ∨ j = 7 ∨ j = 8 ∨ j = 9 ∨ j = 10 ∨ j = 11 ∨ j = 12 ∨ j = 13 ∨ j = 14 ∨ j = 15 ∨ j = 16 ∨ j = 17 ∨ j = 18 ∨ j = 19 ∨ j = 20 ∨ j = 21 ∨ j = 22 ∨ j = 23 := by omega
  all_goals
    rw [get _ _ (key _ _ (Option.some.inj hd1).symm)]
    exact hx
theorem tab_laid {w : World} (h : laidMet Tryz.prog [("internal/strconv.uint64pow10", Rows.laid_internal_strconv_uint64pow10)] w) : Lib.TabIs Tryz.prog w "internal/strconv.uint64pow10" .u64 Lib.pow10Tab :=
  Lib.tabIs_of_head (g := 4) (t := 130) (e := 36) (n := 20) (by kernel_rfl) (by kernel_rfl) Tryz.underlying130 Tryz.underlying36 (by kernel_rfl) (by kernel_rfl) h
theorem glob_of {W : World} (hsh : W.ShapedOpen Tryz.prog) (h : laidMetH Tryz.prog Rows.quantSumsRow.laid W) : Glob W :=
  ⟨Tryz.laysM146.s1_3 W hsh, tab_laid (laid_one h rfl rfl), units_laid (laid_one h rfl rfl)⟩
end Go.Proofs.YtejgbdclhlolkaaGreatDoor.Q
namespace Go.Proofs.YtejgbdclhlolkaaGreatDoor.quantPrints
open Go.ChangeShapes Go.WideShapes Go.ChangeAt Go.RowKit
open Go.ChangeMaps (open_string shut_string)
set_option linter.unusedVariables false
set_option linter.unusedSimpArgs false
theorem own : ownKnob Tryz.prog.godebug = none := by kernel_rfl
set_option maxRecDepth 100000 in
theorem contract (H : Type) (enc : TypeId × Value → H) (W : World) (base : Nat) (args : Array Value) (ds gs : List (DataW H)) (before : List MemPlace)
    (hval0 : ∀ (j : Nat) t v, Tryz.f4.params[j]? = some t → args[j]? = some v → Value.okWide Tryz.prog W .any base t v)
    (hW : DataW.Whole enc Tryz.prog Tryz.f4.params.toList Rows.quantPrintsSpec.vars false W args.toList ds gs before)
    (hsz0 : (DataW.weightsEach Tryz.prog (Tryz.f4.params.toList ++ (OpenSpec.ofChange Rows.quantPrintsSpec).bare.plain.varTypes Tryz.prog) (ds ++ gs)).all (· ≤ reachBytes) = true)
    (hsh : W.ShapedOpen Tryz.prog)
    (hl : laidMetH Tryz.prog Rows.quantPrintsRow.laid W)
    : Calls Tryz.prog 4 args W fun e W' => ∃ v, e = .returned v ∧ Rows.quantPrintsSpec.post enc Tryz.prog Tryz.f4 false true false false W args v W' := by
  have hsz : (DataW.weightsEach Tryz.prog (Tryz.f4.params.toList ++ Rows.quantPrintsSpec.plain.varTypes Tryz.prog) (ds ++ gs)).all (· ≤ reachBytes) = true := hsz0
  have hval : ∀ (j : Nat) t v, Tryz.f4.params[j]? = some t → args[j]? = some v → Value.okWide Tryz.prog W .any base t v := hval0
  have hW' := hW
  obtain ⟨p, q, hA0, hV, rfl, hfz, hnd⟩ := hW
  have hA : DataW.TrodAll enc Tryz.prog W 0 (fun _ => true) true Tryz.f4.params.toList args.toList ds p := hA0
  rw [Tryz.params4] at hA hval hsz
  obtain ⟨v0, vs0, d0, ds0, p0, q0, hargs, rfl, rfl, h0, r0⟩ := trodAll_cons hA
  obtain ⟨rfl, rfl, rfl⟩ := trodAll_nil r0
  obtain rfl : args = #[v0] := by cases args; simp_all
  obtain ⟨rfl, rfl⟩ := trodVars_none hV
  obtain ⟨a0, rfl, rfl, rfl, w0⟩ := open_int Tryz.underlying2 (hval 0 2 v0 rfl rfl) h0
  obtain ⟨k, hp⟩ := Pure.QuantPrints a0 w0
  refine (Q.bursarlaw03_QuantPrints.calls k a0 true W  hp (Q.glob_of hsh hl)).mono fun e W' ⟨he, bel⟩ => ?_
  subst he
  exact ⟨_, rfl, _, _, _, [], _, [], hW', trodAll_mk1 (shut_bool Tryz.underlying4 _), (trodAll_cons_mk (shut_int Tryz.underlying2 w0) trodAll_mk0), rfl, bel.frame _, fun h => by cases h⟩
noncomputable def tab1 : Obj → Obj
  | .cells _ t frozen => .cells (Go.Pinned.utf8FirstZ.map fun (n : Nat) => Value.int .u8 (n : Int)).toArray t frozen
  | o => o
noncomputable def laidWorld (os : Os) : World :=
  { World.doorLaid Tryz.prog 94 os with heap := (World.doorLaid Tryz.prog 94 os).heap.modify 10 tab1 }
theorem laid_met (os : Os) : laidMet Tryz.prog Rows.quantPrintsRow.laid ((laidWorld os).forCall (fun _ _ => 0) ⟨#[], #[.int .i64 0], []⟩).memory :=
  laidMet_of_run' 8 (by kernel_rfl) (by kernel_rfl)
theorem reads (os : Os) {H : Type} (enc : TypeId × Value → H) : ∃ places, DataW.whole enc Tryz.prog ((laidWorld os).forCall (fun _ _ => 0) ⟨#[], #[.int .i64 0], []⟩).memory Tryz.f4.params.toList Rows.quantPrintsSpec.vars false (#[.int .i64 0] : Array Value).toList 8 = some ([.lit (.int .i64 0)], [], places) :=
  ⟨[], by kernel_rfl⟩
set_option maxRecDepth 100000 in
theorem lifted (os : Os) (started : os.Started) (H : Type) (enc : TypeId × Value → H) (F : Stop.Interp) :
    ReturnsInHanded {} Tryz.checked os 4 .any ((OpenSpec.ofChange Rows.quantPrintsSpec).preRow enc Tryz.prog Tryz.f4 Rows.quantPrintsRow.domain false Rows.quantPrintsRow.laid) (((OpenSpec.ofChange Rows.quantPrintsSpec).at F).post enc Tryz.prog Tryz.f4 false true false false) := by
  obtain ⟨places, hx⟩ := reads os enc
  refine returnsInHanded_of_row (C := Tryz.checked) (s := OpenSpec.ofChange Rows.quantPrintsSpec) own started (by kernel_rfl) Tryz.func4
    (witness_row_at (enc := enc) (C := Tryz.checked) false (laidWorld os) #[.int .i64 0] rfl (by kernel_rfl) (by kernel_rfl) (by kernel_rfl)
      (OpenSpec.preRow_of_cond 8 hx (by kernel_rfl) (fun k hk => by cases hk) (by kernel_rfl) (laid_met os))) ?_
  intro W base args ds gs before hval hW _ hcond hsz hl hsh _
  exact contract H enc W base args ds gs before hval hW hsz hsh hl
theorem said : Rows.QuantPrintsSaid :=
  OpenClaim.holds_of_cond 4 Tryz.f4 rfl rfl rfl rfl rfl rfl rfl ⟨rfl, rfl, rfl, rfl, rfl⟩ rfl rfl rfl rfl rfl (by kernel_rfl) Tryz.func4 (by kernel_rfl)
    (of_decide_eq_true (by kernel_rfl)) (by unfold Func.isWrapper; first | (rw [if_pos (by decide +kernel)]; kernel_rfl) | (rw [if_neg (by decide +kernel)]; exact ⟨rfl, rfl⟩))
    (fun os started H enc _ F => by rw [OpenClaim.pre_eq_preRow]; exact lifted os started H enc F)
theorem plain (f : FuncId) (fn : Func) (hf : Tryz.pinned.checked.prog.funcNamed "bursar/bursarlaw03.QuantPrints" = some f) (hfn : Tryz.pinned.checked.prog.funcs[f]? = some fn) :
    true = Tryz.pinned.checked.prog.looks [] ∧ ∀ (j : Nat) t, fn.params[j]? = some t → Tryz.pinned.checked.prog.wantsStandIn t = false := by
  obtain rfl : f = 4 := Option.some.inj ((show Tryz.prog.funcNamed "bursar/bursarlaw03.QuantPrints" = some 4 by kernel_rfl).symm.trans hf) |>.symm
  obtain rfl : fn = Tryz.f4 := (Option.some.inj (Tryz.func4.symm.trans hfn)).symm
  refine ⟨by kernel_rfl, fun j t ht => ?_⟩
  rw [Tryz.params4] at ht
  have hall : ∀ x ∈ [2], Tryz.prog.wantsStandIn x = false := by
    intro x hx; simp only [List.mem_cons, List.mem_nil_iff, or_false] at hx; rcases hx with rfl <;> kernel_rfl
  exact hall t (by simpa using Array.mem_of_getElem? ht)
theorem card : Rows.QuantPrintsCardSaid :=
  Claim7.holds_tied_plain_at .later [] _ _ _ _ said (fun _ h => by cases h) (by kernel_rfl) (fun _ h => by cases h) quantPrints_row_tie rfl ⟨rfl, rfl⟩ (by kernel_rfl) rfl plain (by kernel_rfl)
end Go.Proofs.YtejgbdclhlolkaaGreatDoor.quantPrints
namespace Go.Proofs.YtejgbdclhlolkaaGreatDoor
theorem quantPrints_holds : Rows.QuantPrintsCardSaid := quantPrints.card
end Go.Proofs.YtejgbdclhlolkaaGreatDoor
