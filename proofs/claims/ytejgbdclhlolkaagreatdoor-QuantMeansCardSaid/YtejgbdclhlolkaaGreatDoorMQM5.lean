/- What the statement QuantMeansCardSaid rests on, part 5 of 6: walks and plain laws; what of the printer's words it leans on. -/
import Derived.Test.YtejgbdclhlolkaaGreatDoorMQM3
import Derived.Test.YtejgbdclhlolkaaGreatDoorMQM4
namespace Go.Proofs.YtejgbdclhlolkaaGreatDoor.Q
open Go.RowKit Go.Proofs.YtejgbdclhlolkaaGreatDoorW.PrintWords Go.Proofs.YtejgbdclhlolkaaGreatDoorW.PrintLast Go.Proofs.YtejgbdclhlolkaaGreatDoorW.PrintMore
attribute [local go_sem] max2_int min2_int max_two min_two max_three min_three max_four min_four   -- for this text's walks alone
set_option linter.unusedVariables false
set_option linter.unusedSimpArgs false
def bursarlaw03_QuantMeans.l0 : Nat → Int → Int → List ByteArray → List Int → Int → Int → Int → Int → Option (Bool)
|0,_,_,_,_,_,_,_,_ => none
|k + 1,x0,x1,x9,x10,x11,x12,x13,x14 => if x14 < x12 then (bursarlaw03_QuantMeans.l0 k x0 x1 x9 x10 x11 x12 (IntKind.u64.wrap (x13 * 10)) (wrap64 (x14 + 1))) else (if x13 = 0 then (none) else ((strconv_FormatUint.f (IntKind.u64.wrap (x13 + (Int.tmod (IntKind.u64.wrap (x1)) x13))) 10).bind fun t251 => (if 1 ≤ (t251.size : Int) then ((strconv_FormatUint.f (IntKind.u64.wrap (x0)) 10).bind fun t252 => (if t252.size + 1 ≤ 9223372036854775807 then (if (t252 ++ (⟨#[46]⟩ : ByteArray)).size + (t251.extract 1 t251.size).size ≤ 9223372036854775807 then (if 0 ≤ x11 then (if x11 < (x9.length : Int) then (if ((t252 ++ (⟨#[46]⟩ : ByteArray)) ++ (t251.extract 1 t251.size)).size + (rdOf ByteArray.empty x9 x11).size ≤ 9223372036854775807 then ((quant_Parse.f k (((t252 ++ (⟨#[46]⟩ : ByteArray)) ++ (t251.extract 1 t251.size)) ++ (rdOf ByteArray.empty x9 x11))).bind fun bt254 => (if x11 < (x10.length : Int) then ((bits_Mul64.f (IntKind.u64.wrap ((IntKind.u64.wrap ((IntKind.u64.wrap (x0)) * x13)) + (Int.tmod (IntKind.u64.wrap (x1)) x13))) (IntKind.u64.wrap (rd x10 x11))).bind fun bt257 => (if bt257.1 ≥ 9007199254740992 then (some false) else ((bits_Mul64.f bt257.2 1000).bind fun bt259 => (if (IntKind.u64.wrap (bt259.1 + (IntKind.u64.wrap (bt257.1 * 1000)))) ≥ x13 then (if bt254.2 = 7 then (some (bt254.1 == 0)) else (some false)) else ((bits_Div64.f k (IntKind.u64.wrap (bt259.1 + (IntKind.u64.wrap (bt257.1 * 1000)))) bt259.2 x13).bind fun bt261 => (if bt261.2 > 0 then (if (IntKind.u64.wrap (bt261.1 + 1)) > 9223372036854775807 then (if bt254.2 = 7 then (some (bt254.1 == 0)) else (some false)) else (if (IntKind.u64.wrap (bt261.1 + 1)) = 0 then (if bt254.2 = 7 then (some (bt254.1 == 0)) else (some false)) else (if bt254.2 = 0 then (some (bt254.1 == (wrap64 (IntKind.u64.wrap (bt261.1 + 1))))) else (some false)))) else (if bt261.1 > 9223372036854775807 then (if bt254.2 = 7 then (some (bt254.1 == 0)) else (some false)) else (if bt261.1 = 0 then (if bt254.2 = 0 then (some (bt254.1 == (wrap64 (bt261.1)))) else (some false)) else (if bt254.2 = 0 then (some (bt254.1 == (wrap64 (bt261.1)))) else (some false)))))))))) else (none))) else (none)) else (none)) else (none)) else (none)) else (none))) else (none))))
def bursarlaw03_QuantMeans.f (k : Nat) (a0 : Int) (a1 : Int) (a2 : Int) (a3 : Int) : Option (Bool) := (bursarlaw03_known.f k).bind fun t244 => (if t244 = true then ((bursarlaw03_factors.f).bind fun bt245 => (if (IntKind.u64.wrap ((bt245.2.length : Int))) = 0 then (none) else (bursarlaw03_QuantMeans.l0 k a0 a1 bt245.1 bt245.2 (wrap64 (Int.tmod (IntKind.u64.wrap (a3)) (IntKind.u64.wrap ((bt245.2.length : Int))))) (wrap64 ((wrap64 (Int.tmod (IntKind.u64.wrap (a2)) 9)) + 1)) 1 0))) else (some false))
theorem bursarlaw03_QuantMeans.mono_l : ∀ k, (∀ y0 y1 y2 y3 y4 y5 y6 y7, LeO (bursarlaw03_QuantMeans.l0 k y0 y1 y2 y3 y4 y5 y6 y7) (bursarlaw03_QuantMeans.l0 (k + 1) y0 y1 y2 y3 y4 y5 y6 y7))
|0 => fun _ _ _ _ _ _ _ _ r h => by simp [bursarlaw03_QuantMeans.l0] at h
|k + 1 => by
  have ih0:=bursarlaw03_QuantMeans.mono_l k
  ·intro y0 y1 y2 y3 y4 y5 y6 y7
   unfold bursarlaw03_QuantMeans.l0
   repeat' first
  |(with_reducible exact ih0 _ _ _ _ _ _ _ _)
  |(with_reducible exact bits_Div64.mono _ _ _ _)
  |(with_reducible exact bursarlaw03_known.mono _)
  |(with_reducible exact quant_Parse.mono _ _)
  |(with_reducible exact LeO.refl _)
  |(with_reducible exact LeO.none _)
  |(with_reducible refine LeO.ite ?_ ?_)
  |(with_reducible refine LeO.bind ?_ (fun _ => ?_))
  |exact ih0 _ _ _ _ _ _ _ _
  |exact bits_Div64.mono _ _ _ _
  |exact bursarlaw03_known.mono _
  |exact quant_Parse.mono _ _
  |exact LeO.none _
  |refine LeO.ite ?_ ?_
  |refine LeO.bind ?_ (fun _ => ?_)
theorem bursarlaw03_QuantMeans.mono : ∀ a0 a1 a2 a3 k, LeO (bursarlaw03_QuantMeans.f k a0 a1 a2 a3) (bursarlaw03_QuantMeans.f (k + 1) a0 a1 a2 a3) := by
 intro a0 a1 a2 a3 k
 have ih0:=bursarlaw03_QuantMeans.mono_l k
 unfold bursarlaw03_QuantMeans.f
 repeat' first
  |(with_reducible exact ih0 _ _ _ _ _ _ _ _)
  |(with_reducible exact bits_Div64.mono _ _ _ _)
  |(with_reducible exact bursarlaw03_known.mono _)
  |(with_reducible exact quant_Parse.mono _ _)
  |(with_reducible exact LeO.refl _)
  |(with_reducible exact LeO.none _)
  |(with_reducible refine LeO.ite ?_ ?_)
  |(with_reducible refine LeO.bind ?_ (fun _ => ?_))
  |exact ih0 _ _ _ _ _ _ _ _
  |exact bits_Div64.mono _ _ _ _
  |exact bursarlaw03_known.mono _
  |exact quant_Parse.mono _ _
  |exact LeO.none _
  |refine LeO.ite ?_ ?_
  |refine LeO.bind ?_ (fun _ => ?_)
def bursarlaw03_QuantMeans.T13 : Bool × List (List Nat × List Nat) := (true, [([], []), ([0], [0]), ([1], [1]), ([2], [2]), ([], []), ([3, 4], [3, 4]), ([], []), ([], []), ([6, 7], [6, 7]), ([8], [8]), ([5, 9], [5, 9]), ([10, 2], [10]), ([11], [11]), ([12], [12]), ([12], [12]), ([13, 11, 0, 1, 2, 3, 4, 5, 6, 7, 8, 9, 10, 11, 12, 13], [13]), ([14, 15, 0, 1, 2, 3, 4, 5, 6, 7, 8, 9, 10, 11, 12, 13, 14, 15], [14])])
def bursarlaw03_QuantMeans.B13 : List Nat := [0, 1, 3, 7, 0, 31, 0, 0, 192, 448, 1023, 2047, 4095, 8191, 8191, 16383, 65535]
theorem bursarlaw03_QuantMeans.tab13 : rtab .any (opsOf Tryz.f7 13) = bursarlaw03_QuantMeans.T13 := by kernel_rfl
theorem bursarlaw03_QuantMeans.bits13 : waitsOk bursarlaw03_QuantMeans.T13.2 bursarlaw03_QuantMeans.B13 = true := by kernel_rfl
set_option maxHeartbeats 64000000 in
set_option maxRecDepth 100000 in
theorem bursarlaw03_QuantMeans.calls (k : Nat) (a0 : Int) (a1 : Int) (a2 : Int) (a3 : Int) (r : Bool) (w : World) (h : bursarlaw03_QuantMeans.f k a0 a1 a2 a3 = some r) (hG : Glob w) :
  Calls Tryz.prog 7 #[.int .u32 a0,.int .u32 a1,.int .i64 a2,.int .i64 a3] w fun e w' => e = .returned (.bool r) ∧ Below w.heap.size w w':=by
 have HB:=Aside0.mk (Below.refl w.heap.size w)
 have H : ((bursarlaw03_known.f k).bind fun t244 => (if t244 = true then ((bursarlaw03_factors.f).bind fun bt245 => (if (IntKind.u64.wrap ((bt245.2.length : Int))) = 0 then (none) else (bursarlaw03_QuantMeans.l0 k a0 a1 bt245.1 bt245.2 (wrap64 (Int.tmod (IntKind.u64.wrap (a3)) (IntKind.u64.wrap ((bt245.2.length : Int))))) (wrap64 ((wrap64 (Int.tmod (IntKind.u64.wrap (a2)) 9)) + 1)) 1 0))) else (some false))) = some r:=h
 clear h
 replace H:=Option.bind_eq_some_iff.mp H
 obtain ⟨t244,A50,H⟩:=H
 replace H : (if t244 = true then ((bursarlaw03_factors.f).bind fun bt245 => (if (IntKind.u64.wrap ((bt245.2.length : Int))) = 0 then (none) else (bursarlaw03_QuantMeans.l0 k a0 a1 bt245.1 bt245.2 (wrap64 (Int.tmod (IntKind.u64.wrap (a3)) (IntKind.u64.wrap ((bt245.2.length : Int))))) (wrap64 ((wrap64 (Int.tmod (IntKind.u64.wrap (a2)) 9)) + 1)) 1 0))) else (some false)) = some r:=H
 have A5:=Aside0.mk A50
 clear A50
 by_cases c6 : t244 = true
 ·subst c6
  have H1 : ((bursarlaw03_factors.f).bind fun bt245 => (if (IntKind.u64.wrap ((bt245.2.length : Int))) = 0 then (none) else (bursarlaw03_QuantMeans.l0 k a0 a1 bt245.1 bt245.2 (wrap64 (Int.tmod (IntKind.u64.wrap (a3)) (IntKind.u64.wrap ((bt245.2.length : Int))))) (wrap64 ((wrap64 (Int.tmod (IntKind.u64.wrap (a2)) 9)) + 1)) 1 0))) = some r:=by rw [if_pos rfl] at H;exact H
  clear H;have H:=H1;clear H1
  replace H:=Option.bind_eq_some_iff.mp H
  obtain ⟨⟨t245,t246⟩,A70,H⟩:=H
  replace H : (if (IntKind.u64.wrap ((t246.length : Int))) = 0 then (none) else (bursarlaw03_QuantMeans.l0 k a0 a1 t245 t246 (wrap64 (Int.tmod (IntKind.u64.wrap (a3)) (IntKind.u64.wrap ((t246.length : Int))))) (wrap64 ((wrap64 (Int.tmod (IntKind.u64.wrap (a2)) 9)) + 1)) 1 0)) = some r:=H
  have A7:=Aside0.mk A70
  clear A70
  by_cases c8 : (IntKind.u64.wrap ((t246.length : Int))) = 0
  ·rw [if_pos c8] at H
   exact absurd H (by simp)
  ·rw [if_neg c8] at H
   have c8b0 : ((IntKind.u64.wrap ((t246.length : Int))) == 0) = false:=beq_eq_false_iff_ne.mpr c8
   have c8b1 : ((IntKind.u64.wrap ((t246.length : Int))) != 0) = true:=bne_iff_ne.mpr c8
   have H':=Aside0.mk H
   clear H
   go_enter Tryz.func7,Tryz.ntmps7
   go_wp2_with (first|((with_reducible refine gate_callee (f:=16) rfl ?_);refine goesL_ (some 25) rfl rfl Tryz.func16 (by kernel_rfl) rfl #[] rfl (by (try simp only [List.map_toArray,List.map_cons,List.map_nil]);first|done|rfl|(simp only [List.length_drop,List.length_take];rfl)) ?_;(with_reducible refine (bursarlaw03_known.calls k  true _ A5.out (Glob.below hG (by repeat (first|(with_reducible first|exact HB.out|apply below_alloc|apply pw_below_drewN|apply below_drew1)|exact HB.out)))).mono ?_);rintro e w9 ⟨rfl,hb⟩;refine ⟨_,rfl,?_⟩;have n0_:=Aside0.mk (below_step (by repeat (first|(with_reducible first|exact HB.out|apply below_alloc|apply pw_below_drewN|apply below_drew1)|exact HB.out)) hb);clear HB;have HB:=n0_;clear n0_;(try clear hb);(try clear hb2);(try clear hk);(try clear hi))|((with_reducible refine gate_callee (f:=22) rfl ?_);refine goesL_ (some 28) rfl rfl Tryz.func22 (by kernel_rfl) rfl #[] rfl (by (try simp only [List.map_toArray,List.map_cons,List.map_nil]);first|done|rfl|(simp only [List.length_drop,List.length_take];rfl)) ?_;(with_reducible refine (bursarlaw03_factors.calls  t245 t246 _ A7.out).mono ?_);rintro e w10 ⟨v247,v249,rfl,ho0,ho1,hb⟩;refine ⟨_,rfl,?_⟩;have n0_:=Aside0.mk (Kd.R_lower ho0 (below_size (by repeat (first|(with_reducible first|exact HB.out|apply below_alloc|apply pw_below_drewN|apply below_drew1)|exact HB.out))));have n1_:=Aside0.mk (Kd.R_lower ho1 (below_size (by repeat (first|(with_reducible first|exact HB.out|apply below_alloc|apply pw_below_drewN|apply below_drew1)|exact HB.out))));have n2_:=Aside0.mk (below_step (by repeat (first|(with_reducible first|exact HB.out|apply below_alloc|apply pw_below_drewN|apply below_drew1)|exact HB.out)) hb);clear HB;have HO248:=n0_;have HO250:=n1_;have HB:=n2_;clear n0_ n1_ n2_;(try clear hb);(try clear hb2);(try clear hk);(try clear hi);(try clear ho0);(try clear ho1);obtain ⟨Ao11,co11,eo11⟩:=Kd.R_slice HO250.out;subst eo11))
   go_loopg [13,14] k (fun kq v13 v14 w' => ∃ (x13_1 : Int) (x14_1 : Int),v13 = .int .u64 x13_1 ∧ v14 = .int .i64 x14_1 ∧ Aside0 (bursarlaw03_QuantMeans.l0 kq a0 a1 t245 t246 (wrap64 (Int.tmod (IntKind.u64.wrap (a3)) (IntKind.u64.wrap ((t246.length : Int))))) (wrap64 ((wrap64 (Int.tmod (IntKind.u64.wrap (a2)) 9)) + 1)) x13_1 x14_1 = some r) ∧ Aside0 (kq ≤ k) ∧ Aside0 (Kd.R Kd.string 9 w' w.heap.size (fun _ => True) v247 t245) ∧ Aside0 (Kd.R (Kd.int .i64) 2 w' w.heap.size (fun _ => True) (.slice Ao11 t246.length co11) t246) ∧ Aside0 (Below w.heap.size w w'))
   case atStart => exact ⟨(1),(0),(by first|rfl|(simp;done)|(simp [*];done)|(simp;rw [Bool.eq_iff_iff];simp;done)|(rw [Bool.eq_iff_iff];simp;done)),(by first|rfl|(simp;done)|(simp [*];done)|(simp;rw [Bool.eq_iff_iff];simp;done)|(rw [Bool.eq_iff_iff];simp;done)),H',⟨Nat.le_refl _⟩,⟨by (with_reducible repeat (first|apply Kd.R_alloc|apply Kd.R_drewN|apply Kd.R_drew));exact HO248.out⟩,⟨by (with_reducible repeat (first|apply Kd.R_alloc|apply Kd.R_drewN|apply Kd.R_drew));exact HO250.out⟩,⟨by repeat (first|(with_reducible first|exact HB.out|apply below_alloc|apply pw_below_drewN|apply below_drew1)|exact HB.out)⟩⟩
   case round =>
    clear H';(try clear c1);(try clear c2);(try clear p2);(try clear c6);(try clear p6);(try clear c7);(try clear c8);(try clear c8b0);(try clear c8b1)
    obtain ⟨x13_1,x14_1,rfl,rfl,HA,HK1,HO_9,HO_10,HB⟩:=hrel
    cases gk with
   |zero => exact absurd HA.out (by simp [bursarlaw03_QuantMeans.l0])
   |succ k1 =>
     have H:=HA.out
     clear HA
     simp only [bursarlaw03_QuantMeans.l0] at H
     by_cases c12 : x14_1 < (wrap64 ((wrap64 (Int.tmod (IntKind.u64.wrap (a2)) 9)) + 1))
     ·rw [if_pos c12] at H
      have c12b0 : decide (x14_1 < (wrap64 ((wrap64 (Int.tmod (IntKind.u64.wrap (a2)) 9)) + 1))) = true:=decide_eq_true c12
      clear c12
      have H':=Aside0.mk H
      clear H
      go_wp2
      go_roundg k1
      case measure => have:=HK1.out;omega
      case rel => exact ⟨(IntKind.u64.wrap (x13_1 * 10)),(wrap64 (x14_1 + 1)),(by first|rfl|(simp;done)|(simp [*];done)|(simp;rw [Bool.eq_iff_iff];simp;done)|(rw [Bool.eq_iff_iff];simp;done)),(by first|rfl|(simp;done)|(simp [*];done)|(simp;rw [Bool.eq_iff_iff];simp;done)|(rw [Bool.eq_iff_iff];simp;done)),H',⟨by have:=HK1.out;omega⟩,⟨by (with_reducible repeat (first|apply Kd.R_alloc|apply Kd.R_drewN|apply Kd.R_drew));exact HO_9.out⟩,⟨by (with_reducible repeat (first|apply Kd.R_alloc|apply Kd.R_drewN|apply Kd.R_drew));exact HO_10.out⟩,⟨by repeat (first|(with_reducible first|exact HB.out|apply below_alloc|apply pw_below_drewN|apply below_drew1)|exact HB.out)⟩⟩
     ·rw [if_neg c12] at H
      have c12b0 : decide (x14_1 < (wrap64 ((wrap64 (Int.tmod (IntKind.u64.wrap (a2)) 9)) + 1))) = false:=decide_eq_false c12
      clear c12
      by_cases c13 : x13_1 = 0
      ·rw [if_pos c13] at H
       exact absurd H (by simp)
      ·rw [if_neg c13] at H
       have c13b0 : (x13_1 == 0) = false:=beq_eq_false_iff_ne.mpr c13
       have c13b1 : (x13_1 != 0) = true:=bne_iff_ne.mpr c13
       replace H:=Option.bind_eq_some_iff.mp H
       obtain ⟨t251,A140,H⟩:=H
       replace H : (if 1 ≤ (t251.size : Int) then ((strconv_FormatUint.f (IntKind.u64.wrap (a0)) 10).bind fun t252 => (if t252.size + 1 ≤ 9223372036854775807 then (if (t252 ++ (⟨#[46]⟩ : ByteArray)).size + (t251.extract 1 t251.size).size ≤ 9223372036854775807 then (if 0 ≤ (wrap64 (Int.tmod (IntKind.u64.wrap (a3)) (IntKind.u64.wrap ((t246.length : Int))))) then (if (wrap64 (Int.tmod (IntKind.u64.wrap (a3)) (IntKind.u64.wrap ((t246.length : Int))))) < (t245.length : Int) then (if ((t252 ++ (⟨#[46]⟩ : ByteArray)) ++ (t251.extract 1 t251.size)).size + (rdOf ByteArray.empty t245 (wrap64 (Int.tmod (IntKind.u64.wrap (a3)) (IntKind.u64.wrap ((t246.length : Int)))))).size ≤ 9223372036854775807 then ((quant_Parse.f k1 (((t252 ++ (⟨#[46]⟩ : ByteArray)) ++ (t251.extract 1 t251.size)) ++ (rdOf ByteArray.empty t245 (wrap64 (Int.tmod (IntKind.u64.wrap (a3)) (IntKind.u64.wrap ((t246.length : Int)))))))).bind fun bt254 => (if (wrap64 (Int.tmod (IntKind.u64.wrap (a3)) (IntKind.u64.wrap ((t246.length : Int))))) < (t246.length : Int) then ((bits_Mul64.f (IntKind.u64.wrap ((IntKind.u64.wrap ((IntKind.u64.wrap (a0)) * x13_1)) + (Int.tmod (IntKind.u64.wrap (a1)) x13_1))) (IntKind.u64.wrap (rd t246 (wrap64 (Int.tmod (IntKind.u64.wrap (a3)) (IntKind.u64.wrap ((t246.length : Int)))))))).bind fun bt257 => (if bt257.1 ≥ 9007199254740992 then (some false) else ((bits_Mul64.f bt257.2 1000).bind fun bt259 => (if (IntKind.u64.wrap (bt259.1 + (IntKind.u64.wrap (bt257.1 * 1000)))) ≥ x13_1 then (if bt254.2 = 7 then (some (bt254.1 == 0)) else (some false)) else ((bits_Div64.f k1 (IntKind.u64.wrap (bt259.1 + (IntKind.u64.wrap (bt257.1 * 1000)))) bt259.2 x13_1).bind fun bt261 => (if bt261.2 > 0 then (if (IntKind.u64.wrap (bt261.1 + 1)) > 9223372036854775807 then (if bt254.2 = 7 then (some (bt254.1 == 0)) else (some false)) else (if (IntKind.u64.wrap (bt261.1 + 1)) = 0 then (if bt254.2 = 7 then (some (bt254.1 == 0)) else (some false)) else (if bt254.2 = 0 then (some (bt254.1 == (wrap64 (IntKind.u64.wrap (bt261.1 + 1))))) else (some false)))) else (if bt261.1 > 9223372036854775807 then (if bt254.2 = 7 then (some (bt254.1 == 0)) else (some false)) else (if bt261.1 = 0 then (if bt254.2 = 0 then (some (bt254.1 == (wrap64 (bt261.1)))) else (some false)) else (if bt254.2 = 0 then (some (bt254.1 == (wrap64 (bt261.1)))) else (some false)))))))))) else (none))) else (none)) else (none)) else (none)) else (none)) else (none))) else (none)) = some r:=H
       have A14:=Aside0.mk A140
       clear A140
       by_cases c15 : 1 ≤ (t251.size : Int)
       ·rw [if_pos c15] at H
        have c15b0:=eq_true c15
        have c15b1 : decide (1 ≤ (t251.size : Int)) = true:=decide_eq_true c15
        clear c15
        replace H:=Option.bind_eq_some_iff.mp H
        obtain ⟨t252,A160,H⟩:=H
        replace H : (if t252.size + 1 ≤ 9223372036854775807 then (if (t252 ++ (⟨#[46]⟩ : ByteArray)).size + (t251.extract 1 t251.size).size ≤ 9223372036854775807 then (if 0 ≤ (wrap64 (Int.tmod (IntKind.u64.wrap (a3)) (IntKind.u64.wrap ((t246.length : Int))))) then (if (wrap64 (Int.tmod (IntKind.u64.wrap (a3)) (IntKind.u64.wrap ((t246.length : Int))))) < (t245.length : Int) then (if ((t252 ++ (⟨#[46]⟩ : ByteArray)) ++ (t251.extract 1 t251.size)).size + (rdOf ByteArray.empty t245 (wrap64 (Int.tmod (IntKind.u64.wrap (a3)) (IntKind.u64.wrap ((t246.length : Int)))))).size ≤ 9223372036854775807 then ((quant_Parse.f k1 (((t252 ++ (⟨#[46]⟩ : ByteArray)) ++ (t251.extract 1 t251.size)) ++ (rdOf ByteArray.empty t245 (wrap64 (Int.tmod (IntKind.u64.wrap (a3)) (IntKind.u64.wrap ((t246.length : Int)))))))).bind fun bt254 => (if (wrap64 (Int.tmod (IntKind.u64.wrap (a3)) (IntKind.u64.wrap ((t246.length : Int))))) < (t246.length : Int) then ((bits_Mul64.f (IntKind.u64.wrap ((IntKind.u64.wrap ((IntKind.u64.wrap (a0)) * x13_1)) + (Int.tmod (IntKind.u64.wrap (a1)) x13_1))) (IntKind.u64.wrap (rd t246 (wrap64 (Int.tmod (IntKind.u64.wrap (a3)) (IntKind.u64.wrap ((t246.length : Int)))))))).bind fun bt257 => (if bt257.1 ≥ 9007199254740992 then (some false) else ((bits_Mul64.f bt257.2 1000).bind fun bt259 => (if (IntKind.u64.wrap (bt259.1 + (IntKind.u64.wrap (bt257.1 * 1000)))) ≥ x13_1 then (if bt254.2 = 7 then (some (bt254.1 == 0)) else (some false)) else ((bits_Div64.f k1 (IntKind.u64.wrap (bt259.1 + (IntKind.u64.wrap (bt257.1 * 1000)))) bt259.2 x13_1).bind fun bt261 => (if bt261.2 > 0 then (if (IntKind.u64.wrap (bt261.1 + 1)) > 9223372036854775807 then (if bt254.2 = 7 then (some (bt254.1 == 0)) else (some false)) else (if (IntKind.u64.wrap (bt261.1 + 1)) = 0 then (if bt254.2 = 7 then (some (bt254.1 == 0)) else (some false)) else (if bt254.2 = 0 then (some (bt254.1 == (wrap64 (IntKind.u64.wrap (bt261.1 + 1))))) else (some false)))) else (if bt261.1 > 9223372036854775807 then (if bt254.2 = 7 then (some (bt254.1 == 0)) else (some false)) else (if bt261.1 = 0 then (if bt254.2 = 0 then (some (bt254.1 == (wrap64 (bt261.1)))) else (some false)) else (if bt254.2 = 0 then (some (bt254.1 == (wrap64 (bt261.1)))) else (some false)))))))))) else (none))) else (none)) else (none)) else (none)) else (none)) else (none)) = some r:=H
        have A16:=Aside0.mk A160
        clear A160
        by_cases c17 : t252.size + 1 ≤ 9223372036854775807
        ·rw [if_pos c17] at H
         have c17b0:=eq_true c17
         have c17b1 : decide (t252.size + 1 ≤ 9223372036854775807) = true:=decide_eq_true c17
         try have c17b2 : (9223372036854775807 < t252.size + 1) = False:=eq_false (Nat.not_lt.2 c17)
         by_cases c18 : (t252 ++ (⟨#[46]⟩ : ByteArray)).size + (t251.extract 1 t251.size).size ≤ 9223372036854775807
         ·rw [if_pos c18] at H
          have c18b0:=eq_true c18
          have c18b1 : decide ((t252 ++ (⟨#[46]⟩ : ByteArray)).size + (t251.extract 1 t251.size).size ≤ 9223372036854775807) = true:=decide_eq_true c18
          try have c18b2 : (9223372036854775807 < (t252 ++ (⟨#[46]⟩ : ByteArray)).size + (t251.extract 1 t251.size).size) = False:=eq_false (Nat.not_lt.2 c18)
          try have c18b2z : (9223372036854775807 < (t252 ++ (⟨#[46]⟩ : ByteArray)).size + (t251.size - 1)) = False:=by have h_:=c18b2;rw [show (t251.extract 1 t251.size).size = t251.size - 1 from by simp [ByteArray.size_extract]] at h_;exact h_
          try have c18b3 : (9223372036854775807 < t252.size + 1 + (t251.extract 1 t251.size).size) = False:=eq_false (Nat.not_lt.2 (by have h_:=c18;simp only [ByteArray.size_append] at h_;exact h_))
          try have c18b3z : (9223372036854775807 < t252.size + 1 + (t251.size - 1)) = False:=by have h_:=c18b3;rw [show (t251.extract 1 t251.size).size = t251.size - 1 from by simp [ByteArray.size_extract]] at h_;exact h_
          obtain ⟨ji19,hji19⟩ : ∃ j_ : Int,(wrap64 (Int.tmod (IntKind.u64.wrap (a3)) (IntKind.u64.wrap ((t246.length : Int))))) = j_:=⟨_,rfl⟩
          replace H : (if 0 ≤ (ji19) then (if (ji19) < (t245.length : Int) then (if ((t252 ++ (⟨#[46]⟩ : ByteArray)) ++ (t251.extract 1 t251.size)).size + (rdOf ByteArray.empty t245 (ji19)).size ≤ 9223372036854775807 then ((quant_Parse.f k1 (((t252 ++ (⟨#[46]⟩ : ByteArray)) ++ (t251.extract 1 t251.size)) ++ (rdOf ByteArray.empty t245 (ji19)))).bind fun bt254 => (if (ji19) < (t246.length : Int) then ((bits_Mul64.f (IntKind.u64.wrap ((IntKind.u64.wrap ((IntKind.u64.wrap (a0)) * x13_1)) + (Int.tmod (IntKind.u64.wrap (a1)) x13_1))) (IntKind.u64.wrap (rd t246 (ji19)))).bind fun bt257 => (if bt257.1 ≥ 9007199254740992 then (some false) else ((bits_Mul64.f bt257.2 1000).bind fun bt259 => (if (IntKind.u64.wrap (bt259.1 + (IntKind.u64.wrap (bt257.1 * 1000)))) ≥ x13_1 then (if bt254.2 = 7 then (some (bt254.1 == 0)) else (some false)) else ((bits_Div64.f k1 (IntKind.u64.wrap (bt259.1 + (IntKind.u64.wrap (bt257.1 * 1000)))) bt259.2 x13_1).bind fun bt261 => (if bt261.2 > 0 then (if (IntKind.u64.wrap (bt261.1 + 1)) > 9223372036854775807 then (if bt254.2 = 7 then (some (bt254.1 == 0)) else (some false)) else (if (IntKind.u64.wrap (bt261.1 + 1)) = 0 then (if bt254.2 = 7 then (some (bt254.1 == 0)) else (some false)) else (if bt254.2 = 0 then (some (bt254.1 == (wrap64 (IntKind.u64.wrap (bt261.1 + 1))))) else (some false)))) else (if bt261.1 > 9223372036854775807 then (if bt254.2 = 7 then (some (bt254.1 == 0)) else (some false)) else (if bt261.1 = 0 then (if bt254.2 = 0 then (some (bt254.1 == (wrap64 (bt261.1)))) else (some false)) else (if bt254.2 = 0 then (some (bt254.1 == (wrap64 (bt261.1)))) else (some false)))))))))) else (none))) else (none)) else (none)) else (none)) = some r:=by first|(rw [hji19] at H;exact H)|(simp only [hji19] at H ⊢;exact H)
          (try rw [hji19] at A14)
          (try rw [hji19] at A16)
          have hji19w : (IntKind.i64.wrap (Int.tmod (IntKind.u64.wrap (a3)) (IntKind.u64.wrap ((t246.length : Int))))) = ji19:=(i64_w _).trans hji19
          by_cases c20 : 0 ≤ (ji19)
          ·rw [if_pos c20] at H
           have c20b0 : decide (0 ≤ (ji19)) = true:=decide_eq_true c20
           clear c20
           by_cases c21 : (ji19) < (t245.length : Int)
           ·rw [if_pos c21] at H
            have c21b0 : decide ((ji19) < (t245.length : Int)) = true:=decide_eq_true c21
            clear c21
            by_cases c22 : ((t252 ++ (⟨#[46]⟩ : ByteArray)) ++ (t251.extract 1 t251.size)).size + (rdOf ByteArray.empty t245 (ji19)).size ≤ 9223372036854775807
            ·rw [if_pos c22] at H
             have c22b0:=eq_true c22
             have c22b1 : decide (((t252 ++ (⟨#[46]⟩ : ByteArray)) ++ (t251.extract 1 t251.size)).size + (rdOf ByteArray.empty t245 (ji19)).size ≤ 9223372036854775807) = true:=decide_eq_true c22
             try have c22b2 : (9223372036854775807 < ((t252 ++ (⟨#[46]⟩ : ByteArray)) ++ (t251.extract 1 t251.size)).size + (rdOf ByteArray.empty t245 (ji19)).size) = False:=eq_false (Nat.not_lt.2 c22)
             try have c22b3 : (9223372036854775807 < t252.size + 1 + (t251.extract 1 t251.size).size + (rdOf ByteArray.empty t245 (ji19)).size) = False:=eq_false (Nat.not_lt.2 (by have h_:=c22;simp only [ByteArray.size_append] at h_;exact h_))
             try have c22b3z : (9223372036854775807 < t252.size + 1 + (t251.size - 1) + (rdOf ByteArray.empty t245 (ji19)).size) = False:=by have h_:=c22b3;rw [show (t251.extract 1 t251.size).size = t251.size - 1 from by simp [ByteArray.size_extract]] at h_;exact h_
             replace H:=Option.bind_eq_some_iff.mp H
             obtain ⟨⟨t254,t255⟩,A230,H⟩:=H
             replace H : (if (ji19) < (t246.length : Int) then ((bits_Mul64.f (IntKind.u64.wrap ((IntKind.u64.wrap ((IntKind.u64.wrap (a0)) * x13_1)) + (Int.tmod (IntKind.u64.wrap (a1)) x13_1))) (IntKind.u64.wrap (rd t246 (ji19)))).bind fun bt257 => (if bt257.1 ≥ 9007199254740992 then (some false) else ((bits_Mul64.f bt257.2 1000).bind fun bt259 => (if (IntKind.u64.wrap (bt259.1 + (IntKind.u64.wrap (bt257.1 * 1000)))) ≥ x13_1 then (if t255 = 7 then (some (t254 == 0)) else (some false)) else ((bits_Div64.f k1 (IntKind.u64.wrap (bt259.1 + (IntKind.u64.wrap (bt257.1 * 1000)))) bt259.2 x13_1).bind fun bt261 => (if bt261.2 > 0 then (if (IntKind.u64.wrap (bt261.1 + 1)) > 9223372036854775807 then (if t255 = 7 then (some (t254 == 0)) else (some false)) else (if (IntKind.u64.wrap (bt261.1 + 1)) = 0 then (if t255 = 7 then (some (t254 == 0)) else (some false)) else (if t255 = 0 then (some (t254 == (wrap64 (IntKind.u64.wrap (bt261.1 + 1))))) else (some false)))) else (if bt261.1 > 9223372036854775807 then (if t255 = 7 then (some (t254 == 0)) else (some false)) else (if bt261.1 = 0 then (if t255 = 0 then (some (t254 == (wrap64 (bt261.1)))) else (some false)) else (if t255 = 0 then (some (t254 == (wrap64 (bt261.1)))) else (some false)))))))))) else (none)) = some r:=H
             have A23:=Aside0.mk A230
             clear A230
             by_cases c24 : (ji19) < (t246.length : Int)
             ·rw [if_pos c24] at H
              have c24b0 : decide ((ji19) < (t246.length : Int)) = true:=decide_eq_true c24
              clear c24
              replace H:=Option.bind_eq_some_iff.mp H
              obtain ⟨⟨t257,t258⟩,A250,H⟩:=H
              replace H : (if t257 ≥ 9007199254740992 then (some false) else ((bits_Mul64.f t258 1000).bind fun bt259 => (if (IntKind.u64.wrap (bt259.1 + (IntKind.u64.wrap (t257 * 1000)))) ≥ x13_1 then (if t255 = 7 then (some (t254 == 0)) else (some false)) else ((bits_Div64.f k1 (IntKind.u64.wrap (bt259.1 + (IntKind.u64.wrap (t257 * 1000)))) bt259.2 x13_1).bind fun bt261 => (if bt261.2 > 0 then (if (IntKind.u64.wrap (bt261.1 + 1)) > 9223372036854775807 then (if t255 = 7 then (some (t254 == 0)) else (some false)) else (if (IntKind.u64.wrap (bt261.1 + 1)) = 0 then (if t255 = 7 then (some (t254 == 0)) else (some false)) else (if t255 = 0 then (some (t254 == (wrap64 (IntKind.u64.wrap (bt261.1 + 1))))) else (some false)))) else (if bt261.1 > 9223372036854775807 then (if t255 = 7 then (some (t254 == 0)) else (some false)) else (if bt261.1 = 0 then (if t255 = 0 then (some (t254 == (wrap64 (bt261.1)))) else (some false)) else (if t255 = 0 then (some (t254 == (wrap64 (bt261.1)))) else (some false))))))))) = some r:=H
              have A25:=Aside0.mk A250
              clear A250
              by_cases c26 : t257 ≥ 9007199254740992
              ·rw [if_pos c26] at H
               have c26b0 : decide (9007199254740992 ≤ t257) = true:=decide_eq_true c26
               clear c26
               obtain rfl:=Option.some.inj H
               try go_wp2_with (first|((with_reducible refine gate_callee (f:=23) rfl ?_);refine goesL_ (some 57) rfl rfl Tryz.func23 (by kernel_rfl) rfl #[.int .u64 (IntKind.u64.wrap (x13_1 + (Int.tmod (IntKind.u64.wrap (a1)) x13_1))),.int .i64 10] rfl (by (try simp only [List.map_toArray,List.map_cons,List.map_nil]);first|done|rfl|(simp only [List.length_drop,List.length_take];rfl)) ?_;(with_reducible refine (strconv_FormatUint.calls (IntKind.u64.wrap (x13_1 + (Int.tmod (IntKind.u64.wrap (a1)) x13_1))) 10 t251 _ A14.out (Glob.below hG (by repeat (first|(with_reducible first|exact HB.out|apply below_alloc|apply pw_below_drewN|apply below_drew1)|exact HB.out)))).mono ?_);rintro e w27 ⟨rfl,hb⟩;refine ⟨_,rfl,?_⟩;have n0_:=Aside0.mk (Kd.R_below (by (with_reducible repeat (first|apply Kd.R_alloc|apply Kd.R_drewN|apply Kd.R_drew));exact HO_9.out) hb);have n1_:=Aside0.mk (Kd.R_below (by (with_reducible repeat (first|apply Kd.R_alloc|apply Kd.R_drewN|apply Kd.R_drew));exact HO_10.out) hb);have n2_:=Aside0.mk (below_step (by repeat (first|(with_reducible first|exact HB.out|apply below_alloc|apply pw_below_drewN|apply below_drew1)|exact HB.out)) hb);clear HO_9;clear HO_10;clear HB;have HO_9:=n0_;have HO_10:=n1_;have HB:=n2_;clear n0_ n1_ n2_;(try clear hb);(try clear hb2);(try clear hk);(try clear hi)))
               have n0_:=Aside0.mk (Kd.R_drew HO_9.out)
               have n1_:=Aside0.mk (Kd.R_drew HO_10.out)
               have n2_:=Aside0.mk (below_drew1 HB.out)
               clear HO_9;clear HO_10;clear HB;have HO_9:=n0_;have HO_10:=n1_;have HB:=n2_;clear n0_ n1_ n2_
               obtain ⟨Ao29,co29,eo29⟩:=Kd.R_slice HO_9.out
               (first|subst eo29|(injection eo29 with f1_ f2_ f3_;have f4_:=f1_.symm;have f5_:=f3_.symm;clear f1_ f2_ f3_;subst f4_;subst f5_))
               have p253 : 0 ≤ ((ji19) : Int):=of_decide_eq_true (by first|(with_reducible assumption)|assumption)
               have q253 : (ji19) < (t245.length : Int):=of_decide_eq_true (by first|(with_reducible assumption)|assumption)
               obtain ⟨ad253,e253,hx253_0⟩:=Kd.at_string (Kd.R_reads' HO_9.out).2.2 (ji19) p253 q253
               cases e253
               replace p253:=eq_true p253
               replace q253:=eq_true q253
               refine start_ (n:=17) (S:=fun w' => w'.cell? (ad253.add ((ji19)).toNat) = some (.string (rdOf ByteArray.empty t245 (ji19)))) (ds:=[]) (bl 0 17) (by kernel_rfl) rfl rfl (hx253_0) (fun hHeld => ?_);refine with_tabW bursarlaw03_QuantMeans.tab13 bursarlaw03_QuantMeans.bits13 (fun HT_ HW_ => ?_)
               generalize w27.drew = w28 at HO_9 HO_10 HB hx253_0 hHeld ⊢
               refine pure_ (i:=0) (N:=some 60) (v:=?_) (a':=?_) (bl 1 16) rfl rfl (any_of HT_.out (by kernel_rfl)) (fun _ _ _ h => h) (Or.inl ⟨by rfl,?_⟩) ?_ ?_
               rotate_left;·intro w';go_simp;with_reducible rfl
               rotate_left;·simp only [Act.put,List.setIfInBounds_toArray,List.set_cons_zero,List.set_cons_succ,i64_w,i32_w];rfl
               refine pure_ (i:=1) (N:=some 61) (v:=?_) (a':=?_) (bl 2 15) rfl rfl (any_of HT_.out (by kernel_rfl)) (fun _ _ _ h => h) (Or.inl ⟨by rfl,?_⟩) ?_ ?_
               rotate_left;·intro w';go_simp;with_reducible rfl
               rotate_left;·simp only [Act.put,List.setIfInBounds_toArray,List.set_cons_zero,List.set_cons_succ,i64_w,i32_w];rfl
               refine pure_ (i:=4) (N:=some 64) (v:=?_) (a':=?_) #[true,true,false,false,true,false,false,false,false,false,false,false,false,false,false,false,false] rfl rfl (any_of HT_.out (by kernel_rfl)) (fun _ _ _ h => h) (Or.inl ⟨by rfl,?_⟩) ?_ ?_
               rotate_left;·intro w';go_simp;with_reducible rfl
               rotate_left;·simp only [Act.put,List.setIfInBounds_toArray,List.set_cons_zero,List.set_cons_succ,i64_w,i32_w];rfl
               refine pure_ (i:=6) (N:=some 66) (v:=?_) (a':=?_) #[true,true,false,false,true,false,true,false,false,false,false,false,false,false,false,false,false] rfl rfl (any_of HT_.out (by kernel_rfl)) (fun _ _ _ h => h) (Or.inl ⟨by rfl,?_⟩) ?_ ?_
               rotate_left;·intro w';go_simp;with_reducible rfl
               rotate_left;·simp only [Act.put,List.setIfInBounds_toArray,List.set_cons_zero,List.set_cons_succ,i64_w,i32_w];rfl
               refine pure_ (i:=7) (N:=some 67) (v:=?_) (a':=?_) #[true,true,false,false,true,false,true,true,false,false,false,false,false,false,false,false,false] rfl rfl (any_of HT_.out (by kernel_rfl)) (fun _ _ _ h => h) (Or.inl ⟨by rfl,?_⟩) ?_ ?_
               rotate_left;·intro w';go_simp;with_reducible rfl
               rotate_left;·simp only [Act.put,List.setIfInBounds_toArray,List.set_cons_zero,List.set_cons_succ,i64_w,i32_w];rfl
               refine pure_ (i:=8) (N:=some 68) (v:=?_) (a':=?_) #[true,true,false,false,true,false,true,true,true,false,false,false,false,false,false,false,false] rfl rfl (any_of HT_.out (by kernel_rfl)) (fun _ _ _ h => h) (Or.inl ⟨by rfl,?_⟩) ?_ ?_
               rotate_left;·intro w';go_simp;with_reducible rfl
               rotate_left;·simp only [Act.put,List.setIfInBounds_toArray,List.set_cons_zero,List.set_cons_succ,i64_w,i32_w];rfl
               refine take_ (i:=9) (N:=some 69) (v:=?_) (a':=?_) #[true,true,false,false,true,false,true,true,true,true,false,false,false,false,false,false,false] rfl rfl (take_ofW HT_.out HW_.out (by kernel_rfl)) (fun _ _ _ h => h) (Or.inl ⟨by rfl,?_⟩) hHeld ?_ ?_
               rotate_left
               ·intro w' s0
                go_simp
                with_reducible rfl
               rotate_left
               ·simp only [Act.put,List.setIfInBounds_toArray,List.set_cons_zero,List.set_cons_succ,i64_w,i32_w]
                rfl
               refine one_ (i:=2) (N:=some 62) #[true,true,true,false,true,false,true,true,true,true,false,false,false,false,false,false,false] rfl rfl (one_of HT_.out (by kernel_rfl)) (by decide) (fun K hK => ?_)
               refine goes_ Tryz.func23 (by kernel_rfl) rfl #[.int .u64 (IntKind.u64.wrap (a0)),.int .i64 10] (by rfl) rfl rfl (by (try simp only [List.map_toArray,List.map_cons,List.map_nil]);first|done|rfl|(simp only [List.length_drop,List.length_take];rfl)) ?_
               with_reducible refine (strconv_FormatUint.calls (IntKind.u64.wrap (a0)) 10 t252 _ A16.out (Glob.below hG (by repeat (first|(with_reducible first|exact HB.out|apply below_alloc|apply pw_below_drewN|apply below_drew1)|exact HB.out)))).mono ?_
               rintro e w30 ⟨rfl,hb⟩
               have HS0_:=(hb.cell (World.block_lt_of_cell? _ _ (hHeld))).trans (hHeld)
               refine ⟨_,rfl,?_⟩
               have n0_:=Aside0.mk (Kd.R_below (by (with_reducible repeat (first|apply Kd.R_alloc|apply Kd.R_drewN|apply Kd.R_drew));exact HO_9.out) hb)
               have n1_:=Aside0.mk (Kd.R_below (by (with_reducible repeat (first|apply Kd.R_alloc|apply Kd.R_drewN|apply Kd.R_drew));exact HO_10.out) hb)
               have n2_:=Aside0.mk (below_step (by repeat (first|(with_reducible first|exact HB.out|apply below_alloc|apply pw_below_drewN|apply below_drew1)|exact HB.out)) hb)
               clear HO_9;clear HO_10;clear HB;have HO_9:=n0_;have HO_10:=n1_;have HB:=n2_;clear n0_ n1_ n2_;(try clear hb);(try clear hb2);(try clear hk);(try clear hi)
               refine hK.out _ _ (HS0_) (fun hHeld => ?_)
               clear hK K
               refine norm_ (a':=?_) ?_ ?_
               rotate_left
               ·show Act.put _ (some 62) _ = _
                simp only [Act.put,List.setIfInBounds_toArray,List.set_cons_zero,List.set_cons_succ,i64_w,i32_w]
                rfl
               refine pure_ (i:=3) (N:=some 63) (v:=?_) (a':=?_) #[true,true,true,true,true,false,true,true,true,true,false,false,false,false,false,false,false] rfl rfl (any_of HT_.out (by kernel_rfl)) (fun _ _ _ h => h) (Or.inl ⟨by rfl,?_⟩) ?_ ?_
               rotate_left;·intro w';go_simp;with_reducible rfl
               rotate_left;·simp only [Act.put,List.setIfInBounds_toArray,List.set_cons_zero,List.set_cons_succ,i64_w,i32_w];rfl
               refine pure_ (i:=5) (N:=some 65) (v:=?_) (a':=?_) (bl 10 7) rfl rfl (any_of HT_.out (by kernel_rfl)) (fun _ _ _ h => h) (Or.inl ⟨by rfl,?_⟩) ?_ ?_
               rotate_left;·intro w';go_simp;with_reducible rfl
               rotate_left;·simp only [Act.put,List.setIfInBounds_toArray,List.set_cons_zero,List.set_cons_succ,i64_w,i32_w];rfl
               refine pure_ (i:=10) (N:=some 70) (v:=?_) (a':=?_) (bl 11 6) rfl rfl (any_of HT_.out (by kernel_rfl)) (fun _ _ _ h => h) (Or.inl ⟨by rfl,?_⟩) ?_ ?_
               rotate_left;·intro w';go_simp;with_reducible rfl
               rotate_left;·simp only [Act.put,List.setIfInBounds_toArray,List.set_cons_zero,List.set_cons_succ,i64_w,i32_w];rfl
               refine one_ (i:=11) (N:=some 71) (bl 12 5) rfl rfl (one_of HT_.out (by kernel_rfl)) (by decide) (fun K hK => ?_)
               refine goes_ Tryz.func17 (by kernel_rfl) rfl #[.string (((t252 ++ (⟨#[46]⟩ : ByteArray)) ++ (t251.extract 1 t251.size)) ++ (rdOf ByteArray.empty t245 (ji19)))] (by rfl) rfl rfl (by (try simp only [List.map_toArray,List.map_cons,List.map_nil]);first|done|(simp only [hji19];rfl)|rfl|(simp only [List.length_drop,List.length_take];rfl)) ?_
               with_reducible refine (quant_Parse.calls k1 (((t252 ++ (⟨#[46]⟩ : ByteArray)) ++ (t251.extract 1 t251.size)) ++ (rdOf ByteArray.empty t245 (ji19))) t254 t255 _ A23.out (Glob.below hG (by repeat (first|(with_reducible first|exact HB.out|apply below_alloc|apply pw_below_drewN|apply below_drew1)|exact HB.out)))).mono ?_
               rintro e w31 ⟨rfl,hb⟩
               have HS0_:=(hb.cell (World.block_lt_of_cell? _ _ (hHeld))).trans (hHeld)
               refine ⟨_,rfl,?_⟩
               have n0_:=Aside0.mk (Kd.R_below (by (with_reducible repeat (first|apply Kd.R_alloc|apply Kd.R_drewN|apply Kd.R_drew));exact HO_9.out) hb)
               have n1_:=Aside0.mk (Kd.R_below (by (with_reducible repeat (first|apply Kd.R_alloc|apply Kd.R_drewN|apply Kd.R_drew));exact HO_10.out) hb)
               have n2_:=Aside0.mk (below_step (by repeat (first|(with_reducible first|exact HB.out|apply below_alloc|apply pw_below_drewN|apply below_drew1)|exact HB.out)) hb)
               clear HO_9;clear HO_10;clear HB;have HO_9:=n0_;have HO_10:=n1_;have HB:=n2_;clear n0_ n1_ n2_;(try clear hb);(try clear hb2);(try clear hk);(try clear hi)
               refine hK.out _ _ (HS0_) (fun hHeld => ?_)
               clear hK K
               refine norm_ (a':=?_) ?_ ?_
               rotate_left
               ·show Act.put _ (some 71) _ = _
                simp only [Act.put,List.setIfInBounds_toArray,List.set_cons_zero,List.set_cons_succ,i64_w,i32_w]
                rfl
               refine pure_ (i:=12) (N:=some 59) (v:=?_) (a':=?_) (bl 13 4) rfl rfl (any_of HT_.out (by kernel_rfl)) (fun _ _ _ h => h) (Or.inl ⟨by rfl,?_⟩) ?_ ?_
               rotate_left;·intro w';go_simp;with_reducible rfl
               rotate_left;·simp only [Act.put,List.setIfInBounds_toArray,List.set_cons_zero,List.set_cons_succ,i64_w,i32_w];rfl
               refine pure_ (i:=13) (N:=some 72) (v:=?_) (a':=?_) (bl 14 3) rfl rfl (any_of HT_.out (by kernel_rfl)) (fun _ _ _ h => h) (Or.inl ⟨by rfl,?_⟩) ?_ ?_
               rotate_left;·intro w';go_simp;with_reducible rfl
               rotate_left;·simp only [Act.put,List.setIfInBounds_toArray,List.set_cons_zero,List.set_cons_succ,i64_w,i32_w];rfl
               refine pure_ (i:=14) (N:=some 73) (v:=?_) (a':=?_) (bl 15 2) rfl rfl (any_of HT_.out (by kernel_rfl)) (fun _ _ _ h => h) (Or.inl ⟨by rfl,?_⟩) ?_ ?_
               rotate_left;·intro w';go_simp;with_reducible rfl
               rotate_left;·simp only [Act.put,List.setIfInBounds_toArray,List.set_cons_zero,List.set_cons_succ,i64_w,i32_w];rfl
               refine pure_ (i:=15) (N:=some 17) (v:=?_) (a':=?_) (bl 16 1) rfl rfl (any_of HT_.out (by kernel_rfl)) (fun _ _ _ h => h) (Or.inl ⟨by rfl,?_⟩) ?_ ?_
               rotate_left;·intro w';go_simp;with_reducible rfl
               rotate_left;·simp only [Act.put,List.setIfInBounds_toArray,List.set_cons_zero,List.set_cons_succ,i64_w,i32_w];rfl
               refine pure_ (i:=16) (N:=some 18) (v:=?_) (a':=?_) (bl 17 0) rfl rfl (any_of HT_.out (by kernel_rfl)) (fun _ _ _ h => h) (Or.inl ⟨by rfl,?_⟩) ?_ ?_
               rotate_left;·intro w';go_simp;with_reducible rfl
               rotate_left;·simp only [Act.put,List.setIfInBounds_toArray,List.set_cons_zero,List.set_cons_succ,i64_w,i32_w];rfl
               refine done_ (done_of HT_.out (by kernel_rfl)) ?_
               have p256 : 0 ≤ ((ji19) : Int):=of_decide_eq_true (by first|(with_reducible assumption)|assumption)
               have q256 : (ji19) < (t246.length : Int):=of_decide_eq_true (by first|(with_reducible assumption)|assumption)
               obtain ⟨ad256,e256,hx256_0⟩:=Kd.at_int (Kd.R_reads' HO_10.out).2.2 (ji19) p256 q256
               cases e256
               replace p256:=eq_true p256
               replace q256:=eq_true q256
               try go_wp2_with (first|((with_reducible refine gate_callee (f:=24) rfl ?_);refine goesL_ (some 86) rfl rfl Tryz.func24 (by kernel_rfl) rfl #[.int .u64 (IntKind.u64.wrap ((IntKind.u64.wrap ((IntKind.u64.wrap (a0)) * x13_1)) + (Int.tmod (IntKind.u64.wrap (a1)) x13_1))),.int .u64 (IntKind.u64.wrap (rd t246 (ji19)))] rfl (by (try simp only [List.map_toArray,List.map_cons,List.map_nil]);first|done|(simp only [hji19];rfl)|rfl|(simp only [List.length_drop,List.length_take];rfl)) ?_;(with_reducible refine (bits_Mul64.calls (IntKind.u64.wrap ((IntKind.u64.wrap ((IntKind.u64.wrap (a0)) * x13_1)) + (Int.tmod (IntKind.u64.wrap (a1)) x13_1))) (IntKind.u64.wrap (rd t246 (ji19))) t257 t258 _ A25.out).mono ?_);rintro e w' ⟨rfl,⟨nd,rfl⟩⟩;refine ⟨_,rfl,?_⟩))
               go_ret
               exact ⟨by first|rfl|(simp [errW_none,errW_some] <;> rfl)|(simp only [← hji19];first|rfl|(simp [errW_none,errW_some] <;> rfl))|(simp [*,errW_none,errW_some] <;> rfl),by repeat (first|(with_reducible first|exact HB.out|apply below_alloc|apply pw_below_drewN|apply below_drew1)|exact HB.out)⟩
              ·rw [if_neg c26] at H
               have c26b0 : decide (9007199254740992 ≤ t257) = false:=decide_eq_false c26
               clear c26
               replace H:=Option.bind_eq_some_iff.mp H
               obtain ⟨⟨t259,t260⟩,A320,H⟩:=H
               replace H : (if (IntKind.u64.wrap (t259 + (IntKind.u64.wrap (t257 * 1000)))) ≥ x13_1 then (if t255 = 7 then (some (t254 == 0)) else (some false)) else ((bits_Div64.f k1 (IntKind.u64.wrap (t259 + (IntKind.u64.wrap (t257 * 1000)))) t260 x13_1).bind fun bt261 => (if bt261.2 > 0 then (if (IntKind.u64.wrap (bt261.1 + 1)) > 9223372036854775807 then (if t255 = 7 then (some (t254 == 0)) else (some false)) else (if (IntKind.u64.wrap (bt261.1 + 1)) = 0 then (if t255 = 7 then (some (t254 == 0)) else (some false)) else (if t255 = 0 then (some (t254 == (wrap64 (IntKind.u64.wrap (bt261.1 + 1))))) else (some false)))) else (if bt261.1 > 9223372036854775807 then (if t255 = 7 then (some (t254 == 0)) else (some false)) else (if bt261.1 = 0 then (if t255 = 0 then (some (t254 == (wrap64 (bt261.1)))) else (some false)) else (if t255 = 0 then (some (t254 == (wrap64 (bt261.1)))) else (some false))))))) = some r:=H
               have A32:=Aside0.mk A320
               clear A320
               by_cases c33 : (IntKind.u64.wrap (t259 + (IntKind.u64.wrap (t257 * 1000)))) ≥ x13_1
               ·rw [if_pos c33] at H
                have c33b0 : decide (x13_1 ≤ (IntKind.u64.wrap (t259 + (IntKind.u64.wrap (t257 * 1000))))) = true:=decide_eq_true c33
                clear c33
                by_cases c34 : t255 = 7
                ·rw [if_pos c34] at H
                 have c34b0 : (t255 == 7) = true:=beq_iff_eq.mpr c34
                 have c34b1 : (t255 != 7) = false:=bne_eq_false_iff_eq.mpr c34
                 clear c34
                 obtain rfl:=Option.some.inj H
                 try go_wp2_with (first|((with_reducible refine gate_callee (f:=23) rfl ?_);refine goesL_ (some 57) rfl rfl Tryz.func23 (by kernel_rfl) rfl #[.int .u64 (IntKind.u64.wrap (x13_1 + (Int.tmod (IntKind.u64.wrap (a1)) x13_1))),.int .i64 10] rfl (by (try simp only [List.map_toArray,List.map_cons,List.map_nil]);first|done|rfl|(simp only [List.length_drop,List.length_take];rfl)) ?_;(with_reducible refine (strconv_FormatUint.calls (IntKind.u64.wrap (x13_1 + (Int.tmod (IntKind.u64.wrap (a1)) x13_1))) 10 t251 _ A14.out (Glob.below hG (by repeat (first|(with_reducible first|exact HB.out|apply below_alloc|apply pw_below_drewN|apply below_drew1)|exact HB.out)))).mono ?_);rintro e w35 ⟨rfl,hb⟩;refine ⟨_,rfl,?_⟩;have n0_:=Aside0.mk (Kd.R_below (by (with_reducible repeat (first|apply Kd.R_alloc|apply Kd.R_drewN|apply Kd.R_drew));exact HO_9.out) hb);have n1_:=Aside0.mk (Kd.R_below (by (with_reducible repeat (first|apply Kd.R_alloc|apply Kd.R_drewN|apply Kd.R_drew));exact HO_10.out) hb);have n2_:=Aside0.mk (below_step (by repeat (first|(with_reducible first|exact HB.out|apply below_alloc|apply pw_below_drewN|apply below_drew1)|exact HB.out)) hb);clear HO_9;clear HO_10;clear HB;have HO_9:=n0_;have HO_10:=n1_;have HB:=n2_;clear n0_ n1_ n2_;(try clear hb);(try clear hb2);(try clear hk);(try clear hi)))
                 have n0_:=Aside0.mk (Kd.R_drew HO_9.out)
                 have n1_:=Aside0.mk (Kd.R_drew HO_10.out)
                 have n2_:=Aside0.mk (below_drew1 HB.out)
                 clear HO_9;clear HO_10;clear HB;have HO_9:=n0_;have HO_10:=n1_;have HB:=n2_;clear n0_ n1_ n2_
                 obtain ⟨Ao37,co37,eo37⟩:=Kd.R_slice HO_9.out
                 (first|subst eo37|(injection eo37 with f1_ f2_ f3_;have f4_:=f1_.symm;have f5_:=f3_.symm;clear f1_ f2_ f3_;subst f4_;subst f5_))
                 have p253 : 0 ≤ ((ji19) : Int):=of_decide_eq_true (by first|(with_reducible assumption)|assumption)
                 have q253 : (ji19) < (t245.length : Int):=of_decide_eq_true (by first|(with_reducible assumption)|assumption)
                 obtain ⟨ad253,e253,hx253_0⟩:=Kd.at_string (Kd.R_reads' HO_9.out).2.2 (ji19) p253 q253
                 cases e253
                 replace p253:=eq_true p253
                 replace q253:=eq_true q253
                 refine start_ (n:=17) (S:=fun w' => w'.cell? (ad253.add ((ji19)).toNat) = some (.string (rdOf ByteArray.empty t245 (ji19)))) (ds:=[]) (bl 0 17) (by kernel_rfl) rfl rfl (hx253_0) (fun hHeld => ?_);refine with_tabW bursarlaw03_QuantMeans.tab13 bursarlaw03_QuantMeans.bits13 (fun HT_ HW_ => ?_)
                 generalize w35.drew = w36 at HO_9 HO_10 HB hx253_0 hHeld ⊢
                 refine pure_ (i:=0) (N:=some 60) (v:=?_) (a':=?_) (bl 1 16) rfl rfl (any_of HT_.out (by kernel_rfl)) (fun _ _ _ h => h) (Or.inl ⟨by rfl,?_⟩) ?_ ?_
                 rotate_left;·intro w';go_simp;with_reducible rfl
                 rotate_left;·simp only [Act.put,List.setIfInBounds_toArray,List.set_cons_zero,List.set_cons_succ,i64_w,i32_w];rfl
                 refine pure_ (i:=1) (N:=some 61) (v:=?_) (a':=?_) (bl 2 15) rfl rfl (any_of HT_.out (by kernel_rfl)) (fun _ _ _ h => h) (Or.inl ⟨by rfl,?_⟩) ?_ ?_
                 rotate_left;·intro w';go_simp;with_reducible rfl
                 rotate_left;·simp only [Act.put,List.setIfInBounds_toArray,List.set_cons_zero,List.set_cons_succ,i64_w,i32_w];rfl
                 refine pure_ (i:=4) (N:=some 64) (v:=?_) (a':=?_) #[true,true,false,false,true,false,false,false,false,false,false,false,false,false,false,false,false] rfl rfl (any_of HT_.out (by kernel_rfl)) (fun _ _ _ h => h) (Or.inl ⟨by rfl,?_⟩) ?_ ?_
                 rotate_left;·intro w';go_simp;with_reducible rfl
                 rotate_left;·simp only [Act.put,List.setIfInBounds_toArray,List.set_cons_zero,List.set_cons_succ,i64_w,i32_w];rfl
                 refine pure_ (i:=6) (N:=some 66) (v:=?_) (a':=?_) #[true,true,false,false,true,false,true,false,false,false,false,false,false,false,false,false,false] rfl rfl (any_of HT_.out (by kernel_rfl)) (fun _ _ _ h => h) (Or.inl ⟨by rfl,?_⟩) ?_ ?_
                 rotate_left;·intro w';go_simp;with_reducible rfl
                 rotate_left;·simp only [Act.put,List.setIfInBounds_toArray,List.set_cons_zero,List.set_cons_succ,i64_w,i32_w];rfl
                 refine pure_ (i:=7) (N:=some 67) (v:=?_) (a':=?_) #[true,true,false,false,true,false,true,true,false,false,false,false,false,false,false,false,false] rfl rfl (any_of HT_.out (by kernel_rfl)) (fun _ _ _ h => h) (Or.inl ⟨by rfl,?_⟩) ?_ ?_
                 rotate_left;·intro w';go_simp;with_reducible rfl
                 rotate_left;·simp only [Act.put,List.setIfInBounds_toArray,List.set_cons_zero,List.set_cons_succ,i64_w,i32_w];rfl
                 refine pure_ (i:=8) (N:=some 68) (v:=?_) (a':=?_) #[true,true,false,false,true,false,true,true,true,false,false,false,false,false,false,false,false] rfl rfl (any_of HT_.out (by kernel_rfl)) (fun _ _ _ h => h) (Or.inl ⟨by rfl,?_⟩) ?_ ?_
                 rotate_left;·intro w';go_simp;with_reducible rfl
                 rotate_left;·simp only [Act.put,List.setIfInBounds_toArray,List.set_cons_zero,List.set_cons_succ,i64_w,i32_w];rfl
                 refine take_ (i:=9) (N:=some 69) (v:=?_) (a':=?_) #[true,true,false,false,true,false,true,true,true,true,false,false,false,false,false,false,false] rfl rfl (take_ofW HT_.out HW_.out (by kernel_rfl)) (fun _ _ _ h => h) (Or.inl ⟨by rfl,?_⟩) hHeld ?_ ?_
                 rotate_left
                 ·intro w' s0
                  go_simp
                  with_reducible rfl
                 rotate_left
                 ·simp only [Act.put,List.setIfInBounds_toArray,List.set_cons_zero,List.set_cons_succ,i64_w,i32_w]
                  rfl
                 refine one_ (i:=2) (N:=some 62) #[true,true,true,false,true,false,true,true,true,true,false,false,false,false,false,false,false] rfl rfl (one_of HT_.out (by kernel_rfl)) (by decide) (fun K hK => ?_)
                 refine goes_ Tryz.func23 (by kernel_rfl) rfl #[.int .u64 (IntKind.u64.wrap (a0)),.int .i64 10] (by rfl) rfl rfl (by (try simp only [List.map_toArray,List.map_cons,List.map_nil]);first|done|rfl|(simp only [List.length_drop,List.length_take];rfl)) ?_
                 with_reducible refine (strconv_FormatUint.calls (IntKind.u64.wrap (a0)) 10 t252 _ A16.out (Glob.below hG (by repeat (first|(with_reducible first|exact HB.out|apply below_alloc|apply pw_below_drewN|apply below_drew1)|exact HB.out)))).mono ?_
                 rintro e w38 ⟨rfl,hb⟩
                 have HS0_:=(hb.cell (World.block_lt_of_cell? _ _ (hHeld))).trans (hHeld)
                 refine ⟨_,rfl,?_⟩
                 have n0_:=Aside0.mk (Kd.R_below (by (with_reducible repeat (first|apply Kd.R_alloc|apply Kd.R_drewN|apply Kd.R_drew));exact HO_9.out) hb)
                 have n1_:=Aside0.mk (Kd.R_below (by (with_reducible repeat (first|apply Kd.R_alloc|apply Kd.R_drewN|apply Kd.R_drew));exact HO_10.out) hb)
                 have n2_:=Aside0.mk (below_step (by repeat (first|(with_reducible first|exact HB.out|apply below_alloc|apply pw_below_drewN|apply below_drew1)|exact HB.out)) hb)
                 clear HO_9;clear HO_10;clear HB;have HO_9:=n0_;have HO_10:=n1_;have HB:=n2_;clear n0_ n1_ n2_;(try clear hb);(try clear hb2);(try clear hk);(try clear hi)
                 refine hK.out _ _ (HS0_) (fun hHeld => ?_)
                 clear hK K
                 refine norm_ (a':=?_) ?_ ?_
                 rotate_left
                 ·show Act.put _ (some 62) _ = _
                  simp only [Act.put,List.setIfInBounds_toArray,List.set_cons_zero,List.set_cons_succ,i64_w,i32_w]
                  rfl
                 refine pure_ (i:=3) (N:=some 63) (v:=?_) (a':=?_) #[true,true,true,true,true,false,true,true,true,true,false,false,false,false,false,false,false] rfl rfl (any_of HT_.out (by kernel_rfl)) (fun _ _ _ h => h) (Or.inl ⟨by rfl,?_⟩) ?_ ?_
                 rotate_left;·intro w';go_simp;with_reducible rfl
                 rotate_left;·simp only [Act.put,List.setIfInBounds_toArray,List.set_cons_zero,List.set_cons_succ,i64_w,i32_w];rfl
                 refine pure_ (i:=5) (N:=some 65) (v:=?_) (a':=?_) (bl 10 7) rfl rfl (any_of HT_.out (by kernel_rfl)) (fun _ _ _ h => h) (Or.inl ⟨by rfl,?_⟩) ?_ ?_
                 rotate_left;·intro w';go_simp;with_reducible rfl
                 rotate_left;·simp only [Act.put,List.setIfInBounds_toArray,List.set_cons_zero,List.set_cons_succ,i64_w,i32_w];rfl
                 refine pure_ (i:=10) (N:=some 70) (v:=?_) (a':=?_) (bl 11 6) rfl rfl (any_of HT_.out (by kernel_rfl)) (fun _ _ _ h => h) (Or.inl ⟨by rfl,?_⟩) ?_ ?_
                 rotate_left;·intro w';go_simp;with_reducible rfl
                 rotate_left;·simp only [Act.put,List.setIfInBounds_toArray,List.set_cons_zero,List.set_cons_succ,i64_w,i32_w];rfl
                 refine one_ (i:=11) (N:=some 71) (bl 12 5) rfl rfl (one_of HT_.out (by kernel_rfl)) (by decide) (fun K hK => ?_)
                 refine goes_ Tryz.func17 (by kernel_rfl) rfl #[.string (((t252 ++ (⟨#[46]⟩ : ByteArray)) ++ (t251.extract 1 t251.size)) ++ (rdOf ByteArray.empty t245 (ji19)))] (by rfl) rfl rfl (by (try simp only [List.map_toArray,List.map_cons,List.map_nil]);first|done|(simp only [hji19];rfl)|rfl|(simp only [List.length_drop,List.length_take];rfl)) ?_
                 with_reducible refine (quant_Parse.calls k1 (((t252 ++ (⟨#[46]⟩ : ByteArray)) ++ (t251.extract 1 t251.size)) ++ (rdOf ByteArray.empty t245 (ji19))) t254 t255 _ A23.out (Glob.below hG (by repeat (first|(with_reducible first|exact HB.out|apply below_alloc|apply pw_below_drewN|apply below_drew1)|exact HB.out)))).mono ?_
                 rintro e w39 ⟨rfl,hb⟩
                 have HS0_:=(hb.cell (World.block_lt_of_cell? _ _ (hHeld))).trans (hHeld)
                 refine ⟨_,rfl,?_⟩
                 have n0_:=Aside0.mk (Kd.R_below (by (with_reducible repeat (first|apply Kd.R_alloc|apply Kd.R_drewN|apply Kd.R_drew));exact HO_9.out) hb)
                 have n1_:=Aside0.mk (Kd.R_below (by (with_reducible repeat (first|apply Kd.R_alloc|apply Kd.R_drewN|apply Kd.R_drew));exact HO_10.out) hb)
                 have n2_:=Aside0.mk (below_step (by repeat (first|(with_reducible first|exact HB.out|apply below_alloc|apply pw_below_drewN|apply below_drew1)|exact HB.out)) hb)
                 clear HO_9;clear HO_10;clear HB;have HO_9:=n0_;have HO_10:=n1_;have HB:=n2_;clear n0_ n1_ n2_;(try clear hb);(try clear hb2);(try clear hk);(try clear hi)
                 refine hK.out _ _ (HS0_) (fun hHeld => ?_)
                 clear hK K
                 refine norm_ (a':=?_) ?_ ?_
                 rotate_left
                 ·show Act.put _ (some 71) _ = _
                  simp only [Act.put,List.setIfInBounds_toArray,List.set_cons_zero,List.set_cons_succ,i64_w,i32_w]
                  rfl
                 refine pure_ (i:=12) (N:=some 59) (v:=?_) (a':=?_) (bl 13 4) rfl rfl (any_of HT_.out (by kernel_rfl)) (fun _ _ _ h => h) (Or.inl ⟨by rfl,?_⟩) ?_ ?_
                 rotate_left;·intro w';go_simp;with_reducible rfl
                 rotate_left;·simp only [Act.put,List.setIfInBounds_toArray,List.set_cons_zero,List.set_cons_succ,i64_w,i32_w];rfl
                 refine pure_ (i:=13) (N:=some 72) (v:=?_) (a':=?_) (bl 14 3) rfl rfl (any_of HT_.out (by kernel_rfl)) (fun _ _ _ h => h) (Or.inl ⟨by rfl,?_⟩) ?_ ?_
                 rotate_left;·intro w';go_simp;with_reducible rfl
                 rotate_left;·simp only [Act.put,List.setIfInBounds_toArray,List.set_cons_zero,List.set_cons_succ,i64_w,i32_w];rfl
                 refine pure_ (i:=14) (N:=some 73) (v:=?_) (a':=?_) (bl 15 2) rfl rfl (any_of HT_.out (by kernel_rfl)) (fun _ _ _ h => h) (Or.inl ⟨by rfl,?_⟩) ?_ ?_
                 rotate_left;·intro w';go_simp;with_reducible rfl
                 rotate_left;·simp only [Act.put,List.setIfInBounds_toArray,List.set_cons_zero,List.set_cons_succ,i64_w,i32_w];rfl
                 refine pure_ (i:=15) (N:=some 17) (v:=?_) (a':=?_) (bl 16 1) rfl rfl (any_of HT_.out (by kernel_rfl)) (fun _ _ _ h => h) (Or.inl ⟨by rfl,?_⟩) ?_ ?_
                 rotate_left;·intro w';go_simp;with_reducible rfl
                 rotate_left;·simp only [Act.put,List.setIfInBounds_toArray,List.set_cons_zero,List.set_cons_succ,i64_w,i32_w];rfl
                 refine pure_ (i:=16) (N:=some 18) (v:=?_) (a':=?_) (bl 17 0) rfl rfl (any_of HT_.out (by kernel_rfl)) (fun _ _ _ h => h) (Or.inl ⟨by rfl,?_⟩) ?_ ?_
                 rotate_left;·intro w';go_simp;with_reducible rfl
                 rotate_left;·simp only [Act.put,List.setIfInBounds_toArray,List.set_cons_zero,List.set_cons_succ,i64_w,i32_w];rfl
                 refine done_ (done_of HT_.out (by kernel_rfl)) ?_
                 have p256 : 0 ≤ ((ji19) : Int):=of_decide_eq_true (by first|(with_reducible assumption)|assumption)
                 have q256 : (ji19) < (t246.length : Int):=of_decide_eq_true (by first|(with_reducible assumption)|assumption)
                 obtain ⟨ad256,e256,hx256_0⟩:=Kd.at_int (Kd.R_reads' HO_10.out).2.2 (ji19) p256 q256
                 cases e256
                 replace p256:=eq_true p256
                 replace q256:=eq_true q256
                 try go_wp2_with (first|((with_reducible refine gate_callee (f:=24) rfl ?_);refine goesL_ (some 86) rfl rfl Tryz.func24 (by kernel_rfl) rfl #[.int .u64 (IntKind.u64.wrap ((IntKind.u64.wrap ((IntKind.u64.wrap (a0)) * x13_1)) + (Int.tmod (IntKind.u64.wrap (a1)) x13_1))),.int .u64 (IntKind.u64.wrap (rd t246 (ji19)))] rfl (by (try simp only [List.map_toArray,List.map_cons,List.map_nil]);first|done|(simp only [hji19];rfl)|rfl|(simp only [List.length_drop,List.length_take];rfl)) ?_;(with_reducible refine (bits_Mul64.calls (IntKind.u64.wrap ((IntKind.u64.wrap ((IntKind.u64.wrap (a0)) * x13_1)) + (Int.tmod (IntKind.u64.wrap (a1)) x13_1))) (IntKind.u64.wrap (rd t246 (ji19))) t257 t258 _ A25.out).mono ?_);rintro e w' ⟨rfl,⟨nd,rfl⟩⟩;refine ⟨_,rfl,?_⟩)|((with_reducible refine gate_callee (f:=24) rfl ?_);refine goesL_ (some 93) rfl rfl Tryz.func24 (by kernel_rfl) rfl #[.int .u64 t258,.int .u64 1000] rfl (by (try simp only [List.map_toArray,List.map_cons,List.map_nil]);first|done|rfl|(simp only [List.length_drop,List.length_take];rfl)) ?_;(with_reducible refine (bits_Mul64.calls t258 1000 t259 t260 _ A32.out).mono ?_);rintro e w' ⟨rfl,⟨nd,rfl⟩⟩;refine ⟨_,rfl,?_⟩))
                 go_ret
                 exact ⟨by first|rfl|(simp [errW_none,errW_some] <;> rfl)|(simp only [← hji19];first|rfl|(simp [errW_none,errW_some] <;> rfl))|(simp [*,errW_none,errW_some] <;> rfl),by repeat (first|(with_reducible first|exact HB.out|apply below_alloc|apply pw_below_drewN|apply below_drew1)|exact HB.out)⟩
                ·rw [if_neg c34] at H
                 have c34b0 : (t255 == 7) = false:=beq_eq_false_iff_ne.mpr c34
                 have c34b1 : (t255 != 7) = true:=bne_iff_ne.mpr c34
                 obtain rfl:=Option.some.inj H
                 try go_wp2_with (first|((with_reducible refine gate_callee (f:=23) rfl ?_);refine goesL_ (some 57) rfl rfl Tryz.func23 (by kernel_rfl) rfl #[.int .u64 (IntKind.u64.wrap (x13_1 + (Int.tmod (IntKind.u64.wrap (a1)) x13_1))),.int .i64 10] rfl (by (try simp only [List.map_toArray,List.map_cons,List.map_nil]);first|done|rfl|(simp only [List.length_drop,List.length_take];rfl)) ?_;(with_reducible refine (strconv_FormatUint.calls (IntKind.u64.wrap (x13_1 + (Int.tmod (IntKind.u64.wrap (a1)) x13_1))) 10 t251 _ A14.out (Glob.below hG (by repeat (first|(with_reducible first|exact HB.out|apply below_alloc|apply pw_below_drewN|apply below_drew1)|exact HB.out)))).mono ?_);rintro e w40 ⟨rfl,hb⟩;refine ⟨_,rfl,?_⟩;have n0_:=Aside0.mk (Kd.R_below (by (with_reducible repeat (first|apply Kd.R_alloc|apply Kd.R_drewN|apply Kd.R_drew));exact HO_9.out) hb);have n1_:=Aside0.mk (Kd.R_below (by (with_reducible repeat (first|apply Kd.R_alloc|apply Kd.R_drewN|apply Kd.R_drew));exact HO_10.out) hb);have n2_:=Aside0.mk (below_step (by repeat (first|(with_reducible first|exact HB.out|apply below_alloc|apply pw_below_drewN|apply below_drew1)|exact HB.out)) hb);clear HO_9;clear HO_10;clear HB;have HO_9:=n0_;have HO_10:=n1_;have HB:=n2_;clear n0_ n1_ n2_;(try clear hb);(try clear hb2);(try clear hk);(try clear hi)))
                 have n0_:=Aside0.mk (Kd.R_drew HO_9.out)
                 have n1_:=Aside0.mk (Kd.R_drew HO_10.out)
                 have n2_:=Aside0.mk (below_drew1 HB.out)
                 clear HO_9;clear HO_10;clear HB;have HO_9:=n0_;have HO_10:=n1_;have HB:=n2_;clear n0_ n1_ n2_
                 obtain ⟨Ao42,co42,eo42⟩:=Kd.R_slice HO_9.out
                 (first|subst eo42|(injection eo42 with f1_ f2_ f3_;have f4_:=f1_.symm;have f5_:=f3_.symm;clear f1_ f2_ f3_;subst f4_;subst f5_))
                 have p253 : 0 ≤ ((ji19) : Int):=of_decide_eq_true (by first|(with_reducible assumption)|assumption)
                 have q253 : (ji19) < (t245.length : Int):=of_decide_eq_true (by first|(with_reducible assumption)|assumption)
                 obtain ⟨ad253,e253,hx253_0⟩:=Kd.at_string (Kd.R_reads' HO_9.out).2.2 (ji19) p253 q253
                 cases e253
                 replace p253:=eq_true p253
                 replace q253:=eq_true q253
                 refine start_ (n:=17) (S:=fun w' => w'.cell? (ad253.add ((ji19)).toNat) = some (.string (rdOf ByteArray.empty t245 (ji19)))) (ds:=[]) (bl 0 17) (by kernel_rfl) rfl rfl (hx253_0) (fun hHeld => ?_);refine with_tabW bursarlaw03_QuantMeans.tab13 bursarlaw03_QuantMeans.bits13 (fun HT_ HW_ => ?_)
                 generalize w40.drew = w41 at HO_9 HO_10 HB hx253_0 hHeld ⊢
                 refine pure_ (i:=0) (N:=some 60) (v:=?_) (a':=?_) (bl 1 16) rfl rfl (any_of HT_.out (by kernel_rfl)) (fun _ _ _ h => h) (Or.inl ⟨by rfl,?_⟩) ?_ ?_
                 rotate_left;·intro w';go_simp;with_reducible rfl
                 rotate_left;·simp only [Act.put,List.setIfInBounds_toArray,List.set_cons_zero,List.set_cons_succ,i64_w,i32_w];rfl
                 refine pure_ (i:=1) (N:=some 61) (v:=?_) (a':=?_) (bl 2 15) rfl rfl (any_of HT_.out (by kernel_rfl)) (fun _ _ _ h => h) (Or.inl ⟨by rfl,?_⟩) ?_ ?_
                 rotate_left;·intro w';go_simp;with_reducible rfl
                 rotate_left;·simp only [Act.put,List.setIfInBounds_toArray,List.set_cons_zero,List.set_cons_succ,i64_w,i32_w];rfl
                 refine pure_ (i:=4) (N:=some 64) (v:=?_) (a':=?_) #[true,true,false,false,true,false,false,false,false,false,false,false,false,false,false,false,false] rfl rfl (any_of HT_.out (by kernel_rfl)) (fun _ _ _ h => h) (Or.inl ⟨by rfl,?_⟩) ?_ ?_
                 rotate_left;·intro w';go_simp;with_reducible rfl
                 rotate_left;·simp only [Act.put,List.setIfInBounds_toArray,List.set_cons_zero,List.set_cons_succ,i64_w,i32_w];rfl
                 refine pure_ (i:=6) (N:=some 66) (v:=?_) (a':=?_) #[true,true,false,false,true,false,true,false,false,false,false,false,false,false,false,false,false] rfl rfl (any_of HT_.out (by kernel_rfl)) (fun _ _ _ h => h) (Or.inl ⟨by rfl,?_⟩) ?_ ?_
                 rotate_left;·intro w';go_simp;with_reducible rfl
                 rotate_left;·simp only [Act.put,List.setIfInBounds_toArray,List.set_cons_zero,List.set_cons_succ,i64_w,i32_w];rfl
                 refine pure_ (i:=7) (N:=some 67) (v:=?_) (a':=?_) #[true,true,false,false,true,false,true,true,false,false,false,false,false,false,false,false,false] rfl rfl (any_of HT_.out (by kernel_rfl)) (fun _ _ _ h => h) (Or.inl ⟨by rfl,?_⟩) ?_ ?_
                 rotate_left;·intro w';go_simp;with_reducible rfl
                 rotate_left;·simp only [Act.put,List.setIfInBounds_toArray,List.set_cons_zero,List.set_cons_succ,i64_w,i32_w];rfl
                 refine pure_ (i:=8) (N:=some 68) (v:=?_) (a':=?_) #[true,true,false,false,true,false,true,true,true,false,false,false,false,false,false,false,false] rfl rfl (any_of HT_.out (by kernel_rfl)) (fun _ _ _ h => h) (Or.inl ⟨by rfl,?_⟩) ?_ ?_
                 rotate_left;·intro w';go_simp;with_reducible rfl
                 rotate_left;·simp only [Act.put,List.setIfInBounds_toArray,List.set_cons_zero,List.set_cons_succ,i64_w,i32_w];rfl
                 refine take_ (i:=9) (N:=some 69) (v:=?_) (a':=?_) #[true,true,false,false,true,false,true,true,true,true,false,false,false,false,false,false,false] rfl rfl (take_ofW HT_.out HW_.out (by kernel_rfl)) (fun _ _ _ h => h) (Or.inl ⟨by rfl,?_⟩) hHeld ?_ ?_
                 rotate_left
                 ·intro w' s0
                  go_simp
                  with_reducible rfl
                 rotate_left
                 ·simp only [Act.put,List.setIfInBounds_toArray,List.set_cons_zero,List.set_cons_succ,i64_w,i32_w]
                  rfl
                 refine one_ (i:=2) (N:=some 62) #[true,true,true,false,true,false,true,true,true,true,false,false,false,false,false,false,false] rfl rfl (one_of HT_.out (by kernel_rfl)) (by decide) (fun K hK => ?_)
                 refine goes_ Tryz.func23 (by kernel_rfl) rfl #[.int .u64 (IntKind.u64.wrap (a0)),.int .i64 10] (by rfl) rfl rfl (by (try simp only [List.map_toArray,List.map_cons,List.map_nil]);first|done|rfl|(simp only [List.length_drop,List.length_take];rfl)) ?_
                 with_reducible refine (strconv_FormatUint.calls (IntKind.u64.wrap (a0)) 10 t252 _ A16.out (Glob.below hG (by repeat (first|(with_reducible first|exact HB.out|apply below_alloc|apply pw_below_drewN|apply below_drew1)|exact HB.out)))).mono ?_
                 rintro e w43 ⟨rfl,hb⟩
                 have HS0_:=(hb.cell (World.block_lt_of_cell? _ _ (hHeld))).trans (hHeld)
                 refine ⟨_,rfl,?_⟩
                 have n0_:=Aside0.mk (Kd.R_below (by (with_reducible repeat (first|apply Kd.R_alloc|apply Kd.R_drewN|apply Kd.R_drew));exact HO_9.out) hb)
                 have n1_:=Aside0.mk (Kd.R_below (by (with_reducible repeat (first|apply Kd.R_alloc|apply Kd.R_drewN|apply Kd.R_drew));exact HO_10.out) hb)
                 have n2_:=Aside0.mk (below_step (by repeat (first|(with_reducible first|exact HB.out|apply below_alloc|apply pw_below_drewN|apply below_drew1)|exact HB.out)) hb)
                 clear HO_9;clear HO_10;clear HB;have HO_9:=n0_;have HO_10:=n1_;have HB:=n2_;clear n0_ n1_ n2_;(try clear hb);(try clear hb2);(try clear hk);(try clear hi)
                 refine hK.out _ _ (HS0_) (fun hHeld => ?_)
                 clear hK K
                 refine norm_ (a':=?_) ?_ ?_
                 rotate_left
                 ·show Act.put _ (some 62) _ = _
                  simp only [Act.put,List.setIfInBounds_toArray,List.set_cons_zero,List.set_cons_succ,i64_w,i32_w]
                  rfl
                 refine pure_ (i:=3) (N:=some 63) (v:=?_) (a':=?_) #[true,true,true,true,true,false,true,true,true,true,false,false,false,false,false,false,false] rfl rfl (any_of HT_.out (by kernel_rfl)) (fun _ _ _ h => h) (Or.inl ⟨by rfl,?_⟩) ?_ ?_
                 rotate_left;·intro w';go_simp;with_reducible rfl
                 rotate_left;·simp only [Act.put,List.setIfInBounds_toArray,List.set_cons_zero,List.set_cons_succ,i64_w,i32_w];rfl
                 refine pure_ (i:=5) (N:=some 65) (v:=?_) (a':=?_) (bl 10 7) rfl rfl (any_of HT_.out (by kernel_rfl)) (fun _ _ _ h => h) (Or.inl ⟨by rfl,?_⟩) ?_ ?_
                 rotate_left;·intro w';go_simp;with_reducible rfl
                 rotate_left;·simp only [Act.put,List.setIfInBounds_toArray,List.set_cons_zero,List.set_cons_succ,i64_w,i32_w];rfl
                 refine pure_ (i:=10) (N:=some 70) (v:=?_) (a':=?_) (bl 11 6) rfl rfl (any_of HT_.out (by kernel_rfl)) (fun _ _ _ h => h) (Or.inl ⟨by rfl,?_⟩) ?_ ?_
                 rotate_left;·intro w';go_simp;with_reducible rfl
                 rotate_left;·simp only [Act.put,List.setIfInBounds_toArray,List.set_cons_zero,List.set_cons_succ,i64_w,i32_w];rfl
                 refine one_ (i:=11) (N:=some 71) (bl 12 5) rfl rfl (one_of HT_.out (by kernel_rfl)) (by decide) (fun K hK => ?_)
                 refine goes_ Tryz.func17 (by kernel_rfl) rfl #[.string (((t252 ++ (⟨#[46]⟩ : ByteArray)) ++ (t251.extract 1 t251.size)) ++ (rdOf ByteArray.empty t245 (ji19)))] (by rfl) rfl rfl (by (try simp only [List.map_toArray,List.map_cons,List.map_nil]);first|done|(simp only [hji19];rfl)|rfl|(simp only [List.length_drop,List.length_take];rfl)) ?_
                 with_reducible refine (quant_Parse.calls k1 (((t252 ++ (⟨#[46]⟩ : ByteArray)) ++ (t251.extract 1 t251.size)) ++ (rdOf ByteArray.empty t245 (ji19))) t254 t255 _ A23.out (Glob.below hG (by repeat (first|(with_reducible first|exact HB.out|apply below_alloc|apply pw_below_drewN|apply below_drew1)|exact HB.out)))).mono ?_
                 rintro e w44 ⟨rfl,hb⟩
                 have HS0_:=(hb.cell (World.block_lt_of_cell? _ _ (hHeld))).trans (hHeld)
                 refine ⟨_,rfl,?_⟩
                 have n0_:=Aside0.mk (Kd.R_below (by (with_reducible repeat (first|apply Kd.R_alloc|apply Kd.R_drewN|apply Kd.R_drew));exact HO_9.out) hb)
                 have n1_:=Aside0.mk (Kd.R_below (by (with_reducible repeat (first|apply Kd.R_alloc|apply Kd.R_drewN|apply Kd.R_drew));exact HO_10.out) hb)
                 have n2_:=Aside0.mk (below_step (by repeat (first|(with_reducible first|exact HB.out|apply below_alloc|apply pw_below_drewN|apply below_drew1)|exact HB.out)) hb)
                 clear HO_9;clear HO_10;clear HB;have HO_9:=n0_;have HO_10:=n1_;have HB:=n2_;clear n0_ n1_ n2_;(try clear hb);(try clear hb2);(try clear hk);(try clear hi)
                 refine hK.out _ _ (HS0_) (fun hHeld => ?_)
                 clear hK K
                 refine norm_ (a':=?_) ?_ ?_
                 rotate_left
                 ·show Act.put _ (some 71) _ = _
                  simp only [Act.put,List.setIfInBounds_toArray,List.set_cons_zero,List.set_cons_succ,i64_w,i32_w]
                  rfl
                 refine pure_ (i:=12) (N:=some 59) (v:=?_) (a':=?_) (bl 13 4) rfl rfl (any_of HT_.out (by kernel_rfl)) (fun _ _ _ h => h) (Or.inl ⟨by rfl,?_⟩) ?_ ?_
                 rotate_left;·intro w';go_simp;with_reducible rfl
                 rotate_left;·simp only [Act.put,List.setIfInBounds_toArray,List.set_cons_zero,List.set_cons_succ,i64_w,i32_w];rfl
                 refine pure_ (i:=13) (N:=some 72) (v:=?_) (a':=?_) (bl 14 3) rfl rfl (any_of HT_.out (by kernel_rfl)) (fun _ _ _ h => h) (Or.inl ⟨by rfl,?_⟩) ?_ ?_
                 rotate_left;·intro w';go_simp;with_reducible rfl
                 rotate_left;·simp only [Act.put,List.setIfInBounds_toArray,List.set_cons_zero,List.set_cons_succ,i64_w,i32_w];rfl
                 refine pure_ (i:=14) (N:=some 73) (v:=?_) (a':=?_) (bl 15 2) rfl rfl (any_of HT_.out (by kernel_rfl)) (fun _ _ _ h => h) (Or.inl ⟨by rfl,?_⟩) ?_ ?_
                 rotate_left;·intro w';go_simp;with_reducible rfl
                 rotate_left;·simp only [Act.put,List.setIfInBounds_toArray,List.set_cons_zero,List.set_cons_succ,i64_w,i32_w];rfl
                 refine pure_ (i:=15) (N:=some 17) (v:=?_) (a':=?_) (bl 16 1) rfl rfl (any_of HT_.out (by kernel_rfl)) (fun _ _ _ h => h) (Or.inl ⟨by rfl,?_⟩) ?_ ?_
                 rotate_left;·intro w';go_simp;with_reducible rfl
                 rotate_left;·simp only [Act.put,List.setIfInBounds_toArray,List.set_cons_zero,List.set_cons_succ,i64_w,i32_w];rfl
                 refine pure_ (i:=16) (N:=some 18) (v:=?_) (a':=?_) (bl 17 0) rfl rfl (any_of HT_.out (by kernel_rfl)) (fun _ _ _ h => h) (Or.inl ⟨by rfl,?_⟩) ?_ ?_
                 rotate_left;·intro w';go_simp;with_reducible rfl
                 rotate_left;·simp only [Act.put,List.setIfInBounds_toArray,List.set_cons_zero,List.set_cons_succ,i64_w,i32_w];rfl
                 refine done_ (done_of HT_.out (by kernel_rfl)) ?_
                 have p256 : 0 ≤ ((ji19) : Int):=of_decide_eq_true (by first|(with_reducible assumption)|assumption)
                 have q256 : (ji19) < (t246.length : Int):=of_decide_eq_true (by first|(with_reducible assumption)|assumption)
                 obtain ⟨ad256,e256,hx256_0⟩:=Kd.at_int (Kd.R_reads' HO_10.out).2.2 (ji19) p256 q256
                 cases e256
                 replace p256:=eq_true p256
                 replace q256:=eq_true q256
                 try go_wp2_with (first|((with_reducible refine gate_callee (f:=24) rfl ?_);refine goesL_ (some 86) rfl rfl Tryz.func24 (by kernel_rfl) rfl #[.int .u64 (IntKind.u64.wrap ((IntKind.u64.wrap ((IntKind.u64.wrap (a0)) * x13_1)) + (Int.tmod (IntKind.u64.wrap (a1)) x13_1))),.int .u64 (IntKind.u64.wrap (rd t246 (ji19)))] rfl (by (try simp only [List.map_toArray,List.map_cons,List.map_nil]);first|done|(simp only [hji19];rfl)|rfl|(simp only [List.length_drop,List.length_take];rfl)) ?_;(with_reducible refine (bits_Mul64.calls (IntKind.u64.wrap ((IntKind.u64.wrap ((IntKind.u64.wrap (a0)) * x13_1)) + (Int.tmod (IntKind.u64.wrap (a1)) x13_1))) (IntKind.u64.wrap (rd t246 (ji19))) t257 t258 _ A25.out).mono ?_);rintro e w' ⟨rfl,⟨nd,rfl⟩⟩;refine ⟨_,rfl,?_⟩)|((with_reducible refine gate_callee (f:=24) rfl ?_);refine goesL_ (some 93) rfl rfl Tryz.func24 (by kernel_rfl) rfl #[.int .u64 t258,.int .u64 1000] rfl (by (try simp only [List.map_toArray,List.map_cons,List.map_nil]);first|done|rfl|(simp only [List.length_drop,List.length_take];rfl)) ?_;(with_reducible refine (bits_Mul64.calls t258 1000 t259 t260 _ A32.out).mono ?_);rintro e w' ⟨rfl,⟨nd,rfl⟩⟩;refine ⟨_,rfl,?_⟩))
                 go_ret
                 exact ⟨by first|rfl|(simp [errW_none,errW_some] <;> rfl)|(simp only [← hji19];first|rfl|(simp [errW_none,errW_some] <;> rfl))|(simp [*,errW_none,errW_some] <;> rfl),by repeat (first|(with_reducible first|exact HB.out|apply below_alloc|apply pw_below_drewN|apply below_drew1)|exact HB.out)⟩
               ·rw [if_neg c33] at H
                have c33b0 : decide (x13_1 ≤ (IntKind.u64.wrap (t259 + (IntKind.u64.wrap (t257 * 1000))))) = false:=decide_eq_false c33
                clear c33
                replace H:=Option.bind_eq_some_iff.mp H
                obtain ⟨⟨t261,t262⟩,A450,H⟩:=H
                replace H : (if t262 > 0 then (if (IntKind.u64.wrap (t261 + 1)) > 9223372036854775807 then (if t255 = 7 then (some (t254 == 0)) else (some false)) else (if (IntKind.u64.wrap (t261 + 1)) = 0 then (if t255 = 7 then (some (t254 == 0)) else (some false)) else (if t255 = 0 then (some (t254 == (wrap64 (IntKind.u64.wrap (t261 + 1))))) else (some false)))) else (if t261 > 9223372036854775807 then (if t255 = 7 then (some (t254 == 0)) else (some false)) else (if t261 = 0 then (if t255 = 0 then (some (t254 == (wrap64 (t261)))) else (some false)) else (if t255 = 0 then (some (t254 == (wrap64 (t261)))) else (some false))))) = some r:=H
                have A45:=Aside0.mk A450
                clear A450
                by_cases c46 : t262 > 0
                ·rw [if_pos c46] at H
                 have c46b0 : decide (0 < t262) = true:=decide_eq_true c46
                 clear c46
                 by_cases c47 : (IntKind.u64.wrap (t261 + 1)) > 9223372036854775807
                 ·rw [if_pos c47] at H
                  have c47b0 : decide (9223372036854775807 < (IntKind.u64.wrap (t261 + 1))) = true:=decide_eq_true c47
                  clear c47
                  by_cases c48 : t255 = 7
                  ·rw [if_pos c48] at H
                   have c48b0 : (t255 == 7) = true:=beq_iff_eq.mpr c48
                   have c48b1 : (t255 != 7) = false:=bne_eq_false_iff_eq.mpr c48
                   clear c48
                   obtain rfl:=Option.some.inj H
                   try go_wp2_with (first|((with_reducible refine gate_callee (f:=23) rfl ?_);refine goesL_ (some 57) rfl rfl Tryz.func23 (by kernel_rfl) rfl #[.int .u64 (IntKind.u64.wrap (x13_1 + (Int.tmod (IntKind.u64.wrap (a1)) x13_1))),.int .i64 10] rfl (by (try simp only [List.map_toArray,List.map_cons,List.map_nil]);first|done|rfl|(simp only [List.length_drop,List.length_take];rfl)) ?_;(with_reducible refine (strconv_FormatUint.calls (IntKind.u64.wrap (x13_1 + (Int.tmod (IntKind.u64.wrap (a1)) x13_1))) 10 t251 _ A14.out (Glob.below hG (by repeat (first|(with_reducible first|exact HB.out|apply below_alloc|apply pw_below_drewN|apply below_drew1)|exact HB.out)))).mono ?_);rintro e w49 ⟨rfl,hb⟩;refine ⟨_,rfl,?_⟩;have n0_:=Aside0.mk (Kd.R_below (by (with_reducible repeat (first|apply Kd.R_alloc|apply Kd.R_drewN|apply Kd.R_drew));exact HO_9.out) hb);have n1_:=Aside0.mk (Kd.R_below (by (with_reducible repeat (first|apply Kd.R_alloc|apply Kd.R_drewN|apply Kd.R_drew));exact HO_10.out) hb);have n2_:=Aside0.mk (below_step (by repeat (first|(with_reducible first|exact HB.out|apply below_alloc|apply pw_below_drewN|apply below_drew1)|exact HB.out)) hb);clear HO_9;clear HO_10;clear HB;have HO_9:=n0_;have HO_10:=n1_;have HB:=n2_;clear n0_ n1_ n2_;(try clear hb);(try clear hb2);(try clear hk);(try clear hi)))
                   have n0_:=Aside0.mk (Kd.R_drew HO_9.out)
                   have n1_:=Aside0.mk (Kd.R_drew HO_10.out)
                   have n2_:=Aside0.mk (below_drew1 HB.out)
                   clear HO_9;clear HO_10;clear HB;have HO_9:=n0_;have HO_10:=n1_;have HB:=n2_;clear n0_ n1_ n2_
                   obtain ⟨Ao51,co51,eo51⟩:=Kd.R_slice HO_9.out
                   (first|subst eo51|(injection eo51 with f1_ f2_ f3_;have f4_:=f1_.symm;have f5_:=f3_.symm;clear f1_ f2_ f3_;subst f4_;subst f5_))
                   have p253 : 0 ≤ ((ji19) : Int):=of_decide_eq_true (by first|(with_reducible assumption)|assumption)
                   have q253 : (ji19) < (t245.length : Int):=of_decide_eq_true (by first|(with_reducible assumption)|assumption)
                   obtain ⟨ad253,e253,hx253_0⟩:=Kd.at_string (Kd.R_reads' HO_9.out).2.2 (ji19) p253 q253
                   cases e253
                   replace p253:=eq_true p253
                   replace q253:=eq_true q253
                   refine start_ (n:=17) (S:=fun w' => w'.cell? (ad253.add ((ji19)).toNat) = some (.string (rdOf ByteArray.empty t245 (ji19)))) (ds:=[]) (bl 0 17) (by kernel_rfl) rfl rfl (hx253_0) (fun hHeld => ?_);refine with_tabW bursarlaw03_QuantMeans.tab13 bursarlaw03_QuantMeans.bits13 (fun HT_ HW_ => ?_)
                   generalize w49.drew = w50 at HO_9 HO_10 HB hx253_0 hHeld ⊢
                   refine pure_ (i:=0) (N:=some 60) (v:=?_) (a':=?_) (bl 1 16) rfl rfl (any_of HT_.out (by kernel_rfl)) (fun _ _ _ h => h) (Or.inl ⟨by rfl,?_⟩) ?_ ?_
                   rotate_left;·intro w';go_simp;with_reducible rfl
                   rotate_left;·simp only [Act.put,List.setIfInBounds_toArray,List.set_cons_zero,List.set_cons_succ,i64_w,i32_w];rfl
                   refine pure_ (i:=1) (N:=some 61) (v:=?_) (a':=?_) (bl 2 15) rfl rfl (any_of HT_.out (by kernel_rfl)) (fun _ _ _ h => h) (Or.inl ⟨by rfl,?_⟩) ?_ ?_
                   rotate_left;·intro w';go_simp;with_reducible rfl
                   rotate_left;·simp only [Act.put,List.setIfInBounds_toArray,List.set_cons_zero,List.set_cons_succ,i64_w,i32_w];rfl
                   refine pure_ (i:=4) (N:=some 64) (v:=?_) (a':=?_) #[true,true,false,false,true,false,false,false,false,false,false,false,false,false,false,false,false] rfl rfl (any_of HT_.out (by kernel_rfl)) (fun _ _ _ h => h) (Or.inl ⟨by rfl,?_⟩) ?_ ?_
                   rotate_left;·intro w';go_simp;with_reducible rfl
                   rotate_left;·simp only [Act.put,List.setIfInBounds_toArray,List.set_cons_zero,List.set_cons_succ,i64_w,i32_w];rfl
                   refine pure_ (i:=6) (N:=some 66) (v:=?_) (a':=?_) #[true,true,false,false,true,false,true,false,false,false,false,false,false,false,false,false,false] rfl rfl (any_of HT_.out (by kernel_rfl)) (fun _ _ _ h => h) (Or.inl ⟨by rfl,?_⟩) ?_ ?_
                   rotate_left;·intro w';go_simp;with_reducible rfl
                   rotate_left;·simp only [Act.put,List.setIfInBounds_toArray,List.set_cons_zero,List.set_cons_succ,i64_w,i32_w];rfl
                   refine pure_ (i:=7) (N:=some 67) (v:=?_) (a':=?_) #[true,true,false,false,true,false,true,true,false,false,false,false,false,false,false,false,false] rfl rfl (any_of HT_.out (by kernel_rfl)) (fun _ _ _ h => h) (Or.inl ⟨by rfl,?_⟩) ?_ ?_
                   rotate_left;·intro w';go_simp;with_reducible rfl
                   rotate_left;·simp only [Act.put,List.setIfInBounds_toArray,List.set_cons_zero,List.set_cons_succ,i64_w,i32_w];rfl
                   refine pure_ (i:=8) (N:=some 68) (v:=?_) (a':=?_) #[true,true,false,false,true,false,true,true,true,false,false,false,false,false,false,false,false] rfl rfl (any_of HT_.out (by kernel_rfl)) (fun _ _ _ h => h) (Or.inl ⟨by rfl,?_⟩) ?_ ?_
                   rotate_left;·intro w';go_simp;with_reducible rfl
                   rotate_left;·simp only [Act.put,List.setIfInBounds_toArray,List.set_cons_zero,List.set_cons_succ,i64_w,i32_w];rfl
                   refine take_ (i:=9) (N:=some 69) (v:=?_) (a':=?_) #[true,true,false,false,true,false,true,true,true,true,false,false,false,false,false,false,false] rfl rfl (take_ofW HT_.out HW_.out (by kernel_rfl)) (fun _ _ _ h => h) (Or.inl ⟨by rfl,?_⟩) hHeld ?_ ?_
                   rotate_left
                   ·intro w' s0
                    go_simp
                    with_reducible rfl
                   rotate_left
                   ·simp only [Act.put,List.setIfInBounds_toArray,List.set_cons_zero,List.set_cons_succ,i64_w,i32_w]
                    rfl
                   refine one_ (i:=2) (N:=some 62) #[true,true,true,false,true,false,true,true,true,true,false,false,false,false,false,false,false] rfl rfl (one_of HT_.out (by kernel_rfl)) (by decide) (fun K hK => ?_)
                   refine goes_ Tryz.func23 (by kernel_rfl) rfl #[.int .u64 (IntKind.u64.wrap (a0)),.int .i64 10] (by rfl) rfl rfl (by (try simp only [List.map_toArray,List.map_cons,List.map_nil]);first|done|rfl|(simp only [List.length_drop,List.length_take];rfl)) ?_
                   with_reducible refine (strconv_FormatUint.calls (IntKind.u64.wrap (a0)) 10 t252 _ A16.out (Glob.below hG (by repeat (first|(with_reducible first|exact HB.out|apply below_alloc|apply pw_below_drewN|apply below_drew1)|exact HB.out)))).mono ?_
                   rintro e w52 ⟨rfl,hb⟩
                   have HS0_:=(hb.cell (World.block_lt_of_cell? _ _ (hHeld))).trans (hHeld)
                   refine ⟨_,rfl,?_⟩
                   have n0_:=Aside0.mk (Kd.R_below (by (with_reducible repeat (first|apply Kd.R_alloc|apply Kd.R_drewN|apply Kd.R_drew));exact HO_9.out) hb)
                   have n1_:=Aside0.mk (Kd.R_below (by (with_reducible repeat (first|apply Kd.R_alloc|apply Kd.R_drewN|apply Kd.R_drew));exact HO_10.out) hb)
                   have n2_:=Aside0.mk (below_step (by repeat (first|(with_reducible first|exact HB.out|apply below_alloc|apply pw_below_drewN|apply below_drew1)|exact HB.out)) hb)
                   clear HO_9;clear HO_10;clear HB;have HO_9:=n0_;have HO_10:=n1_;have HB:=n2_;clear n0_ n1_ n2_;(try clear hb);(try clear hb2);(try clear hk);(try clear hi)
                   refine hK.out _ _ (HS0_) (fun hHeld => ?_)
                   clear hK K
                   refine norm_ (a':=?_) ?_ ?_
                   rotate_left
                   ·show Act.put _ (some 62) _ = _
                    simp only [Act.put,List.setIfInBounds_toArray,List.set_cons_zero,List.set_cons_succ,i64_w,i32_w]
                    rfl
                   refine pure_ (i:=3) (N:=some 63) (v:=?_) (a':=?_) #[true,true,true,true,true,false,true,true,true,true,false,false,false,false,false,false,false] rfl rfl (any_of HT_.out (by kernel_rfl)) (fun _ _ _ h => h) (Or.inl ⟨by rfl,?_⟩) ?_ ?_
                   rotate_left;·intro w';go_simp;with_reducible rfl
                   rotate_left;·simp only [Act.put,List.setIfInBounds_toArray,List.set_cons_zero,List.set_cons_succ,i64_w,i32_w];rfl
                   refine pure_ (i:=5) (N:=some 65) (v:=?_) (a':=?_) (bl 10 7) rfl rfl (any_of HT_.out (by kernel_rfl)) (fun _ _ _ h => h) (Or.inl ⟨by rfl,?_⟩) ?_ ?_
                   rotate_left;·intro w';go_simp;with_reducible rfl
                   rotate_left;·simp only [Act.put,List.setIfInBounds_toArray,List.set_cons_zero,List.set_cons_succ,i64_w,i32_w];rfl
                   refine pure_ (i:=10) (N:=some 70) (v:=?_) (a':=?_) (bl 11 6) rfl rfl (any_of HT_.out (by kernel_rfl)) (fun _ _ _ h => h) (Or.inl ⟨by rfl,?_⟩) ?_ ?_
                   rotate_left;·intro w';go_simp;with_reducible rfl
                   rotate_left;·simp only [Act.put,List.setIfInBounds_toArray,List.set_cons_zero,List.set_cons_succ,i64_w,i32_w];rfl
                   refine one_ (i:=11) (N:=some 71) (bl 12 5) rfl rfl (one_of HT_.out (by kernel_rfl)) (by decide) (fun K hK => ?_)
                   refine goes_ Tryz.func17 (by kernel_rfl) rfl #[.string (((t252 ++ (⟨#[46]⟩ : ByteArray)) ++ (t251.extract 1 t251.size)) ++ (rdOf ByteArray.empty t245 (ji19)))] (by rfl) rfl rfl (by (try simp only [List.map_toArray,List.map_cons,List.map_nil]);first|done|(simp only [hji19];rfl)|rfl|(simp only [List.length_drop,List.length_take];rfl)) ?_
                   with_reducible refine (quant_Parse.calls k1 (((t252 ++ (⟨#[46]⟩ : ByteArray)) ++ (t251.extract 1 t251.size)) ++ (rdOf ByteArray.empty t245 (ji19))) t254 t255 _ A23.out (Glob.below hG (by repeat (first|(with_reducible first|exact HB.out|apply below_alloc|apply pw_below_drewN|apply below_drew1)|exact HB.out)))).mono ?_
                   rintro e w53 ⟨rfl,hb⟩
                   have HS0_:=(hb.cell (World.block_lt_of_cell? _ _ (hHeld))).trans (hHeld)
                   refine ⟨_,rfl,?_⟩
                   have n0_:=Aside0.mk (Kd.R_below (by (with_reducible repeat (first|apply Kd.R_alloc|apply Kd.R_drewN|apply Kd.R_drew));exact HO_9.out) hb)
                   have n1_:=Aside0.mk (Kd.R_below (by (with_reducible repeat (first|apply Kd.R_alloc|apply Kd.R_drewN|apply Kd.R_drew));exact HO_10.out) hb)
                   have n2_:=Aside0.mk (below_step (by repeat (first|(with_reducible first|exact HB.out|apply below_alloc|apply pw_below_drewN|apply below_drew1)|exact HB.out)) hb)
                   clear HO_9;clear HO_10;clear HB;have HO_9:=n0_;have HO_10:=n1_;have HB:=n2_;clear n0_ n1_ n2_;(try clear hb);(try clear hb2);(try clear hk);(try clear hi)
                   refine hK.out _ _ (HS0_) (fun hHeld => ?_)
                   clear hK K
                   refine norm_ (a':=?_) ?_ ?_
                   rotate_left
                   ·show Act.put _ (some 71) _ = _
                    simp only [Act.put,List.setIfInBounds_toArray,List.set_cons_zero,List.set_cons_succ,i64_w,i32_w]
                    rfl
                   refine pure_ (i:=12) (N:=some 59) (v:=?_) (a':=?_) (bl 13 4) rfl rfl (any_of HT_.out (by kernel_rfl)) (fun _ _ _ h => h) (Or.inl ⟨by rfl,?_⟩) ?_ ?_
                   rotate_left;·intro w';go_simp;with_reducible rfl
                   rotate_left;·simp only [Act.put,List.setIfInBounds_toArray,List.set_cons_zero,List.set_cons_succ,i64_w,i32_w];rfl
                   refine pure_ (i:=13) (N:=some 72) (v:=?_) (a':=?_) (bl 14 3) rfl rfl (any_of HT_.out (by kernel_rfl)) (fun _ _ _ h => h) (Or.inl ⟨by rfl,?_⟩) ?_ ?_
                   rotate_left;·intro w';go_simp;with_reducible rfl
                   rotate_left;·simp only [Act.put,List.setIfInBounds_toArray,List.set_cons_zero,List.set_cons_succ,i64_w,i32_w];rfl
                   refine pure_ (i:=14) (N:=some 73) (v:=?_) (a':=?_) (bl 15 2) rfl rfl (any_of HT_.out (by kernel_rfl)) (fun _ _ _ h => h) (Or.inl ⟨by rfl,?_⟩) ?_ ?_
                   rotate_left;·intro w';go_simp;with_reducible rfl
                   rotate_left;·simp only [Act.put,List.setIfInBounds_toArray,List.set_cons_zero,List.set_cons_succ,i64_w,i32_w];rfl
                   refine pure_ (i:=15) (N:=some 17) (v:=?_) (a':=?_) (bl 16 1) rfl rfl (any_of HT_.out (by kernel_rfl)) (fun _ _ _ h => h) (Or.inl ⟨by rfl,?_⟩) ?_ ?_
                   rotate_left;·intro w';go_simp;with_reducible rfl
                   rotate_left;·simp only [Act.put,List.setIfInBounds_toArray,List.set_cons_zero,List.set_cons_succ,i64_w,i32_w];rfl
                   refine pure_ (i:=16) (N:=some 18) (v:=?_) (a':=?_) (bl 17 0) rfl rfl (any_of HT_.out (by kernel_rfl)) (fun _ _ _ h => h) (Or.inl ⟨by rfl,?_⟩) ?_ ?_
                   rotate_left;·intro w';go_simp;with_reducible rfl
                   rotate_left;·simp only [Act.put,List.setIfInBounds_toArray,List.set_cons_zero,List.set_cons_succ,i64_w,i32_w];rfl
                   refine done_ (done_of HT_.out (by kernel_rfl)) ?_
                   have p256 : 0 ≤ ((ji19) : Int):=of_decide_eq_true (by first|(with_reducible assumption)|assumption)
                   have q256 : (ji19) < (t246.length : Int):=of_decide_eq_true (by first|(with_reducible assumption)|assumption)
                   obtain ⟨ad256,e256,hx256_0⟩:=Kd.at_int (Kd.R_reads' HO_10.out).2.2 (ji19) p256 q256
                   cases e256
                   replace p256:=eq_true p256
                   replace q256:=eq_true q256
                   try go_wp2_with (first|((with_reducible refine gate_callee (f:=24) rfl ?_);refine goesL_ (some 86) rfl rfl Tryz.func24 (by kernel_rfl) rfl #[.int .u64 (IntKind.u64.wrap ((IntKind.u64.wrap ((IntKind.u64.wrap (a0)) * x13_1)) + (Int.tmod (IntKind.u64.wrap (a1)) x13_1))),.int .u64 (IntKind.u64.wrap (rd t246 (ji19)))] rfl (by (try simp only [List.map_toArray,List.map_cons,List.map_nil]);first|done|(simp only [hji19];rfl)|rfl|(simp only [List.length_drop,List.length_take];rfl)) ?_;(with_reducible refine (bits_Mul64.calls (IntKind.u64.wrap ((IntKind.u64.wrap ((IntKind.u64.wrap (a0)) * x13_1)) + (Int.tmod (IntKind.u64.wrap (a1)) x13_1))) (IntKind.u64.wrap (rd t246 (ji19))) t257 t258 _ A25.out).mono ?_);rintro e w' ⟨rfl,⟨nd,rfl⟩⟩;refine ⟨_,rfl,?_⟩)|((with_reducible refine gate_callee (f:=24) rfl ?_);refine goesL_ (some 93) rfl rfl Tryz.func24 (by kernel_rfl) rfl #[.int .u64 t258,.int .u64 1000] rfl (by (try simp only [List.map_toArray,List.map_cons,List.map_nil]);first|done|rfl|(simp only [List.length_drop,List.length_take];rfl)) ?_;(with_reducible refine (bits_Mul64.calls t258 1000 t259 t260 _ A32.out).mono ?_);rintro e w' ⟨rfl,⟨nd,rfl⟩⟩;refine ⟨_,rfl,?_⟩)|((with_reducible refine gate_callee (f:=25) rfl ?_);refine goesL_ (some 113) rfl rfl Tryz.func25 (by kernel_rfl) rfl #[.int .u64 (IntKind.u64.wrap (t259 + (IntKind.u64.wrap (t257 * 1000)))),.int .u64 t260,.int .u64 x13_1] rfl (by (try simp only [List.map_toArray,List.map_cons,List.map_nil]);first|done|rfl|(simp only [List.length_drop,List.length_take];rfl)) ?_;(with_reducible refine (bits_Div64.calls k1 (IntKind.u64.wrap (t259 + (IntKind.u64.wrap (t257 * 1000)))) t260 x13_1 t261 t262 _ A45.out).mono ?_);rintro e w' ⟨rfl,⟨nd,rfl⟩⟩;refine ⟨_,rfl,?_⟩))
                   go_ret
                   exact ⟨by first|rfl|(simp [errW_none,errW_some] <;> rfl)|(simp only [← hji19];first|rfl|(simp [errW_none,errW_some] <;> rfl))|(simp [*,errW_none,errW_some] <;> rfl),by repeat (first|(with_reducible first|exact HB.out|apply below_alloc|apply pw_below_drewN|apply below_drew1)|exact HB.out)⟩
                  ·rw [if_neg c48] at H
                   have c48b0 : (t255 == 7) = false:=beq_eq_false_iff_ne.mpr c48
                   have c48b1 : (t255 != 7) = true:=bne_iff_ne.mpr c48
                   obtain rfl:=Option.some.inj H
                   try go_wp2_with (first|((with_reducible refine gate_callee (f:=23) rfl ?_);refine goesL_ (some 57) rfl rfl Tryz.func23 (by kernel_rfl) rfl #[.int .u64 (IntKind.u64.wrap (x13_1 + (Int.tmod (IntKind.u64.wrap (a1)) x13_1))),.int .i64 10] rfl (by (try simp only [List.map_toArray,List.map_cons,List.map_nil]);first|done|rfl|(simp only [List.length_drop,List.length_take];rfl)) ?_;(with_reducible refine (strconv_FormatUint.calls (IntKind.u64.wrap (x13_1 + (Int.tmod (IntKind.u64.wrap (a1)) x13_1))) 10 t251 _ A14.out (Glob.below hG (by repeat (first|(with_reducible first|exact HB.out|apply below_alloc|apply pw_below_drewN|apply below_drew1)|exact HB.out)))).mono ?_);rintro e w54 ⟨rfl,hb⟩;refine ⟨_,rfl,?_⟩;have n0_:=Aside0.mk (Kd.R_below (by (with_reducible repeat (first|apply Kd.R_alloc|apply Kd.R_drewN|apply Kd.R_drew));exact HO_9.out) hb);have n1_:=Aside0.mk (Kd.R_below (by (with_reducible repeat (first|apply Kd.R_alloc|apply Kd.R_drewN|apply Kd.R_drew));exact HO_10.out) hb);have n2_:=Aside0.mk (below_step (by repeat (first|(with_reducible first|exact HB.out|apply below_alloc|apply pw_below_drewN|apply below_drew1)|exact HB.out)) hb);clear HO_9;clear HO_10;clear HB;have HO_9:=n0_;have HO_10:=n1_;have HB:=n2_;clear n0_ n1_ n2_;(try clear hb);(try clear hb2);(try clear hk);(try clear hi)))
                   have n0_:=Aside0.mk (Kd.R_drew HO_9.out)
                   have n1_:=Aside0.mk (Kd.R_drew HO_10.out)
                   have n2_:=Aside0.mk (below_drew1 HB.out)
                   clear HO_9;clear HO_10;clear HB;have HO_9:=n0_;have HO_10:=n1_;have HB:=n2_;clear n0_ n1_ n2_
                   obtain ⟨Ao56,co56,eo56⟩:=Kd.R_slice HO_9.out
                   (first|subst eo56|(injection eo56 with f1_ f2_ f3_;have f4_:=f1_.symm;have f5_:=f3_.symm;clear f1_ f2_ f3_;subst f4_;subst f5_))
                   have p253 : 0 ≤ ((ji19) : Int):=of_decide_eq_true (by first|(with_reducible assumption)|assumption)
                   have q253 : (ji19) < (t245.length : Int):=of_decide_eq_true (by first|(with_reducible assumption)|assumption)
                   obtain ⟨ad253,e253,hx253_0⟩:=Kd.at_string (Kd.R_reads' HO_9.out).2.2 (ji19) p253 q253
                   cases e253
                   replace p253:=eq_true p253
                   replace q253:=eq_true q253
                   refine start_ (n:=17) (S:=fun w' => w'.cell? (ad253.add ((ji19)).toNat) = some (.string (rdOf ByteArray.empty t245 (ji19)))) (ds:=[]) (bl 0 17) (by kernel_rfl) rfl rfl (hx253_0) (fun hHeld => ?_);refine with_tabW bursarlaw03_QuantMeans.tab13 bursarlaw03_QuantMeans.bits13 (fun HT_ HW_ => ?_)
                   generalize w54.drew = w55 at HO_9 HO_10 HB hx253_0 hHeld ⊢
                   refine pure_ (i:=0) (N:=some 60) (v:=?_) (a':=?_) (bl 1 16) rfl rfl (any_of HT_.out (by kernel_rfl)) (fun _ _ _ h => h) (Or.inl ⟨by rfl,?_⟩) ?_ ?_
                   rotate_left;·intro w';go_simp;with_reducible rfl
                   rotate_left;·simp only [Act.put,List.setIfInBounds_toArray,List.set_cons_zero,List.set_cons_succ,i64_w,i32_w];rfl
                   refine pure_ (i:=1) (N:=some 61) (v:=?_) (a':=?_) (bl 2 15) rfl rfl (any_of HT_.out (by kernel_rfl)) (fun _ _ _ h => h) (Or.inl ⟨by rfl,?_⟩) ?_ ?_
                   rotate_left;·intro w';go_simp;with_reducible rfl
                   rotate_left;·simp only [Act.put,List.setIfInBounds_toArray,List.set_cons_zero,List.set_cons_succ,i64_w,i32_w];rfl
                   refine pure_ (i:=4) (N:=some 64) (v:=?_) (a':=?_) #[true,true,false,false,true,false,false,false,false,false,false,false,false,false,false,false,false] rfl rfl (any_of HT_.out (by kernel_rfl)) (fun _ _ _ h => h) (Or.inl ⟨by rfl,?_⟩) ?_ ?_
                   rotate_left;·intro w';go_simp;with_reducible rfl
                   rotate_left;·simp only [Act.put,List.setIfInBounds_toArray,List.set_cons_zero,List.set_cons_succ,i64_w,i32_w];rfl
                   refine pure_ (i:=6) (N:=some 66) (v:=?_) (a':=?_) #[true,true,false,false,true,false,true,false,false,false,false,false,false,false,false,false,false] rfl rfl (any_of HT_.out (by kernel_rfl)) (fun _ _ _ h => h) (Or.inl ⟨by rfl,?_⟩) ?_ ?_
                   rotate_left;·intro w';go_simp;with_reducible rfl
                   rotate_left;·simp only [Act.put,List.setIfInBounds_toArray,List.set_cons_zero,List.set_cons_succ,i64_w,i32_w];rfl
                   refine pure_ (i:=7) (N:=some 67) (v:=?_) (a':=?_) #[true,true,false,false,true,false,true,true,false,false,false,false,false,false,false,false,false] rfl rfl (any_of HT_.out (by kernel_rfl)) (fun _ _ _ h => h) (Or.inl ⟨by rfl,?_⟩) ?_ ?_
                   rotate_left;·intro w';go_simp;with_reducible rfl
                   rotate_left;·simp only [Act.put,List.setIfInBounds_toArray,List.set_cons_zero,List.set_cons_succ,i64_w,i32_w];rfl
                   refine pure_ (i:=8) (N:=some 68) (v:=?_) (a':=?_) #[true,true,false,false,true,false,true,true,true,false,false,false,false,false,false,false,false] rfl rfl (any_of HT_.out (by kernel_rfl)) (fun _ _ _ h => h) (Or.inl ⟨by rfl,?_⟩) ?_ ?_
                   rotate_left;·intro w';go_simp;with_reducible rfl
                   rotate_left;·simp only [Act.put,List.setIfInBounds_toArray,List.set_cons_zero,List.set_cons_succ,i64_w,i32_w];rfl
                   refine take_ (i:=9) (N:=some 69) (v:=?_) (a':=?_) #[true,true,false,false,true,false,true,true,true,true,false,false,false,false,false,false,false] rfl rfl (take_ofW HT_.out HW_.out (by kernel_rfl)) (fun _ _ _ h => h) (Or.inl ⟨by rfl,?_⟩) hHeld ?_ ?_
                   rotate_left
                   ·intro w' s0
                    go_simp
                    with_reducible rfl
                   rotate_left
                   ·simp only [Act.put,List.setIfInBounds_toArray,List.set_cons_zero,List.set_cons_succ,i64_w,i32_w]
                    rfl
                   refine one_ (i:=2) (N:=some 62) #[true,true,true,false,true,false,true,true,true,true,false,false,false,false,false,false,false] rfl rfl (one_of HT_.out (by kernel_rfl)) (by decide) (fun K hK => ?_)
                   refine goes_ Tryz.func23 (by kernel_rfl) rfl #[.int .u64 (IntKind.u64.wrap (a0)),.int .i64 10] (by rfl) rfl rfl (by (try simp only [List.map_toArray,List.map_cons,List.map_nil]);first|done|rfl|(simp only [List.length_drop,List.length_take];rfl)) ?_
                   with_reducible refine (strconv_FormatUint.calls (IntKind.u64.wrap (a0)) 10 t252 _ A16.out (Glob.below hG (by repeat (first|(with_reducible first|exact HB.out|apply below_alloc|apply pw_below_drewN|apply below_drew1)|exact HB.out)))).mono ?_
                   rintro e w57 ⟨rfl,hb⟩
                   have HS0_:=(hb.cell (World.block_lt_of_cell? _ _ (hHeld))).trans (hHeld)
                   refine ⟨_,rfl,?_⟩
                   have n0_:=Aside0.mk (Kd.R_below (by (with_reducible repeat (first|apply Kd.R_alloc|apply Kd.R_drewN|apply Kd.R_drew));exact HO_9.out) hb)
                   have n1_:=Aside0.mk (Kd.R_below (by (with_reducible repeat (first|apply Kd.R_alloc|apply Kd.R_drewN|apply Kd.R_drew));exact HO_10.out) hb)
                   have n2_:=Aside0.mk (below_step (by repeat (first|(with_reducible first|exact HB.out|apply below_alloc|apply pw_below_drewN|apply below_drew1)|exact HB.out)) hb)
                   clear HO_9;clear HO_10;clear HB;have HO_9:=n0_;have HO_10:=n1_;have HB:=n2_;clear n0_ n1_ n2_;(try clear hb);(try clear hb2);(try clear hk);(try clear hi)
                   refine hK.out _ _ (HS0_) (fun hHeld => ?_)
                   clear hK K
                   refine norm_ (a':=?_) ?_ ?_
                   rotate_left
                   ·show Act.put _ (some 62) _ = _
                    simp only [Act.put,List.setIfInBounds_toArray,List.set_cons_zero,List.set_cons_succ,i64_w,i32_w]
                    rfl
                   refine pure_ (i:=3) (N:=some 63) (v:=?_) (a':=?_) #[true,true,true,true,true,false,true,true,true,true,false,false,false,false,false,false,false] rfl rfl (any_of HT_.out (by kernel_rfl)) (fun _ _ _ h => h) (Or.inl ⟨by rfl,?_⟩) ?_ ?_
                   rotate_left;·intro w';go_simp;with_reducible rfl
                   rotate_left;·simp only [Act.put,List.setIfInBounds_toArray,List.set_cons_zero,List.set_cons_succ,i64_w,i32_w];rfl
                   refine pure_ (i:=5) (N:=some 65) (v:=?_) (a':=?_) (bl 10 7) rfl rfl (any_of HT_.out (by kernel_rfl)) (fun _ _ _ h => h) (Or.inl ⟨by rfl,?_⟩) ?_ ?_
                   rotate_left;·intro w';go_simp;with_reducible rfl
                   rotate_left;·simp only [Act.put,List.setIfInBounds_toArray,List.set_cons_zero,List.set_cons_succ,i64_w,i32_w];rfl
                   refine pure_ (i:=10) (N:=some 70) (v:=?_) (a':=?_) (bl 11 6) rfl rfl (any_of HT_.out (by kernel_rfl)) (fun _ _ _ h => h) (Or.inl ⟨by rfl,?_⟩) ?_ ?_
                   rotate_left;·intro w';go_simp;with_reducible rfl
                   rotate_left;·simp only [Act.put,List.setIfInBounds_toArray,List.set_cons_zero,List.set_cons_succ,i64_w,i32_w];rfl
                   refine one_ (i:=11) (N:=some 71) (bl 12 5) rfl rfl (one_of HT_.out (by kernel_rfl)) (by decide) (fun K hK => ?_)
                   refine goes_ Tryz.func17 (by kernel_rfl) rfl #[.string (((t252 ++ (⟨#[46]⟩ : ByteArray)) ++ (t251.extract 1 t251.size)) ++ (rdOf ByteArray.empty t245 (ji19)))] (by rfl) rfl rfl (by (try simp only [List.map_toArray,List.map_cons,List.map_nil]);first|done|(simp only [hji19];rfl)|rfl|(simp only [List.length_drop,List.length_take];rfl)) ?_
                   with_reducible refine (quant_Parse.calls k1 (((t252 ++ (⟨#[46]⟩ : ByteArray)) ++ (t251.extract 1 t251.size)) ++ (rdOf ByteArray.empty t245 (ji19))) t254 t255 _ A23.out (Glob.below hG (by repeat (first|(with_reducible first|exact HB.out|apply below_alloc|apply pw_below_drewN|apply below_drew1)|exact HB.out)))).mono ?_
                   rintro e w58 ⟨rfl,hb⟩
                   have HS0_:=(hb.cell (World.block_lt_of_cell? _ _ (hHeld))).trans (hHeld)
                   refine ⟨_,rfl,?_⟩
                   have n0_:=Aside0.mk (Kd.R_below (by (with_reducible repeat (first|apply Kd.R_alloc|apply Kd.R_drewN|apply Kd.R_drew));exact HO_9.out) hb)
                   have n1_:=Aside0.mk (Kd.R_below (by (with_reducible repeat (first|apply Kd.R_alloc|apply Kd.R_drewN|apply Kd.R_drew));exact HO_10.out) hb)
                   have n2_:=Aside0.mk (below_step (by repeat (first|(with_reducible first|exact HB.out|apply below_alloc|apply pw_below_drewN|apply below_drew1)|exact HB.out)) hb)
                   clear HO_9;clear HO_10;clear HB;have HO_9:=n0_;have HO_10:=n1_;have HB:=n2_;clear n0_ n1_ n2_;(try clear hb);(try clear hb2);(try clear hk);(try clear hi)
                   refine hK.out _ _ (HS0_) (fun hHeld => ?_)
                   clear hK K
                   refine norm_ (a':=?_) ?_ ?_
                   rotate_left
                   ·show Act.put _ (some 71) _ = _
                    simp only [Act.put,List.setIfInBounds_toArray,List.set_cons_zero,List.set_cons_succ,i64_w,i32_w]
                    rfl
                   refine pure_ (i:=12) (N:=some 59) (v:=?_) (a':=?_) (bl 13 4) rfl rfl (any_of HT_.out (by kernel_rfl)) (fun _ _ _ h => h) (Or.inl ⟨by rfl,?_⟩) ?_ ?_
                   rotate_left;·intro w';go_simp;with_reducible rfl
                   rotate_left;·simp only [Act.put,List.setIfInBounds_toArray,List.set_cons_zero,List.set_cons_succ,i64_w,i32_w];rfl
                   refine pure_ (i:=13) (N:=some 72) (v:=?_) (a':=?_) (bl 14 3) rfl rfl (any_of HT_.out (by kernel_rfl)) (fun _ _ _ h => h) (Or.inl ⟨by rfl,?_⟩) ?_ ?_
                   rotate_left;·intro w';go_simp;with_reducible rfl
                   rotate_left;·simp only [Act.put,List.setIfInBounds_toArray,List.set_cons_zero,List.set_cons_succ,i64_w,i32_w];rfl
                   refine pure_ (i:=14) (N:=some 73) (v:=?_) (a':=?_) (bl 15 2) rfl rfl (any_of HT_.out (by kernel_rfl)) (fun _ _ _ h => h) (Or.inl ⟨by rfl,?_⟩) ?_ ?_
                   rotate_left;·intro w';go_simp;with_reducible rfl
                   rotate_left;·simp only [Act.put,List.setIfInBounds_toArray,List.set_cons_zero,List.set_cons_succ,i64_w,i32_w];rfl
                   refine pure_ (i:=15) (N:=some 17) (v:=?_) (a':=?_) (bl 16 1) rfl rfl (any_of HT_.out (by kernel_rfl)) (fun _ _ _ h => h) (Or.inl ⟨by rfl,?_⟩) ?_ ?_
                   rotate_left;·intro w';go_simp;with_reducible rfl
                   rotate_left;·simp only [Act.put,List.setIfInBounds_toArray,List.set_cons_zero,List.set_cons_succ,i64_w,i32_w];rfl
                   refine pure_ (i:=16) (N:=some 18) (v:=?_) (a':=?_) (bl 17 0) rfl rfl (any_of HT_.out (by kernel_rfl)) (fun _ _ _ h => h) (Or.inl ⟨by rfl,?_⟩) ?_ ?_
                   rotate_left;·intro w';go_simp;with_reducible rfl
                   rotate_left;·simp only [Act.put,List.setIfInBounds_toArray,List.set_cons_zero,List.set_cons_succ,i64_w,i32_w];rfl
                   refine done_ (done_of HT_.out (by kernel_rfl)) ?_
                   have p256 : 0 ≤ ((ji19) : Int):=of_decide_eq_true (by first|(with_reducible assumption)|assumption)
                   have q256 : (ji19) < (t246.length : Int):=of_decide_eq_true (by first|(with_reducible assumption)|assumption)
                   obtain ⟨ad256,e256,hx256_0⟩:=Kd.at_int (Kd.R_reads' HO_10.out).2.2 (ji19) p256 q256
                   cases e256
                   replace p256:=eq_true p256
                   replace q256:=eq_true q256
                   try go_wp2_with (first|((with_reducible refine gate_callee (f:=24) rfl ?_);refine goesL_ (some 86) rfl rfl Tryz.func24 (by kernel_rfl) rfl #[.int .u64 (IntKind.u64.wrap ((IntKind.u64.wrap ((IntKind.u64.wrap (a0)) * x13_1)) + (Int.tmod (IntKind.u64.wrap (a1)) x13_1))),.int .u64 (IntKind.u64.wrap (rd t246 (ji19)))] rfl (by (try simp only [List.map_toArray,List.map_cons,List.map_nil]);first|done|(simp only [hji19];rfl)|rfl|(simp only [List.length_drop,List.length_take];rfl)) ?_;(with_reducible refine (bits_Mul64.calls (IntKind.u64.wrap ((IntKind.u64.wrap ((IntKind.u64.wrap (a0)) * x13_1)) + (Int.tmod (IntKind.u64.wrap (a1)) x13_1))) (IntKind.u64.wrap (rd t246 (ji19))) t257 t258 _ A25.out).mono ?_);rintro e w' ⟨rfl,⟨nd,rfl⟩⟩;refine ⟨_,rfl,?_⟩)|((with_reducible refine gate_callee (f:=24) rfl ?_);refine goesL_ (some 93) rfl rfl Tryz.func24 (by kernel_rfl) rfl #[.int .u64 t258,.int .u64 1000] rfl (by (try simp only [List.map_toArray,List.map_cons,List.map_nil]);first|done|rfl|(simp only [List.length_drop,List.length_take];rfl)) ?_;(with_reducible refine (bits_Mul64.calls t258 1000 t259 t260 _ A32.out).mono ?_);rintro e w' ⟨rfl,⟨nd,rfl⟩⟩;refine ⟨_,rfl,?_⟩)|((with_reducible refine gate_callee (f:=25) rfl ?_);refine goesL_ (some 113) rfl rfl Tryz.func25 (by kernel_rfl) rfl #[.int .u64 (IntKind.u64.wrap (t259 + (IntKind.u64.wrap (t257 * 1000)))),.int .u64 t260,.int .u64 x13_1] rfl (by (try simp only [List.map_toArray,List.map_cons,List.map_nil]);first|done|rfl|(simp only [List.length_drop,List.length_take];rfl)) ?_;(with_reducible refine (bits_Div64.calls k1 (IntKind.u64.wrap (t259 + (IntKind.u64.wrap (t257 * 1000)))) t260 x13_1 t261 t262 _ A45.out).mono ?_);rintro e w' ⟨rfl,⟨nd,rfl⟩⟩;refine ⟨_,rfl,?_⟩))
                   go_ret
                   exact ⟨by first|rfl|(simp [errW_none,errW_some] <;> rfl)|(simp only [← hji19];first|rfl|(simp [errW_none,errW_some] <;> rfl))|(simp [*,errW_none,errW_some] <;> rfl),by repeat (first|(with_reducible first|exact HB.out|apply below_alloc|apply pw_below_drewN|apply below_drew1)|exact HB.out)⟩
                 ·rw [if_neg c47] at H
                  have c47b0 : decide (9223372036854775807 < (IntKind.u64.wrap (t261 + 1))) = false:=decide_eq_false c47
                  clear c47
                  by_cases c59 : (IntKind.u64.wrap (t261 + 1)) = 0
                  ·rw [if_pos c59] at H
                   have c59b0 : ((IntKind.u64.wrap (t261 + 1)) == 0) = true:=beq_iff_eq.mpr c59
                   have c59b1 : ((IntKind.u64.wrap (t261 + 1)) != 0) = false:=bne_eq_false_iff_eq.mpr c59
                   clear c59
                   by_cases c60 : t255 = 7
                   ·rw [if_pos c60] at H
                    have c60b0 : (t255 == 7) = true:=beq_iff_eq.mpr c60
                    have c60b1 : (t255 != 7) = false:=bne_eq_false_iff_eq.mpr c60
                    clear c60
                    obtain rfl:=Option.some.inj H
                    try go_wp2_with (first|((with_reducible refine gate_callee (f:=23) rfl ?_);refine goesL_ (some 57) rfl rfl Tryz.func23 (by kernel_rfl) rfl #[.int .u64 (IntKind.u64.wrap (x13_1 + (Int.tmod (IntKind.u64.wrap (a1)) x13_1))),.int .i64 10] rfl (by (try simp only [List.map_toArray,List.map_cons,List.map_nil]);first|done|rfl|(simp only [List.length_drop,List.length_take];rfl)) ?_;(with_reducible refine (strconv_FormatUint.calls (IntKind.u64.wrap (x13_1 + (Int.tmod (IntKind.u64.wrap (a1)) x13_1))) 10 t251 _ A14.out (Glob.below hG (by repeat (first|(with_reducible first|exact HB.out|apply below_alloc|apply pw_below_drewN|apply below_drew1)|exact HB.out)))).mono ?_);rintro e w61 ⟨rfl,hb⟩;refine ⟨_,rfl,?_⟩;have n0_:=Aside0.mk (Kd.R_below (by (with_reducible repeat (first|apply Kd.R_alloc|apply Kd.R_drewN|apply Kd.R_drew));exact HO_9.out) hb);have n1_:=Aside0.mk (Kd.R_below (by (with_reducible repeat (first|apply Kd.R_alloc|apply Kd.R_drewN|apply Kd.R_drew));exact HO_10.out) hb);have n2_:=Aside0.mk (below_step (by repeat (first|(with_reducible first|exact HB.out|apply below_alloc|apply pw_below_drewN|apply below_drew1)|exact HB.out)) hb);clear HO_9;clear HO_10;clear HB;have HO_9:=n0_;have HO_10:=n1_;have HB:=n2_;clear n0_ n1_ n2_;(try clear hb);(try clear hb2);(try clear hk);(try clear hi)))
                    have n0_:=Aside0.mk (Kd.R_drew HO_9.out)
                    have n1_:=Aside0.mk (Kd.R_drew HO_10.out)
                    have n2_:=Aside0.mk (below_drew1 HB.out)
                    clear HO_9;clear HO_10;clear HB;have HO_9:=n0_;have HO_10:=n1_;have HB:=n2_;clear n0_ n1_ n2_
                    obtain ⟨Ao63,co63,eo63⟩:=Kd.R_slice HO_9.out
                    (first|subst eo63|(injection eo63 with f1_ f2_ f3_;have f4_:=f1_.symm;have f5_:=f3_.symm;clear f1_ f2_ f3_;subst f4_;subst f5_))
                    have p253 : 0 ≤ ((ji19) : Int):=of_decide_eq_true (by first|(with_reducible assumption)|assumption)
                    have q253 : (ji19) < (t245.length : Int):=of_decide_eq_true (by first|(with_reducible assumption)|assumption)
                    obtain ⟨ad253,e253,hx253_0⟩:=Kd.at_string (Kd.R_reads' HO_9.out).2.2 (ji19) p253 q253
                    cases e253
                    replace p253:=eq_true p253
                    replace q253:=eq_true q253
                    refine start_ (n:=17) (S:=fun w' => w'.cell? (ad253.add ((ji19)).toNat) = some (.string (rdOf ByteArray.empty t245 (ji19)))) (ds:=[]) (bl 0 17) (by kernel_rfl) rfl rfl (hx253_0) (fun hHeld => ?_);refine with_tabW bursarlaw03_QuantMeans.tab13 bursarlaw03_QuantMeans.bits13 (fun HT_ HW_ => ?_)
                    generalize w61.drew = w62 at HO_9 HO_10 HB hx253_0 hHeld ⊢
                    refine pure_ (i:=0) (N:=some 60) (v:=?_) (a':=?_) (bl 1 16) rfl rfl (any_of HT_.out (by kernel_rfl)) (fun _ _ _ h => h) (Or.inl ⟨by rfl,?_⟩) ?_ ?_
                    rotate_left;·intro w';go_simp;with_reducible rfl
                    rotate_left;·simp only [Act.put,List.setIfInBounds_toArray,List.set_cons_zero,List.set_cons_succ,i64_w,i32_w];rfl
                    refine pure_ (i:=1) (N:=some 61) (v:=?_) (a':=?_) (bl 2 15) rfl rfl (any_of HT_.out (by kernel_rfl)) (fun _ _ _ h => h) (Or.inl ⟨by rfl,?_⟩) ?_ ?_
                    rotate_left;·intro w';go_simp;with_reducible rfl
                    rotate_left;·simp only [Act.put,List.setIfInBounds_toArray,List.set_cons_zero,List.set_cons_succ,i64_w,i32_w];rfl
                    refine pure_ (i:=4) (N:=some 64) (v:=?_) (a':=?_) #[true,true,false,false,true,false,false,false,false,false,false,false,false,false,false,false,false] rfl rfl (any_of HT_.out (by kernel_rfl)) (fun _ _ _ h => h) (Or.inl ⟨by rfl,?_⟩) ?_ ?_
                    rotate_left;·intro w';go_simp;with_reducible rfl
                    rotate_left;·simp only [Act.put,List.setIfInBounds_toArray,List.set_cons_zero,List.set_cons_succ,i64_w,i32_w];rfl
                    refine pure_ (i:=6) (N:=some 66) (v:=?_) (a':=?_) #[true,true,false,false,true,false,true,false,false,false,false,false,false,false,false,false,false] rfl rfl (any_of HT_.out (by kernel_rfl)) (fun _ _ _ h => h) (Or.inl ⟨by rfl,?_⟩) ?_ ?_
                    rotate_left;·intro w';go_simp;with_reducible rfl
                    rotate_left;·simp only [Act.put,List.setIfInBounds_toArray,List.set_cons_zero,List.set_cons_succ,i64_w,i32_w];rfl
                    refine pure_ (i:=7) (N:=some 67) (v:=?_) (a':=?_) #[true,true,false,false,true,false,true,true,false,false,false,false,false,false,false,false,false] rfl rfl (any_of HT_.out (by kernel_rfl)) (fun _ _ _ h => h) (Or.inl ⟨by rfl,?_⟩) ?_ ?_
                    rotate_left;·intro w';go_simp;with_reducible rfl
                    rotate_left;·simp only [Act.put,List.setIfInBounds_toArray,List.set_cons_zero,List.set_cons_succ,i64_w,i32_w];rfl
                    refine pure_ (i:=8) (N:=some 68) (v:=?_) (a':=?_) #[true,true,false,false,true,false,true,true,true,false,false,false,false,false,false,false,false] rfl rfl (any_of HT_.out (by kernel_rfl)) (fun _ _ _ h => h) (Or.inl ⟨by rfl,?_⟩) ?_ ?_
                    rotate_left;·intro w';go_simp;with_reducible rfl
                    rotate_left;·simp only [Act.put,List.setIfInBounds_toArray,List.set_cons_zero,List.set_cons_succ,i64_w,i32_w];rfl
                    refine take_ (i:=9) (N:=some 69) (v:=?_) (a':=?_) #[true,true,false,false,true,false,true,true,true,true,false,false,false,false,false,false,false] rfl rfl (take_ofW HT_.out HW_.out (by kernel_rfl)) (fun _ _ _ h => h) (Or.inl ⟨by rfl,?_⟩) hHeld ?_ ?_
                    rotate_left
                    ·intro w' s0
                     go_simp
                     with_reducible rfl
                    rotate_left
                    ·simp only [Act.put,List.setIfInBounds_toArray,List.set_cons_zero,List.set_cons_succ,i64_w,i32_w]
                     rfl
                    refine one_ (i:=2) (N:=some 62) #[true,true,true,false,true,false,true,true,true,true,false,false,false,false,false,false,false] rfl rfl (one_of HT_.out (by kernel_rfl)) (by decide) (fun K hK => ?_)
                    refine goes_ Tryz.func23 (by kernel_rfl) rfl #[.int .u64 (IntKind.u64.wrap (a0)),.int .i64 10] (by rfl) rfl rfl (by (try simp only [List.map_toArray,List.map_cons,List.map_nil]);first|done|rfl|(simp only [List.length_drop,List.length_take];rfl)) ?_
                    with_reducible refine (strconv_FormatUint.calls (IntKind.u64.wrap (a0)) 10 t252 _ A16.out (Glob.below hG (by repeat (first|(with_reducible first|exact HB.out|apply below_alloc|apply pw_below_drewN|apply below_drew1)|exact HB.out)))).mono ?_
                    rintro e w64 ⟨rfl,hb⟩
                    have HS0_:=(hb.cell (World.block_lt_of_cell? _ _ (hHeld))).trans (hHeld)
                    refine ⟨_,rfl,?_⟩
                    have n0_:=Aside0.mk (Kd.R_below (by (with_reducible repeat (first|apply Kd.R_alloc|apply Kd.R_drewN|apply Kd.R_drew));exact HO_9.out) hb)
                    have n1_:=Aside0.mk (Kd.R_below (by (with_reducible repeat (first|apply Kd.R_alloc|apply Kd.R_drewN|apply Kd.R_drew));exact HO_10.out) hb)
                    have n2_:=Aside0.mk (below_step (by repeat (first|(with_reducible first|exact HB.out|apply below_alloc|apply pw_below_drewN|apply below_drew1)|exact HB.out)) hb)
                    clear HO_9;clear HO_10;clear HB;have HO_9:=n0_;have HO_10:=n1_;have HB:=n2_;clear n0_ n1_ n2_;(try clear hb);(try clear hb2);(try clear hk);(try clear hi)
                    refine hK.out _ _ (HS0_) (fun hHeld => ?_)
                    clear hK K
                    refine norm_ (a':=?_) ?_ ?_
                    rotate_left
                    ·show Act.put _ (some 62) _ = _
                     simp only [Act.put,List.setIfInBounds_toArray,List.set_cons_zero,List.set_cons_succ,i64_w,i32_w]
                     rfl
                    refine pure_ (i:=3) (N:=some 63) (v:=?_) (a':=?_) #[true,true,true,true,true,false,true,true,true,true,false,false,false,false,false,false,false] rfl rfl (any_of HT_.out (by kernel_rfl)) (fun _ _ _ h => h) (Or.inl ⟨by rfl,?_⟩) ?_ ?_
                    rotate_left;·intro w';go_simp;with_reducible rfl
                    rotate_left;·simp only [Act.put,List.setIfInBounds_toArray,List.set_cons_zero,List.set_cons_succ,i64_w,i32_w];rfl
                    refine pure_ (i:=5) (N:=some 65) (v:=?_) (a':=?_) (bl 10 7) rfl rfl (any_of HT_.out (by kernel_rfl)) (fun _ _ _ h => h) (Or.inl ⟨by rfl,?_⟩) ?_ ?_
                    rotate_left;·intro w';go_simp;with_reducible rfl
                    rotate_left;·simp only [Act.put,List.setIfInBounds_toArray,List.set_cons_zero,List.set_cons_succ,i64_w,i32_w];rfl
                    refine pure_ (i:=10) (N:=some 70) (v:=?_) (a':=?_) (bl 11 6) rfl rfl (any_of HT_.out (by kernel_rfl)) (fun _ _ _ h => h) (Or.inl ⟨by rfl,?_⟩) ?_ ?_
                    rotate_left;·intro w';go_simp;with_reducible rfl
                    rotate_left;·simp only [Act.put,List.setIfInBounds_toArray,List.set_cons_zero,List.set_cons_succ,i64_w,i32_w];rfl
                    refine one_ (i:=11) (N:=some 71) (bl 12 5) rfl rfl (one_of HT_.out (by kernel_rfl)) (by decide) (fun K hK => ?_)
                    refine goes_ Tryz.func17 (by kernel_rfl) rfl #[.string (((t252 ++ (⟨#[46]⟩ : ByteArray)) ++ (t251.extract 1 t251.size)) ++ (rdOf ByteArray.empty t245 (ji19)))] (by rfl) rfl rfl (by (try simp only [List.map_toArray,List.map_cons,List.map_nil]);first|done|(simp only [hji19];rfl)|rfl|(simp only [List.length_drop,List.length_take];rfl)) ?_
                    with_reducible refine (quant_Parse.calls k1 (((t252 ++ (⟨#[46]⟩ : ByteArray)) ++ (t251.extract 1 t251.size)) ++ (rdOf ByteArray.empty t245 (ji19))) t254 t255 _ A23.out (Glob.below hG (by repeat (first|(with_reducible first|exact HB.out|apply below_alloc|apply pw_below_drewN|apply below_drew1)|exact HB.out)))).mono ?_
                    rintro e w65 ⟨rfl,hb⟩
                    have HS0_:=(hb.cell (World.block_lt_of_cell? _ _ (hHeld))).trans (hHeld)
                    refine ⟨_,rfl,?_⟩
                    have n0_:=Aside0.mk (Kd.R_below (by (with_reducible repeat (first|apply Kd.R_alloc|apply Kd.R_drewN|apply Kd.R_drew));exact HO_9.out) hb)
                    have n1_:=Aside0.mk (Kd.R_below (by (with_reducible repeat (first|apply Kd.R_alloc|apply Kd.R_drewN|apply Kd.R_drew));exact HO_10.out) hb)
                    have n2_:=Aside0.mk (below_step (by repeat (first|(with_reducible first|exact HB.out|apply below_alloc|apply pw_below_drewN|apply below_drew1)|exact HB.out)) hb)
                    clear HO_9;clear HO_10;clear HB;have HO_9:=n0_;have HO_10:=n1_;have HB:=n2_;clear n0_ n1_ n2_;(try clear hb);(try clear hb2);(try clear hk);(try clear hi)
                    refine hK.out _ _ (HS0_) (fun hHeld => ?_)
                    clear hK K
                    refine norm_ (a':=?_) ?_ ?_
                    rotate_left
                    ·show Act.put _ (some 71) _ = _
                     simp only [Act.put,List.setIfInBounds_toArray,List.set_cons_zero,List.set_cons_succ,i64_w,i32_w]
                     rfl
                    refine pure_ (i:=12) (N:=some 59) (v:=?_) (a':=?_) (bl 13 4) rfl rfl (any_of HT_.out (by kernel_rfl)) (fun _ _ _ h => h) (Or.inl ⟨by rfl,?_⟩) ?_ ?_
                    rotate_left;·intro w';go_simp;with_reducible rfl
                    rotate_left;·simp only [Act.put,List.setIfInBounds_toArray,List.set_cons_zero,List.set_cons_succ,i64_w,i32_w];rfl
                    refine pure_ (i:=13) (N:=some 72) (v:=?_) (a':=?_) (bl 14 3) rfl rfl (any_of HT_.out (by kernel_rfl)) (fun _ _ _ h => h) (Or.inl ⟨by rfl,?_⟩) ?_ ?_
                    rotate_left;·intro w';go_simp;with_reducible rfl
                    rotate_left;·simp only [Act.put,List.setIfInBounds_toArray,List.set_cons_zero,List.set_cons_succ,i64_w,i32_w];rfl
                    refine pure_ (i:=14) (N:=some 73) (v:=?_) (a':=?_) (bl 15 2) rfl rfl (any_of HT_.out (by kernel_rfl)) (fun _ _ _ h => h) (Or.inl ⟨by rfl,?_⟩) ?_ ?_
                    rotate_left;·intro w';go_simp;with_reducible rfl
                    rotate_left;·simp only [Act.put,List.setIfInBounds_toArray,List.set_cons_zero,List.set_cons_succ,i64_w,i32_w];rfl
                    refine pure_ (i:=15) (N:=some 17) (v:=?_) (a':=?_) (bl 16 1) rfl rfl (any_of HT_.out (by kernel_rfl)) (fun _ _ _ h => h) (Or.inl ⟨by rfl,?_⟩) ?_ ?_
                    rotate_left;·intro w';go_simp;with_reducible rfl
                    rotate_left;·simp only [Act.put,List.setIfInBounds_toArray,List.set_cons_zero,List.set_cons_succ,i64_w,i32_w];rfl
                    refine pure_ (i:=16) (N:=some 18) (v:=?_) (a':=?_) (bl 17 0) rfl rfl (any_of HT_.out (by kernel_rfl)) (fun _ _ _ h => h) (Or.inl ⟨by rfl,?_⟩) ?_ ?_
                    rotate_left;·intro w';go_simp;with_reducible rfl
                    rotate_left;·simp only [Act.put,List.setIfInBounds_toArray,List.set_cons_zero,List.set_cons_succ,i64_w,i32_w];rfl
                    refine done_ (done_of HT_.out (by kernel_rfl)) ?_
                    have p256 : 0 ≤ ((ji19) : Int):=of_decide_eq_true (by first|(with_reducible assumption)|assumption)
                    have q256 : (ji19) < (t246.length : Int):=of_decide_eq_true (by first|(with_reducible assumption)|assumption)
                    obtain ⟨ad256,e256,hx256_0⟩:=Kd.at_int (Kd.R_reads' HO_10.out).2.2 (ji19) p256 q256
                    cases e256
                    replace p256:=eq_true p256
                    replace q256:=eq_true q256
                    try go_wp2_with (first|((with_reducible refine gate_callee (f:=24) rfl ?_);refine goesL_ (some 86) rfl rfl Tryz.func24 (by kernel_rfl) rfl #[.int .u64 (IntKind.u64.wrap ((IntKind.u64.wrap ((IntKind.u64.wrap (a0)) * x13_1)) + (Int.tmod (IntKind.u64.wrap (a1)) x13_1))),.int .u64 (IntKind.u64.wrap (rd t246 (ji19)))] rfl (by (try simp only [List.map_toArray,List.map_cons,List.map_nil]);first|done|(simp only [hji19];rfl)|rfl|(simp only [List.length_drop,List.length_take];rfl)) ?_;(with_reducible refine (bits_Mul64.calls (IntKind.u64.wrap ((IntKind.u64.wrap ((IntKind.u64.wrap (a0)) * x13_1)) + (Int.tmod (IntKind.u64.wrap (a1)) x13_1))) (IntKind.u64.wrap (rd t246 (ji19))) t257 t258 _ A25.out).mono ?_);rintro e w' ⟨rfl,⟨nd,rfl⟩⟩;refine ⟨_,rfl,?_⟩)|((with_reducible refine gate_callee (f:=24) rfl ?_);refine goesL_ (some 93) rfl rfl Tryz.func24 (by kernel_rfl) rfl #[.int .u64 t258,.int .u64 1000] rfl (by (try simp only [List.map_toArray,List.map_cons,List.map_nil]);first|done|rfl|(simp only [List.length_drop,List.length_take];rfl)) ?_;(with_reducible refine (bits_Mul64.calls t258 1000 t259 t260 _ A32.out).mono ?_);rintro e w' ⟨rfl,⟨nd,rfl⟩⟩;refine ⟨_,rfl,?_⟩)|((with_reducible refine gate_callee (f:=25) rfl ?_);refine goesL_ (some 113) rfl rfl Tryz.func25 (by kernel_rfl) rfl #[.int .u64 (IntKind.u64.wrap (t259 + (IntKind.u64.wrap (t257 * 1000)))),.int .u64 t260,.int .u64 x13_1] rfl (by (try simp only [List.map_toArray,List.map_cons,List.map_nil]);first|done|rfl|(simp only [List.length_drop,List.length_take];rfl)) ?_;(with_reducible refine (bits_Div64.calls k1 (IntKind.u64.wrap (t259 + (IntKind.u64.wrap (t257 * 1000)))) t260 x13_1 t261 t262 _ A45.out).mono ?_);rintro e w' ⟨rfl,⟨nd,rfl⟩⟩;refine ⟨_,rfl,?_⟩))
                    go_ret
                    exact ⟨by first|rfl|(simp [errW_none,errW_some] <;> rfl)|(simp only [← hji19];first|rfl|(simp [errW_none,errW_some] <;> rfl))|(simp [*,errW_none,errW_some] <;> rfl),by repeat (first|(with_reducible first|exact HB.out|apply below_alloc|apply pw_below_drewN|apply below_drew1)|exact HB.out)⟩
                   ·rw [if_neg c60] at H
                    have c60b0 : (t255 == 7) = false:=beq_eq_false_iff_ne.mpr c60
                    have c60b1 : (t255 != 7) = true:=bne_iff_ne.mpr c60
                    obtain rfl:=Option.some.inj H
                    try go_wp2_with (first|((with_reducible refine gate_callee (f:=23) rfl ?_);refine goesL_ (some 57) rfl rfl Tryz.func23 (by kernel_rfl) rfl #[.int .u64 (IntKind.u64.wrap (x13_1 + (Int.tmod (IntKind.u64.wrap (a1)) x13_1))),.int .i64 10] rfl (by (try simp only [List.map_toArray,List.map_cons,List.map_nil]);first|done|rfl|(simp only [List.length_drop,List.length_take];rfl)) ?_;(with_reducible refine (strconv_FormatUint.calls (IntKind.u64.wrap (x13_1 + (Int.tmod (IntKind.u64.wrap (a1)) x13_1))) 10 t251 _ A14.out (Glob.below hG (by repeat (first|(with_reducible first|exact HB.out|apply below_alloc|apply pw_below_drewN|apply below_drew1)|exact HB.out)))).mono ?_);rintro e w66 ⟨rfl,hb⟩;refine ⟨_,rfl,?_⟩;have n0_:=Aside0.mk (Kd.R_below (by (with_reducible repeat (first|apply Kd.R_alloc|apply Kd.R_drewN|apply Kd.R_drew));exact HO_9.out) hb);have n1_:=Aside0.mk (Kd.R_below (by (with_reducible repeat (first|apply Kd.R_alloc|apply Kd.R_drewN|apply Kd.R_drew));exact HO_10.out) hb);have n2_:=Aside0.mk (below_step (by repeat (first|(with_reducible first|exact HB.out|apply below_alloc|apply pw_below_drewN|apply below_drew1)|exact HB.out)) hb);clear HO_9;clear HO_10;clear HB;have HO_9:=n0_;have HO_10:=n1_;have HB:=n2_;clear n0_ n1_ n2_;(try clear hb);(try clear hb2);(try clear hk);(try clear hi)))
                    have n0_:=Aside0.mk (Kd.R_drew HO_9.out)
                    have n1_:=Aside0.mk (Kd.R_drew HO_10.out)
                    have n2_:=Aside0.mk (below_drew1 HB.out)
                    clear HO_9;clear HO_10;clear HB;have HO_9:=n0_;have HO_10:=n1_;have HB:=n2_;clear n0_ n1_ n2_
                    obtain ⟨Ao68,co68,eo68⟩:=Kd.R_slice HO_9.out
                    (first|subst eo68|(injection eo68 with f1_ f2_ f3_;have f4_:=f1_.symm;have f5_:=f3_.symm;clear f1_ f2_ f3_;subst f4_;subst f5_))
                    have p253 : 0 ≤ ((ji19) : Int):=of_decide_eq_true (by first|(with_reducible assumption)|assumption)
                    have q253 : (ji19) < (t245.length : Int):=of_decide_eq_true (by first|(with_reducible assumption)|assumption)
                    obtain ⟨ad253,e253,hx253_0⟩:=Kd.at_string (Kd.R_reads' HO_9.out).2.2 (ji19) p253 q253
                    cases e253
                    replace p253:=eq_true p253
                    replace q253:=eq_true q253
                    refine start_ (n:=17) (S:=fun w' => w'.cell? (ad253.add ((ji19)).toNat) = some (.string (rdOf ByteArray.empty t245 (ji19)))) (ds:=[]) (bl 0 17) (by kernel_rfl) rfl rfl (hx253_0) (fun hHeld => ?_);refine with_tabW bursarlaw03_QuantMeans.tab13 bursarlaw03_QuantMeans.bits13 (fun HT_ HW_ => ?_)
                    generalize w66.drew = w67 at HO_9 HO_10 HB hx253_0 hHeld ⊢
                    refine pure_ (i:=0) (N:=some 60) (v:=?_) (a':=?_) (bl 1 16) rfl rfl (any_of HT_.out (by kernel_rfl)) (fun _ _ _ h => h) (Or.inl ⟨by rfl,?_⟩) ?_ ?_
                    rotate_left;·intro w';go_simp;with_reducible rfl
                    rotate_left;·simp only [Act.put,List.setIfInBounds_toArray,List.set_cons_zero,List.set_cons_succ,i64_w,i32_w];rfl
                    refine pure_ (i:=1) (N:=some 61) (v:=?_) (a':=?_) (bl 2 15) rfl rfl (any_of HT_.out (by kernel_rfl)) (fun _ _ _ h => h) (Or.inl ⟨by rfl,?_⟩) ?_ ?_
                    rotate_left;·intro w';go_simp;with_reducible rfl
                    rotate_left;·simp only [Act.put,List.setIfInBounds_toArray,List.set_cons_zero,List.set_cons_succ,i64_w,i32_w];rfl
                    refine pure_ (i:=4) (N:=some 64) (v:=?_) (a':=?_) #[true,true,false,false,true,false,false,false,false,false,false,false,false,false,false,false,false] rfl rfl (any_of HT_.out (by kernel_rfl)) (fun _ _ _ h => h) (Or.inl ⟨by rfl,?_⟩) ?_ ?_
                    rotate_left;·intro w';go_simp;with_reducible rfl
                    rotate_left;·simp only [Act.put,List.setIfInBounds_toArray,List.set_cons_zero,List.set_cons_succ,i64_w,i32_w];rfl
                    refine pure_ (i:=6) (N:=some 66) (v:=?_) (a':=?_) #[true,true,false,false,true,false,true,false,false,false,false,false,false,false,false,false,false] rfl rfl (any_of HT_.out (by kernel_rfl)) (fun _ _ _ h => h) (Or.inl ⟨by rfl,?_⟩) ?_ ?_
                    rotate_left;·intro w';go_simp;with_reducible rfl
                    rotate_left;·simp only [Act.put,List.setIfInBounds_toArray,List.set_cons_zero,List.set_cons_succ,i64_w,i32_w];rfl
                    refine pure_ (i:=7) (N:=some 67) (v:=?_) (a':=?_) #[true,true,false,false,true,false,true,true,false,false,false,false,false,false,false,false,false] rfl rfl (any_of HT_.out (by kernel_rfl)) (fun _ _ _ h => h) (Or.inl ⟨by rfl,?_⟩) ?_ ?_
                    rotate_left;·intro w';go_simp;with_reducible rfl
                    rotate_left;·simp only [Act.put,List.setIfInBounds_toArray,List.set_cons_zero,List.set_cons_succ,i64_w,i32_w];rfl
                    refine pure_ (i:=8) (N:=some 68) (v:=?_) (a':=?_) #[true,true,false,false,true,false,true,true,true,false,false,false,false,false,false,false,false] rfl rfl (any_of HT_.out (by kernel_rfl)) (fun _ _ _ h => h) (Or.inl ⟨by rfl,?_⟩) ?_ ?_
                    rotate_left;·intro w';go_simp;with_reducible rfl
                    rotate_left;·simp only [Act.put,List.setIfInBounds_toArray,List.set_cons_zero,List.set_cons_succ,i64_w,i32_w];rfl
                    refine take_ (i:=9) (N:=some 69) (v:=?_) (a':=?_) #[true,true,false,false,true,false,true,true,true,true,false,false,false,false,false,false,false] rfl rfl (take_ofW HT_.out HW_.out (by kernel_rfl)) (fun _ _ _ h => h) (Or.inl ⟨by rfl,?_⟩) hHeld ?_ ?_
                    rotate_left
                    ·intro w' s0
                     go_simp
                     with_reducible rfl
                    rotate_left
                    ·simp only [Act.put,List.setIfInBounds_toArray,List.set_cons_zero,List.set_cons_succ,i64_w,i32_w]
                     rfl
                    refine one_ (i:=2) (N:=some 62) #[true,true,true,false,true,false,true,true,true,true,false,false,false,false,false,false,false] rfl rfl (one_of HT_.out (by kernel_rfl)) (by decide) (fun K hK => ?_)
                    refine goes_ Tryz.func23 (by kernel_rfl) rfl #[.int .u64 (IntKind.u64.wrap (a0)),.int .i64 10] (by rfl) rfl rfl (by (try simp only [List.map_toArray,List.map_cons,List.map_nil]);first|done|rfl|(simp only [List.length_drop,List.length_take];rfl)) ?_
                    with_reducible refine (strconv_FormatUint.calls (IntKind.u64.wrap (a0)) 10 t252 _ A16.out (Glob.below hG (by repeat (first|(with_reducible first|exact HB.out|apply below_alloc|apply pw_below_drewN|apply below_drew1)|exact HB.out)))).mono ?_
                    rintro e w69 ⟨rfl,hb⟩
                    have HS0_:=(hb.cell (World.block_lt_of_cell? _ _ (hHeld))).trans (hHeld)
                    refine ⟨_,rfl,?_⟩
                    have n0_:=Aside0.mk (Kd.R_below (by (with_reducible repeat (first|apply Kd.R_alloc|apply Kd.R_drewN|apply Kd.R_drew));exact HO_9.out) hb)
                    have n1_:=Aside0.mk (Kd.R_below (by (with_reducible repeat (first|apply Kd.R_alloc|apply Kd.R_drewN|apply Kd.R_drew));exact HO_10.out) hb)
                    have n2_:=Aside0.mk (below_step (by repeat (first|(with_reducible first|exact HB.out|apply below_alloc|apply pw_below_drewN|apply below_drew1)|exact HB.out)) hb)
                    clear HO_9;clear HO_10;clear HB;have HO_9:=n0_;have HO_10:=n1_;have HB:=n2_;clear n0_ n1_ n2_;(try clear hb);(try clear hb2);(try clear hk);(try clear hi)
                    refine hK.out _ _ (HS0_) (fun hHeld => ?_)
                    clear hK K
                    refine norm_ (a':=?_) ?_ ?_
                    rotate_left
                    ·show Act.put _ (some 62) _ = _
                     simp only [Act.put,List.setIfInBounds_toArray,List.set_cons_zero,List.set_cons_succ,i64_w,i32_w]
                     rfl
                    refine pure_ (i:=3) (N:=some 63) (v:=?_) (a':=?_) #[true,true,true,true,true,false,true,true,true,true,false,false,false,false,false,false,false] rfl rfl (any_of HT_.out (by kernel_rfl)) (fun _ _ _ h => h) (Or.inl ⟨by rfl,?_⟩) ?_ ?_
                    rotate_left;·intro w';go_simp;with_reducible rfl
                    rotate_left;·simp only [Act.put,List.setIfInBounds_toArray,List.set_cons_zero,List.set_cons_succ,i64_w,i32_w];rfl
                    refine pure_ (i:=5) (N:=some 65) (v:=?_) (a':=?_) (bl 10 7) rfl rfl (any_of HT_.out (by kernel_rfl)) (fun _ _ _ h => h) (Or.inl ⟨by rfl,?_⟩) ?_ ?_
                    rotate_left;·intro w';go_simp;with_reducible rfl
                    rotate_left;·simp only [Act.put,List.setIfInBounds_toArray,List.set_cons_zero,List.set_cons_succ,i64_w,i32_w];rfl
                    refine pure_ (i:=10) (N:=some 70) (v:=?_) (a':=?_) (bl 11 6) rfl rfl (any_of HT_.out (by kernel_rfl)) (fun _ _ _ h => h) (Or.inl ⟨by rfl,?_⟩) ?_ ?_
                    rotate_left;·intro w';go_simp;with_reducible rfl
                    rotate_left;·simp only [Act.put,List.setIfInBounds_toArray,List.set_cons_zero,List.set_cons_succ,i64_w,i32_w];rfl
                    refine one_ (i:=11) (N:=some 71) (bl 12 5) rfl rfl (one_of HT_.out (by kernel_rfl)) (by decide) (fun K hK => ?_)
                    refine goes_ Tryz.func17 (by kernel_rfl) rfl #[.string (((t252 ++ (⟨#[46]⟩ : ByteArray)) ++ (t251.extract 1 t251.size)) ++ (rdOf ByteArray.empty t245 (ji19)))] (by rfl) rfl rfl (by (try simp only [List.map_toArray,List.map_cons,List.map_nil]);first|done|(simp only [hji19];rfl)|rfl|(simp only [List.length_drop,List.length_take];rfl)) ?_
                    with_reducible refine (quant_Parse.calls k1 (((t252 ++ (⟨#[46]⟩ : ByteArray)) ++ (t251.extract 1 t251.size)) ++ (rdOf ByteArray.empty t245 (ji19))) t254 t255 _ A23.out (Glob.below hG (by repeat (first|(with_reducible first|exact HB.out|apply below_alloc|apply pw_below_drewN|apply below_drew1)|exact HB.out)))).mono ?_
                    rintro e w70 ⟨rfl,hb⟩
                    have HS0_:=(hb.cell (World.block_lt_of_cell? _ _ (hHeld))).trans (hHeld)
                    refine ⟨_,rfl,?_⟩
                    have n0_:=Aside0.mk (Kd.R_below (by (with_reducible repeat (first|apply Kd.R_alloc|apply Kd.R_drewN|apply Kd.R_drew));exact HO_9.out) hb)
                    have n1_:=Aside0.mk (Kd.R_below (by (with_reducible repeat (first|apply Kd.R_alloc|apply Kd.R_drewN|apply Kd.R_drew));exact HO_10.out) hb)
                    have n2_:=Aside0.mk (below_step (by repeat (first|(with_reducible first|exact HB.out|apply below_alloc|apply pw_below_drewN|apply below_drew1)|exact HB.out)) hb)
                    clear HO_9;clear HO_10;clear HB;have HO_9:=n0_;have HO_10:=n1_;have HB:=n2_;clear n0_ n1_ n2_;(try clear hb);(try clear hb2);(try clear hk);(try clear hi)
                    refine hK.out _ _ (HS0_) (fun hHeld => ?_)
                    clear hK K
                    refine norm_ (a':=?_) ?_ ?_
                    rotate_left
                    ·show Act.put _ (some 71) _ = _
                     simp only [Act.put,List.setIfInBounds_toArray,List.set_cons_zero,List.set_cons_succ,i64_w,i32_w]
                     rfl
                    refine pure_ (i:=12) (N:=some 59) (v:=?_) (a':=?_) (bl 13 4) rfl rfl (any_of HT_.out (by kernel_rfl)) (fun _ _ _ h => h) (Or.inl ⟨by rfl,?_⟩) ?_ ?_
                    rotate_left;·intro w';go_simp;with_reducible rfl
                    rotate_left;·simp only [Act.put,List.setIfInBounds_toArray,List.set_cons_zero,List.set_cons_succ,i64_w,i32_w];rfl
                    refine pure_ (i:=13) (N:=some 72) (v:=?_) (a':=?_) (bl 14 3) rfl rfl (any_of HT_.out (by kernel_rfl)) (fun _ _ _ h => h) (Or.inl ⟨by rfl,?_⟩) ?_ ?_
                    rotate_left;·intro w';go_simp;with_reducible rfl
                    rotate_left;·simp only [Act.put,List.setIfInBounds_toArray,List.set_cons_zero,List.set_cons_succ,i64_w,i32_w];rfl
                    refine pure_ (i:=14) (N:=some 73) (v:=?_) (a':=?_) (bl 15 2) rfl rfl (any_of HT_.out (by kernel_rfl)) (fun _ _ _ h => h) (Or.inl ⟨by rfl,?_⟩) ?_ ?_
                    rotate_left;·intro w';go_simp;with_reducible rfl
                    rotate_left;·simp only [Act.put,List.setIfInBounds_toArray,List.set_cons_zero,List.set_cons_succ,i64_w,i32_w];rfl
                    refine pure_ (i:=15) (N:=some 17) (v:=?_) (a':=?_) (bl 16 1) rfl rfl (any_of HT_.out (by kernel_rfl)) (fun _ _ _ h => h) (Or.inl ⟨by rfl,?_⟩) ?_ ?_
                    rotate_left;·intro w';go_simp;with_reducible rfl
                    rotate_left;·simp only [Act.put,List.setIfInBounds_toArray,List.set_cons_zero,List.set_cons_succ,i64_w,i32_w];rfl
                    refine pure_ (i:=16) (N:=some 18) (v:=?_) (a':=?_) (bl 17 0) rfl rfl (any_of HT_.out (by kernel_rfl)) (fun _ _ _ h => h) (Or.inl ⟨by rfl,?_⟩) ?_ ?_
                    rotate_left;·intro w';go_simp;with_reducible rfl
                    rotate_left;·simp only [Act.put,List.setIfInBounds_toArray,List.set_cons_zero,List.set_cons_succ,i64_w,i32_w];rfl
                    refine done_ (done_of HT_.out (by kernel_rfl)) ?_
                    have p256 : 0 ≤ ((ji19) : Int):=of_decide_eq_true (by first|(with_reducible assumption)|assumption)
                    have q256 : (ji19) < (t246.length : Int):=of_decide_eq_true (by first|(with_reducible assumption)|assumption)
                    obtain ⟨ad256,e256,hx256_0⟩:=Kd.at_int (Kd.R_reads' HO_10.out).2.2 (ji19) p256 q256
                    cases e256
                    replace p256:=eq_true p256
                    replace q256:=eq_true q256
                    try go_wp2_with (first|((with_reducible refine gate_callee (f:=24) rfl ?_);refine goesL_ (some 86) rfl rfl Tryz.func24 (by kernel_rfl) rfl #[.int .u64 (IntKind.u64.wrap ((IntKind.u64.wrap ((IntKind.u64.wrap (a0)) * x13_1)) + (Int.tmod (IntKind.u64.wrap (a1)) x13_1))),.int .u64 (IntKind.u64.wrap (rd t246 (ji19)))] rfl (by (try simp only [List.map_toArray,List.map_cons,List.map_nil]);first|done|(simp only [hji19];rfl)|rfl|(simp only [List.length_drop,List.length_take];rfl)) ?_;(with_reducible refine (bits_Mul64.calls (IntKind.u64.wrap ((IntKind.u64.wrap ((IntKind.u64.wrap (a0)) * x13_1)) + (Int.tmod (IntKind.u64.wrap (a1)) x13_1))) (IntKind.u64.wrap (rd t246 (ji19))) t257 t258 _ A25.out).mono ?_);rintro e w' ⟨rfl,⟨nd,rfl⟩⟩;refine ⟨_,rfl,?_⟩)|((with_reducible refine gate_callee (f:=24) rfl ?_);refine goesL_ (some 93) rfl rfl Tryz.func24 (by kernel_rfl) rfl #[.int .u64 t258,.int .u64 1000] rfl (by (try simp only [List.map_toArray,List.map_cons,List.map_nil]);first|done|rfl|(simp only [List.length_drop,List.length_take];rfl)) ?_;(with_reducible refine (bits_Mul64.calls t258 1000 t259 t260 _ A32.out).mono ?_);rintro e w' ⟨rfl,⟨nd,rfl⟩⟩;refine ⟨_,rfl,?_⟩)|((with_reducible refine gate_callee (f:=25) rfl ?_);refine goesL_ (some 113) rfl rfl Tryz.func25 (by kernel_rfl) rfl #[.int .u64 (IntKind.u64.wrap (t259 + (IntKind.u64.wrap (t257 * 1000)))),.int .u64 t260,.int .u64 x13_1] rfl (by (try simp only [List.map_toArray,List.map_cons,List.map_nil]);first|done|rfl|(simp only [List.length_drop,List.length_take];rfl)) ?_;(with_reducible refine (bits_Div64.calls k1 (IntKind.u64.wrap (t259 + (IntKind.u64.wrap (t257 * 1000)))) t260 x13_1 t261 t262 _ A45.out).mono ?_);rintro e w' ⟨rfl,⟨nd,rfl⟩⟩;refine ⟨_,rfl,?_⟩))
                    go_ret
                    exact ⟨by first|rfl|(simp [errW_none,errW_some] <;> rfl)|(simp only [← hji19];first|rfl|(simp [errW_none,errW_some] <;> rfl))|(simp [*,errW_none,errW_some] <;> rfl),by repeat (first|(with_reducible first|exact HB.out|apply below_alloc|apply pw_below_drewN|apply below_drew1)|exact HB.out)⟩
                  ·rw [if_neg c59] at H
                   have c59b0 : ((IntKind.u64.wrap (t261 + 1)) == 0) = false:=beq_eq_false_iff_ne.mpr c59
                   have c59b1 : ((IntKind.u64.wrap (t261 + 1)) != 0) = true:=bne_iff_ne.mpr c59
                   by_cases c71 : t255 = 0
                   ·rw [if_pos c71] at H
                    have c71b0 : (t255 == 0) = true:=beq_iff_eq.mpr c71
                    have c71b1 : (t255 != 0) = false:=bne_eq_false_iff_eq.mpr c71
                    clear c71
                    obtain rfl:=Option.some.inj H
                    try go_wp2_with (first|((with_reducible refine gate_callee (f:=23) rfl ?_);refine goesL_ (some 57) rfl rfl Tryz.func23 (by kernel_rfl) rfl #[.int .u64 (IntKind.u64.wrap (x13_1 + (Int.tmod (IntKind.u64.wrap (a1)) x13_1))),.int .i64 10] rfl (by (try simp only [List.map_toArray,List.map_cons,List.map_nil]);first|done|rfl|(simp only [List.length_drop,List.length_take];rfl)) ?_;(with_reducible refine (strconv_FormatUint.calls (IntKind.u64.wrap (x13_1 + (Int.tmod (IntKind.u64.wrap (a1)) x13_1))) 10 t251 _ A14.out (Glob.below hG (by repeat (first|(with_reducible first|exact HB.out|apply below_alloc|apply pw_below_drewN|apply below_drew1)|exact HB.out)))).mono ?_);rintro e w72 ⟨rfl,hb⟩;refine ⟨_,rfl,?_⟩;have n0_:=Aside0.mk (Kd.R_below (by (with_reducible repeat (first|apply Kd.R_alloc|apply Kd.R_drewN|apply Kd.R_drew));exact HO_9.out) hb);have n1_:=Aside0.mk (Kd.R_below (by (with_reducible repeat (first|apply Kd.R_alloc|apply Kd.R_drewN|apply Kd.R_drew));exact HO_10.out) hb);have n2_:=Aside0.mk (below_step (by repeat (first|(with_reducible first|exact HB.out|apply below_alloc|apply pw_below_drewN|apply below_drew1)|exact HB.out)) hb);clear HO_9;clear HO_10;clear HB;have HO_9:=n0_;have HO_10:=n1_;have HB:=n2_;clear n0_ n1_ n2_;(try clear hb);(try clear hb2);(try clear hk);(try clear hi)))
                    have n0_:=Aside0.mk (Kd.R_drew HO_9.out)
                    have n1_:=Aside0.mk (Kd.R_drew HO_10.out)
                    have n2_:=Aside0.mk (below_drew1 HB.out)
                    clear HO_9;clear HO_10;clear HB;have HO_9:=n0_;have HO_10:=n1_;have HB:=n2_;clear n0_ n1_ n2_
                    obtain ⟨Ao74,co74,eo74⟩:=Kd.R_slice HO_9.out
                    (first|subst eo74|(injection eo74 with f1_ f2_ f3_;have f4_:=f1_.symm;have f5_:=f3_.symm;clear f1_ f2_ f3_;subst f4_;subst f5_))
                    have p253 : 0 ≤ ((ji19) : Int):=of_decide_eq_true (by first|(with_reducible assumption)|assumption)
                    have q253 : (ji19) < (t245.length : Int):=of_decide_eq_true (by first|(with_reducible assumption)|assumption)
                    obtain ⟨ad253,e253,hx253_0⟩:=Kd.at_string (Kd.R_reads' HO_9.out).2.2 (ji19) p253 q253
                    cases e253
                    replace p253:=eq_true p253
                    replace q253:=eq_true q253
                    refine start_ (n:=17) (S:=fun w' => w'.cell? (ad253.add ((ji19)).toNat) = some (.string (rdOf ByteArray.empty t245 (ji19)))) (ds:=[]) (bl 0 17) (by kernel_rfl) rfl rfl (hx253_0) (fun hHeld => ?_);refine with_tabW bursarlaw03_QuantMeans.tab13 bursarlaw03_QuantMeans.bits13 (fun HT_ HW_ => ?_)
                    generalize w72.drew = w73 at HO_9 HO_10 HB hx253_0 hHeld ⊢
                    refine pure_ (i:=0) (N:=some 60) (v:=?_) (a':=?_) (bl 1 16) rfl rfl (any_of HT_.out (by kernel_rfl)) (fun _ _ _ h => h) (Or.inl ⟨by rfl,?_⟩) ?_ ?_
                    rotate_left;·intro w';go_simp;with_reducible rfl
                    rotate_left;·simp only [Act.put,List.setIfInBounds_toArray,List.set_cons_zero,List.set_cons_succ,i64_w,i32_w];rfl
                    refine pure_ (i:=1) (N:=some 61) (v:=?_) (a':=?_) (bl 2 15) rfl rfl (any_of HT_.out (by kernel_rfl)) (fun _ _ _ h => h) (Or.inl ⟨by rfl,?_⟩) ?_ ?_
                    rotate_left;·intro w';go_simp;with_reducible rfl
                    rotate_left;·simp only [Act.put,List.setIfInBounds_toArray,List.set_cons_zero,List.set_cons_succ,i64_w,i32_w];rfl
                    refine pure_ (i:=4) (N:=some 64) (v:=?_) (a':=?_) #[true,true,false,false,true,false,false,false,false,false,false,false,false,false,false,false,false] rfl rfl (any_of HT_.out (by kernel_rfl)) (fun _ _ _ h => h) (Or.inl ⟨by rfl,?_⟩) ?_ ?_
                    rotate_left;·intro w';go_simp;with_reducible rfl
                    rotate_left;·simp only [Act.put,List.setIfInBounds_toArray,List.set_cons_zero,List.set_cons_succ,i64_w,i32_w];rfl
                    refine pure_ (i:=6) (N:=some 66) (v:=?_) (a':=?_) #[true,true,false,false,true,false,true,false,false,false,false,false,false,false,false,false,false] rfl rfl (any_of HT_.out (by kernel_rfl)) (fun _ _ _ h => h) (Or.inl ⟨by rfl,?_⟩) ?_ ?_
                    rotate_left;·intro w';go_simp;with_reducible rfl
                    rotate_left;·simp only [Act.put,List.setIfInBounds_toArray,List.set_cons_zero,List.set_cons_succ,i64_w,i32_w];rfl
                    refine pure_ (i:=7) (N:=some 67) (v:=?_) (a':=?_) #[true,true,false,false,true,false,true,true,false,false,false,false,false,false,false,false,false] rfl rfl (any_of HT_.out (by kernel_rfl)) (fun _ _ _ h => h) (Or.inl ⟨by rfl,?_⟩) ?_ ?_
                    rotate_left;·intro w';go_simp;with_reducible rfl
                    rotate_left;·simp only [Act.put,List.setIfInBounds_toArray,List.set_cons_zero,List.set_cons_succ,i64_w,i32_w];rfl
                    refine pure_ (i:=8) (N:=some 68) (v:=?_) (a':=?_) #[true,true,false,false,true,false,true,true,true,false,false,false,false,false,false,false,false] rfl rfl (any_of HT_.out (by kernel_rfl)) (fun _ _ _ h => h) (Or.inl ⟨by rfl,?_⟩) ?_ ?_
                    rotate_left;·intro w';go_simp;with_reducible rfl
                    rotate_left;·simp only [Act.put,List.setIfInBounds_toArray,List.set_cons_zero,List.set_cons_succ,i64_w,i32_w];rfl
                    refine take_ (i:=9) (N:=some 69) (v:=?_) (a':=?_) #[true,true,false,false,true,false,true,true,true,true,false,false,false,false,false,false,false] rfl rfl (take_ofW HT_.out HW_.out (by kernel_rfl)) (fun _ _ _ h => h) (Or.inl ⟨by rfl,?_⟩) hHeld ?_ ?_
                    rotate_left
                    ·intro w' s0
                     go_simp
                     with_reducible rfl
                    rotate_left
                    ·simp only [Act.put,List.setIfInBounds_toArray,List.set_cons_zero,List.set_cons_succ,i64_w,i32_w]
                     rfl
                    refine one_ (i:=2) (N:=some 62) #[true,true,true,false,true,false,true,true,true,true,false,false,false,false,false,false,false] rfl rfl (one_of HT_.out (by kernel_rfl)) (by decide) (fun K hK => ?_)
                    refine goes_ Tryz.func23 (by kernel_rfl) rfl #[.int .u64 (IntKind.u64.wrap (a0)),.int .i64 10] (by rfl) rfl rfl (by (try simp only [List.map_toArray,List.map_cons,List.map_nil]);first|done|rfl|(simp only [List.length_drop,List.length_take];rfl)) ?_
                    with_reducible refine (strconv_FormatUint.calls (IntKind.u64.wrap (a0)) 10 t252 _ A16.out (Glob.below hG (by repeat (first|(with_reducible first|exact HB.out|apply below_alloc|apply pw_below_drewN|apply below_drew1)|exact HB.out)))).mono ?_
                    rintro e w75 ⟨rfl,hb⟩
                    have HS0_:=(hb.cell (World.block_lt_of_cell? _ _ (hHeld))).trans (hHeld)
                    refine ⟨_,rfl,?_⟩
                    have n0_:=Aside0.mk (Kd.R_below (by (with_reducible repeat (first|apply Kd.R_alloc|apply Kd.R_drewN|apply Kd.R_drew));exact HO_9.out) hb)
                    have n1_:=Aside0.mk (Kd.R_below (by (with_reducible repeat (first|apply Kd.R_alloc|apply Kd.R_drewN|apply Kd.R_drew));exact HO_10.out) hb)
                    have n2_:=Aside0.mk (below_step (by repeat (first|(with_reducible first|exact HB.out|apply below_alloc|apply pw_below_drewN|apply below_drew1)|exact HB.out)) hb)
                    clear HO_9;clear HO_10;clear HB;have HO_9:=n0_;have HO_10:=n1_;have HB:=n2_;clear n0_ n1_ n2_;(try clear hb);(try clear hb2);(try clear hk);(try clear hi)
                    refine hK.out _ _ (HS0_) (fun hHeld => ?_)
                    clear hK K
                    refine norm_ (a':=?_) ?_ ?_
                    rotate_left
                    ·show Act.put _ (some 62) _ = _
                     simp only [Act.put,List.setIfInBounds_toArray,List.set_cons_zero,List.set_cons_succ,i64_w,i32_w]
                     rfl
                    refine pure_ (i:=3) (N:=some 63) (v:=?_) (a':=?_) #[true,true,true,true,true,false,true,true,true,true,false,false,false,false,false,false,false] rfl rfl (any_of HT_.out (by kernel_rfl)) (fun _ _ _ h => h) (Or.inl ⟨by rfl,?_⟩) ?_ ?_
                    rotate_left;·intro w';go_simp;with_reducible rfl
                    rotate_left;·simp only [Act.put,List.setIfInBounds_toArray,List.set_cons_zero,List.set_cons_succ,i64_w,i32_w];rfl
                    refine pure_ (i:=5) (N:=some 65) (v:=?_) (a':=?_) (bl 10 7) rfl rfl (any_of HT_.out (by kernel_rfl)) (fun _ _ _ h => h) (Or.inl ⟨by rfl,?_⟩) ?_ ?_
                    rotate_left;·intro w';go_simp;with_reducible rfl
                    rotate_left;·simp only [Act.put,List.setIfInBounds_toArray,List.set_cons_zero,List.set_cons_succ,i64_w,i32_w];rfl
                    refine pure_ (i:=10) (N:=some 70) (v:=?_) (a':=?_) (bl 11 6) rfl rfl (any_of HT_.out (by kernel_rfl)) (fun _ _ _ h => h) (Or.inl ⟨by rfl,?_⟩) ?_ ?_
                    rotate_left;·intro w';go_simp;with_reducible rfl
                    rotate_left;·simp only [Act.put,List.setIfInBounds_toArray,List.set_cons_zero,List.set_cons_succ,i64_w,i32_w];rfl
                    refine one_ (i:=11) (N:=some 71) (bl 12 5) rfl rfl (one_of HT_.out (by kernel_rfl)) (by decide) (fun K hK => ?_)
                    refine goes_ Tryz.func17 (by kernel_rfl) rfl #[.string (((t252 ++ (⟨#[46]⟩ : ByteArray)) ++ (t251.extract 1 t251.size)) ++ (rdOf ByteArray.empty t245 (ji19)))] (by rfl) rfl rfl (by (try simp only [List.map_toArray,List.map_cons,List.map_nil]);first|done|(simp only [hji19];rfl)|rfl|(simp only [List.length_drop,List.length_take];rfl)) ?_
                    with_reducible refine (quant_Parse.calls k1 (((t252 ++ (⟨#[46]⟩ : ByteArray)) ++ (t251.extract 1 t251.size)) ++ (rdOf ByteArray.empty t245 (ji19))) t254 t255 _ A23.out (Glob.below hG (by repeat (first|(with_reducible first|exact HB.out|apply below_alloc|apply pw_below_drewN|apply below_drew1)|exact HB.out)))).mono ?_
                    rintro e w76 ⟨rfl,hb⟩
                    have HS0_:=(hb.cell (World.block_lt_of_cell? _ _ (hHeld))).trans (hHeld)
                    refine ⟨_,rfl,?_⟩
                    have n0_:=Aside0.mk (Kd.R_below (by (with_reducible repeat (first|apply Kd.R_alloc|apply Kd.R_drewN|apply Kd.R_drew));exact HO_9.out) hb)
                    have n1_:=Aside0.mk (Kd.R_below (by (with_reducible repeat (first|apply Kd.R_alloc|apply Kd.R_drewN|apply Kd.R_drew));exact HO_10.out) hb)
                    have n2_:=Aside0.mk (below_step (by repeat (first|(with_reducible first|exact HB.out|apply below_alloc|apply pw_below_drewN|apply below_drew1)|exact HB.out)) hb)
                    clear HO_9;clear HO_10;clear HB;have HO_9:=n0_;have HO_10:=n1_;have HB:=n2_;clear n0_ n1_ n2_;(try clear hb);(try clear hb2);(try clear hk);(try clear hi)
                    refine hK.out _ _ (HS0_) (fun hHeld => ?_)
                    clear hK K
                    refine norm_ (a':=?_) ?_ ?_
                    rotate_left
                    ·show Act.put _ (some 71) _ = _
                     simp only [Act.put,List.setIfInBounds_toArray,List.set_cons_zero,List.set_cons_succ,i64_w,i32_w]
                     rfl
                    refine pure_ (i:=12) (N:=some 59) (v:=?_) (a':=?_) (bl 13 4) rfl rfl (any_of HT_.out (by kernel_rfl)) (fun _ _ _ h => h) (Or.inl ⟨by rfl,?_⟩) ?_ ?_
                    rotate_left;·intro w';go_simp;with_reducible rfl
                    rotate_left;·simp only [Act.put,List.setIfInBounds_toArray,List.set_cons_zero,List.set_cons_succ,i64_w,i32_w];rfl
                    refine pure_ (i:=13) (N:=some 72) (v:=?_) (a':=?_) (bl 14 3) rfl rfl (any_of HT_.out (by kernel_rfl)) (fun _ _ _ h => h) (Or.inl ⟨by rfl,?_⟩) ?_ ?_
                    rotate_left;·intro w';go_simp;with_reducible rfl
                    rotate_left;·simp only [Act.put,List.setIfInBounds_toArray,List.set_cons_zero,List.set_cons_succ,i64_w,i32_w];rfl
                    refine pure_ (i:=14) (N:=some 73) (v:=?_) (a':=?_) (bl 15 2) rfl rfl (any_of HT_.out (by kernel_rfl)) (fun _ _ _ h => h) (Or.inl ⟨by rfl,?_⟩) ?_ ?_
                    rotate_left;·intro w';go_simp;with_reducible rfl
                    rotate_left;·simp only [Act.put,List.setIfInBounds_toArray,List.set_cons_zero,List.set_cons_succ,i64_w,i32_w];rfl
                    refine pure_ (i:=15) (N:=some 17) (v:=?_) (a':=?_) (bl 16 1) rfl rfl (any_of HT_.out (by kernel_rfl)) (fun _ _ _ h => h) (Or.inl ⟨by rfl,?_⟩) ?_ ?_
                    rotate_left;·intro w';go_simp;with_reducible rfl
                    rotate_left;·simp only [Act.put,List.setIfInBounds_toArray,List.set_cons_zero,List.set_cons_succ,i64_w,i32_w];rfl
                    refine pure_ (i:=16) (N:=some 18) (v:=?_) (a':=?_) (bl 17 0) rfl rfl (any_of HT_.out (by kernel_rfl)) (fun _ _ _ h => h) (Or.inl ⟨by rfl,?_⟩) ?_ ?_
                    rotate_left;·intro w';go_simp;with_reducible rfl
                    rotate_left;·simp only [Act.put,List.setIfInBounds_toArray,List.set_cons_zero,List.set_cons_succ,i64_w,i32_w];rfl
                    refine done_ (done_of HT_.out (by kernel_rfl)) ?_
                    have p256 : 0 ≤ ((ji19) : Int):=of_decide_eq_true (by first|(with_reducible assumption)|assumption)
                    have q256 : (ji19) < (t246.length : Int):=of_decide_eq_true (by first|(with_reducible assumption)|assumption)
                    obtain ⟨ad256,e256,hx256_0⟩:=Kd.at_int (Kd.R_reads' HO_10.out).2.2 (ji19) p256 q256
                    cases e256
                    replace p256:=eq_true p256
                    replace q256:=eq_true q256
                    try go_wp2_with (first|((with_reducible refine gate_callee (f:=24) rfl ?_);refine goesL_ (some 86) rfl rfl Tryz.func24 (by kernel_rfl) rfl #[.int .u64 (IntKind.u64.wrap ((IntKind.u64.wrap ((IntKind.u64.wrap (a0)) * x13_1)) + (Int.tmod (IntKind.u64.wrap (a1)) x13_1))),.int .u64 (IntKind.u64.wrap (rd t246 (ji19)))] rfl (by (try simp only [List.map_toArray,List.map_cons,List.map_nil]);first|done|(simp only [hji19];rfl)|rfl|(simp only [List.length_drop,List.length_take];rfl)) ?_;(with_reducible refine (bits_Mul64.calls (IntKind.u64.wrap ((IntKind.u64.wrap ((IntKind.u64.wrap (a0)) * x13_1)) + (Int.tmod (IntKind.u64.wrap (a1)) x13_1))) (IntKind.u64.wrap (rd t246 (ji19))) t257 t258 _ A25.out).mono ?_);rintro e w' ⟨rfl,⟨nd,rfl⟩⟩;refine ⟨_,rfl,?_⟩)|((with_reducible refine gate_callee (f:=24) rfl ?_);refine goesL_ (some 93) rfl rfl Tryz.func24 (by kernel_rfl) rfl #[.int .u64 t258,.int .u64 1000] rfl (by (try simp only [List.map_toArray,List.map_cons,List.map_nil]);first|done|rfl|(simp only [List.length_drop,List.length_take];rfl)) ?_;(with_reducible refine (bits_Mul64.calls t258 1000 t259 t260 _ A32.out).mono ?_);rintro e w' ⟨rfl,⟨nd,rfl⟩⟩;refine ⟨_,rfl,?_⟩)|((with_reducible refine gate_callee (f:=25) rfl ?_);refine goesL_ (some 113) rfl rfl Tryz.func25 (by kernel_rfl) rfl #[.int .u64 (IntKind.u64.wrap (t259 + (IntKind.u64.wrap (t257 * 1000)))),.int .u64 t260,.int .u64 x13_1] rfl (by (try simp only [List.map_toArray,List.map_cons,List.map_nil]);first|done|rfl|(simp only [List.length_drop,List.length_take];rfl)) ?_;(with_reducible refine (bits_Div64.calls k1 (IntKind.u64.wrap (t259 + (IntKind.u64.wrap (t257 * 1000)))) t260 x13_1 t261 t262 _ A45.out).mono ?_);rintro e w' ⟨rfl,⟨nd,rfl⟩⟩;refine ⟨_,rfl,?_⟩))
                    go_ret
                    exact ⟨by first|rfl|(simp [errW_none,errW_some] <;> rfl)|(simp only [← hji19];first|rfl|(simp [errW_none,errW_some] <;> rfl))|(simp [*,errW_none,errW_some] <;> rfl),by repeat (first|(with_reducible first|exact HB.out|apply below_alloc|apply pw_below_drewN|apply below_drew1)|exact HB.out)⟩
                   ·rw [if_neg c71] at H
                    have c71b0 : (t255 == 0) = false:=beq_eq_false_iff_ne.mpr c71
                    have c71b1 : (t255 != 0) = true:=bne_iff_ne.mpr c71
                    obtain rfl:=Option.some.inj H
                    try go_wp2_with (first|((with_reducible refine gate_callee (f:=23) rfl ?_);refine goesL_ (some 57) rfl rfl Tryz.func23 (by kernel_rfl) rfl #[.int .u64 (IntKind.u64.wrap (x13_1 + (Int.tmod (IntKind.u64.wrap (a1)) x13_1))),.int .i64 10] rfl (by (try simp only [List.map_toArray,List.map_cons,List.map_nil]);first|done|rfl|(simp only [List.length_drop,List.length_take];rfl)) ?_;(with_reducible refine (strconv_FormatUint.calls (IntKind.u64.wrap (x13_1 + (Int.tmod (IntKind.u64.wrap (a1)) x13_1))) 10 t251 _ A14.out (Glob.below hG (by repeat (first|(with_reducible first|exact HB.out|apply below_alloc|apply pw_below_drewN|apply below_drew1)|exact HB.out)))).mono ?_);rintro e w77 ⟨rfl,hb⟩;refine ⟨_,rfl,?_⟩;have n0_:=Aside0.mk (Kd.R_below (by (with_reducible repeat (first|apply Kd.R_alloc|apply Kd.R_drewN|apply Kd.R_drew));exact HO_9.out) hb);have n1_:=Aside0.mk (Kd.R_below (by (with_reducible repeat (first|apply Kd.R_alloc|apply Kd.R_drewN|apply Kd.R_drew));exact HO_10.out) hb);have n2_:=Aside0.mk (below_step (by repeat (first|(with_reducible first|exact HB.out|apply below_alloc|apply pw_below_drewN|apply below_drew1)|exact HB.out)) hb);clear HO_9;clear HO_10;clear HB;have HO_9:=n0_;have HO_10:=n1_;have HB:=n2_;clear n0_ n1_ n2_;(try clear hb);(try clear hb2);(try clear hk);(try clear hi)))
                    have n0_:=Aside0.mk (Kd.R_drew HO_9.out)
                    have n1_:=Aside0.mk (Kd.R_drew HO_10.out)
                    have n2_:=Aside0.mk (below_drew1 HB.out)
                    clear HO_9;clear HO_10;clear HB;have HO_9:=n0_;have HO_10:=n1_;have HB:=n2_;clear n0_ n1_ n2_
                    obtain ⟨Ao79,co79,eo79⟩:=Kd.R_slice HO_9.out
                    (first|subst eo79|(injection eo79 with f1_ f2_ f3_;have f4_:=f1_.symm;have f5_:=f3_.symm;clear f1_ f2_ f3_;subst f4_;subst f5_))
                    have p253 : 0 ≤ ((ji19) : Int):=of_decide_eq_true (by first|(with_reducible assumption)|assumption)
                    have q253 : (ji19) < (t245.length : Int):=of_decide_eq_true (by first|(with_reducible assumption)|assumption)
                    obtain ⟨ad253,e253,hx253_0⟩:=Kd.at_string (Kd.R_reads' HO_9.out).2.2 (ji19) p253 q253
                    cases e253
                    replace p253:=eq_true p253
                    replace q253:=eq_true q253
                    refine start_ (n:=17) (S:=fun w' => w'.cell? (ad253.add ((ji19)).toNat) = some (.string (rdOf ByteArray.empty t245 (ji19)))) (ds:=[]) (bl 0 17) (by kernel_rfl) rfl rfl (hx253_0) (fun hHeld => ?_);refine with_tabW bursarlaw03_QuantMeans.tab13 bursarlaw03_QuantMeans.bits13 (fun HT_ HW_ => ?_)
                    generalize w77.drew = w78 at HO_9 HO_10 HB hx253_0 hHeld ⊢
                    refine pure_ (i:=0) (N:=some 60) (v:=?_) (a':=?_) (bl 1 16) rfl rfl (any_of HT_.out (by kernel_rfl)) (fun _ _ _ h => h) (Or.inl ⟨by rfl,?_⟩) ?_ ?_
                    rotate_left;·intro w';go_simp;with_reducible rfl
                    rotate_left;·simp only [Act.put,List.setIfInBounds_toArray,List.set_cons_zero,List.set_cons_succ,i64_w,i32_w];rfl
                    refine pure_ (i:=1) (N:=some 61) (v:=?_) (a':=?_) (bl 2 15) rfl rfl (any_of HT_.out (by kernel_rfl)) (fun _ _ _ h => h) (Or.inl ⟨by rfl,?_⟩) ?_ ?_
                    rotate_left;·intro w';go_simp;with_reducible rfl
                    rotate_left;·simp only [Act.put,List.setIfInBounds_toArray,List.set_cons_zero,List.set_cons_succ,i64_w,i32_w];rfl
                    refine pure_ (i:=4) (N:=some 64) (v:=?_) (a':=?_) #[true,true,false,false,true,false,false,false,false,false,false,false,false,false,false,false,false] rfl rfl (any_of HT_.out (by kernel_rfl)) (fun _ _ _ h => h) (Or.inl ⟨by rfl,?_⟩) ?_ ?_
                    rotate_left;·intro w';go_simp;with_reducible rfl
                    rotate_left;·simp only [Act.put,List.setIfInBounds_toArray,List.set_cons_zero,List.set_cons_succ,i64_w,i32_w];rfl
                    refine pure_ (i:=6) (N:=some 66) (v:=?_) (a':=?_) #[true,true,false,false,true,false,true,false,false,false,false,false,false,false,false,false,false] rfl rfl (any_of HT_.out (by kernel_rfl)) (fun _ _ _ h => h) (Or.inl ⟨by rfl,?_⟩) ?_ ?_
                    rotate_left;·intro w';go_simp;with_reducible rfl
                    rotate_left;·simp only [Act.put,List.setIfInBounds_toArray,List.set_cons_zero,List.set_cons_succ,i64_w,i32_w];rfl
                    refine pure_ (i:=7) (N:=some 67) (v:=?_) (a':=?_) #[true,true,false,false,true,false,true,true,false,false,false,false,false,false,false,false,false] rfl rfl (any_of HT_.out (by kernel_rfl)) (fun _ _ _ h => h) (Or.inl ⟨by rfl,?_⟩) ?_ ?_
                    rotate_left;·intro w';go_simp;with_reducible rfl
                    rotate_left;·simp only [Act.put,List.setIfInBounds_toArray,List.set_cons_zero,List.set_cons_succ,i64_w,i32_w];rfl
                    refine pure_ (i:=8) (N:=some 68) (v:=?_) (a':=?_) #[true,true,false,false,true,false,true,true,true,false,false,false,false,false,false,false,false] rfl rfl (any_of HT_.out (by kernel_rfl)) (fun _ _ _ h => h) (Or.inl ⟨by rfl,?_⟩) ?_ ?_
                    rotate_left;·intro w';go_simp;with_reducible rfl
                    rotate_left;·simp only [Act.put,List.setIfInBounds_toArray,List.set_cons_zero,List.set_cons_succ,i64_w,i32_w];rfl
                    refine take_ (i:=9) (N:=some 69) (v:=?_) (a':=?_) #[true,true,false,false,true,false,true,true,true,true,false,false,false,false,false,false,false] rfl rfl (take_ofW HT_.out HW_.out (by kernel_rfl)) (fun _ _ _ h => h) (Or.inl ⟨by rfl,?_⟩) hHeld ?_ ?_
                    rotate_left
                    ·intro w' s0
                     go_simp
                     with_reducible rfl
                    rotate_left
                    ·simp only [Act.put,List.setIfInBounds_toArray,List.set_cons_zero,List.set_cons_succ,i64_w,i32_w]
                     rfl
                    refine one_ (i:=2) (N:=some 62) #[true,true,true,false,true,false,true,true,true,true,false,false,false,false,false,false,false] rfl rfl (one_of HT_.out (by kernel_rfl)) (by decide) (fun K hK => ?_)
                    refine goes_ Tryz.func23 (by kernel_rfl) rfl #[.int .u64 (IntKind.u64.wrap (a0)),.int .i64 10] (by rfl) rfl rfl (by (try simp only [List.map_toArray,List.map_cons,List.map_nil]);first|done|rfl|(simp only [List.length_drop,List.length_take];rfl)) ?_
                    with_reducible refine (strconv_FormatUint.calls (IntKind.u64.wrap (a0)) 10 t252 _ A16.out (Glob.below hG (by repeat (first|(with_reducible first|exact HB.out|apply below_alloc|apply pw_below_drewN|apply below_drew1)|exact HB.out)))).mono ?_
                    rintro e w80 ⟨rfl,hb⟩
                    have HS0_:=(hb.cell (World.block_lt_of_cell? _ _ (hHeld))).trans (hHeld)
                    refine ⟨_,rfl,?_⟩
                    have n0_:=Aside0.mk (Kd.R_below (by (with_reducible repeat (first|apply Kd.R_alloc|apply Kd.R_drewN|apply Kd.R_drew));exact HO_9.out) hb)
                    have n1_:=Aside0.mk (Kd.R_below (by (with_reducible repeat (first|apply Kd.R_alloc|apply Kd.R_drewN|apply Kd.R_drew));exact HO_10.out) hb)
                    have n2_:=Aside0.mk (below_step (by repeat (first|(with_reducible first|exact HB.out|apply below_alloc|apply pw_below_drewN|apply below_drew1)|exact HB.out)) hb)
                    clear HO_9;clear HO_10;clear HB;have HO_9:=n0_;have HO_10:=n1_;have HB:=n2_;clear n0_ n1_ n2_;(try clear hb);(try clear hb2);(try clear hk);(try clear hi)
                    refine hK.out _ _ (HS0_) (fun hHeld => ?_)
                    clear hK K
                    refine norm_ (a':=?_) ?_ ?_
                    rotate_left
                    ·show Act.put _ (some 62) _ = _
                     simp only [Act.put,List.setIfInBounds_toArray,List.set_cons_zero,List.set_cons_succ,i64_w,i32_w]
                     rfl
                    refine pure_ (i:=3) (N:=some 63) (v:=?_) (a':=?_) #[true,true,true,true,true,false,true,true,true,true,false,false,false,false,false,false,false] rfl rfl (any_of HT_.out (by kernel_rfl)) (fun _ _ _ h => h) (Or.inl ⟨by rfl,?_⟩) ?_ ?_
                    rotate_left;·intro w';go_simp;with_reducible rfl
                    rotate_left;·simp only [Act.put,List.setIfInBounds_toArray,List.set_cons_zero,List.set_cons_succ,i64_w,i32_w];rfl
                    refine pure_ (i:=5) (N:=some 65) (v:=?_) (a':=?_) (bl 10 7) rfl rfl (any_of HT_.out (by kernel_rfl)) (fun _ _ _ h => h) (Or.inl ⟨by rfl,?_⟩) ?_ ?_
                    rotate_left;·intro w';go_simp;with_reducible rfl
                    rotate_left;·simp only [Act.put,List.setIfInBounds_toArray,List.set_cons_zero,List.set_cons_succ,i64_w,i32_w];rfl
                    refine pure_ (i:=10) (N:=some 70) (v:=?_) (a':=?_) (bl 11 6) rfl rfl (any_of HT_.out (by kernel_rfl)) (fun _ _ _ h => h) (Or.inl ⟨by rfl,?_⟩) ?_ ?_
                    rotate_left;·intro w';go_simp;with_reducible rfl
                    rotate_left;·simp only [Act.put,List.setIfInBounds_toArray,List.set_cons_zero,List.set_cons_succ,i64_w,i32_w];rfl
                    refine one_ (i:=11) (N:=some 71) (bl 12 5) rfl rfl (one_of HT_.out (by kernel_rfl)) (by decide) (fun K hK => ?_)
                    refine goes_ Tryz.func17 (by kernel_rfl) rfl #[.string (((t252 ++ (⟨#[46]⟩ : ByteArray)) ++ (t251.extract 1 t251.size)) ++ (rdOf ByteArray.empty t245 (ji19)))] (by rfl) rfl rfl (by (try simp only [List.map_toArray,List.map_cons,List.map_nil]);first|done|(simp only [hji19];rfl)|rfl|(simp only [List.length_drop,List.length_take];rfl)) ?_
                    with_reducible refine (quant_Parse.calls k1 (((t252 ++ (⟨#[46]⟩ : ByteArray)) ++ (t251.extract 1 t251.size)) ++ (rdOf ByteArray.empty t245 (ji19))) t254 t255 _ A23.out (Glob.below hG (by repeat (first|(with_reducible first|exact HB.out|apply below_alloc|apply pw_below_drewN|apply below_drew1)|exact HB.out)))).mono ?_
                    rintro e w81 ⟨rfl,hb⟩
                    have HS0_:=(hb.cell (World.block_lt_of_cell? _ _ (hHeld))).trans (hHeld)
                    refine ⟨_,rfl,?_⟩
                    have n0_:=Aside0.mk (Kd.R_below (by (with_reducible repeat (first|apply Kd.R_alloc|apply Kd.R_drewN|apply Kd.R_drew));exact HO_9.out) hb)
                    have n1_:=Aside0.mk (Kd.R_below (by (with_reducible repeat (first|apply Kd.R_alloc|apply Kd.R_drewN|apply Kd.R_drew));exact HO_10.out) hb)
                    have n2_:=Aside0.mk (below_step (by repeat (first|(with_reducible first|exact HB.out|apply below_alloc|apply pw_below_drewN|apply below_drew1)|exact HB.out)) hb)
                    clear HO_9;clear HO_10;clear HB;have HO_9:=n0_;have HO_10:=n1_;have HB:=n2_;clear n0_ n1_ n2_;(try clear hb);(try clear hb2);(try clear hk);(try clear hi)
                    refine hK.out _ _ (HS0_) (fun hHeld => ?_)
                    clear hK K
                    refine norm_ (a':=?_) ?_ ?_
                    rotate_left
                    ·show Act.put _ (some 71) _ = _
                     simp only [Act.put,List.setIfInBounds_toArray,List.set_cons_zero,List.set_cons_succ,i64_w,i32_w]
                     rfl
                    refine pure_ (i:=12) (N:=some 59) (v:=?_) (a':=?_) (bl 13 4) rfl rfl (any_of HT_.out (by kernel_rfl)) (fun _ _ _ h => h) (Or.inl ⟨by rfl,?_⟩) ?_ ?_
                    rotate_left;·intro w';go_simp;with_reducible rfl
                    rotate_left;·simp only [Act.put,List.setIfInBounds_toArray,List.set_cons_zero,List.set_cons_succ,i64_w,i32_w];rfl
                    refine pure_ (i:=13) (N:=some 72) (v:=?_) (a':=?_) (bl 14 3) rfl rfl (any_of HT_.out (by kernel_rfl)) (fun _ _ _ h => h) (Or.inl ⟨by rfl,?_⟩) ?_ ?_
                    rotate_left;·intro w';go_simp;with_reducible rfl
                    rotate_left;·simp only [Act.put,List.setIfInBounds_toArray,List.set_cons_zero,List.set_cons_succ,i64_w,i32_w];rfl
                    refine pure_ (i:=14) (N:=some 73) (v:=?_) (a':=?_) (bl 15 2) rfl rfl (any_of HT_.out (by kernel_rfl)) (fun _ _ _ h => h) (Or.inl ⟨by rfl,?_⟩) ?_ ?_
                    rotate_left;·intro w';go_simp;with_reducible rfl
                    rotate_left;·simp only [Act.put,List.setIfInBounds_toArray,List.set_cons_zero,List.set_cons_succ,i64_w,i32_w];rfl
                    refine pure_ (i:=15) (N:=some 17) (v:=?_) (a':=?_) (bl 16 1) rfl rfl (any_of HT_.out (by kernel_rfl)) (fun _ _ _ h => h) (Or.inl ⟨by rfl,?_⟩) ?_ ?_
                    rotate_left;·intro w';go_simp;with_reducible rfl
                    rotate_left;·simp only [Act.put,List.setIfInBounds_toArray,List.set_cons_zero,List.set_cons_succ,i64_w,i32_w];rfl
                    refine pure_ (i:=16) (N:=some 18) (v:=?_) (a':=?_) (bl 17 0) rfl rfl (any_of HT_.out (by kernel_rfl)) (fun _ _ _ h => h) (Or.inl ⟨by rfl,?_⟩) ?_ ?_
                    rotate_left;·intro w';go_simp;with_reducible rfl
                    rotate_left;·simp only [Act.put,List.setIfInBounds_toArray,List.set_cons_zero,List.set_cons_succ,i64_w,i32_w];rfl
                    refine done_ (done_of HT_.out (by kernel_rfl)) ?_
                    have p256 : 0 ≤ ((ji19) : Int):=of_decide_eq_true (by first|(with_reducible assumption)|assumption)
                    have q256 : (ji19) < (t246.length : Int):=of_decide_eq_true (by first|(with_reducible assumption)|assumption)
                    obtain ⟨ad256,e256,hx256_0⟩:=Kd.at_int (Kd.R_reads' HO_10.out).2.2 (ji19) p256 q256
                    cases e256
                    replace p256:=eq_true p256
                    replace q256:=eq_true q256
                    try go_wp2_with (first|((with_reducible refine gate_callee (f:=24) rfl ?_);refine goesL_ (some 86) rfl rfl Tryz.func24 (by kernel_rfl) rfl #[.int .u64 (IntKind.u64.wrap ((IntKind.u64.wrap ((IntKind.u64.wrap (a0)) * x13_1)) + (Int.tmod (IntKind.u64.wrap (a1)) x13_1))),.int .u64 (IntKind.u64.wrap (rd t246 (ji19)))] rfl (by (try simp only [List.map_toArray,List.map_cons,List.map_nil]);first|done|(simp only [hji19];rfl)|rfl|(simp only [List.length_drop,List.length_take];rfl)) ?_;(with_reducible refine (bits_Mul64.calls (IntKind.u64.wrap ((IntKind.u64.wrap ((IntKind.u64.wrap (a0)) * x13_1)) + (Int.tmod (IntKind.u64.wrap (a1)) x13_1))) (IntKind.u64.wrap (rd t246 (ji19))) t257 t258 _ A25.out).mono ?_);rintro e w' ⟨rfl,⟨nd,rfl⟩⟩;refine ⟨_,rfl,?_⟩)|((with_reducible refine gate_callee (f:=24) rfl ?_);refine goesL_ (some 93) rfl rfl Tryz.func24 (by kernel_rfl) rfl #[.int .u64 t258,.int .u64 1000] rfl (by (try simp only [List.map_toArray,List.map_cons,List.map_nil]);first|done|rfl|(simp only [List.length_drop,List.length_take];rfl)) ?_;(with_reducible refine (bits_Mul64.calls t258 1000 t259 t260 _ A32.out).mono ?_);rintro e w' ⟨rfl,⟨nd,rfl⟩⟩;refine ⟨_,rfl,?_⟩)|((with_reducible refine gate_callee (f:=25) rfl ?_);refine goesL_ (some 113) rfl rfl Tryz.func25 (by kernel_rfl) rfl #[.int .u64 (IntKind.u64.wrap (t259 + (IntKind.u64.wrap (t257 * 1000)))),.int .u64 t260,.int .u64 x13_1] rfl (by (try simp only [List.map_toArray,List.map_cons,List.map_nil]);first|done|rfl|(simp only [List.length_drop,List.length_take];rfl)) ?_;(with_reducible refine (bits_Div64.calls k1 (IntKind.u64.wrap (t259 + (IntKind.u64.wrap (t257 * 1000)))) t260 x13_1 t261 t262 _ A45.out).mono ?_);rintro e w' ⟨rfl,⟨nd,rfl⟩⟩;refine ⟨_,rfl,?_⟩))
                    go_ret
                    exact ⟨by first|rfl|(simp [errW_none,errW_some] <;> rfl)|(simp only [← hji19];first|rfl|(simp [errW_none,errW_some] <;> rfl))|(simp [*,errW_none,errW_some] <;> rfl),by repeat (first|(with_reducible first|exact HB.out|apply below_alloc|apply pw_below_drewN|apply below_drew1)|exact HB.out)⟩
                ·rw [if_neg c46] at H
                 have c46b0 : decide (0 < t262) = false:=decide_eq_false c46
                 clear c46
                 by_cases c82 : t261 > 9223372036854775807
                 ·rw [if_pos c82] at H
                  have c82b0 : decide (9223372036854775807 < t261) = true:=decide_eq_true c82
                  clear c82
                  by_cases c83 : t255 = 7
                  ·rw [if_pos c83] at H
                   have c83b0 : (t255 == 7) = true:=beq_iff_eq.mpr c83
                   have c83b1 : (t255 != 7) = false:=bne_eq_false_iff_eq.mpr c83
                   clear c83
                   obtain rfl:=Option.some.inj H
                   try go_wp2_with (first|((with_reducible refine gate_callee (f:=23) rfl ?_);refine goesL_ (some 57) rfl rfl Tryz.func23 (by kernel_rfl) rfl #[.int .u64 (IntKind.u64.wrap (x13_1 + (Int.tmod (IntKind.u64.wrap (a1)) x13_1))),.int .i64 10] rfl (by (try simp only [List.map_toArray,List.map_cons,List.map_nil]);first|done|rfl|(simp only [List.length_drop,List.length_take];rfl)) ?_;(with_reducible refine (strconv_FormatUint.calls (IntKind.u64.wrap (x13_1 + (Int.tmod (IntKind.u64.wrap (a1)) x13_1))) 10 t251 _ A14.out (Glob.below hG (by repeat (first|(with_reducible first|exact HB.out|apply below_alloc|apply pw_below_drewN|apply below_drew1)|exact HB.out)))).mono ?_);rintro e w84 ⟨rfl,hb⟩;refine ⟨_,rfl,?_⟩;have n0_:=Aside0.mk (Kd.R_below (by (with_reducible repeat (first|apply Kd.R_alloc|apply Kd.R_drewN|apply Kd.R_drew));exact HO_9.out) hb);have n1_:=Aside0.mk (Kd.R_below (by (with_reducible repeat (first|apply Kd.R_alloc|apply Kd.R_drewN|apply Kd.R_drew));exact HO_10.out) hb);have n2_:=Aside0.mk (below_step (by repeat (first|(with_reducible first|exact HB.out|apply below_alloc|apply pw_below_drewN|apply below_drew1)|exact HB.out)) hb);clear HO_9;clear HO_10;clear HB;have HO_9:=n0_;have HO_10:=n1_;have HB:=n2_;clear n0_ n1_ n2_;(try clear hb);(try clear hb2);(try clear hk);(try clear hi)))
                   have n0_:=Aside0.mk (Kd.R_drew HO_9.out)
                   have n1_:=Aside0.mk (Kd.R_drew HO_10.out)
                   have n2_:=Aside0.mk (below_drew1 HB.out)
                   clear HO_9;clear HO_10;clear HB;have HO_9:=n0_;have HO_10:=n1_;have HB:=n2_;clear n0_ n1_ n2_
                   obtain ⟨Ao86,co86,eo86⟩:=Kd.R_slice HO_9.out
                   (first|subst eo86|(injection eo86 with f1_ f2_ f3_;have f4_:=f1_.symm;have f5_:=f3_.symm;clear f1_ f2_ f3_;subst f4_;subst f5_))
                   have p253 : 0 ≤ ((ji19) : Int):=of_decide_eq_true (by first|(with_reducible assumption)|assumption)
                   have q253 : (ji19) < (t245.length : Int):=of_decide_eq_true (by first|(with_reducible assumption)|assumption)
                   obtain ⟨ad253,e253,hx253_0⟩:=Kd.at_string (Kd.R_reads' HO_9.out).2.2 (ji19) p253 q253
                   cases e253
                   replace p253:=eq_true p253
                   replace q253:=eq_true q253
                   refine start_ (n:=17) (S:=fun w' => w'.cell? (ad253.add ((ji19)).toNat) = some (.string (rdOf ByteArray.empty t245 (ji19)))) (ds:=[]) (bl 0 17) (by kernel_rfl) rfl rfl (hx253_0) (fun hHeld => ?_);refine with_tabW bursarlaw03_QuantMeans.tab13 bursarlaw03_QuantMeans.bits13 (fun HT_ HW_ => ?_)
                   generalize w84.drew = w85 at HO_9 HO_10 HB hx253_0 hHeld ⊢
                   refine pure_ (i:=0) (N:=some 60) (v:=?_) (a':=?_) (bl 1 16) rfl rfl (any_of HT_.out (by kernel_rfl)) (fun _ _ _ h => h) (Or.inl ⟨by rfl,?_⟩) ?_ ?_
                   rotate_left;·intro w';go_simp;with_reducible rfl
                   rotate_left;·simp only [Act.put,List.setIfInBounds_toArray,List.set_cons_zero,List.set_cons_succ,i64_w,i32_w];rfl
                   refine pure_ (i:=1) (N:=some 61) (v:=?_) (a':=?_) (bl 2 15) rfl rfl (any_of HT_.out (by kernel_rfl)) (fun _ _ _ h => h) (Or.inl ⟨by rfl,?_⟩) ?_ ?_
                   rotate_left;·intro w';go_simp;with_reducible rfl
                   rotate_left;·simp only [Act.put,List.setIfInBounds_toArray,List.set_cons_zero,List.set_cons_succ,i64_w,i32_w];rfl
                   refine pure_ (i:=4) (N:=some 64) (v:=?_) (a':=?_) #[true,true,false,false,true,false,false,false,false,false,false,false,false,false,false,false,false] rfl rfl (any_of HT_.out (by kernel_rfl)) (fun _ _ _ h => h) (Or.inl ⟨by rfl,?_⟩) ?_ ?_
                   rotate_left;·intro w';go_simp;with_reducible rfl
                   rotate_left;·simp only [Act.put,List.setIfInBounds_toArray,List.set_cons_zero,List.set_cons_succ,i64_w,i32_w];rfl
                   refine pure_ (i:=6) (N:=some 66) (v:=?_) (a':=?_) #[true,true,false,false,true,false,true,false,false,false,false,false,false,false,false,false,false] rfl rfl (any_of HT_.out (by kernel_rfl)) (fun _ _ _ h => h) (Or.inl ⟨by rfl,?_⟩) ?_ ?_
                   rotate_left;·intro w';go_simp;with_reducible rfl
                   rotate_left;·simp only [Act.put,List.setIfInBounds_toArray,List.set_cons_zero,List.set_cons_succ,i64_w,i32_w];rfl
                   refine pure_ (i:=7) (N:=some 67) (v:=?_) (a':=?_) #[true,true,false,false,true,false,true,true,false,false,false,false,false,false,false,false,false] rfl rfl (any_of HT_.out (by kernel_rfl)) (fun _ _ _ h => h) (Or.inl ⟨by rfl,?_⟩) ?_ ?_
                   rotate_left;·intro w';go_simp;with_reducible rfl
                   rotate_left;·simp only [Act.put,List.setIfInBounds_toArray,List.set_cons_zero,List.set_cons_succ,i64_w,i32_w];rfl
                   refine pure_ (i:=8) (N:=some 68) (v:=?_) (a':=?_) #[true,true,false,false,true,false,true,true,true,false,false,false,false,false,false,false,false] rfl rfl (any_of HT_.out (by kernel_rfl)) (fun _ _ _ h => h) (Or.inl ⟨by rfl,?_⟩) ?_ ?_
                   rotate_left;·intro w';go_simp;with_reducible rfl
                   rotate_left;·simp only [Act.put,List.setIfInBounds_toArray,List.set_cons_zero,List.set_cons_succ,i64_w,i32_w];rfl
                   refine take_ (i:=9) (N:=some 69) (v:=?_) (a':=?_) #[true,true,false,false,true,false,true,true,true,true,false,false,false,false,false,false,false] rfl rfl (take_ofW HT_.out HW_.out (by kernel_rfl)) (fun _ _ _ h => h) (Or.inl ⟨by rfl,?_⟩) hHeld ?_ ?_
                   rotate_left
                   ·intro w' s0
                    go_simp
                    with_reducible rfl
                   rotate_left
                   ·simp only [Act.put,List.setIfInBounds_toArray,List.set_cons_zero,List.set_cons_succ,i64_w,i32_w]
                    rfl
                   refine one_ (i:=2) (N:=some 62) #[true,true,true,false,true,false,true,true,true,true,false,false,false,false,false,false,false] rfl rfl (one_of HT_.out (by kernel_rfl)) (by decide) (fun K hK => ?_)
                   refine goes_ Tryz.func23 (by kernel_rfl) rfl #[.int .u64 (IntKind.u64.wrap (a0)),.int .i64 10] (by rfl) rfl rfl (by (try simp only [List.map_toArray,List.map_cons,List.map_nil]);first|done|rfl|(simp only [List.length_drop,List.length_take];rfl)) ?_
                   with_reducible refine (strconv_FormatUint.calls (IntKind.u64.wrap (a0)) 10 t252 _ A16.out (Glob.below hG (by repeat (first|(with_reducible first|exact HB.out|apply below_alloc|apply pw_below_drewN|apply below_drew1)|exact HB.out)))).mono ?_
                   rintro e w87 ⟨rfl,hb⟩
                   have HS0_:=(hb.cell (World.block_lt_of_cell? _ _ (hHeld))).trans (hHeld)
                   refine ⟨_,rfl,?_⟩
                   have n0_:=Aside0.mk (Kd.R_below (by (with_reducible repeat (first|apply Kd.R_alloc|apply Kd.R_drewN|apply Kd.R_drew));exact HO_9.out) hb)
                   have n1_:=Aside0.mk (Kd.R_below (by (with_reducible repeat (first|apply Kd.R_alloc|apply Kd.R_drewN|apply Kd.R_drew));exact HO_10.out) hb)
                   have n2_:=Aside0.mk (below_step (by repeat (first|(with_reducible first|exact HB.out|apply below_alloc|apply pw_below_drewN|apply below_drew1)|exact HB.out)) hb)
                   clear HO_9;clear HO_10;clear HB;have HO_9:=n0_;have HO_10:=n1_;have HB:=n2_;clear n0_ n1_ n2_;(try clear hb);(try clear hb2);(try clear hk);(try clear hi)
                   refine hK.out _ _ (HS0_) (fun hHeld => ?_)
                   clear hK K
                   refine norm_ (a':=?_) ?_ ?_
                   rotate_left
                   ·show Act.put _ (some 62) _ = _
                    simp only [Act.put,List.setIfInBounds_toArray,List.set_cons_zero,List.set_cons_succ,i64_w,i32_w]
                    rfl
                   refine pure_ (i:=3) (N:=some 63) (v:=?_) (a':=?_) #[true,true,true,true,true,false,true,true,true,true,false,false,false,false,false,false,false] rfl rfl (any_of HT_.out (by kernel_rfl)) (fun _ _ _ h => h) (Or.inl ⟨by rfl,?_⟩) ?_ ?_
                   rotate_left;·intro w';go_simp;with_reducible rfl
                   rotate_left;·simp only [Act.put,List.setIfInBounds_toArray,List.set_cons_zero,List.set_cons_succ,i64_w,i32_w];rfl
                   refine pure_ (i:=5) (N:=some 65) (v:=?_) (a':=?_) (bl 10 7) rfl rfl (any_of HT_.out (by kernel_rfl)) (fun _ _ _ h => h) (Or.inl ⟨by rfl,?_⟩) ?_ ?_
                   rotate_left;·intro w';go_simp;with_reducible rfl
                   rotate_left;·simp only [Act.put,List.setIfInBounds_toArray,List.set_cons_zero,List.set_cons_succ,i64_w,i32_w];rfl
                   refine pure_ (i:=10) (N:=some 70) (v:=?_) (a':=?_) (bl 11 6) rfl rfl (any_of HT_.out (by kernel_rfl)) (fun _ _ _ h => h) (Or.inl ⟨by rfl,?_⟩) ?_ ?_
                   rotate_left;·intro w';go_simp;with_reducible rfl
                   rotate_left;·simp only [Act.put,List.setIfInBounds_toArray,List.set_cons_zero,List.set_cons_succ,i64_w,i32_w];rfl
                   refine one_ (i:=11) (N:=some 71) (bl 12 5) rfl rfl (one_of HT_.out (by kernel_rfl)) (by decide) (fun K hK => ?_)
                   refine goes_ Tryz.func17 (by kernel_rfl) rfl #[.string (((t252 ++ (⟨#[46]⟩ : ByteArray)) ++ (t251.extract 1 t251.size)) ++ (rdOf ByteArray.empty t245 (ji19)))] (by rfl) rfl rfl (by (try simp only [List.map_toArray,List.map_cons,List.map_nil]);first|done|(simp only [hji19];rfl)|rfl|(simp only [List.length_drop,List.length_take];rfl)) ?_
                   with_reducible refine (quant_Parse.calls k1 (((t252 ++ (⟨#[46]⟩ : ByteArray)) ++ (t251.extract 1 t251.size)) ++ (rdOf ByteArray.empty t245 (ji19))) t254 t255 _ A23.out (Glob.below hG (by repeat (first|(with_reducible first|exact HB.out|apply below_alloc|apply pw_below_drewN|apply below_drew1)|exact HB.out)))).mono ?_
                   rintro e w88 ⟨rfl,hb⟩
                   have HS0_:=(hb.cell (World.block_lt_of_cell? _ _ (hHeld))).trans (hHeld)
                   refine ⟨_,rfl,?_⟩
                   have n0_:=Aside0.mk (Kd.R_below (by (with_reducible repeat (first|apply Kd.R_alloc|apply Kd.R_drewN|apply Kd.R_drew));exact HO_9.out) hb)
                   have n1_:=Aside0.mk (Kd.R_below (by (with_reducible repeat (first|apply Kd.R_alloc|apply Kd.R_drewN|apply Kd.R_drew));exact HO_10.out) hb)
                   have n2_:=Aside0.mk (below_step (by repeat (first|(with_reducible first|exact HB.out|apply below_alloc|apply pw_below_drewN|apply below_drew1)|exact HB.out)) hb)
                   clear HO_9;clear HO_10;clear HB;have HO_9:=n0_;have HO_10:=n1_;have HB:=n2_;clear n0_ n1_ n2_;(try clear hb);(try clear hb2);(try clear hk);(try clear hi)
                   refine hK.out _ _ (HS0_) (fun hHeld => ?_)
                   clear hK K
                   refine norm_ (a':=?_) ?_ ?_
                   rotate_left
                   ·show Act.put _ (some 71) _ = _
                    simp only [Act.put,List.setIfInBounds_toArray,List.set_cons_zero,List.set_cons_succ,i64_w,i32_w]
                    rfl
                   refine pure_ (i:=12) (N:=some 59) (v:=?_) (a':=?_) (bl 13 4) rfl rfl (any_of HT_.out (by kernel_rfl)) (fun _ _ _ h => h) (Or.inl ⟨by rfl,?_⟩) ?_ ?_
                   rotate_left;·intro w';go_simp;with_reducible rfl
                   rotate_left;·simp only [Act.put,List.setIfInBounds_toArray,List.set_cons_zero,List.set_cons_succ,i64_w,i32_w];rfl
                   refine pure_ (i:=13) (N:=some 72) (v:=?_) (a':=?_) (bl 14 3) rfl rfl (any_of HT_.out (by kernel_rfl)) (fun _ _ _ h => h) (Or.inl ⟨by rfl,?_⟩) ?_ ?_
                   rotate_left;·intro w';go_simp;with_reducible rfl
                   rotate_left;·simp only [Act.put,List.setIfInBounds_toArray,List.set_cons_zero,List.set_cons_succ,i64_w,i32_w];rfl
                   refine pure_ (i:=14) (N:=some 73) (v:=?_) (a':=?_) (bl 15 2) rfl rfl (any_of HT_.out (by kernel_rfl)) (fun _ _ _ h => h) (Or.inl ⟨by rfl,?_⟩) ?_ ?_
                   rotate_left;·intro w';go_simp;with_reducible rfl
                   rotate_left;·simp only [Act.put,List.setIfInBounds_toArray,List.set_cons_zero,List.set_cons_succ,i64_w,i32_w];rfl
                   refine pure_ (i:=15) (N:=some 17) (v:=?_) (a':=?_) (bl 16 1) rfl rfl (any_of HT_.out (by kernel_rfl)) (fun _ _ _ h => h) (Or.inl ⟨by rfl,?_⟩) ?_ ?_
                   rotate_left;·intro w';go_simp;with_reducible rfl
                   rotate_left;·simp only [Act.put,List.setIfInBounds_toArray,List.set_cons_zero,List.set_cons_succ,i64_w,i32_w];rfl
                   refine pure_ (i:=16) (N:=some 18) (v:=?_) (a':=?_) (bl 17 0) rfl rfl (any_of HT_.out (by kernel_rfl)) (fun _ _ _ h => h) (Or.inl ⟨by rfl,?_⟩) ?_ ?_
                   rotate_left;·intro w';go_simp;with_reducible rfl
                   rotate_left;·simp only [Act.put,List.setIfInBounds_toArray,List.set_cons_zero,List.set_cons_succ,i64_w,i32_w];rfl
                   refine done_ (done_of HT_.out (by kernel_rfl)) ?_
                   have p256 : 0 ≤ ((ji19) : Int):=of_decide_eq_true (by first|(with_reducible assumption)|assumption)
                   have q256 : (ji19) < (t246.length : Int):=of_decide_eq_true (by first|(with_reducible assumption)|assumption)
                   obtain ⟨ad256,e256,hx256_0⟩:=Kd.at_int (Kd.R_reads' HO_10.out).2.2 (ji19) p256 q256
                   cases e256
                   replace p256:=eq_true p256
                   replace q256:=eq_true q256
                   try go_wp2_with (first|((with_reducible refine gate_callee (f:=24) rfl ?_);refine goesL_ (some 86) rfl rfl Tryz.func24 (by kernel_rfl) rfl #[.int .u64 (IntKind.u64.wrap ((IntKind.u64.wrap ((IntKind.u64.wrap (a0)) * x13_1)) + (Int.tmod (IntKind.u64.wrap (a1)) x13_1))),.int .u64 (IntKind.u64.wrap (rd t246 (ji19)))] rfl (by (try simp only [List.map_toArray,List.map_cons,List.map_nil]);first|done|(simp only [hji19];rfl)|rfl|(simp only [List.length_drop,List.length_take];rfl)) ?_;(with_reducible refine (bits_Mul64.calls (IntKind.u64.wrap ((IntKind.u64.wrap ((IntKind.u64.wrap (a0)) * x13_1)) + (Int.tmod (IntKind.u64.wrap (a1)) x13_1))) (IntKind.u64.wrap (rd t246 (ji19))) t257 t258 _ A25.out).mono ?_);rintro e w' ⟨rfl,⟨nd,rfl⟩⟩;refine ⟨_,rfl,?_⟩)|((with_reducible refine gate_callee (f:=24) rfl ?_);refine goesL_ (some 93) rfl rfl Tryz.func24 (by kernel_rfl) rfl #[.int .u64 t258,.int .u64 1000] rfl (by (try simp only [List.map_toArray,List.map_cons,List.map_nil]);first|done|rfl|(simp only [List.length_drop,List.length_take];rfl)) ?_;(with_reducible refine (bits_Mul64.calls t258 1000 t259 t260 _ A32.out).mono ?_);rintro e w' ⟨rfl,⟨nd,rfl⟩⟩;refine ⟨_,rfl,?_⟩)|((with_reducible refine gate_callee (f:=25) rfl ?_);refine goesL_ (some 113) rfl rfl Tryz.func25 (by kernel_rfl) rfl #[.int .u64 (IntKind.u64.wrap (t259 + (IntKind.u64.wrap (t257 * 1000)))),.int .u64 t260,.int .u64 x13_1] rfl (by (try simp only [List.map_toArray,List.map_cons,List.map_nil]);first|done|rfl|(simp only [List.length_drop,List.length_take];rfl)) ?_;(with_reducible refine (bits_Div64.calls k1 (IntKind.u64.wrap (t259 + (IntKind.u64.wrap (t257 * 1000)))) t260 x13_1 t261 t262 _ A45.out).mono ?_);rintro e w' ⟨rfl,⟨nd,rfl⟩⟩;refine ⟨_,rfl,?_⟩))
                   go_ret
                   exact ⟨by first|rfl|(simp [errW_none,errW_some] <;> rfl)|(simp only [← hji19];first|rfl|(simp [errW_none,errW_some] <;> rfl))|(simp [*,errW_none,errW_some] <;> rfl),by repeat (first|(with_reducible first|exact HB.out|apply below_alloc|apply pw_below_drewN|apply below_drew1)|exact HB.out)⟩
                  ·rw [if_neg c83] at H
                   have c83b0 : (t255 == 7) = false:=beq_eq_false_iff_ne.mpr c83
                   have c83b1 : (t255 != 7) = true:=bne_iff_ne.mpr c83
                   obtain rfl:=Option.some.inj H
                   try go_wp2_with (first|((with_reducible refine gate_callee (f:=23) rfl ?_);refine goesL_ (some 57) rfl rfl Tryz.func23 (by kernel_rfl) rfl #[.int .u64 (IntKind.u64.wrap (x13_1 + (Int.tmod (IntKind.u64.wrap (a1)) x13_1))),.int .i64 10] rfl (by (try simp only [List.map_toArray,List.map_cons,List.map_nil]);first|done|rfl|(simp only [List.length_drop,List.length_take];rfl)) ?_;(with_reducible refine (strconv_FormatUint.calls (IntKind.u64.wrap (x13_1 + (Int.tmod (IntKind.u64.wrap (a1)) x13_1))) 10 t251 _ A14.out (Glob.below hG (by repeat (first|(with_reducible first|exact HB.out|apply below_alloc|apply pw_below_drewN|apply below_drew1)|exact HB.out)))).mono ?_);rintro e w89 ⟨rfl,hb⟩;refine ⟨_,rfl,?_⟩;have n0_:=Aside0.mk (Kd.R_below (by (with_reducible repeat (first|apply Kd.R_alloc|apply Kd.R_drewN|apply Kd.R_drew));exact HO_9.out) hb);have n1_:=Aside0.mk (Kd.R_below (by (with_reducible repeat (first|apply Kd.R_alloc|apply Kd.R_drewN|apply Kd.R_drew));exact HO_10.out) hb);have n2_:=Aside0.mk (below_step (by repeat (first|(with_reducible first|exact HB.out|apply below_alloc|apply pw_below_drewN|apply below_drew1)|exact HB.out)) hb);clear HO_9;clear HO_10;clear HB;have HO_9:=n0_;have HO_10:=n1_;have HB:=n2_;clear n0_ n1_ n2_;(try clear hb);(try clear hb2);(try clear hk);(try clear hi)))
                   have n0_:=Aside0.mk (Kd.R_drew HO_9.out)
                   have n1_:=Aside0.mk (Kd.R_drew HO_10.out)
                   have n2_:=Aside0.mk (below_drew1 HB.out)
                   clear HO_9;clear HO_10;clear HB;have HO_9:=n0_;have HO_10:=n1_;have HB:=n2_;clear n0_ n1_ n2_
                   obtain ⟨Ao91,co91,eo91⟩:=Kd.R_slice HO_9.out
                   (first|subst eo91|(injection eo91 with f1_ f2_ f3_;have f4_:=f1_.symm;have f5_:=f3_.symm;clear f1_ f2_ f3_;subst f4_;subst f5_))
                   have p253 : 0 ≤ ((ji19) : Int):=of_decide_eq_true (by first|(with_reducible assumption)|assumption)
                   have q253 : (ji19) < (t245.length : Int):=of_decide_eq_true (by first|(with_reducible assumption)|assumption)
                   obtain ⟨ad253,e253,hx253_0⟩:=Kd.at_string (Kd.R_reads' HO_9.out).2.2 (ji19) p253 q253
                   cases e253
                   replace p253:=eq_true p253
                   replace q253:=eq_true q253
                   refine start_ (n:=17) (S:=fun w' => w'.cell? (ad253.add ((ji19)).toNat) = some (.string (rdOf ByteArray.empty t245 (ji19)))) (ds:=[]) (bl 0 17) (by kernel_rfl) rfl rfl (hx253_0) (fun hHeld => ?_);refine with_tabW bursarlaw03_QuantMeans.tab13 bursarlaw03_QuantMeans.bits13 (fun HT_ HW_ => ?_)
                   generalize w89.drew = w90 at HO_9 HO_10 HB hx253_0 hHeld ⊢
                   refine pure_ (i:=0) (N:=some 60) (v:=?_) (a':=?_) (bl 1 16) rfl rfl (any_of HT_.out (by kernel_rfl)) (fun _ _ _ h => h) (Or.inl ⟨by rfl,?_⟩) ?_ ?_
                   rotate_left;·intro w';go_simp;with_reducible rfl
                   rotate_left;·simp only [Act.put,List.setIfInBounds_toArray,List.set_cons_zero,List.set_cons_succ,i64_w,i32_w];rfl
                   refine pure_ (i:=1) (N:=some 61) (v:=?_) (a':=?_) (bl 2 15) rfl rfl (any_of HT_.out (by kernel_rfl)) (fun _ _ _ h => h) (Or.inl ⟨by rfl,?_⟩) ?_ ?_
                   rotate_left;·intro w';go_simp;with_reducible rfl
                   rotate_left;·simp only [Act.put,List.setIfInBounds_toArray,List.set_cons_zero,List.set_cons_succ,i64_w,i32_w];rfl
                   refine pure_ (i:=4) (N:=some 64) (v:=?_) (a':=?_) #[true,true,false,false,true,false,false,false,false,false,false,false,false,false,false,false,false] rfl rfl (any_of HT_.out (by kernel_rfl)) (fun _ _ _ h => h) (Or.inl ⟨by rfl,?_⟩) ?_ ?_
                   rotate_left;·intro w';go_simp;with_reducible rfl
                   rotate_left;·simp only [Act.put,List.setIfInBounds_toArray,List.set_cons_zero,List.set_cons_succ,i64_w,i32_w];rfl
                   refine pure_ (i:=6) (N:=some 66) (v:=?_) (a':=?_) #[true,true,false,false,true,false,true,false,false,false,false,false,false,false,false,false,false] rfl rfl (any_of HT_.out (by kernel_rfl)) (fun _ _ _ h => h) (Or.inl ⟨by rfl,?_⟩) ?_ ?_
                   rotate_left;·intro w';go_simp;with_reducible rfl
                   rotate_left;·simp only [Act.put,List.setIfInBounds_toArray,List.set_cons_zero,List.set_cons_succ,i64_w,i32_w];rfl
                   refine pure_ (i:=7) (N:=some 67) (v:=?_) (a':=?_) #[true,true,false,false,true,false,true,true,false,false,false,false,false,false,false,false,false] rfl rfl (any_of HT_.out (by kernel_rfl)) (fun _ _ _ h => h) (Or.inl ⟨by rfl,?_⟩) ?_ ?_
                   rotate_left;·intro w';go_simp;with_reducible rfl
                   rotate_left;·simp only [Act.put,List.setIfInBounds_toArray,List.set_cons_zero,List.set_cons_succ,i64_w,i32_w];rfl
                   refine pure_ (i:=8) (N:=some 68) (v:=?_) (a':=?_) #[true,true,false,false,true,false,true,true,true,false,false,false,false,false,false,false,false] rfl rfl (any_of HT_.out (by kernel_rfl)) (fun _ _ _ h => h) (Or.inl ⟨by rfl,?_⟩) ?_ ?_
                   rotate_left;·intro w';go_simp;with_reducible rfl
                   rotate_left;·simp only [Act.put,List.setIfInBounds_toArray,List.set_cons_zero,List.set_cons_succ,i64_w,i32_w];rfl
                   refine take_ (i:=9) (N:=some 69) (v:=?_) (a':=?_) #[true,true,false,false,true,false,true,true,true,true,false,false,false,false,false,false,false] rfl rfl (take_ofW HT_.out HW_.out (by kernel_rfl)) (fun _ _ _ h => h) (Or.inl ⟨by rfl,?_⟩) hHeld ?_ ?_
                   rotate_left
                   ·intro w' s0
                    go_simp
                    with_reducible rfl
                   rotate_left
                   ·simp only [Act.put,List.setIfInBounds_toArray,List.set_cons_zero,List.set_cons_succ,i64_w,i32_w]
                    rfl
                   refine one_ (i:=2) (N:=some 62) #[true,true,true,false,true,false,true,true,true,true,false,false,false,false,false,false,false] rfl rfl (one_of HT_.out (by kernel_rfl)) (by decide) (fun K hK => ?_)
                   refine goes_ Tryz.func23 (by kernel_rfl) rfl #[.int .u64 (IntKind.u64.wrap (a0)),.int .i64 10] (by rfl) rfl rfl (by (try simp only [List.map_toArray,List.map_cons,List.map_nil]);first|done|rfl|(simp only [List.length_drop,List.length_take];rfl)) ?_
                   with_reducible refine (strconv_FormatUint.calls (IntKind.u64.wrap (a0)) 10 t252 _ A16.out (Glob.below hG (by repeat (first|(with_reducible first|exact HB.out|apply below_alloc|apply pw_below_drewN|apply below_drew1)|exact HB.out)))).mono ?_
                   rintro e w92 ⟨rfl,hb⟩
                   have HS0_:=(hb.cell (World.block_lt_of_cell? _ _ (hHeld))).trans (hHeld)
                   refine ⟨_,rfl,?_⟩
                   have n0_:=Aside0.mk (Kd.R_below (by (with_reducible repeat (first|apply Kd.R_alloc|apply Kd.R_drewN|apply Kd.R_drew));exact HO_9.out) hb)
                   have n1_:=Aside0.mk (Kd.R_below (by (with_reducible repeat (first|apply Kd.R_alloc|apply Kd.R_drewN|apply Kd.R_drew));exact HO_10.out) hb)
                   have n2_:=Aside0.mk (below_step (by repeat (first|(with_reducible first|exact HB.out|apply below_alloc|apply pw_below_drewN|apply below_drew1)|exact HB.out)) hb)
                   clear HO_9;clear HO_10;clear HB;have HO_9:=n0_;have HO_10:=n1_;have HB:=n2_;clear n0_ n1_ n2_;(try clear hb);(try clear hb2);(try clear hk);(try clear hi)
                   refine hK.out _ _ (HS0_) (fun hHeld => ?_)
                   clear hK K
                   refine norm_ (a':=?_) ?_ ?_
                   rotate_left
                   ·show Act.put _ (some 62) _ = _
                    simp only [Act.put,List.setIfInBounds_toArray,List.set_cons_zero,List.set_cons_succ,i64_w,i32_w]
                    rfl
                   refine pure_ (i:=3) (N:=some 63) (v:=?_) (a':=?_) #[true,true,true,true,true,false,true,true,true,true,false,false,false,false,false,false,false] rfl rfl (any_of HT_.out (by kernel_rfl)) (fun _ _ _ h => h) (Or.inl ⟨by rfl,?_⟩) ?_ ?_
                   rotate_left;·intro w';go_simp;with_reducible rfl
                   rotate_left;·simp only [Act.put,List.setIfInBounds_toArray,List.set_cons_zero,List.set_cons_succ,i64_w,i32_w];rfl
                   refine pure_ (i:=5) (N:=some 65) (v:=?_) (a':=?_) (bl 10 7) rfl rfl (any_of HT_.out (by kernel_rfl)) (fun _ _ _ h => h) (Or.inl ⟨by rfl,?_⟩) ?_ ?_
                   rotate_left;·intro w';go_simp;with_reducible rfl
                   rotate_left;·simp only [Act.put,List.setIfInBounds_toArray,List.set_cons_zero,List.set_cons_succ,i64_w,i32_w];rfl
                   refine pure_ (i:=10) (N:=some 70) (v:=?_) (a':=?_) (bl 11 6) rfl rfl (any_of HT_.out (by kernel_rfl)) (fun _ _ _ h => h) (Or.inl ⟨by rfl,?_⟩) ?_ ?_
                   rotate_left;·intro w';go_simp;with_reducible rfl
                   rotate_left;·simp only [Act.put,List.setIfInBounds_toArray,List.set_cons_zero,List.set_cons_succ,i64_w,i32_w];rfl
                   refine one_ (i:=11) (N:=some 71) (bl 12 5) rfl rfl (one_of HT_.out (by kernel_rfl)) (by decide) (fun K hK => ?_)
                   refine goes_ Tryz.func17 (by kernel_rfl) rfl #[.string (((t252 ++ (⟨#[46]⟩ : ByteArray)) ++ (t251.extract 1 t251.size)) ++ (rdOf ByteArray.empty t245 (ji19)))] (by rfl) rfl rfl (by (try simp only [List.map_toArray,List.map_cons,List.map_nil]);first|done|(simp only [hji19];rfl)|rfl|(simp only [List.length_drop,List.length_take];rfl)) ?_
                   with_reducible refine (quant_Parse.calls k1 (((t252 ++ (⟨#[46]⟩ : ByteArray)) ++ (t251.extract 1 t251.size)) ++ (rdOf ByteArray.empty t245 (ji19))) t254 t255 _ A23.out (Glob.below hG (by repeat (first|(with_reducible first|exact HB.out|apply below_alloc|apply pw_below_drewN|apply below_drew1)|exact HB.out)))).mono ?_
                   rintro e w93 ⟨rfl,hb⟩
                   have HS0_:=(hb.cell (World.block_lt_of_cell? _ _ (hHeld))).trans (hHeld)
                   refine ⟨_,rfl,?_⟩
                   have n0_:=Aside0.mk (Kd.R_below (by (with_reducible repeat (first|apply Kd.R_alloc|apply Kd.R_drewN|apply Kd.R_drew));exact HO_9.out) hb)
                   have n1_:=Aside0.mk (Kd.R_below (by (with_reducible repeat (first|apply Kd.R_alloc|apply Kd.R_drewN|apply Kd.R_drew));exact HO_10.out) hb)
                   have n2_:=Aside0.mk (below_step (by repeat (first|(with_reducible first|exact HB.out|apply below_alloc|apply pw_below_drewN|apply below_drew1)|exact HB.out)) hb)
                   clear HO_9;clear HO_10;clear HB;have HO_9:=n0_;have HO_10:=n1_;have HB:=n2_;clear n0_ n1_ n2_;(try clear hb);(try clear hb2);(try clear hk);(try clear hi)
                   refine hK.out _ _ (HS0_) (fun hHeld => ?_)
                   clear hK K
                   refine norm_ (a':=?_) ?_ ?_
                   rotate_left
                   ·show Act.put _ (some 71) _ = _
                    simp only [Act.put,List.setIfInBounds_toArray,List.set_cons_zero,List.set_cons_succ,i64_w,i32_w]
                    rfl
                   refine pure_ (i:=12) (N:=some 59) (v:=?_) (a':=?_) (bl 13 4) rfl rfl (any_of HT_.out (by kernel_rfl)) (fun _ _ _ h => h) (Or.inl ⟨by rfl,?_⟩) ?_ ?_
                   rotate_left;·intro w';go_simp;with_reducible rfl
                   rotate_left;·simp only [Act.put,List.setIfInBounds_toArray,List.set_cons_zero,List.set_cons_succ,i64_w,i32_w];rfl
                   refine pure_ (i:=13) (N:=some 72) (v:=?_) (a':=?_) (bl 14 3) rfl rfl (any_of HT_.out (by kernel_rfl)) (fun _ _ _ h => h) (Or.inl ⟨by rfl,?_⟩) ?_ ?_
                   rotate_left;·intro w';go_simp;with_reducible rfl
                   rotate_left;·simp only [Act.put,List.setIfInBounds_toArray,List.set_cons_zero,List.set_cons_succ,i64_w,i32_w];rfl
                   refine pure_ (i:=14) (N:=some 73) (v:=?_) (a':=?_) (bl 15 2) rfl rfl (any_of HT_.out (by kernel_rfl)) (fun _ _ _ h => h) (Or.inl ⟨by rfl,?_⟩) ?_ ?_
                   rotate_left;·intro w';go_simp;with_reducible rfl
                   rotate_left;·simp only [Act.put,List.setIfInBounds_toArray,List.set_cons_zero,List.set_cons_succ,i64_w,i32_w];rfl
                   refine pure_ (i:=15) (N:=some 17) (v:=?_) (a':=?_) (bl 16 1) rfl rfl (any_of HT_.out (by kernel_rfl)) (fun _ _ _ h => h) (Or.inl ⟨by rfl,?_⟩) ?_ ?_
                   rotate_left;·intro w';go_simp;with_reducible rfl
                   rotate_left;·simp only [Act.put,List.setIfInBounds_toArray,List.set_cons_zero,List.set_cons_succ,i64_w,i32_w];rfl
                   refine pure_ (i:=16) (N:=some 18) (v:=?_) (a':=?_) (bl 17 0) rfl rfl (any_of HT_.out (by kernel_rfl)) (fun _ _ _ h => h) (Or.inl ⟨by rfl,?_⟩) ?_ ?_
                   rotate_left;·intro w';go_simp;with_reducible rfl
                   rotate_left;·simp only [Act.put,List.setIfInBounds_toArray,List.set_cons_zero,List.set_cons_succ,i64_w,i32_w];rfl
                   refine done_ (done_of HT_.out (by kernel_rfl)) ?_
                   have p256 : 0 ≤ ((ji19) : Int):=of_decide_eq_true (by first|(with_reducible assumption)|assumption)
                   have q256 : (ji19) < (t246.length : Int):=of_decide_eq_true (by first|(with_reducible assumption)|assumption)
                   obtain ⟨ad256,e256,hx256_0⟩:=Kd.at_int (Kd.R_reads' HO_10.out).2.2 (ji19) p256 q256
                   cases e256
                   replace p256:=eq_true p256
                   replace q256:=eq_true q256
                   try go_wp2_with (first|((with_reducible refine gate_callee (f:=24) rfl ?_);refine goesL_ (some 86) rfl rfl Tryz.func24 (by kernel_rfl) rfl #[.int .u64 (IntKind.u64.wrap ((IntKind.u64.wrap ((IntKind.u64.wrap (a0)) * x13_1)) + (Int.tmod (IntKind.u64.wrap (a1)) x13_1))),.int .u64 (IntKind.u64.wrap (rd t246 (ji19)))] rfl (by (try simp only [List.map_toArray,List.map_cons,List.map_nil]);first|done|(simp only [hji19];rfl)|rfl|(simp only [List.length_drop,List.length_take];rfl)) ?_;(with_reducible refine (bits_Mul64.calls (IntKind.u64.wrap ((IntKind.u64.wrap ((IntKind.u64.wrap (a0)) * x13_1)) + (Int.tmod (IntKind.u64.wrap (a1)) x13_1))) (IntKind.u64.wrap (rd t246 (ji19))) t257 t258 _ A25.out).mono ?_);rintro e w' ⟨rfl,⟨nd,rfl⟩⟩;refine ⟨_,rfl,?_⟩)|((with_reducible refine gate_callee (f:=24) rfl ?_);refine goesL_ (some 93) rfl rfl Tryz.func24 (by kernel_rfl) rfl #[.int .u64 t258,.int .u64 1000] rfl (by (try simp only [List.map_toArray,List.map_cons,List.map_nil]);first|done|rfl|(simp only [List.length_drop,List.length_take];rfl)) ?_;(with_reducible refine (bits_Mul64.calls t258 1000 t259 t260 _ A32.out).mono ?_);rintro e w' ⟨rfl,⟨nd,rfl⟩⟩;refine ⟨_,rfl,?_⟩)|((with_reducible refine gate_callee (f:=25) rfl ?_);refine goesL_ (some 113) rfl rfl Tryz.func25 (by kernel_rfl) rfl #[.int .u64 (IntKind.u64.wrap (t259 + (IntKind.u64.wrap (t257 * 1000)))),.int .u64 t260,.int .u64 x13_1] rfl (by (try simp only [List.map_toArray,List.map_cons,List.map_nil]);first|done|rfl|(simp only [List.length_drop,List.length_take];rfl)) ?_;(with_reducible refine (bits_Div64.calls k1 (IntKind.u64.wrap (t259 + (IntKind.u64.wrap (t257 * 1000)))) t260 x13_1 t261 t262 _ A45.out).mono ?_);rintro e w' ⟨rfl,⟨nd,rfl⟩⟩;refine ⟨_,rfl,?_⟩))
                   go_ret
                   exact ⟨by first|rfl|(simp [errW_none,errW_some] <;> rfl)|(simp only [← hji19];first|rfl|(simp [errW_none,errW_some] <;> rfl))|(simp [*,errW_none,errW_some] <;> rfl),by repeat (first|(with_reducible first|exact HB.out|apply below_alloc|apply pw_below_drewN|apply below_drew1)|exact HB.out)⟩
                 ·rw [if_neg c82] at H
                  have c82b0 : decide (9223372036854775807 < t261) = false:=decide_eq_false c82
                  clear c82
                  by_cases c94 : t261 = 0
                  ·rw [if_pos c94] at H
                   have c94b0 : (t261 == 0) = true:=beq_iff_eq.mpr c94
                   have c94b1 : (t261 != 0) = false:=bne_eq_false_iff_eq.mpr c94
                   clear c94
                   by_cases c95 : t255 = 0
                   ·rw [if_pos c95] at H
                    have c95b0 : (t255 == 0) = true:=beq_iff_eq.mpr c95
                    have c95b1 : (t255 != 0) = false:=bne_eq_false_iff_eq.mpr c95
                    clear c95
                    obtain rfl:=Option.some.inj H
                    try go_wp2_with (first|((with_reducible refine gate_callee (f:=23) rfl ?_);refine goesL_ (some 57) rfl rfl Tryz.func23 (by kernel_rfl) rfl #[.int .u64 (IntKind.u64.wrap (x13_1 + (Int.tmod (IntKind.u64.wrap (a1)) x13_1))),.int .i64 10] rfl (by (try simp only [List.map_toArray,List.map_cons,List.map_nil]);first|done|rfl|(simp only [List.length_drop,List.length_take];rfl)) ?_;(with_reducible refine (strconv_FormatUint.calls (IntKind.u64.wrap (x13_1 + (Int.tmod (IntKind.u64.wrap (a1)) x13_1))) 10 t251 _ A14.out (Glob.below hG (by repeat (first|(with_reducible first|exact HB.out|apply below_alloc|apply pw_below_drewN|apply below_drew1)|exact HB.out)))).mono ?_);rintro e w96 ⟨rfl,hb⟩;refine ⟨_,rfl,?_⟩;have n0_:=Aside0.mk (Kd.R_below (by (with_reducible repeat (first|apply Kd.R_alloc|apply Kd.R_drewN|apply Kd.R_drew));exact HO_9.out) hb);have n1_:=Aside0.mk (Kd.R_below (by (with_reducible repeat (first|apply Kd.R_alloc|apply Kd.R_drewN|apply Kd.R_drew));exact HO_10.out) hb);have n2_:=Aside0.mk (below_step (by repeat (first|(with_reducible first|exact HB.out|apply below_alloc|apply pw_below_drewN|apply below_drew1)|exact HB.out)) hb);clear HO_9;clear HO_10;clear HB;have HO_9:=n0_;have HO_10:=n1_;have HB:=n2_;clear n0_ n1_ n2_;(try clear hb);(try clear hb2);(try clear hk);(try clear hi)))
                    have n0_:=Aside0.mk (Kd.R_drew HO_9.out)
                    have n1_:=Aside0.mk (Kd.R_drew HO_10.out)
                    have n2_:=Aside0.mk (below_drew1 HB.out)
                    clear HO_9;clear HO_10;clear HB;have HO_9:=n0_;have HO_10:=n1_;have HB:=n2_;clear n0_ n1_ n2_
                    obtain ⟨Ao98,co98,eo98⟩:=Kd.R_slice HO_9.out
                    (first|subst eo98|(injection eo98 with f1_ f2_ f3_;have f4_:=f1_.symm;have f5_:=f3_.symm;clear f1_ f2_ f3_;subst f4_;subst f5_))
                    have p253 : 0 ≤ ((ji19) : Int):=of_decide_eq_true (by first|(with_reducible assumption)|assumption)
                    have q253 : (ji19) < (t245.length : Int):=of_decide_eq_true (by first|(with_reducible assumption)|assumption)
                    obtain ⟨ad253,e253,hx253_0⟩:=Kd.at_string (Kd.R_reads' HO_9.out).2.2 (ji19) p253 q253
                    cases e253
                    replace p253:=eq_true p253
                    replace q253:=eq_true q253
                    refine start_ (n:=17) (S:=fun w' => w'.cell? (ad253.add ((ji19)).toNat) = some (.string (rdOf ByteArray.empty t245 (ji19)))) (ds:=[]) (bl 0 17) (by kernel_rfl) rfl rfl (hx253_0) (fun hHeld => ?_);refine with_tabW bursarlaw03_QuantMeans.tab13 bursarlaw03_QuantMeans.bits13 (fun HT_ HW_ => ?_)
                    generalize w96.drew = w97 at HO_9 HO_10 HB hx253_0 hHeld ⊢
                    refine pure_ (i:=0) (N:=some 60) (v:=?_) (a':=?_) (bl 1 16) rfl rfl (any_of HT_.out (by kernel_rfl)) (fun _ _ _ h => h) (Or.inl ⟨by rfl,?_⟩) ?_ ?_
                    rotate_left;·intro w';go_simp;with_reducible rfl
                    rotate_left;·simp only [Act.put,List.setIfInBounds_toArray,List.set_cons_zero,List.set_cons_succ,i64_w,i32_w];rfl
                    refine pure_ (i:=1) (N:=some 61) (v:=?_) (a':=?_) (bl 2 15) rfl rfl (any_of HT_.out (by kernel_rfl)) (fun _ _ _ h => h) (Or.inl ⟨by rfl,?_⟩) ?_ ?_
                    rotate_left;·intro w';go_simp;with_reducible rfl
                    rotate_left;·simp only [Act.put,List.setIfInBounds_toArray,List.set_cons_zero,List.set_cons_succ,i64_w,i32_w];rfl
                    refine pure_ (i:=4) (N:=some 64) (v:=?_) (a':=?_) #[true,true,false,false,true,false,false,false,false,false,false,false,false,false,false,false,false] rfl rfl (any_of HT_.out (by kernel_rfl)) (fun _ _ _ h => h) (Or.inl ⟨by rfl,?_⟩) ?_ ?_
                    rotate_left;·intro w';go_simp;with_reducible rfl
                    rotate_left;·simp only [Act.put,List.setIfInBounds_toArray,List.set_cons_zero,List.set_cons_succ,i64_w,i32_w];rfl
                    refine pure_ (i:=6) (N:=some 66) (v:=?_) (a':=?_) #[true,true,false,false,true,false,true,false,false,false,false,false,false,false,false,false,false] rfl rfl (any_of HT_.out (by kernel_rfl)) (fun _ _ _ h => h) (Or.inl ⟨by rfl,?_⟩) ?_ ?_
                    rotate_left;·intro w';go_simp;with_reducible rfl
                    rotate_left;·simp only [Act.put,List.setIfInBounds_toArray,List.set_cons_zero,List.set_cons_succ,i64_w,i32_w];rfl
                    refine pure_ (i:=7) (N:=some 67) (v:=?_) (a':=?_) #[true,true,false,false,true,false,true,true,false,false,false,false,false,false,false,false,false] rfl rfl (any_of HT_.out (by kernel_rfl)) (fun _ _ _ h => h) (Or.inl ⟨by rfl,?_⟩) ?_ ?_
                    rotate_left;·intro w';go_simp;with_reducible rfl
                    rotate_left;·simp only [Act.put,List.setIfInBounds_toArray,List.set_cons_zero,List.set_cons_succ,i64_w,i32_w];rfl
                    refine pure_ (i:=8) (N:=some 68) (v:=?_) (a':=?_) #[true,true,false,false,true,false,true,true,true,false,false,false,false,false,false,false,false] rfl rfl (any_of HT_.out (by kernel_rfl)) (fun _ _ _ h => h) (Or.inl ⟨by rfl,?_⟩) ?_ ?_
                    rotate_left;·intro w';go_simp;with_reducible rfl
                    rotate_left;·simp only [Act.put,List.setIfInBounds_toArray,List.set_cons_zero,List.set_cons_succ,i64_w,i32_w];rfl
                    refine take_ (i:=9) (N:=some 69) (v:=?_) (a':=?_) #[true,true,false,false,true,false,true,true,true,true,false,false,false,false,false,false,false] rfl rfl (take_ofW HT_.out HW_.out (by kernel_rfl)) (fun _ _ _ h => h) (Or.inl ⟨by rfl,?_⟩) hHeld ?_ ?_
                    rotate_left
                    ·intro w' s0
                     go_simp
                     with_reducible rfl
                    rotate_left
                    ·simp only [Act.put,List.setIfInBounds_toArray,List.set_cons_zero,List.set_cons_succ,i64_w,i32_w]
                     rfl
                    refine one_ (i:=2) (N:=some 62) #[true,true,true,false,true,false,true,true,true,true,false,false,false,false,false,false,false] rfl rfl (one_of HT_.out (by kernel_rfl)) (by decide) (fun K hK => ?_)
                    refine goes_ Tryz.func23 (by kernel_rfl) rfl #[.int .u64 (IntKind.u64.wrap (a0)),.int .i64 10] (by rfl) rfl rfl (by (try simp only [List.map_toArray,List.map_cons,List.map_nil]);first|done|rfl|(simp only [List.length_drop,List.length_take];rfl)) ?_
                    with_reducible refine (strconv_FormatUint.calls (IntKind.u64.wrap (a0)) 10 t252 _ A16.out (Glob.below hG (by repeat (first|(with_reducible first|exact HB.out|apply below_alloc|apply pw_below_drewN|apply below_drew1)|exact HB.out)))).mono ?_
                    rintro e w99 ⟨rfl,hb⟩
                    have HS0_:=(hb.cell (World.block_lt_of_cell? _ _ (hHeld))).trans (hHeld)
                    refine ⟨_,rfl,?_⟩
                    have n0_:=Aside0.mk (Kd.R_below (by (with_reducible repeat (first|apply Kd.R_alloc|apply Kd.R_drewN|apply Kd.R_drew));exact HO_9.out) hb)
                    have n1_:=Aside0.mk (Kd.R_below (by (with_reducible repeat (first|apply Kd.R_alloc|apply Kd.R_drewN|apply Kd.R_drew));exact HO_10.out) hb)
                    have n2_:=Aside0.mk (below_step (by repeat (first|(with_reducible first|exact HB.out|apply below_alloc|apply pw_below_drewN|apply below_drew1)|exact HB.out)) hb)
                    clear HO_9;clear HO_10;clear HB;have HO_9:=n0_;have HO_10:=n1_;have HB:=n2_;clear n0_ n1_ n2_;(try clear hb);(try clear hb2);(try clear hk);(try clear hi)
                    refine hK.out _ _ (HS0_) (fun hHeld => ?_)
                    clear hK K
                    refine norm_ (a':=?_) ?_ ?_
                    rotate_left
                    ·show Act.put _ (some 62) _ = _
                     simp only [Act.put,List.setIfInBounds_toArray,List.set_cons_zero,List.set_cons_succ,i64_w,i32_w]
                     rfl
                    refine pure_ (i:=3) (N:=some 63) (v:=?_) (a':=?_) #[true,true,true,true,true,false,true,true,true,true,false,false,false,false,false,false,false] rfl rfl (any_of HT_.out (by kernel_rfl)) (fun _ _ _ h => h) (Or.inl ⟨by rfl,?_⟩) ?_ ?_
                    rotate_left;·intro w';go_simp;with_reducible rfl
                    rotate_left;·simp only [Act.put,List.setIfInBounds_toArray,List.set_cons_zero,List.set_cons_succ,i64_w,i32_w];rfl
                    refine pure_ (i:=5) (N:=some 65) (v:=?_) (a':=?_) (bl 10 7) rfl rfl (any_of HT_.out (by kernel_rfl)) (fun _ _ _ h => h) (Or.inl ⟨by rfl,?_⟩) ?_ ?_
                    rotate_left;·intro w';go_simp;with_reducible rfl
                    rotate_left;·simp only [Act.put,List.setIfInBounds_toArray,List.set_cons_zero,List.set_cons_succ,i64_w,i32_w];rfl
                    refine pure_ (i:=10) (N:=some 70) (v:=?_) (a':=?_) (bl 11 6) rfl rfl (any_of HT_.out (by kernel_rfl)) (fun _ _ _ h => h) (Or.inl ⟨by rfl,?_⟩) ?_ ?_
                    rotate_left;·intro w';go_simp;with_reducible rfl
                    rotate_left;·simp only [Act.put,List.setIfInBounds_toArray,List.set_cons_zero,List.set_cons_succ,i64_w,i32_w];rfl
                    refine one_ (i:=11) (N:=some 71) (bl 12 5) rfl rfl (one_of HT_.out (by kernel_rfl)) (by decide) (fun K hK => ?_)
                    refine goes_ Tryz.func17 (by kernel_rfl) rfl #[.string (((t252 ++ (⟨#[46]⟩ : ByteArray)) ++ (t251.extract 1 t251.size)) ++ (rdOf ByteArray.empty t245 (ji19)))] (by rfl) rfl rfl (by (try simp only [List.map_toArray,List.map_cons,List.map_nil]);first|done|(simp only [hji19];rfl)|rfl|(simp only [List.length_drop,List.length_take];rfl)) ?_
                    with_reducible refine (quant_Parse.calls k1 (((t252 ++ (⟨#[46]⟩ : ByteArray)) ++ (t251.extract 1 t251.size)) ++ (rdOf ByteArray.empty t245 (ji19))) t254 t255 _ A23.out (Glob.below hG (by repeat (first|(with_reducible first|exact HB.out|apply below_alloc|apply pw_below_drewN|apply below_drew1)|exact HB.out)))).mono ?_
                    rintro e w100 ⟨rfl,hb⟩
                    have HS0_:=(hb.cell (World.block_lt_of_cell? _ _ (hHeld))).trans (hHeld)
                    refine ⟨_,rfl,?_⟩
                    have n0_:=Aside0.mk (Kd.R_below (by (with_reducible repeat (first|apply Kd.R_alloc|apply Kd.R_drewN|apply Kd.R_drew));exact HO_9.out) hb)
                    have n1_:=Aside0.mk (Kd.R_below (by (with_reducible repeat (first|apply Kd.R_alloc|apply Kd.R_drewN|apply Kd.R_drew));exact HO_10.out) hb)
                    have n2_:=Aside0.mk (below_step (by repeat (first|(with_reducible first|exact HB.out|apply below_alloc|apply pw_below_drewN|apply below_drew1)|exact HB.out)) hb)
                    clear HO_9;clear HO_10;clear HB;have HO_9:=n0_;have HO_10:=n1_;have HB:=n2_;clear n0_ n1_ n2_;(try clear hb);(try clear hb2);(try clear hk);(try clear hi)
                    refine hK.out _ _ (HS0_) (fun hHeld => ?_)
                    clear hK K
                    refine norm_ (a':=?_) ?_ ?_
                    rotate_left
                    ·show Act.put _ (some 71) _ = _
                     simp only [Act.put,List.setIfInBounds_toArray,List.set_cons_zero,List.set_cons_succ,i64_w,i32_w]
                     rfl
                    refine pure_ (i:=12) (N:=some 59) (v:=?_) (a':=?_) (bl 13 4) rfl rfl (any_of HT_.out (by kernel_rfl)) (fun _ _ _ h => h) (Or.inl ⟨by rfl,?_⟩) ?_ ?_
                    rotate_left;·intro w';go_simp;with_reducible rfl
                    rotate_left;·simp only [Act.put,List.setIfInBounds_toArray,List.set_cons_zero,List.set_cons_succ,i64_w,i32_w];rfl
                    refine pure_ (i:=13) (N:=some 72) (v:=?_) (a':=?_) (bl 14 3) rfl rfl (any_of HT_.out (by kernel_rfl)) (fun _ _ _ h => h) (Or.inl ⟨by rfl,?_⟩) ?_ ?_
                    rotate_left;·intro w';go_simp;with_reducible rfl
                    rotate_left;·simp only [Act.put,List.setIfInBounds_toArray,List.set_cons_zero,List.set_cons_succ,i64_w,i32_w];rfl
                    refine pure_ (i:=14) (N:=some 73) (v:=?_) (a':=?_) (bl 15 2) rfl rfl (any_of HT_.out (by kernel_rfl)) (fun _ _ _ h => h) (Or.inl ⟨by rfl,?_⟩) ?_ ?_
                    rotate_left;·intro w';go_simp;with_reducible rfl
                    rotate_left;·simp only [Act.put,List.setIfInBounds_toArray,List.set_cons_zero,List.set_cons_succ,i64_w,i32_w];rfl
                    refine pure_ (i:=15) (N:=some 17) (v:=?_) (a':=?_) (bl 16 1) rfl rfl (any_of HT_.out (by kernel_rfl)) (fun _ _ _ h => h) (Or.inl ⟨by rfl,?_⟩) ?_ ?_
                    rotate_left;·intro w';go_simp;with_reducible rfl
                    rotate_left;·simp only [Act.put,List.setIfInBounds_toArray,List.set_cons_zero,List.set_cons_succ,i64_w,i32_w];rfl
                    refine pure_ (i:=16) (N:=some 18) (v:=?_) (a':=?_) (bl 17 0) rfl rfl (any_of HT_.out (by kernel_rfl)) (fun _ _ _ h => h) (Or.inl ⟨by rfl,?_⟩) ?_ ?_
                    rotate_left;·intro w';go_simp;with_reducible rfl
                    rotate_left;·simp only [Act.put,List.setIfInBounds_toArray,List.set_cons_zero,List.set_cons_succ,i64_w,i32_w];rfl
                    refine done_ (done_of HT_.out (by kernel_rfl)) ?_
                    have p256 : 0 ≤ ((ji19) : Int):=of_decide_eq_true (by first|(with_reducible assumption)|assumption)
                    have q256 : (ji19) < (t246.length : Int):=of_decide_eq_true (by first|(with_reducible assumption)|assumption)
                    obtain ⟨ad256,e256,hx256_0⟩:=Kd.at_int (Kd.R_reads' HO_10.out).2.2 (ji19) p256 q256
                    cases e256
                    replace p256:=eq_true p256
                    replace q256:=eq_true q256
                    try go_wp2_with (first|((with_reducible refine gate_callee (f:=24) rfl ?_);refine goesL_ (some 86) rfl rfl Tryz.func24 (by kernel_rfl) rfl #[.int .u64 (IntKind.u64.wrap ((IntKind.u64.wrap ((IntKind.u64.wrap (a0)) * x13_1)) + (Int.tmod (IntKind.u64.wrap (a1)) x13_1))),.int .u64 (IntKind.u64.wrap (rd t246 (ji19)))] rfl (by (try simp only [List.map_toArray,List.map_cons,List.map_nil]);first|done|(simp only [hji19];rfl)|rfl|(simp only [List.length_drop,List.length_take];rfl)) ?_;(with_reducible refine (bits_Mul64.calls (IntKind.u64.wrap ((IntKind.u64.wrap ((IntKind.u64.wrap (a0)) * x13_1)) + (Int.tmod (IntKind.u64.wrap (a1)) x13_1))) (IntKind.u64.wrap (rd t246 (ji19))) t257 t258 _ A25.out).mono ?_);rintro e w' ⟨rfl,⟨nd,rfl⟩⟩;refine ⟨_,rfl,?_⟩)|((with_reducible refine gate_callee (f:=24) rfl ?_);refine goesL_ (some 93) rfl rfl Tryz.func24 (by kernel_rfl) rfl #[.int .u64 t258,.int .u64 1000] rfl (by (try simp only [List.map_toArray,List.map_cons,List.map_nil]);first|done|rfl|(simp only [List.length_drop,List.length_take];rfl)) ?_;(with_reducible refine (bits_Mul64.calls t258 1000 t259 t260 _ A32.out).mono ?_);rintro e w' ⟨rfl,⟨nd,rfl⟩⟩;refine ⟨_,rfl,?_⟩)|((with_reducible refine gate_callee (f:=25) rfl ?_);refine goesL_ (some 113) rfl rfl Tryz.func25 (by kernel_rfl) rfl #[.int .u64 (IntKind.u64.wrap (t259 + (IntKind.u64.wrap (t257 * 1000)))),.int .u64 t260,.int .u64 x13_1] rfl (by (try simp only [List.map_toArray,List.map_cons,List.map_nil]);first|done|rfl|(simp only [List.length_drop,List.length_take];rfl)) ?_;(with_reducible refine (bits_Div64.calls k1 (IntKind.u64.wrap (t259 + (IntKind.u64.wrap (t257 * 1000)))) t260 x13_1 t261 t262 _ A45.out).mono ?_);rintro e w' ⟨rfl,⟨nd,rfl⟩⟩;refine ⟨_,rfl,?_⟩))
                    go_ret
                    exact ⟨by first|rfl|(simp [errW_none,errW_some] <;> rfl)|(simp only [← hji19];first|rfl|(simp [errW_none,errW_some] <;> rfl))|(simp [*,errW_none,errW_some] <;> rfl),by repeat (first|(with_reducible first|exact HB.out|apply below_alloc|apply pw_below_drewN|apply below_drew1)|exact HB.out)⟩
                   ·rw [if_neg c95] at H
                    have c95b0 : (t255 == 0) = false:=beq_eq_false_iff_ne.mpr c95
                    have c95b1 : (t255 != 0) = true:=bne_iff_ne.mpr c95
                    obtain rfl:=Option.some.inj H
                    try go_wp2_with (first|((with_reducible refine gate_callee (f:=23) rfl ?_);refine goesL_ (some 57) rfl rfl Tryz.func23 (by kernel_rfl) rfl #[.int .u64 (IntKind.u64.wrap (x13_1 + (Int.tmod (IntKind.u64.wrap (a1)) x13_1))),.int .i64 10] rfl (by (try simp only [List.map_toArray,List.map_cons,List.map_nil]);first|done|rfl|(simp only [List.length_drop,List.length_take];rfl)) ?_;(with_reducible refine (strconv_FormatUint.calls (IntKind.u64.wrap (x13_1 + (Int.tmod (IntKind.u64.wrap (a1)) x13_1))) 10 t251 _ A14.out (Glob.below hG (by repeat (first|(with_reducible first|exact HB.out|apply below_alloc|apply pw_below_drewN|apply below_drew1)|exact HB.out)))).mono ?_);rintro e w101 ⟨rfl,hb⟩;refine ⟨_,rfl,?_⟩;have n0_:=Aside0.mk (Kd.R_below (by (with_reducible repeat (first|apply Kd.R_alloc|apply Kd.R_drewN|apply Kd.R_drew));exact HO_9.out) hb);have n1_:=Aside0.mk (Kd.R_below (by (with_reducible repeat (first|apply Kd.R_alloc|apply Kd.R_drewN|apply Kd.R_drew));exact HO_10.out) hb);have n2_:=Aside0.mk (below_step (by repeat (first|(with_reducible first|exact HB.out|apply below_alloc|apply pw_below_drewN|apply below_drew1)|exact HB.out)) hb);clear HO_9;clear HO_10;clear HB;have HO_9:=n0_;have HO_10:=n1_;have HB:=n2_;clear n0_ n1_ n2_;(try clear hb);(try clear hb2);(try clear hk);(try clear hi)))
                    have n0_:=Aside0.mk (Kd.R_drew HO_9.out)
                    have n1_:=Aside0.mk (Kd.R_drew HO_10.out)
                    have n2_:=Aside0.mk (below_drew1 HB.out)
                    clear HO_9;clear HO_10;clear HB;have HO_9:=n0_;have HO_10:=n1_;have HB:=n2_;clear n0_ n1_ n2_
                    obtain ⟨Ao103,co103,eo103⟩:=Kd.R_slice HO_9.out
                    (first|subst eo103|(injection eo103 with f1_ f2_ f3_;have f4_:=f1_.symm;have f5_:=f3_.symm;clear f1_ f2_ f3_;subst f4_;subst f5_))
                    have p253 : 0 ≤ ((ji19) : Int):=of_decide_eq_true (by first|(with_reducible assumption)|assumption)
                    have q253 : (ji19) < (t245.length : Int):=of_decide_eq_true (by first|(with_reducible assumption)|assumption)
                    obtain ⟨ad253,e253,hx253_0⟩:=Kd.at_string (Kd.R_reads' HO_9.out).2.2 (ji19) p253 q253
                    cases e253
                    replace p253:=eq_true p253
                    replace q253:=eq_true q253
                    refine start_ (n:=17) (S:=fun w' => w'.cell? (ad253.add ((ji19)).toNat) = some (.string (rdOf ByteArray.empty t245 (ji19)))) (ds:=[]) (bl 0 17) (by kernel_rfl) rfl rfl (hx253_0) (fun hHeld => ?_);refine with_tabW bursarlaw03_QuantMeans.tab13 bursarlaw03_QuantMeans.bits13 (fun HT_ HW_ => ?_)
                    generalize w101.drew = w102 at HO_9 HO_10 HB hx253_0 hHeld ⊢
                    refine pure_ (i:=0) (N:=some 60) (v:=?_) (a':=?_) (bl 1 16) rfl rfl (any_of HT_.out (by kernel_rfl)) (fun _ _ _ h => h) (Or.inl ⟨by rfl,?_⟩) ?_ ?_
                    rotate_left;·intro w';go_simp;with_reducible rfl
                    rotate_left;·simp only [Act.put,List.setIfInBounds_toArray,List.set_cons_zero,List.set_cons_succ,i64_w,i32_w];rfl
                    refine pure_ (i:=1) (N:=some 61) (v:=?_) (a':=?_) (bl 2 15) rfl rfl (any_of HT_.out (by kernel_rfl)) (fun _ _ _ h => h) (Or.inl ⟨by rfl,?_⟩) ?_ ?_
                    rotate_left;·intro w';go_simp;with_reducible rfl
                    rotate_left;·simp only [Act.put,List.setIfInBounds_toArray,List.set_cons_zero,List.set_cons_succ,i64_w,i32_w];rfl
                    refine pure_ (i:=4) (N:=some 64) (v:=?_) (a':=?_) #[true,true,false,false,true,false,false,false,false,false,false,false,false,false,false,false,false] rfl rfl (any_of HT_.out (by kernel_rfl)) (fun _ _ _ h => h) (Or.inl ⟨by rfl,?_⟩) ?_ ?_
                    rotate_left;·intro w';go_simp;with_reducible rfl
                    rotate_left;·simp only [Act.put,List.setIfInBounds_toArray,List.set_cons_zero,List.set_cons_succ,i64_w,i32_w];rfl
                    refine pure_ (i:=6) (N:=some 66) (v:=?_) (a':=?_) #[true,true,false,false,true,false,true,false,false,false,false,false,false,false,false,false,false] rfl rfl (any_of HT_.out (by kernel_rfl)) (fun _ _ _ h => h) (Or.inl ⟨by rfl,?_⟩) ?_ ?_
                    rotate_left;·intro w';go_simp;with_reducible rfl
                    rotate_left;·simp only [Act.put,List.setIfInBounds_toArray,List.set_cons_zero,List.set_cons_succ,i64_w,i32_w];rfl
                    refine pure_ (i:=7) (N:=some 67) (v:=?_) (a':=?_) #[true,true,false,false,true,false,true,true,false,false,false,false,false,false,false,false,false] rfl rfl (any_of HT_.out (by kernel_rfl)) (fun _ _ _ h => h) (Or.inl ⟨by rfl,?_⟩) ?_ ?_
                    rotate_left;·intro w';go_simp;with_reducible rfl
                    rotate_left;·simp only [Act.put,List.setIfInBounds_toArray,List.set_cons_zero,List.set_cons_succ,i64_w,i32_w];rfl
                    refine pure_ (i:=8) (N:=some 68) (v:=?_) (a':=?_) #[true,true,false,false,true,false,true,true,true,false,false,false,false,false,false,false,false] rfl rfl (any_of HT_.out (by kernel_rfl)) (fun _ _ _ h => h) (Or.inl ⟨by rfl,?_⟩) ?_ ?_
                    rotate_left;·intro w';go_simp;with_reducible rfl
                    rotate_left;·simp only [Act.put,List.setIfInBounds_toArray,List.set_cons_zero,List.set_cons_succ,i64_w,i32_w];rfl
                    refine take_ (i:=9) (N:=some 69) (v:=?_) (a':=?_) #[true,true,false,false,true,false,true,true,true,true,false,false,false,false,false,false,false] rfl rfl (take_ofW HT_.out HW_.out (by kernel_rfl)) (fun _ _ _ h => h) (Or.inl ⟨by rfl,?_⟩) hHeld ?_ ?_
                    rotate_left
                    ·intro w' s0
                     go_simp
                     with_reducible rfl
                    rotate_left
                    ·simp only [Act.put,List.setIfInBounds_toArray,List.set_cons_zero,List.set_cons_succ,i64_w,i32_w]
                     rfl
                    refine one_ (i:=2) (N:=some 62) #[true,true,true,false,true,false,true,true,true,true,false,false,false,false,false,false,false] rfl rfl (one_of HT_.out (by kernel_rfl)) (by decide) (fun K hK => ?_)
                    refine goes_ Tryz.func23 (by kernel_rfl) rfl #[.int .u64 (IntKind.u64.wrap (a0)),.int .i64 10] (by rfl) rfl rfl (by (try simp only [List.map_toArray,List.map_cons,List.map_nil]);first|done|rfl|(simp only [List.length_drop,List.length_take];rfl)) ?_
                    with_reducible refine (strconv_FormatUint.calls (IntKind.u64.wrap (a0)) 10 t252 _ A16.out (Glob.below hG (by repeat (first|(with_reducible first|exact HB.out|apply below_alloc|apply pw_below_drewN|apply below_drew1)|exact HB.out)))).mono ?_
                    rintro e w104 ⟨rfl,hb⟩
                    have HS0_:=(hb.cell (World.block_lt_of_cell? _ _ (hHeld))).trans (hHeld)
                    refine ⟨_,rfl,?_⟩
                    have n0_:=Aside0.mk (Kd.R_below (by (with_reducible repeat (first|apply Kd.R_alloc|apply Kd.R_drewN|apply Kd.R_drew));exact HO_9.out) hb)
                    have n1_:=Aside0.mk (Kd.R_below (by (with_reducible repeat (first|apply Kd.R_alloc|apply Kd.R_drewN|apply Kd.R_drew));exact HO_10.out) hb)
                    have n2_:=Aside0.mk (below_step (by repeat (first|(with_reducible first|exact HB.out|apply below_alloc|apply pw_below_drewN|apply below_drew1)|exact HB.out)) hb)
                    clear HO_9;clear HO_10;clear HB;have HO_9:=n0_;have HO_10:=n1_;have HB:=n2_;clear n0_ n1_ n2_;(try clear hb);(try clear hb2);(try clear hk);(try clear hi)
                    refine hK.out _ _ (HS0_) (fun hHeld => ?_)
                    clear hK K
                    refine norm_ (a':=?_) ?_ ?_
                    rotate_left
                    ·show Act.put _ (some 62) _ = _
                     simp only [Act.put,List.setIfInBounds_toArray,List.set_cons_zero,List.set_cons_succ,i64_w,i32_w]
                     rfl
                    refine pure_ (i:=3) (N:=some 63) (v:=?_) (a':=?_) #[true,true,true,true,true,false,true,true,true,true,false,false,false,false,false,false,false] rfl rfl (any_of HT_.out (by kernel_rfl)) (fun _ _ _ h => h) (Or.inl ⟨by rfl,?_⟩) ?_ ?_
                    rotate_left;·intro w';go_simp;with_reducible rfl
                    rotate_left;·simp only [Act.put,List.setIfInBounds_toArray,List.set_cons_zero,List.set_cons_succ,i64_w,i32_w];rfl
                    refine pure_ (i:=5) (N:=some 65) (v:=?_) (a':=?_) (bl 10 7) rfl rfl (any_of HT_.out (by kernel_rfl)) (fun _ _ _ h => h) (Or.inl ⟨by rfl,?_⟩) ?_ ?_
                    rotate_left;·intro w';go_simp;with_reducible rfl
                    rotate_left;·simp only [Act.put,List.setIfInBounds_toArray,List.set_cons_zero,List.set_cons_succ,i64_w,i32_w];rfl
                    refine pure_ (i:=10) (N:=some 70) (v:=?_) (a':=?_) (bl 11 6) rfl rfl (any_of HT_.out (by kernel_rfl)) (fun _ _ _ h => h) (Or.inl ⟨by rfl,?_⟩) ?_ ?_
                    rotate_left;·intro w';go_simp;with_reducible rfl
                    rotate_left;·simp only [Act.put,List.setIfInBounds_toArray,List.set_cons_zero,List.set_cons_succ,i64_w,i32_w];rfl
                    refine one_ (i:=11) (N:=some 71) (bl 12 5) rfl rfl (one_of HT_.out (by kernel_rfl)) (by decide) (fun K hK => ?_)
                    refine goes_ Tryz.func17 (by kernel_rfl) rfl #[.string (((t252 ++ (⟨#[46]⟩ : ByteArray)) ++ (t251.extract 1 t251.size)) ++ (rdOf ByteArray.empty t245 (ji19)))] (by rfl) rfl rfl (by (try simp only [List.map_toArray,List.map_cons,List.map_nil]);first|done|(simp only [hji19];rfl)|rfl|(simp only [List.length_drop,List.length_take];rfl)) ?_
                    with_reducible refine (quant_Parse.calls k1 (((t252 ++ (⟨#[46]⟩ : ByteArray)) ++ (t251.extract 1 t251.size)) ++ (rdOf ByteArray.empty t245 (ji19))) t254 t255 _ A23.out (Glob.below hG (by repeat (first|(with_reducible first|exact HB.out|apply below_alloc|apply pw_below_drewN|apply below_drew1)|exact HB.out)))).mono ?_
                    rintro e w105 ⟨rfl,hb⟩
                    have HS0_:=(hb.cell (World.block_lt_of_cell? _ _ (hHeld))).trans (hHeld)
                    refine ⟨_,rfl,?_⟩
                    have n0_:=Aside0.mk (Kd.R_below (by (with_reducible repeat (first|apply Kd.R_alloc|apply Kd.R_drewN|apply Kd.R_drew));exact HO_9.out) hb)
                    have n1_:=Aside0.mk (Kd.R_below (by (with_reducible repeat (first|apply Kd.R_alloc|apply Kd.R_drewN|apply Kd.R_drew));exact HO_10.out) hb)
                    have n2_:=Aside0.mk (below_step (by repeat (first|(with_reducible first|exact HB.out|apply below_alloc|apply pw_below_drewN|apply below_drew1)|exact HB.out)) hb)
                    clear HO_9;clear HO_10;clear HB;have HO_9:=n0_;have HO_10:=n1_;have HB:=n2_;clear n0_ n1_ n2_;(try clear hb);(try clear hb2);(try clear hk);(try clear hi)
                    refine hK.out _ _ (HS0_) (fun hHeld => ?_)
                    clear hK K
                    refine norm_ (a':=?_) ?_ ?_
                    rotate_left
                    ·show Act.put _ (some 71) _ = _
                     simp only [Act.put,List.setIfInBounds_toArray,List.set_cons_zero,List.set_cons_succ,i64_w,i32_w]
                     rfl
                    refine pure_ (i:=12) (N:=some 59) (v:=?_) (a':=?_) (bl 13 4) rfl rfl (any_of HT_.out (by kernel_rfl)) (fun _ _ _ h => h) (Or.inl ⟨by rfl,?_⟩) ?_ ?_
                    rotate_left;·intro w';go_simp;with_reducible rfl
                    rotate_left;·simp only [Act.put,List.setIfInBounds_toArray,List.set_cons_zero,List.set_cons_succ,i64_w,i32_w];rfl
                    refine pure_ (i:=13) (N:=some 72) (v:=?_) (a':=?_) (bl 14 3) rfl rfl (any_of HT_.out (by kernel_rfl)) (fun _ _ _ h => h) (Or.inl ⟨by rfl,?_⟩) ?_ ?_
                    rotate_left;·intro w';go_simp;with_reducible rfl
                    rotate_left;·simp only [Act.put,List.setIfInBounds_toArray,List.set_cons_zero,List.set_cons_succ,i64_w,i32_w];rfl
                    refine pure_ (i:=14) (N:=some 73) (v:=?_) (a':=?_) (bl 15 2) rfl rfl (any_of HT_.out (by kernel_rfl)) (fun _ _ _ h => h) (Or.inl ⟨by rfl,?_⟩) ?_ ?_
                    rotate_left;·intro w';go_simp;with_reducible rfl
                    rotate_left;·simp only [Act.put,List.setIfInBounds_toArray,List.set_cons_zero,List.set_cons_succ,i64_w,i32_w];rfl
                    refine pure_ (i:=15) (N:=some 17) (v:=?_) (a':=?_) (bl 16 1) rfl rfl (any_of HT_.out (by kernel_rfl)) (fun _ _ _ h => h) (Or.inl ⟨by rfl,?_⟩) ?_ ?_
                    rotate_left;·intro w';go_simp;with_reducible rfl
                    rotate_left;·simp only [Act.put,List.setIfInBounds_toArray,List.set_cons_zero,List.set_cons_succ,i64_w,i32_w];rfl
                    refine pure_ (i:=16) (N:=some 18) (v:=?_) (a':=?_) (bl 17 0) rfl rfl (any_of HT_.out (by kernel_rfl)) (fun _ _ _ h => h) (Or.inl ⟨by rfl,?_⟩) ?_ ?_
                    rotate_left;·intro w';go_simp;with_reducible rfl
                    rotate_left;·simp only [Act.put,List.setIfInBounds_toArray,List.set_cons_zero,List.set_cons_succ,i64_w,i32_w];rfl
                    refine done_ (done_of HT_.out (by kernel_rfl)) ?_
                    have p256 : 0 ≤ ((ji19) : Int):=of_decide_eq_true (by first|(with_reducible assumption)|assumption)
                    have q256 : (ji19) < (t246.length : Int):=of_decide_eq_true (by first|(with_reducible assumption)|assumption)
                    obtain ⟨ad256,e256,hx256_0⟩:=Kd.at_int (Kd.R_reads' HO_10.out).2.2 (ji19) p256 q256
                    cases e256
                    replace p256:=eq_true p256
                    replace q256:=eq_true q256
                    try go_wp2_with (first|((with_reducible refine gate_callee (f:=24) rfl ?_);refine goesL_ (some 86) rfl rfl Tryz.func24 (by kernel_rfl) rfl #[.int .u64 (IntKind.u64.wrap ((IntKind.u64.wrap ((IntKind.u64.wrap (a0)) * x13_1)) + (Int.tmod (IntKind.u64.wrap (a1)) x13_1))),.int .u64 (IntKind.u64.wrap (rd t246 (ji19)))] rfl (by (try simp only [List.map_toArray,List.map_cons,List.map_nil]);first|done|(simp only [hji19];rfl)|rfl|(simp only [List.length_drop,List.length_take];rfl)) ?_;(with_reducible refine (bits_Mul64.calls (IntKind.u64.wrap ((IntKind.u64.wrap ((IntKind.u64.wrap (a0)) * x13_1)) + (Int.tmod (IntKind.u64.wrap (a1)) x13_1))) (IntKind.u64.wrap (rd t246 (ji19))) t257 t258 _ A25.out).mono ?_);rintro e w' ⟨rfl,⟨nd,rfl⟩⟩;refine ⟨_,rfl,?_⟩)|((with_reducible refine gate_callee (f:=24) rfl ?_);refine goesL_ (some 93) rfl rfl Tryz.func24 (by kernel_rfl) rfl #[.int .u64 t258,.int .u64 1000] rfl (by (try simp only [List.map_toArray,List.map_cons,List.map_nil]);first|done|rfl|(simp only [List.length_drop,List.length_take];rfl)) ?_;(with_reducible refine (bits_Mul64.calls t258 1000 t259 t260 _ A32.out).mono ?_);rintro e w' ⟨rfl,⟨nd,rfl⟩⟩;refine ⟨_,rfl,?_⟩)|((with_reducible refine gate_callee (f:=25) rfl ?_);refine goesL_ (some 113) rfl rfl Tryz.func25 (by kernel_rfl) rfl #[.int .u64 (IntKind.u64.wrap (t259 + (IntKind.u64.wrap (t257 * 1000)))),.int .u64 t260,.int .u64 x13_1] rfl (by (try simp only [List.map_toArray,List.map_cons,List.map_nil]);first|done|rfl|(simp only [List.length_drop,List.length_take];rfl)) ?_;(with_reducible refine (bits_Div64.calls k1 (IntKind.u64.wrap (t259 + (IntKind.u64.wrap (t257 * 1000)))) t260 x13_1 t261 t262 _ A45.out).mono ?_);rintro e w' ⟨rfl,⟨nd,rfl⟩⟩;refine ⟨_,rfl,?_⟩))
                    go_ret
                    exact ⟨by first|rfl|(simp [errW_none,errW_some] <;> rfl)|(simp only [← hji19];first|rfl|(simp [errW_none,errW_some] <;> rfl))|(simp [*,errW_none,errW_some] <;> rfl),by repeat (first|(with_reducible first|exact HB.out|apply below_alloc|apply pw_below_drewN|apply below_drew1)|exact HB.out)⟩
                  ·rw [if_neg c94] at H
                   have c94b0 : (t261 == 0) = false:=beq_eq_false_iff_ne.mpr c94
                   have c94b1 : (t261 != 0) = true:=bne_iff_ne.mpr c94
                   by_cases c106 : t255 = 0
                   ·rw [if_pos c106] at H
                    have c106b0 : (t255 == 0) = true:=beq_iff_eq.mpr c106
                    have c106b1 : (t255 != 0) = false:=bne_eq_false_iff_eq.mpr c106
                    clear c106
                    obtain rfl:=Option.some.inj H
                    try go_wp2_with (first|((with_reducible refine gate_callee (f:=23) rfl ?_);refine goesL_ (some 57) rfl rfl Tryz.func23 (by kernel_rfl) rfl #[.int .u64 (IntKind.u64.wrap (x13_1 + (Int.tmod (IntKind.u64.wrap (a1)) x13_1))),.int .i64 10] rfl (by (try simp only [List.map_toArray,List.map_cons,List.map_nil]);first|done|rfl|(simp only [List.length_drop,List.length_take];rfl)) ?_;(with_reducible refine (strconv_FormatUint.calls (IntKind.u64.wrap (x13_1 + (Int.tmod (IntKind.u64.wrap (a1)) x13_1))) 10 t251 _ A14.out (Glob.below hG (by repeat (first|(with_reducible first|exact HB.out|apply below_alloc|apply pw_below_drewN|apply below_drew1)|exact HB.out)))).mono ?_);rintro e w107 ⟨rfl,hb⟩;refine ⟨_,rfl,?_⟩;have n0_:=Aside0.mk (Kd.R_below (by (with_reducible repeat (first|apply Kd.R_alloc|apply Kd.R_drewN|apply Kd.R_drew));exact HO_9.out) hb);have n1_:=Aside0.mk (Kd.R_below (by (with_reducible repeat (first|apply Kd.R_alloc|apply Kd.R_drewN|apply Kd.R_drew));exact HO_10.out) hb);have n2_:=Aside0.mk (below_step (by repeat (first|(with_reducible first|exact HB.out|apply below_alloc|apply pw_below_drewN|apply below_drew1)|exact HB.out)) hb);clear HO_9;clear HO_10;clear HB;have HO_9:=n0_;have HO_10:=n1_;have HB:=n2_;clear n0_ n1_ n2_;(try clear hb);(try clear hb2);(try clear hk);(try clear hi)))
                    have n0_:=Aside0.mk (Kd.R_drew HO_9.out)
                    have n1_:=Aside0.mk (Kd.R_drew HO_10.out)
                    have n2_:=Aside0.mk (below_drew1 HB.out)
                    clear HO_9;clear HO_10;clear HB;have HO_9:=n0_;have HO_10:=n1_;have HB:=n2_;clear n0_ n1_ n2_
                    obtain ⟨Ao109,co109,eo109⟩:=Kd.R_slice HO_9.out
                    (first|subst eo109|(injection eo109 with f1_ f2_ f3_;have f4_:=f1_.symm;have f5_:=f3_.symm;clear f1_ f2_ f3_;subst f4_;subst f5_))
                    have p253 : 0 ≤ ((ji19) : Int):=of_decide_eq_true (by first|(with_reducible assumption)|assumption)
                    have q253 : (ji19) < (t245.length : Int):=of_decide_eq_true (by first|(with_reducible assumption)|assumption)
                    obtain ⟨ad253,e253,hx253_0⟩:=Kd.at_string (Kd.R_reads' HO_9.out).2.2 (ji19) p253 q253
                    cases e253
                    replace p253:=eq_true p253
                    replace q253:=eq_true q253
                    refine start_ (n:=17) (S:=fun w' => w'.cell? (ad253.add ((ji19)).toNat) = some (.string (rdOf ByteArray.empty t245 (ji19)))) (ds:=[]) (bl 0 17) (by kernel_rfl) rfl rfl (hx253_0) (fun hHeld => ?_);refine with_tabW bursarlaw03_QuantMeans.tab13 bursarlaw03_QuantMeans.bits13 (fun HT_ HW_ => ?_)
                    generalize w107.drew = w108 at HO_9 HO_10 HB hx253_0 hHeld ⊢
                    refine pure_ (i:=0) (N:=some 60) (v:=?_) (a':=?_) (bl 1 16) rfl rfl (any_of HT_.out (by kernel_rfl)) (fun _ _ _ h => h) (Or.inl ⟨by rfl,?_⟩) ?_ ?_
                    rotate_left;·intro w';go_simp;with_reducible rfl
                    rotate_left;·simp only [Act.put,List.setIfInBounds_toArray,List.set_cons_zero,List.set_cons_succ,i64_w,i32_w];rfl
                    refine pure_ (i:=1) (N:=some 61) (v:=?_) (a':=?_) (bl 2 15) rfl rfl (any_of HT_.out (by kernel_rfl)) (fun _ _ _ h => h) (Or.inl ⟨by rfl,?_⟩) ?_ ?_
                    rotate_left;·intro w';go_simp;with_reducible rfl
                    rotate_left;·simp only [Act.put,List.setIfInBounds_toArray,List.set_cons_zero,List.set_cons_succ,i64_w,i32_w];rfl
                    refine pure_ (i:=4) (N:=some 64) (v:=?_) (a':=?_) #[true,true,false,false,true,false,false,false,false,false,false,false,false,false,false,false,false] rfl rfl (any_of HT_.out (by kernel_rfl)) (fun _ _ _ h => h) (Or.inl ⟨by rfl,?_⟩) ?_ ?_
                    rotate_left;·intro w';go_simp;with_reducible rfl
                    rotate_left;·simp only [Act.put,List.setIfInBounds_toArray,List.set_cons_zero,List.set_cons_succ,i64_w,i32_w];rfl
                    refine pure_ (i:=6) (N:=some 66) (v:=?_) (a':=?_) #[true,true,false,false,true,false,true,false,false,false,false,false,false,false,false,false,false] rfl rfl (any_of HT_.out (by kernel_rfl)) (fun _ _ _ h => h) (Or.inl ⟨by rfl,?_⟩) ?_ ?_
                    rotate_left;·intro w';go_simp;with_reducible rfl
                    rotate_left;·simp only [Act.put,List.setIfInBounds_toArray,List.set_cons_zero,List.set_cons_succ,i64_w,i32_w];rfl
                    refine pure_ (i:=7) (N:=some 67) (v:=?_) (a':=?_) #[true,true,false,false,true,false,true,true,false,false,false,false,false,false,false,false,false] rfl rfl (any_of HT_.out (by kernel_rfl)) (fun _ _ _ h => h) (Or.inl ⟨by rfl,?_⟩) ?_ ?_
                    rotate_left;·intro w';go_simp;with_reducible rfl
                    rotate_left;·simp only [Act.put,List.setIfInBounds_toArray,List.set_cons_zero,List.set_cons_succ,i64_w,i32_w];rfl
                    refine pure_ (i:=8) (N:=some 68) (v:=?_) (a':=?_) #[true,true,false,false,true,false,true,true,true,false,false,false,false,false,false,false,false] rfl rfl (any_of HT_.out (by kernel_rfl)) (fun _ _ _ h => h) (Or.inl ⟨by rfl,?_⟩) ?_ ?_
                    rotate_left;·intro w';go_simp;with_reducible rfl
                    rotate_left;·simp only [Act.put,List.setIfInBounds_toArray,List.set_cons_zero,List.set_cons_succ,i64_w,i32_w];rfl
                    refine take_ (i:=9) (N:=some 69) (v:=?_) (a':=?_) #[true,true,false,false,true,false,true,true,true,true,false,false,false,false,false,false,false] rfl rfl (take_ofW HT_.out HW_.out (by kernel_rfl)) (fun _ _ _ h => h) (Or.inl ⟨by rfl,?_⟩) hHeld ?_ ?_
                    rotate_left
                    ·intro w' s0
                     go_simp
                     with_reducible rfl
                    rotate_left
                    ·simp only [Act.put,List.setIfInBounds_toArray,List.set_cons_zero,List.set_cons_succ,i64_w,i32_w]
                     rfl
                    refine one_ (i:=2) (N:=some 62) #[true,true,true,false,true,false,true,true,true,true,false,false,false,false,false,false,false] rfl rfl (one_of HT_.out (by kernel_rfl)) (by decide) (fun K hK => ?_)
                    refine goes_ Tryz.func23 (by kernel_rfl) rfl #[.int .u64 (IntKind.u64.wrap (a0)),.int .i64 10] (by rfl) rfl rfl (by (try simp only [List.map_toArray,List.map_cons,List.map_nil]);first|done|rfl|(simp only [List.length_drop,List.length_take];rfl)) ?_
                    with_reducible refine (strconv_FormatUint.calls (IntKind.u64.wrap (a0)) 10 t252 _ A16.out (Glob.below hG (by repeat (first|(with_reducible first|exact HB.out|apply below_alloc|apply pw_below_drewN|apply below_drew1)|exact HB.out)))).mono ?_
                    rintro e w110 ⟨rfl,hb⟩
                    have HS0_:=(hb.cell (World.block_lt_of_cell? _ _ (hHeld))).trans (hHeld)
                    refine ⟨_,rfl,?_⟩
                    have n0_:=Aside0.mk (Kd.R_below (by (with_reducible repeat (first|apply Kd.R_alloc|apply Kd.R_drewN|apply Kd.R_drew));exact HO_9.out) hb)
                    have n1_:=Aside0.mk (Kd.R_below (by (with_reducible repeat (first|apply Kd.R_alloc|apply Kd.R_drewN|apply Kd.R_drew));exact HO_10.out) hb)
                    have n2_:=Aside0.mk (below_step (by repeat (first|(with_reducible first|exact HB.out|apply below_alloc|apply pw_below_drewN|apply below_drew1)|exact HB.out)) hb)
                    clear HO_9;clear HO_10;clear HB;have HO_9:=n0_;have HO_10:=n1_;have HB:=n2_;clear n0_ n1_ n2_;(try clear hb);(try clear hb2);(try clear hk);(try clear hi)
                    refine hK.out _ _ (HS0_) (fun hHeld => ?_)
                    clear hK K
                    refine norm_ (a':=?_) ?_ ?_
                    rotate_left
                    ·show Act.put _ (some 62) _ = _
                     simp only [Act.put,List.setIfInBounds_toArray,List.set_cons_zero,List.set_cons_succ,i64_w,i32_w]
                     rfl
                    refine pure_ (i:=3) (N:=some 63) (v:=?_) (a':=?_) #[true,true,true,true,true,false,true,true,true,true,false,false,false,false,false,false,false] rfl rfl (any_of HT_.out (by kernel_rfl)) (fun _ _ _ h => h) (Or.inl ⟨by rfl,?_⟩) ?_ ?_
                    rotate_left;·intro w';go_simp;with_reducible rfl
                    rotate_left;·simp only [Act.put,List.setIfInBounds_toArray,List.set_cons_zero,List.set_cons_succ,i64_w,i32_w];rfl
                    refine pure_ (i:=5) (N:=some 65) (v:=?_) (a':=?_) (bl 10 7) rfl rfl (any_of HT_.out (by kernel_rfl)) (fun _ _ _ h => h) (Or.inl ⟨by rfl,?_⟩) ?_ ?_
                    rotate_left;·intro w';go_simp;with_reducible rfl
                    rotate_left;·simp only [Act.put,List.setIfInBounds_toArray,List.set_cons_zero,List.set_cons_succ,i64_w,i32_w];rfl
                    refine pure_ (i:=10) (N:=some 70) (v:=?_) (a':=?_) (bl 11 6) rfl rfl (any_of HT_.out (by kernel_rfl)) (fun _ _ _ h => h) (Or.inl ⟨by rfl,?_⟩) ?_ ?_
                    rotate_left;·intro w';go_simp;with_reducible rfl
                    rotate_left;·simp only [Act.put,List.setIfInBounds_toArray,List.set_cons_zero,List.set_cons_succ,i64_w,i32_w];rfl
                    refine one_ (i:=11) (N:=some 71) (bl 12 5) rfl rfl (one_of HT_.out (by kernel_rfl)) (by decide) (fun K hK => ?_)
                    refine goes_ Tryz.func17 (by kernel_rfl) rfl #[.string (((t252 ++ (⟨#[46]⟩ : ByteArray)) ++ (t251.extract 1 t251.size)) ++ (rdOf ByteArray.empty t245 (ji19)))] (by rfl) rfl rfl (by (try simp only [List.map_toArray,List.map_cons,List.map_nil]);first|done|(simp only [hji19];rfl)|rfl|(simp only [List.length_drop,List.length_take];rfl)) ?_
                    with_reducible refine (quant_Parse.calls k1 (((t252 ++ (⟨#[46]⟩ : ByteArray)) ++ (t251.extract 1 t251.size)) ++ (rdOf ByteArray.empty t245 (ji19))) t254 t255 _ A23.out (Glob.below hG (by repeat (first|(with_reducible first|exact HB.out|apply below_alloc|apply pw_below_drewN|apply below_drew1)|exact HB.out)))).mono ?_
                    rintro e w111 ⟨rfl,hb⟩
                    have HS0_:=(hb.cell (World.block_lt_of_cell? _ _ (hHeld))).trans (hHeld)
                    refine ⟨_,rfl,?_⟩
                    have n0_:=Aside0.mk (Kd.R_below (by (with_reducible repeat (first|apply Kd.R_alloc|apply Kd.R_drewN|apply Kd.R_drew));exact HO_9.out) hb)
                    have n1_:=Aside0.mk (Kd.R_below (by (with_reducible repeat (first|apply Kd.R_alloc|apply Kd.R_drewN|apply Kd.R_drew));exact HO_10.out) hb)
                    have n2_:=Aside0.mk (below_step (by repeat (first|(with_reducible first|exact HB.out|apply below_alloc|apply pw_below_drewN|apply below_drew1)|exact HB.out)) hb)
                    clear HO_9;clear HO_10;clear HB;have HO_9:=n0_;have HO_10:=n1_;have HB:=n2_;clear n0_ n1_ n2_;(try clear hb);(try clear hb2);(try clear hk);(try clear hi)
                    refine hK.out _ _ (HS0_) (fun hHeld => ?_)
                    clear hK K
                    refine norm_ (a':=?_) ?_ ?_
                    rotate_left
                    ·show Act.put _ (some 71) _ = _
                     simp only [Act.put,List.setIfInBounds_toArray,List.set_cons_zero,List.set_cons_succ,i64_w,i32_w]
                     rfl
                    refine pure_ (i:=12) (N:=some 59) (v:=?_) (a':=?_) (bl 13 4) rfl rfl (any_of HT_.out (by kernel_rfl)) (fun _ _ _ h => h) (Or.inl ⟨by rfl,?_⟩) ?_ ?_
                    rotate_left;·intro w';go_simp;with_reducible rfl
                    rotate_left;·simp only [Act.put,List.setIfInBounds_toArray,List.set_cons_zero,List.set_cons_succ,i64_w,i32_w];rfl
                    refine pure_ (i:=13) (N:=some 72) (v:=?_) (a':=?_) (bl 14 3) rfl rfl (any_of HT_.out (by kernel_rfl)) (fun _ _ _ h => h) (Or.inl ⟨by rfl,?_⟩) ?_ ?_
                    rotate_left;·intro w';go_simp;with_reducible rfl
                    rotate_left;·simp only [Act.put,List.setIfInBounds_toArray,List.set_cons_zero,List.set_cons_succ,i64_w,i32_w];rfl
                    refine pure_ (i:=14) (N:=some 73) (v:=?_) (a':=?_) (bl 15 2) rfl rfl (any_of HT_.out (by kernel_rfl)) (fun _ _ _ h => h) (Or.inl ⟨by rfl,?_⟩) ?_ ?_
                    rotate_left;·intro w';go_simp;with_reducible rfl
                    rotate_left;·simp only [Act.put,List.setIfInBounds_toArray,List.set_cons_zero,List.set_cons_succ,i64_w,i32_w];rfl
                    refine pure_ (i:=15) (N:=some 17) (v:=?_) (a':=?_) (bl 16 1) rfl rfl (any_of HT_.out (by kernel_rfl)) (fun _ _ _ h => h) (Or.inl ⟨by rfl,?_⟩) ?_ ?_
                    rotate_left;·intro w';go_simp;with_reducible rfl
                    rotate_left;·simp only [Act.put,List.setIfInBounds_toArray,List.set_cons_zero,List.set_cons_succ,i64_w,i32_w];rfl
                    refine pure_ (i:=16) (N:=some 18) (v:=?_) (a':=?_) (bl 17 0) rfl rfl (any_of HT_.out (by kernel_rfl)) (fun _ _ _ h => h) (Or.inl ⟨by rfl,?_⟩) ?_ ?_
                    rotate_left;·intro w';go_simp;with_reducible rfl
                    rotate_left;·simp only [Act.put,List.setIfInBounds_toArray,List.set_cons_zero,List.set_cons_succ,i64_w,i32_w];rfl
                    refine done_ (done_of HT_.out (by kernel_rfl)) ?_
                    have p256 : 0 ≤ ((ji19) : Int):=of_decide_eq_true (by first|(with_reducible assumption)|assumption)
                    have q256 : (ji19) < (t246.length : Int):=of_decide_eq_true (by first|(with_reducible assumption)|assumption)
                    obtain ⟨ad256,e256,hx256_0⟩:=Kd.at_int (Kd.R_reads' HO_10.out).2.2 (ji19) p256 q256
                    cases e256
                    replace p256:=eq_true p256
                    replace q256:=eq_true q256
                    try go_wp2_with (first|((with_reducible refine gate_callee (f:=24) rfl ?_);refine goesL_ (some 86) rfl rfl Tryz.func24 (by kernel_rfl) rfl #[.int .u64 (IntKind.u64.wrap ((IntKind.u64.wrap ((IntKind.u64.wrap (a0)) * x13_1)) + (Int.tmod (IntKind.u64.wrap (a1)) x13_1))),.int .u64 (IntKind.u64.wrap (rd t246 (ji19)))] rfl (by (try simp only [List.map_toArray,List.map_cons,List.map_nil]);first|done|(simp only [hji19];rfl)|rfl|(simp only [List.length_drop,List.length_take];rfl)) ?_;(with_reducible refine (bits_Mul64.calls (IntKind.u64.wrap ((IntKind.u64.wrap ((IntKind.u64.wrap (a0)) * x13_1)) + (Int.tmod (IntKind.u64.wrap (a1)) x13_1))) (IntKind.u64.wrap (rd t246 (ji19))) t257 t258 _ A25.out).mono ?_);rintro e w' ⟨rfl,⟨nd,rfl⟩⟩;refine ⟨_,rfl,?_⟩)|((with_reducible refine gate_callee (f:=24) rfl ?_);refine goesL_ (some 93) rfl rfl Tryz.func24 (by kernel_rfl) rfl #[.int .u64 t258,.int .u64 1000] rfl (by (try simp only [List.map_toArray,List.map_cons,List.map_nil]);first|done|rfl|(simp only [List.length_drop,List.length_take];rfl)) ?_;(with_reducible refine (bits_Mul64.calls t258 1000 t259 t260 _ A32.out).mono ?_);rintro e w' ⟨rfl,⟨nd,rfl⟩⟩;refine ⟨_,rfl,?_⟩)|((with_reducible refine gate_callee (f:=25) rfl ?_);refine goesL_ (some 113) rfl rfl Tryz.func25 (by kernel_rfl) rfl #[.int .u64 (IntKind.u64.wrap (t259 + (IntKind.u64.wrap (t257 * 1000)))),.int .u64 t260,.int .u64 x13_1] rfl (by (try simp only [List.map_toArray,List.map_cons,List.map_nil]);first|done|rfl|(simp only [List.length_drop,List.length_take];rfl)) ?_;(with_reducible refine (bits_Div64.calls k1 (IntKind.u64.wrap (t259 + (IntKind.u64.wrap (t257 * 1000)))) t260 x13_1 t261 t262 _ A45.out).mono ?_);rintro e w' ⟨rfl,⟨nd,rfl⟩⟩;refine ⟨_,rfl,?_⟩))
                    go_ret
                    exact ⟨by first|rfl|(simp [errW_none,errW_some] <;> rfl)|(simp only [← hji19];first|rfl|(simp [errW_none,errW_some] <;> rfl))|(simp [*,errW_none,errW_some] <;> rfl),by repeat (first|(with_reducible first|exact HB.out|apply below_alloc|apply pw_below_drewN|apply below_drew1)|exact HB.out)⟩
                   ·rw [if_neg c106] at H
                    have c106b0 : (t255 == 0) = false:=beq_eq_false_iff_ne.mpr c106
                    have c106b1 : (t255 != 0) = true:=bne_iff_ne.mpr c106
                    obtain rfl:=Option.some.inj H
                    try go_wp2_with (first|((with_reducible refine gate_callee (f:=23) rfl ?_);refine goesL_ (some 57) rfl rfl Tryz.func23 (by kernel_rfl) rfl #[.int .u64 (IntKind.u64.wrap (x13_1 + (Int.tmod (IntKind.u64.wrap (a1)) x13_1))),.int .i64 10] rfl (by (try simp only [List.map_toArray,List.map_cons,List.map_nil]);first|done|rfl|(simp only [List.length_drop,List.length_take];rfl)) ?_;(with_reducible refine (strconv_FormatUint.calls (IntKind.u64.wrap (x13_1 + (Int.tmod (IntKind.u64.wrap (a1)) x13_1))) 10 t251 _ A14.out (Glob.below hG (by repeat (first|(with_reducible first|exact HB.out|apply below_alloc|apply pw_below_drewN|apply below_drew1)|exact HB.out)))).mono ?_);rintro e w112 ⟨rfl,hb⟩;refine ⟨_,rfl,?_⟩;have n0_:=Aside0.mk (Kd.R_below (by (with_reducible repeat (first|apply Kd.R_alloc|apply Kd.R_drewN|apply Kd.R_drew));exact HO_9.out) hb);have n1_:=Aside0.mk (Kd.R_below (by (with_reducible repeat (first|apply Kd.R_alloc|apply Kd.R_drewN|apply Kd.R_drew));exact HO_10.out) hb);have n2_:=Aside0.mk (below_step (by repeat (first|(with_reducible first|exact HB.out|apply below_alloc|apply pw_below_drewN|apply below_drew1)|exact HB.out)) hb);clear HO_9;clear HO_10;clear HB;have HO_9:=n0_;have HO_10:=n1_;have HB:=n2_;clear n0_ n1_ n2_;(try clear hb);(try clear hb2);(try clear hk);(try clear hi)))
                    have n0_:=Aside0.mk (Kd.R_drew HO_9.out)
                    have n1_:=Aside0.mk (Kd.R_drew HO_10.out)
                    have n2_:=Aside0.mk (below_drew1 HB.out)
                    clear HO_9;clear HO_10;clear HB;have HO_9:=n0_;have HO_10:=n1_;have HB:=n2_;clear n0_ n1_ n2_
                    obtain ⟨Ao114,co114,eo114⟩:=Kd.R_slice HO_9.out
                    (first|subst eo114|(injection eo114 with f1_ f2_ f3_;have f4_:=f1_.symm;have f5_:=f3_.symm;clear f1_ f2_ f3_;subst f4_;subst f5_))
                    have p253 : 0 ≤ ((ji19) : Int):=of_decide_eq_true (by first|(with_reducible assumption)|assumption)
                    have q253 : (ji19) < (t245.length : Int):=of_decide_eq_true (by first|(with_reducible assumption)|assumption)
                    obtain ⟨ad253,e253,hx253_0⟩:=Kd.at_string (Kd.R_reads' HO_9.out).2.2 (ji19) p253 q253
                    cases e253
                    replace p253:=eq_true p253
                    replace q253:=eq_true q253
                    refine start_ (n:=17) (S:=fun w' => w'.cell? (ad253.add ((ji19)).toNat) = some (.string (rdOf ByteArray.empty t245 (ji19)))) (ds:=[]) (bl 0 17) (by kernel_rfl) rfl rfl (hx253_0) (fun hHeld => ?_);refine with_tabW bursarlaw03_QuantMeans.tab13 bursarlaw03_QuantMeans.bits13 (fun HT_ HW_ => ?_)
                    generalize w112.drew = w113 at HO_9 HO_10 HB hx253_0 hHeld ⊢
                    refine pure_ (i:=0) (N:=some 60) (v:=?_) (a':=?_) (bl 1 16) rfl rfl (any_of HT_.out (by kernel_rfl)) (fun _ _ _ h => h) (Or.inl ⟨by rfl,?_⟩) ?_ ?_
                    rotate_left;·intro w';go_simp;with_reducible rfl
                    rotate_left;·simp only [Act.put,List.setIfInBounds_toArray,List.set_cons_zero,List.set_cons_succ,i64_w,i32_w];rfl
                    refine pure_ (i:=1) (N:=some 61) (v:=?_) (a':=?_) (bl 2 15) rfl rfl (any_of HT_.out (by kernel_rfl)) (fun _ _ _ h => h) (Or.inl ⟨by rfl,?_⟩) ?_ ?_
                    rotate_left;·intro w';go_simp;with_reducible rfl
                    rotate_left;·simp only [Act.put,List.setIfInBounds_toArray,List.set_cons_zero,List.set_cons_succ,i64_w,i32_w];rfl
                    refine pure_ (i:=4) (N:=some 64) (v:=?_) (a':=?_) #[true,true,false,false,true,false,false,false,false,false,false,false,false,false,false,false,false] rfl rfl (any_of HT_.out (by kernel_rfl)) (fun _ _ _ h => h) (Or.inl ⟨by rfl,?_⟩) ?_ ?_
                    rotate_left;·intro w';go_simp;with_reducible rfl
                    rotate_left;·simp only [Act.put,List.setIfInBounds_toArray,List.set_cons_zero,List.set_cons_succ,i64_w,i32_w];rfl
                    refine pure_ (i:=6) (N:=some 66) (v:=?_) (a':=?_) #[true,true,false,false,true,false,true,false,false,false,false,false,false,false,false,false,false] rfl rfl (any_of HT_.out (by kernel_rfl)) (fun _ _ _ h => h) (Or.inl ⟨by rfl,?_⟩) ?_ ?_
                    rotate_left;·intro w';go_simp;with_reducible rfl
                    rotate_left;·simp only [Act.put,List.setIfInBounds_toArray,List.set_cons_zero,List.set_cons_succ,i64_w,i32_w];rfl
                    refine pure_ (i:=7) (N:=some 67) (v:=?_) (a':=?_) #[true,true,false,false,true,false,true,true,false,false,false,false,false,false,false,false,false] rfl rfl (any_of HT_.out (by kernel_rfl)) (fun _ _ _ h => h) (Or.inl ⟨by rfl,?_⟩) ?_ ?_
                    rotate_left;·intro w';go_simp;with_reducible rfl
                    rotate_left;·simp only [Act.put,List.setIfInBounds_toArray,List.set_cons_zero,List.set_cons_succ,i64_w,i32_w];rfl
                    refine pure_ (i:=8) (N:=some 68) (v:=?_) (a':=?_) #[true,true,false,false,true,false,true,true,true,false,false,false,false,false,false,false,false] rfl rfl (any_of HT_.out (by kernel_rfl)) (fun _ _ _ h => h) (Or.inl ⟨by rfl,?_⟩) ?_ ?_
                    rotate_left;·intro w';go_simp;with_reducible rfl
                    rotate_left;·simp only [Act.put,List.setIfInBounds_toArray,List.set_cons_zero,List.set_cons_succ,i64_w,i32_w];rfl
                    refine take_ (i:=9) (N:=some 69) (v:=?_) (a':=?_) #[true,true,false,false,true,false,true,true,true,true,false,false,false,false,false,false,false] rfl rfl (take_ofW HT_.out HW_.out (by kernel_rfl)) (fun _ _ _ h => h) (Or.inl ⟨by rfl,?_⟩) hHeld ?_ ?_
                    rotate_left
                    ·intro w' s0
                     go_simp
                     with_reducible rfl
                    rotate_left
                    ·simp only [Act.put,List.setIfInBounds_toArray,List.set_cons_zero,List.set_cons_succ,i64_w,i32_w]
                     rfl
                    refine one_ (i:=2) (N:=some 62) #[true,true,true,false,true,false,true,true,true,true,false,false,false,false,false,false,false] rfl rfl (one_of HT_.out (by kernel_rfl)) (by decide) (fun K hK => ?_)
                    refine goes_ Tryz.func23 (by kernel_rfl) rfl #[.int .u64 (IntKind.u64.wrap (a0)),.int .i64 10] (by rfl) rfl rfl (by (try simp only [List.map_toArray,List.map_cons,List.map_nil]);first|done|rfl|(simp only [List.length_drop,List.length_take];rfl)) ?_
                    with_reducible refine (strconv_FormatUint.calls (IntKind.u64.wrap (a0)) 10 t252 _ A16.out (Glob.below hG (by repeat (first|(with_reducible first|exact HB.out|apply below_alloc|apply pw_below_drewN|apply below_drew1)|exact HB.out)))).mono ?_
                    rintro e w115 ⟨rfl,hb⟩
                    have HS0_:=(hb.cell (World.block_lt_of_cell? _ _ (hHeld))).trans (hHeld)
                    refine ⟨_,rfl,?_⟩
                    have n0_:=Aside0.mk (Kd.R_below (by (with_reducible repeat (first|apply Kd.R_alloc|apply Kd.R_drewN|apply Kd.R_drew));exact HO_9.out) hb)
                    have n1_:=Aside0.mk (Kd.R_below (by (with_reducible repeat (first|apply Kd.R_alloc|apply Kd.R_drewN|apply Kd.R_drew));exact HO_10.out) hb)
                    have n2_:=Aside0.mk (below_step (by repeat (first|(with_reducible first|exact HB.out|apply below_alloc|apply pw_below_drewN|apply below_drew1)|exact HB.out)) hb)
                    clear HO_9;clear HO_10;clear HB;have HO_9:=n0_;have HO_10:=n1_;have HB:=n2_;clear n0_ n1_ n2_;(try clear hb);(try clear hb2);(try clear hk);(try clear hi)
                    refine hK.out _ _ (HS0_) (fun hHeld => ?_)
                    clear hK K
                    refine norm_ (a':=?_) ?_ ?_
                    rotate_left
                    ·show Act.put _ (some 62) _ = _
                     simp only [Act.put,List.setIfInBounds_toArray,List.set_cons_zero,List.set_cons_succ,i64_w,i32_w]
                     rfl
                    refine pure_ (i:=3) (N:=some 63) (v:=?_) (a':=?_) #[true,true,true,true,true,false,true,true,true,true,false,false,false,false,false,false,false] rfl rfl (any_of HT_.out (by kernel_rfl)) (fun _ _ _ h => h) (Or.inl ⟨by rfl,?_⟩) ?_ ?_
                    rotate_left;·intro w';go_simp;with_reducible rfl
                    rotate_left;·simp only [Act.put,List.setIfInBounds_toArray,List.set_cons_zero,List.set_cons_succ,i64_w,i32_w];rfl
                    refine pure_ (i:=5) (N:=some 65) (v:=?_) (a':=?_) (bl 10 7) rfl rfl (any_of HT_.out (by kernel_rfl)) (fun _ _ _ h => h) (Or.inl ⟨by rfl,?_⟩) ?_ ?_
                    rotate_left;·intro w';go_simp;with_reducible rfl
                    rotate_left;·simp only [Act.put,List.setIfInBounds_toArray,List.set_cons_zero,List.set_cons_succ,i64_w,i32_w];rfl
                    refine pure_ (i:=10) (N:=some 70) (v:=?_) (a':=?_) (bl 11 6) rfl rfl (any_of HT_.out (by kernel_rfl)) (fun _ _ _ h => h) (Or.inl ⟨by rfl,?_⟩) ?_ ?_
                    rotate_left;·intro w';go_simp;with_reducible rfl
                    rotate_left;·simp only [Act.put,List.setIfInBounds_toArray,List.set_cons_zero,List.set_cons_succ,i64_w,i32_w];rfl
                    refine one_ (i:=11) (N:=some 71) (bl 12 5) rfl rfl (one_of HT_.out (by kernel_rfl)) (by decide) (fun K hK => ?_)
                    refine goes_ Tryz.func17 (by kernel_rfl) rfl #[.string (((t252 ++ (⟨#[46]⟩ : ByteArray)) ++ (t251.extract 1 t251.size)) ++ (rdOf ByteArray.empty t245 (ji19)))] (by rfl) rfl rfl (by (try simp only [List.map_toArray,List.map_cons,List.map_nil]);first|done|(simp only [hji19];rfl)|rfl|(simp only [List.length_drop,List.length_take];rfl)) ?_
                    with_reducible refine (quant_Parse.calls k1 (((t252 ++ (⟨#[46]⟩ : ByteArray)) ++ (t251.extract 1 t251.size)) ++ (rdOf ByteArray.empty t245 (ji19))) t254 t255 _ A23.out (Glob.below hG (by repeat (first|(with_reducible first|exact HB.out|apply below_alloc|apply pw_below_drewN|apply below_drew1)|exact HB.out)))).mono ?_
                    rintro e w116 ⟨rfl,hb⟩
                    have HS0_:=(hb.cell (World.block_lt_of_cell? _ _ (hHeld))).trans (hHeld)
                    refine ⟨_,rfl,?_⟩
                    have n0_:=Aside0.mk (Kd.R_below (by (with_reducible repeat (first|apply Kd.R_alloc|apply Kd.R_drewN|apply Kd.R_drew));exact HO_9.out) hb)
                    have n1_:=Aside0.mk (Kd.R_below (by (with_reducible repeat (first|apply Kd.R_alloc|apply Kd.R_drewN|apply Kd.R_drew));exact HO_10.out) hb)
                    have n2_:=Aside0.mk (below_step (by repeat (first|(with_reducible first|exact HB.out|apply below_alloc|apply pw_below_drewN|apply below_drew1)|exact HB.out)) hb)
                    clear HO_9;clear HO_10;clear HB;have HO_9:=n0_;have HO_10:=n1_;have HB:=n2_;clear n0_ n1_ n2_;(try clear hb);(try clear hb2);(try clear hk);(try clear hi)
                    refine hK.out _ _ (HS0_) (fun hHeld => ?_)
                    clear hK K
                    refine norm_ (a':=?_) ?_ ?_
                    rotate_left
                    ·show Act.put _ (some 71) _ = _
                     simp only [Act.put,List.setIfInBounds_toArray,List.set_cons_zero,List.set_cons_succ,i64_w,i32_w]
                     rfl
                    refine pure_ (i:=12) (N:=some 59) (v:=?_) (a':=?_) (bl 13 4) rfl rfl (any_of HT_.out (by kernel_rfl)) (fun _ _ _ h => h) (Or.inl ⟨by rfl,?_⟩) ?_ ?_
                    rotate_left;·intro w';go_simp;with_reducible rfl
                    rotate_left;·simp only [Act.put,List.setIfInBounds_toArray,List.set_cons_zero,List.set_cons_succ,i64_w,i32_w];rfl
                    refine pure_ (i:=13) (N:=some 72) (v:=?_) (a':=?_) (bl 14 3) rfl rfl (any_of HT_.out (by kernel_rfl)) (fun _ _ _ h => h) (Or.inl ⟨by rfl,?_⟩) ?_ ?_
                    rotate_left;·intro w';go_simp;with_reducible rfl
                    rotate_left;·simp only [Act.put,List.setIfInBounds_toArray,List.set_cons_zero,List.set_cons_succ,i64_w,i32_w];rfl
                    refine pure_ (i:=14) (N:=some 73) (v:=?_) (a':=?_) (bl 15 2) rfl rfl (any_of HT_.out (by kernel_rfl)) (fun _ _ _ h => h) (Or.inl ⟨by rfl,?_⟩) ?_ ?_
                    rotate_left;·intro w';go_simp;with_reducible rfl
                    rotate_left;·simp only [Act.put,List.setIfInBounds_toArray,List.set_cons_zero,List.set_cons_succ,i64_w,i32_w];rfl
                    refine pure_ (i:=15) (N:=some 17) (v:=?_) (a':=?_) (bl 16 1) rfl rfl (any_of HT_.out (by kernel_rfl)) (fun _ _ _ h => h) (Or.inl ⟨by rfl,?_⟩) ?_ ?_
                    rotate_left;·intro w';go_simp;with_reducible rfl
                    rotate_left;·simp only [Act.put,List.setIfInBounds_toArray,List.set_cons_zero,List.set_cons_succ,i64_w,i32_w];rfl
                    refine pure_ (i:=16) (N:=some 18) (v:=?_) (a':=?_) (bl 17 0) rfl rfl (any_of HT_.out (by kernel_rfl)) (fun _ _ _ h => h) (Or.inl ⟨by rfl,?_⟩) ?_ ?_
                    rotate_left;·intro w';go_simp;with_reducible rfl
                    rotate_left;·simp only [Act.put,List.setIfInBounds_toArray,List.set_cons_zero,List.set_cons_succ,i64_w,i32_w];rfl
                    refine done_ (done_of HT_.out (by kernel_rfl)) ?_
                    have p256 : 0 ≤ ((ji19) : Int):=of_decide_eq_true (by first|(with_reducible assumption)|assumption)
                    have q256 : (ji19) < (t246.length : Int):=of_decide_eq_true (by first|(with_reducible assumption)|assumption)
                    obtain ⟨ad256,e256,hx256_0⟩:=Kd.at_int (Kd.R_reads' HO_10.out).2.2 (ji19) p256 q256
                    cases e256
                    replace p256:=eq_true p256
                    replace q256:=eq_true q256
                    try go_wp2_with (first|((with_reducible refine gate_callee (f:=24) rfl ?_);refine goesL_ (some 86) rfl rfl Tryz.func24 (by kernel_rfl) rfl #[.int .u64 (IntKind.u64.wrap ((IntKind.u64.wrap ((IntKind.u64.wrap (a0)) * x13_1)) + (Int.tmod (IntKind.u64.wrap (a1)) x13_1))),.int .u64 (IntKind.u64.wrap (rd t246 (ji19)))] rfl (by (try simp only [List.map_toArray,List.map_cons,List.map_nil]);first|done|(simp only [hji19];rfl)|rfl|(simp only [List.length_drop,List.length_take];rfl)) ?_;(with_reducible refine (bits_Mul64.calls (IntKind.u64.wrap ((IntKind.u64.wrap ((IntKind.u64.wrap (a0)) * x13_1)) + (Int.tmod (IntKind.u64.wrap (a1)) x13_1))) (IntKind.u64.wrap (rd t246 (ji19))) t257 t258 _ A25.out).mono ?_);rintro e w' ⟨rfl,⟨nd,rfl⟩⟩;refine ⟨_,rfl,?_⟩)|((with_reducible refine gate_callee (f:=24) rfl ?_);refine goesL_ (some 93) rfl rfl Tryz.func24 (by kernel_rfl) rfl #[.int .u64 t258,.int .u64 1000] rfl (by (try simp only [List.map_toArray,List.map_cons,List.map_nil]);first|done|rfl|(simp only [List.length_drop,List.length_take];rfl)) ?_;(with_reducible refine (bits_Mul64.calls t258 1000 t259 t260 _ A32.out).mono ?_);rintro e w' ⟨rfl,⟨nd,rfl⟩⟩;refine ⟨_,rfl,?_⟩)|((with_reducible refine gate_callee (f:=25) rfl ?_);refine goesL_ (some 113) rfl rfl Tryz.func25 (by kernel_rfl) rfl #[.int .u64 (IntKind.u64.wrap (t259 + (IntKind.u64.wrap (t257 * 1000)))),.int .u64 t260,.int .u64 x13_1] rfl (by (try simp only [List.map_toArray,List.map_cons,List.map_nil]);first|done|rfl|(simp only [List.length_drop,List.length_take];rfl)) ?_;(with_reducible refine (bits_Div64.calls k1 (IntKind.u64.wrap (t259 + (IntKind.u64.wrap (t257 * 1000)))) t260 x13_1 t261 t262 _ A45.out).mono ?_);rintro e w' ⟨rfl,⟨nd,rfl⟩⟩;refine ⟨_,rfl,?_⟩))
                    go_ret
                    exact ⟨by first|rfl|(simp [errW_none,errW_some] <;> rfl)|(simp only [← hji19];first|rfl|(simp [errW_none,errW_some] <;> rfl))|(simp [*,errW_none,errW_some] <;> rfl),by repeat (first|(with_reducible first|exact HB.out|apply below_alloc|apply pw_below_drewN|apply below_drew1)|exact HB.out)⟩
             ·rw [if_neg c24] at H
              exact absurd H (by simp)
            ·rw [if_neg c22] at H
             exact absurd H (by simp)
           ·rw [if_neg c21] at H
            exact absurd H (by simp)
          ·rw [if_neg c20] at H
           exact absurd H (by simp)
         ·rw [if_neg c18] at H
          exact absurd H (by simp)
        ·rw [if_neg c17] at H
         exact absurd H (by simp)
       ·rw [if_neg c15] at H
        exact absurd H (by simp)
 ·replace c6:=Bool.eq_false_iff.mpr c6
  subst c6
  have H1 : (some false) = some r:=by rw [if_neg (show ¬ (false = true) by decide)] at H;exact H
  clear H;have H:=H1;clear H1
  obtain rfl:=Option.some.inj H
  go_enter Tryz.func7,Tryz.ntmps7
  go_wp2_with (first|((with_reducible refine gate_callee (f:=16) rfl ?_);refine goesL_ (some 25) rfl rfl Tryz.func16 (by kernel_rfl) rfl #[] rfl (by (try simp only [List.map_toArray,List.map_cons,List.map_nil]);first|done|rfl|(simp only [List.length_drop,List.length_take];rfl)) ?_;(with_reducible refine (bursarlaw03_known.calls k  false _ A5.out (Glob.below hG (by repeat (first|(with_reducible first|exact HB.out|apply below_alloc|apply pw_below_drewN|apply below_drew1)|exact HB.out)))).mono ?_);rintro e w117 ⟨rfl,hb⟩;refine ⟨_,rfl,?_⟩;have n0_:=Aside0.mk (below_step (by repeat (first|(with_reducible first|exact HB.out|apply below_alloc|apply pw_below_drewN|apply below_drew1)|exact HB.out)) hb);clear HB;have HB:=n0_;clear n0_;(try clear hb);(try clear hb2);(try clear hk);(try clear hi)))
  go_ret
  exact ⟨by first|rfl|(simp [errW_none,errW_some] <;> rfl)|(simp [*,errW_none,errW_some] <;> rfl),by repeat (first|(with_reducible first|exact HB.out|apply below_alloc|apply pw_below_drewN|apply below_drew1)|exact HB.out)⟩
end Go.Proofs.YtejgbdclhlolkaaGreatDoor.Q
namespace Go.Proofs.YtejgbdclhlolkaaGreatDoor.Q
open Go.RowKit Go.Proofs.YtejgbdclhlolkaaGreatDoorW.PrintWords Go.Proofs.YtejgbdclhlolkaaGreatDoorW.PrintLast Go.Proofs.YtejgbdclhlolkaaGreatDoorW.PrintMore
attribute [local go_sem] max2_int min2_int max_two min_two max_three min_three max_four min_four   -- for this text's walks alone
set_option linter.unusedVariables false
set_option linter.unusedSimpArgs false
mutual
def bursarlaw03_QuantBack.j0 : Nat → Int → ByteArray → Bool → Option (Bool)
 | 0, _, _, _ => none
 | k + 1, x0, x3, x41 => if x41 = true then (some false) else ((bursarlaw03_factors.f).bind fun bt224 => (bursarlaw03_QuantBack.l0 k x0 x3 bt224.1 bt224.2 0))
def bursarlaw03_QuantBack.l0 : Nat → Int → ByteArray → List ByteArray → List Int → Int → Option (Bool)
 | 0, _, _, _, _, _ => none
 | k + 1, x0, x3, x6, x7, x8 => if x8 < (x7.length : Int) then (bursarlaw03_QuantBack.j2 k x0 x3 x6 x7 x8 ((Int.tmod x0 1000) == 0)) else (bursarlaw03_QuantBack.j2 k x0 x3 x6 x7 x8 false)
def bursarlaw03_QuantBack.j2 : Nat → Int → ByteArray → List ByteArray → List Int → Int → Bool → Option (Bool)
 | 0, _, _, _, _, _, _ => none
 | k + 1, x0, x3, x6, x7, x8, x54 => if x54 = true then (if 0 ≤ x8 then (if x8 < (x7.length : Int) then (if (rd x7 x8) = 0 then (none) else (if (Int.tmod (wrap64 (Int.tdiv x0 1000)) (rd x7 x8)) = 0 then ((strconv_FormatInt.f (wrap64 (Int.tdiv (wrap64 (Int.tdiv x0 1000)) (rd x7 x8))) 10).bind fun t232 => (if x8 < (x6.length : Int) then (if (wrap64 ((t232.size : Int) + ((rdOf ByteArray.empty x6 x8).size : Int))) < (x3.size : Int) then (some false) else (bursarlaw03_QuantBack.l0 k x0 x3 x6 x7 (wrap64 (x8 + 1)))) else (none))) else (bursarlaw03_QuantBack.l0 k x0 x3 x6 x7 (wrap64 (x8 + 1))))) else (none)) else (none)) else (some true)
end
def bursarlaw03_QuantBack.f (k : Nat) (a0 : Int) : Option (Bool) := (bursarlaw03_known.f k).bind fun t219 => (if t219 = true then ((quant_Print.f k a0).bind fun t220 => (if a0 < 0 then (some (t220.toList == ([] : List UInt8))) else ((quant_Parse.f k t220).bind fun bt221 => (if bt221.2 = 0 then (if bt221.1 = a0 then (if t220.toList = ([] : List UInt8) then (bursarlaw03_QuantBack.j0 k a0 t220 true) else ((strconv_FormatInt.f a0 10).bind fun t223 => (bursarlaw03_QuantBack.j0 k a0 t220 (decide ((t220.size : Int) > (wrap64 ((t223.size : Int) + 1))))))) else (bursarlaw03_QuantBack.j0 k a0 t220 true)) else (bursarlaw03_QuantBack.j0 k a0 t220 true))))) else (some false))
theorem bursarlaw03_QuantBack.mono_l : ∀ k, (∀ y0 y1 y2, LeO (bursarlaw03_QuantBack.j0 k y0 y1 y2) (bursarlaw03_QuantBack.j0 (k + 1) y0 y1 y2)) ∧ (∀ y0 y1 y2 y3 y4, LeO (bursarlaw03_QuantBack.l0 k y0 y1 y2 y3 y4) (bursarlaw03_QuantBack.l0 (k + 1) y0 y1 y2 y3 y4)) ∧ (∀ y0 y1 y2 y3 y4 y5, LeO (bursarlaw03_QuantBack.j2 k y0 y1 y2 y3 y4 y5) (bursarlaw03_QuantBack.j2 (k + 1) y0 y1 y2 y3 y4 y5))
 | 0 => ⟨fun _ _ _ r h => by simp [bursarlaw03_QuantBack.j0] at h, fun _ _ _ _ _ r h => by simp [bursarlaw03_QuantBack.l0] at h, fun _ _ _ _ _ _ r h => by simp [bursarlaw03_QuantBack.j2] at h⟩
 | k + 1 => by
  obtain ⟨ih0, ih1, ih2⟩ := bursarlaw03_QuantBack.mono_l k
  refine ⟨?_, ?_, ?_⟩
  ·intro y0 y1 y2
   unfold bursarlaw03_QuantBack.j0
   repeat' first
   | (with_reducible exact ih0 _ _ _)
   | (with_reducible exact ih1 _ _ _ _ _)
   | (with_reducible exact ih2 _ _ _ _ _ _)
   | (with_reducible exact bursarlaw03_known.mono _)
   | (with_reducible exact quant_Parse.mono _ _)
   | (with_reducible exact quant_Print.mono _ _)
   | (with_reducible exact LeO.refl _)
   | (with_reducible exact LeO.none _)
   | (with_reducible refine LeO.ite ?_ ?_)
   | (with_reducible refine LeO.bind ?_ (fun _ => ?_))
   | exact ih0 _ _ _
   | exact ih1 _ _ _ _ _
   | exact ih2 _ _ _ _ _ _
   | exact bursarlaw03_known.mono _
   | exact quant_Parse.mono _ _
   | exact quant_Print.mono _ _
   | exact LeO.none _
   | refine LeO.ite ?_ ?_
   | refine LeO.bind ?_ (fun _ => ?_)
  ·intro y0 y1 y2 y3 y4
   unfold bursarlaw03_QuantBack.l0
   repeat' first
   | (with_reducible exact ih0 _ _ _)
   | (with_reducible exact ih1 _ _ _ _ _)
   | (with_reducible exact ih2 _ _ _ _ _ _)
   | (with_reducible exact bursarlaw03_known.mono _)
   | (with_reducible exact quant_Parse.mono _ _)
   | (with_reducible exact quant_Print.mono _ _)
   | (with_reducible exact LeO.refl _)
   | (with_reducible exact LeO.none _)
   | (with_reducible refine LeO.ite ?_ ?_)
   | (with_reducible refine LeO.bind ?_ (fun _ => ?_))
   | exact ih0 _ _ _
   | exact ih1 _ _ _ _ _
   | exact ih2 _ _ _ _ _ _
   | exact bursarlaw03_known.mono _
   | exact quant_Parse.mono _ _
   | exact quant_Print.mono _ _
   | exact LeO.none _
   | refine LeO.ite ?_ ?_
   | refine LeO.bind ?_ (fun _ => ?_)
  ·intro y0 y1 y2 y3 y4 y5
   unfold bursarlaw03_QuantBack.j2
   repeat' first
   | (with_reducible exact ih0 _ _ _)
   | (with_reducible exact ih1 _ _ _ _ _)
   | (with_reducible exact ih2 _ _ _ _ _ _)
   | (with_reducible exact bursarlaw03_known.mono _)
   | (with_reducible exact quant_Parse.mono _ _)
   | (with_reducible exact quant_Print.mono _ _)
   | (with_reducible exact LeO.refl _)
   | (with_reducible exact LeO.none _)
   | (with_reducible refine LeO.ite ?_ ?_)
   | (with_reducible refine LeO.bind ?_ (fun _ => ?_))
   | exact ih0 _ _ _
   | exact ih1 _ _ _ _ _
   | exact ih2 _ _ _ _ _ _
   | exact bursarlaw03_known.mono _
   | exact quant_Parse.mono _ _
   | exact quant_Print.mono _ _
   | exact LeO.none _
   | refine LeO.ite ?_ ?_
   | refine LeO.bind ?_ (fun _ => ?_)
theorem bursarlaw03_QuantBack.mono : ∀ a0 k, LeO (bursarlaw03_QuantBack.f k a0) (bursarlaw03_QuantBack.f (k + 1) a0) := by
 intro a0 k
 obtain ⟨ih0, ih1, ih2⟩ := bursarlaw03_QuantBack.mono_l k
 unfold bursarlaw03_QuantBack.f
 repeat' first
   | (with_reducible exact ih0 _ _ _)
   | (with_reducible exact ih1 _ _ _ _ _)
   | (with_reducible exact ih2 _ _ _ _ _ _)
   | (with_reducible exact bursarlaw03_known.mono _)
   | (with_reducible exact quant_Parse.mono _ _)
   | (with_reducible exact quant_Print.mono _ _)
   | (with_reducible exact LeO.refl _)
   | (with_reducible exact LeO.none _)
   | (with_reducible refine LeO.ite ?_ ?_)
   | (with_reducible refine LeO.bind ?_ (fun _ => ?_))
   | exact ih0 _ _ _
   | exact ih1 _ _ _ _ _
   | exact ih2 _ _ _ _ _ _
   | exact bursarlaw03_known.mono _
   | exact quant_Parse.mono _ _
   | exact quant_Print.mono _ _
   | exact LeO.none _
   | refine LeO.ite ?_ ?_
   | refine LeO.bind ?_ (fun _ => ?_)
end Go.Proofs.YtejgbdclhlolkaaGreatDoor.Q
namespace Go.Proofs.YtejgbdclhlolkaaGreatDoor.Q
open Go.RowKit Go.Proofs.YtejgbdclhlolkaaGreatDoorW.PrintWords Go.Proofs.YtejgbdclhlolkaaGreatDoorW.PrintLast
set_option linter.unusedVariables false
set_option linter.unusedSimpArgs false
set_option maxRecDepth 100000 in
theorem known_at : bursarlaw03_known.f 60 = some true := by decide +kernel
theorem known_ev : Ev (fun k => bursarlaw03_known.f k) true := Ev.of bursarlaw03_known.mono known_at
end Go.Proofs.YtejgbdclhlolkaaGreatDoor.Q
namespace Go.Proofs.YtejgbdclhlolkaaGreatDoor.Q
open Go.RowKit Go.Proofs.YtejgbdclhlolkaaGreatDoorW.PrintWords Go.Proofs.YtejgbdclhlolkaaGreatDoorW.PrintLast Go.Proofs.YtejgbdclhlolkaaGreatDoorW.PrintMore
attribute [local go_sem] max2_int min2_int max_two min_two max_three min_three max_four min_four   -- for this text's walks alone
set_option linter.unusedVariables false
set_option linter.unusedSimpArgs false
def quant_Scale.j0 : Nat → Int → Int → Int → Bool → Option (Int × Int)
  | 0, _, _, _, _ => none
  | k + 1, x0, x1, x2, x19 => if x19 = true then (some (0, 1)) else ((bits_Mul64.f (IntKind.u64.wrap (x0)) (IntKind.u64.wrap (x1))).bind fun bt276 => ((quant_over.f k bt276.1 bt276.2 (IntKind.u64.wrap (x2))).bind fun bt278 => (some (bt278.1, bt278.2))))
def quant_Scale.f (k : Nat) (a0 : Int) (a1 : Int) (a2 : Int) : Option (Int × Int) := if a0 < 0 then (quant_Scale.j0 k a0 a1 a2 true) else (if a1 < 0 then (quant_Scale.j0 k a0 a1 a2 true) else (quant_Scale.j0 k a0 a1 a2 (decide (a2 < 1))))
theorem quant_Scale.mono_l : ∀ k, (∀ y0 y1 y2 y3, LeO (quant_Scale.j0 k y0 y1 y2 y3) (quant_Scale.j0 (k + 1) y0 y1 y2 y3))
  | 0 => fun _ _ _ _ r h => by simp [quant_Scale.j0] at h
  | k + 1 => by
    have ih0 := quant_Scale.mono_l k
    · intro y0 y1 y2 y3
      unfold quant_Scale.j0
      repeat' first
      | (with_reducible exact ih0 _ _ _ _)
      | (with_reducible exact quant_over.mono _ _ _ _)
      | (with_reducible exact LeO.refl _)
      | (with_reducible exact LeO.none _)
      | (with_reducible refine LeO.ite ?_ ?_)
      | (with_reducible refine LeO.bind ?_ (fun _ => ?_))
      | exact ih0 _ _ _ _
      | exact quant_over.mono _ _ _ _
      | exact LeO.none _
      | refine LeO.ite ?_ ?_
      | refine LeO.bind ?_ (fun _ => ?_)
theorem quant_Scale.mono : ∀ a0 a1 a2 k, LeO (quant_Scale.f k a0 a1 a2) (quant_Scale.f (k + 1) a0 a1 a2) := by
  intro a0 a1 a2 k
  have ih0 := quant_Scale.mono_l k
  unfold quant_Scale.f
  repeat' first
      | (with_reducible exact ih0 _ _ _ _)
      | (with_reducible exact quant_over.mono _ _ _ _)
      | (with_reducible exact LeO.refl _)
      | (with_reducible exact LeO.none _)
      | (with_reducible refine LeO.ite ?_ ?_)
      | (with_reducible refine LeO.bind ?_ (fun _ => ?_))
      | exact ih0 _ _ _ _
      | exact quant_over.mono _ _ _ _
      | exact LeO.none _
      | refine LeO.ite ?_ ?_
      | refine LeO.bind ?_ (fun _ => ?_)
end Go.Proofs.YtejgbdclhlolkaaGreatDoor.Q
namespace Go.Proofs.DivLaw
set_option linter.unusedVariables false
set_option linter.unusedSimpArgs false
theorem digit_is (v1 v0 u n q r : Nat) (hq : q * v1 + r = u) (h : q * v0 ≤ 4294967296 * r + n) (hge : (u * 4294967296 + n) / (v1 * 4294967296 + v0) ≤ q) (hv : 0 < v1) :
    q = (u * 4294967296 + n) / (v1 * 4294967296 + v0) := by
  refine Nat.le_antisymm ?_ hge
  rw [Nat.le_div_iff_mul_le (by omega)]
  have e : q * (v1 * 4294967296 + v0) = (q * v1) * 4294967296 + q * v0 := by rw [Nat.mul_add, Nat.mul_assoc]
  rw [e]
  generalize q * v1 = p at *
  generalize q * v0 = s at *
  omega
theorem digit_less (v1 v0 u n q r : Nat) (hq : q * v1 + r = u) (h : 4294967296 * r + n < q * v0) (hv : 0 < v1) :
    (u * 4294967296 + n) / (v1 * 4294967296 + v0) < q := by
  rw [Nat.div_lt_iff_lt_mul (by omega)]
  have e : q * (v1 * 4294967296 + v0) = (q * v1) * 4294967296 + q * v0 := by rw [Nat.mul_add, Nat.mul_assoc]
  rw [e]
  generalize q * v1 = p at *
  generalize q * v0 = s at *
  omega
theorem digit_big (v1 v0 u n : Nat) (hu : u < v1 * 4294967296 + v0) (hn : n < 4294967296) (hv : 0 < v1) :
    (u * 4294967296 + n) / (v1 * 4294967296 + v0) < 4294967296 := by
  rw [Nat.div_lt_iff_lt_mul (by omega)]
  omega
theorem guess_le (v1 v0 u : Nat) (hu : u < v1 * 4294967296 + v0) (h0 : v0 < 4294967296) (hv : 2147483648 ≤ v1) : u / v1 ≤ 4294967297 := by
  have : u / v1 < 4294967298 := by
    rw [Nat.div_lt_iff_lt_mul (by omega)]
    omega
  omega
theorem guess_ge (v1 v0 u n : Nat) (hn : n < 4294967296) (hv : 0 < v1) : (u * 4294967296 + n) / (v1 * 4294967296 + v0) ≤ u / v1 := by
  rw [Nat.le_div_iff_mul_le hv]
  have h := Nat.div_mul_le_self (u * 4294967296 + n) (v1 * 4294967296 + v0)
  generalize (u * 4294967296 + n) / (v1 * 4294967296 + v0) = q at *
  have e : q * (v1 * 4294967296 + v0) = (q * v1) * 4294967296 + q * v0 := by rw [Nat.mul_add, Nat.mul_assoc]
  rw [e] at h
  generalize q * v1 = p at *
  generalize q * v0 = s at *
  omega
theorem two_digits (V u n m q1 q0 : Nat) (hV : 0 < V) (h1 : q1 = (u * 4294967296 + n) / V) (h0 : q0 = ((u * 4294967296 + n - q1 * V) * 4294967296 + m) / V) (hm : m < 4294967296) :
    q1 * 4294967296 + q0 = (u * 18446744073709551616 + n * 4294967296 + m) / V ∧
    (u * 4294967296 + n - q1 * V) * 4294967296 + m - q0 * V = (u * 18446744073709551616 + n * 4294967296 + m) % V := by
  have hd1 : q1 * V ≤ u * 4294967296 + n := by rw [h1]; exact Nat.div_mul_le_self _ _
  have hd0 : q0 * V ≤ (u * 4294967296 + n - q1 * V) * 4294967296 + m := by rw [h0]; exact Nat.div_mul_le_self _ _
  have hl0 : (u * 4294967296 + n - q1 * V) * 4294967296 + m < q0 * V + V := by
    have := Nat.lt_div_mul_add hV (a := (u * 4294967296 + n - q1 * V) * 4294967296 + m)
    rw [← h0] at this
    exact this
  have e : (q1 * 4294967296 + q0) * V = (q1 * V) * 4294967296 + q0 * V := by rw [Nat.add_mul, Nat.mul_right_comm]
  have hN : u * 18446744073709551616 + n * 4294967296 + m = (q1 * 4294967296 + q0) * V + ((u * 4294967296 + n - q1 * V) * 4294967296 + m - q0 * V) := by
    rw [e]
    generalize q1 * V = p at *
    generalize q0 * V = s at *
    omega
  have hr : (u * 4294967296 + n - q1 * V) * 4294967296 + m - q0 * V < V := by
    generalize q1 * V = p at *
    generalize q0 * V = s at *
    omega
  constructor
  · rw [hN, Nat.mul_comm (q1 * 4294967296 + q0) V, Nat.mul_add_div hV, Nat.div_eq_of_lt hr, Nat.add_zero]
  · rw [hN, Nat.mul_comm (q1 * 4294967296 + q0) V, Nat.mul_add_mod, Nat.mod_eq_of_lt hr]
end Go.Proofs.DivLaw
