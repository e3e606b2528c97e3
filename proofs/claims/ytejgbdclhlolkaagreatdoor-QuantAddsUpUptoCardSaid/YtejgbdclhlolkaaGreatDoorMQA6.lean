/- What the statement QuantAddsUpUptoCardSaid rests on, part 6 of 7: walks and plain laws; what of the printer's words it leans on. -/
import Derived.Test.YtejgbdclhlolkaaGreatDoorMQA3
import Derived.Test.YtejgbdclhlolkaaGreatDoorMQA4
import Derived.Test.YtejgbdclhlolkaaGreatDoorMQA5
import Derived.BigQuiet
namespace Go.Proofs.YtejgbdclhlolkaaGreatDoor.Q
open Go.RowKit Go.Proofs.YtejgbdclhlolkaaGreatDoorW.PrintWords Go.Proofs.YtejgbdclhlolkaaGreatDoorW.PrintLast Go.Proofs.YtejgbdclhlolkaaGreatDoorW.PrintMore
attribute [local go_sem] max2_int min2_int max_two min_two max_three min_three max_four min_four   -- for this text's walks alone
set_option linter.unusedVariables false
set_option linter.unusedSimpArgs false
set_option maxHeartbeats 64000000 in
set_option maxRecDepth 100000 in
theorem bursarlaw03_QuantAddsUp.calls (k : Nat) (A0 : Option Addr) (c0 : Nat) (l0 : List (S57)) (A1 : Option Addr) (c1 : Nat) (l1 : List (S57)) (A2 : Option Addr) (c2 : Nat) (l2 : List (S57)) (r : Bool) (w : World) (hr0 : Kd.C k57 w A0 l0.length l0) (hc0 : l0.length ≤ c0) (hr1 : Kd.C k57 w A1 l1.length l1) (hc1 : l1.length ≤ c1) (hr2 : Kd.C k57 w A2 l2.length l2) (hc2 : l2.length ≤ c2) (h : bursarlaw03_QuantAddsUp.f k l0 l1 l2 = some r) (hG : GlobM w) :
  Calls Tryz.prog 14 #[.slice A0 l0.length c0,.slice A1 l1.length c1,.slice A2 l2.length c2] w fun e w' => e = .returned (.bool r) ∧ Below w.heap.size w w':=by
 have hu57:=Tryz.underlying57
 have HR0:=Aside0.mk hr0
 have HC0:=Aside0.mk hc0
 clear hr0 hc0
 have HR1:=Aside0.mk hr1
 have HC1:=Aside0.mk hc1
 clear hr1 hc1
 have HR2:=Aside0.mk hr2
 have HC2:=Aside0.mk hc2
 clear hr2 hc2
 have HB:=Aside0.mk (Below.refl w.heap.size w)
 have H : ((bursarlaw03_known.f k).bind fun t553 => (if t553 = true then ((bursarlaw03_added.f k l0 l1).bind fun bt554 => ((bursarlaw03_added.f k l1 l0).bind fun bt558 => (if bt554.2 = bt558.2 then ((bursarlaw03_same.f k bt554.1 bt558.1).bind fun t562 => (bursarlaw03_QuantAddsUp.j0 k l0 l1 l2 bt554.1 bt554.2 (!t562))) else (bursarlaw03_QuantAddsUp.j0 k l0 l1 l2 bt554.1 bt554.2 true)))) else (some false))) = some r:=h
 clear h
 replace H:=Option.bind_eq_some_iff.mp H
 obtain ⟨t553,A40,H⟩:=H
 replace H : (if t553 = true then ((bursarlaw03_added.f k l0 l1).bind fun bt554 => ((bursarlaw03_added.f k l1 l0).bind fun bt558 => (if bt554.2 = bt558.2 then ((bursarlaw03_same.f k bt554.1 bt558.1).bind fun t562 => (bursarlaw03_QuantAddsUp.j0 k l0 l1 l2 bt554.1 bt554.2 (!t562))) else (bursarlaw03_QuantAddsUp.j0 k l0 l1 l2 bt554.1 bt554.2 true)))) else (some false)) = some r:=H
 have A4:=Aside0.mk A40
 clear A40
 by_cases c5 : t553 = true
 ·subst c5
  have H1 : ((bursarlaw03_added.f k l0 l1).bind fun bt554 => ((bursarlaw03_added.f k l1 l0).bind fun bt558 => (if bt554.2 = bt558.2 then ((bursarlaw03_same.f k bt554.1 bt558.1).bind fun t562 => (bursarlaw03_QuantAddsUp.j0 k l0 l1 l2 bt554.1 bt554.2 (!t562))) else (bursarlaw03_QuantAddsUp.j0 k l0 l1 l2 bt554.1 bt554.2 true)))) = some r:=by rw [if_pos rfl] at H;exact H
  clear H;have H:=H1;clear H1
  replace H:=Option.bind_eq_some_iff.mp H
  obtain ⟨⟨t554,t555⟩,A60,H⟩:=H
  replace H : ((bursarlaw03_added.f k l1 l0).bind fun bt558 => (if t555 = bt558.2 then ((bursarlaw03_same.f k t554 bt558.1).bind fun t562 => (bursarlaw03_QuantAddsUp.j0 k l0 l1 l2 t554 t555 (!t562))) else (bursarlaw03_QuantAddsUp.j0 k l0 l1 l2 t554 t555 true))) = some r:=H
  have A6:=Aside0.mk A60
  clear A60
  replace H:=Option.bind_eq_some_iff.mp H
  obtain ⟨⟨t558,t559⟩,A70,H⟩:=H
  replace H : (if t555 = t559 then ((bursarlaw03_same.f k t554 t558).bind fun t562 => (bursarlaw03_QuantAddsUp.j0 k l0 l1 l2 t554 t555 (!t562))) else (bursarlaw03_QuantAddsUp.j0 k l0 l1 l2 t554 t555 true)) = some r:=H
  have A7:=Aside0.mk A70
  clear A70
  have HC8:=Aside0.mk H
  clear H
  go_enter Tryz.func14,Tryz.ntmps14
  go_upto_region 5 with (first|((with_reducible refine gate_callee (f:=16) rfl ?_);refine goesL_ (some 30) rfl rfl Tryz.func16 (by kernel_rfl) rfl #[] rfl (by (try simp only [List.map_toArray,List.map_cons,List.map_nil]);first|done|rfl|(simp only [List.length_drop,List.length_take];rfl)) ?_;(with_reducible refine (bursarlaw03_known.calls k  true _ A4.out (Glob.below hG.toGlob (by repeat (first|(with_reducible first|exact HB.out|apply below_alloc|apply pw_below_drewN|apply below_drew1)|exact HB.out)))).mono ?_);rintro e w9 ⟨rfl,hb⟩;refine ⟨_,rfl,?_⟩;have n0_:=Aside0.mk (below_step (by repeat (first|(with_reducible first|exact HB.out|apply below_alloc|apply pw_below_drewN|apply below_drew1)|exact HB.out)) hb);clear HB;have HB:=n0_;clear n0_;(try clear hb);(try clear hb2);(try clear hk);(try clear hi))|((with_reducible refine gate_callee (f:=43) rfl ?_);refine goesL_ (some 35) rfl rfl Tryz.func43 (by kernel_rfl) rfl #[.slice A0 l0.length c0,.slice A1 l1.length c1] rfl (by (try simp only [List.map_toArray,List.map_cons,List.map_nil]);first|done|rfl|(simp only [List.length_drop,List.length_take];rfl)) ?_;(with_reducible refine (bursarlaw03_added.calls k _ _ l0 _ _ l1 t554 t555 _ ?side1 ?side2 ?side3 ?side4 A6.out (GlobM.below hG (by repeat (first|(with_reducible first|exact HB.out|apply below_alloc|apply pw_below_drewN|apply below_drew1)|exact HB.out)))).mono ?_);(case side1 => repeat (first|exact (Kd.C_below HR0.out HB.out)|(with_reducible refine Kd.C_alloc ?_ _)|(with_reducible refine Kd.C_drewN ?_ _)|(with_reducible refine Kd.C_drew ?_)));(case side2 => exact HC0.out);(case side3 => repeat (first|exact (Kd.C_below HR1.out HB.out)|(with_reducible refine Kd.C_alloc ?_ _)|(with_reducible refine Kd.C_drewN ?_ _)|(with_reducible refine Kd.C_drew ?_)));(case side4 => exact HC1.out);rintro e w10 ⟨v556,rfl,ho0,hb⟩;refine ⟨_,rfl,?_⟩;have n0_:=Aside0.mk (Kd.R_lower ho0 (below_size (by repeat (first|(with_reducible first|exact HB.out|apply below_alloc|apply pw_below_drewN|apply below_drew1)|exact HB.out))));have n1_:=Aside0.mk (below_step (by repeat (first|(with_reducible first|exact HB.out|apply below_alloc|apply pw_below_drewN|apply below_drew1)|exact HB.out)) hb);clear HB;have HO557:=n0_;have HB:=n1_;clear n0_ n1_;(try clear hb);(try clear hb2);(try clear hk);(try clear hi);(try clear ho0))|((with_reducible refine gate_callee (f:=43) rfl ?_);refine goesL_ (some 41) rfl rfl Tryz.func43 (by kernel_rfl) rfl #[.slice A1 l1.length c1,.slice A0 l0.length c0] rfl (by (try simp only [List.map_toArray,List.map_cons,List.map_nil]);first|done|rfl|(simp only [List.length_drop,List.length_take];rfl)) ?_;(with_reducible refine (bursarlaw03_added.calls k _ _ l1 _ _ l0 t558 t559 _ ?side1 ?side2 ?side3 ?side4 A7.out (GlobM.below hG (by repeat (first|(with_reducible first|exact HB.out|apply below_alloc|apply pw_below_drewN|apply below_drew1)|exact HB.out)))).mono ?_);(case side1 => repeat (first|exact (Kd.C_below HR1.out HB.out)|(with_reducible refine Kd.C_alloc ?_ _)|(with_reducible refine Kd.C_drewN ?_ _)|(with_reducible refine Kd.C_drew ?_)));(case side2 => exact HC1.out);(case side3 => repeat (first|exact (Kd.C_below HR0.out HB.out)|(with_reducible refine Kd.C_alloc ?_ _)|(with_reducible refine Kd.C_drewN ?_ _)|(with_reducible refine Kd.C_drew ?_)));(case side4 => exact HC0.out);rintro e w11 ⟨v560,rfl,ho0,hb⟩;refine ⟨_,rfl,?_⟩;have n0_:=Aside0.mk (Kd.R_elder' (by (with_reducible repeat (first|apply Kd.R_alloc|apply Kd.R_drewN|apply Kd.R_drew));exact HO557.out) (Kd.R_base ho0) hb);have n1_:=Aside0.mk (Kd.R_lower (Kd.R_new' ho0 (Kd.R_lt (by (with_reducible repeat (first|apply Kd.R_alloc|apply Kd.R_drewN|apply Kd.R_drew));exact HO557.out))) (below_size (by repeat (first|(with_reducible first|exact HB.out|apply below_alloc|apply pw_below_drewN|apply below_drew1)|exact HB.out))));have n2_:=Aside0.mk (below_step (by repeat (first|(with_reducible first|exact HB.out|apply below_alloc|apply pw_below_drewN|apply below_drew1)|exact HB.out)) hb);clear HO557;clear HB;have HO557:=n0_;have HO561:=n1_;have HB:=n2_;clear n0_ n1_ n2_;(try clear hb);(try clear hb2);(try clear hk);(try clear hi);(try clear ho0)))
  (try simp only [Act.put,List.setIfInBounds_toArray,List.set_cons_zero,List.set_cons_succ])
  go_cut [52] (fun v52 wc => ∃ (kq : Nat) (x52_7 : Bool),v52 = .bool x52_7 ∧ Aside0 (bursarlaw03_QuantAddsUp.j0 kq l0 l1 l2 t554 t555 x52_7 = some r) ∧ Aside0 (kq ≤ k) ∧ Aside0 (Kd.R k57 57 wc w.heap.size (fun _ => True) v556 t554) ∧ Aside0 (Below w.heap.size w wc))
  case first => as_aux_lemma =>
   have H:=HC8.out
   clear HC8
   by_cases c12 : t555 = t559
   ·rw [if_pos c12] at H
    have c12b0 : (t555 == t559) = true:=beq_iff_eq.mpr c12
    have c12b1 : (t555 != t559) = false:=bne_eq_false_iff_eq.mpr c12
    clear c12
    (first|rw [c12b0]|(simp only [i64_w,i32_w];rw [c12b0])|skip)
    replace H:=Option.bind_eq_some_iff.mp H
    obtain ⟨t562,A130,H⟩:=H
    replace H : (bursarlaw03_QuantAddsUp.j0 k l0 l1 l2 t554 t555 (!t562)) = some r:=H
    have A13:=Aside0.mk A130
    clear A130
    have H':=Aside0.mk H
    clear H
    obtain ⟨Ao14,co14,eo14⟩:=Kd.R_slice HO557.out
    subst eo14
    obtain ⟨Ao15,co15,eo15⟩:=Kd.R_slice HO561.out
    subst eo15
    go_wp2_with (first|(go_at_call 39;(with_reducible refine (bursarlaw03_same.calls k _ _ t554 _ _ t558 t562 _ ?side1 ?side2 ?side3 ?side4 A13.out).mono ?_);(case side1 => repeat (first|exact (Kd.R_reads' HO557.out).2.2|(with_reducible refine Kd.C_alloc ?_ _)|(with_reducible refine Kd.C_drewN ?_ _)|(with_reducible refine Kd.C_drew ?_)));(case side2 => exact (Kd.R_reads' HO557.out).2.1);(case side3 => repeat (first|exact (Kd.R_reads' HO561.out).2.2|(with_reducible refine Kd.C_alloc ?_ _)|(with_reducible refine Kd.C_drewN ?_ _)|(with_reducible refine Kd.C_drew ?_)));(case side4 => exact (Kd.R_reads' HO561.out).2.1);rintro e w' ⟨rfl,⟨nd,rfl⟩⟩))
    go_meet
    case rel => exact ⟨_,(!t562),(by first|rfl|(simp;done)|(simp [*];done)|(simp;rw [Bool.eq_iff_iff];simp;done)|(rw [Bool.eq_iff_iff];simp;done)),H',⟨by first|omega|exact Nat.le_refl _⟩,⟨by (with_reducible repeat (first|apply Kd.R_alloc|apply Kd.R_drewN|apply Kd.R_drew));exact Kd.R_mono HO557.out (fun _ hk => trivial)⟩,⟨by repeat (first|(with_reducible first|exact HB.out|apply below_alloc|apply pw_below_drewN|apply below_drew1)|exact HB.out)⟩⟩
   ·rw [if_neg c12] at H
    have c12b0 : (t555 == t559) = false:=beq_eq_false_iff_ne.mpr c12
    have c12b1 : (t555 != t559) = true:=bne_iff_ne.mpr c12
    (first|rw [c12b0]|(simp only [i64_w,i32_w];rw [c12b0])|skip)
    have H':=Aside0.mk H
    clear H
    go_wp2
    go_meet
    case rel => exact ⟨_,(true),(by first|rfl|(simp;done)|(simp [*];done)|(simp;rw [Bool.eq_iff_iff];simp;done)|(rw [Bool.eq_iff_iff];simp;done)),H',⟨by first|omega|exact Nat.le_refl _⟩,⟨by (with_reducible repeat (first|apply Kd.R_alloc|apply Kd.R_drewN|apply Kd.R_drew));exact Kd.R_mono HO557.out (fun _ hk => trivial)⟩,⟨by repeat (first|(with_reducible first|exact HB.out|apply below_alloc|apply pw_below_drewN|apply below_drew1)|exact HB.out)⟩⟩
  case rest => as_aux_lemma =>
   clear HC8;(try clear c1);(try clear c2);(try clear p2);(try clear c4);(try clear c5);(try clear c12);(try clear c12b0);(try clear c12b1);(try clear c14)
   obtain ⟨kq,x52_7,rfl,HA,HJ7,HO_7,HB⟩:=hcut
   cases kq with
  |zero => exact absurd HA.out (by simp [bursarlaw03_QuantAddsUp.j0])
  |succ kj7 =>
    have H:=HA.out
    clear HA
    simp only [bursarlaw03_QuantAddsUp.j0] at H
    by_cases c16 : x52_7 = true
    ·subst c16
     have H1 : (some false) = some r:=by rw [if_pos rfl] at H;exact H
     clear H;have H:=H1;clear H1
     obtain rfl:=Option.some.inj H
     go_wp2
     go_ret
     exact ⟨by first|rfl|(simp [errW_none,errW_some] <;> rfl)|(simp [*,errW_none,errW_some] <;> rfl),by repeat (first|(with_reducible first|exact HB.out|apply below_alloc|apply pw_below_drewN|apply below_drew1)|exact HB.out)⟩
    ·replace c16:=Bool.eq_false_iff.mpr c16
     subst c16
     have H1 : ((quant_Valid.f kj7 l0).bind fun t563 => (if t563 = 0 then ((quant_Valid.f kj7 l1).bind fun t564 => (bursarlaw03_QuantAddsUp.j1 kj7 l0 l1 l2 t554 t555 (t564 != 0))) else (bursarlaw03_QuantAddsUp.j1 kj7 l0 l1 l2 t554 t555 true))) = some r:=by rw [if_neg (show ¬ (false = true) by decide)] at H;exact H
     clear H;have H:=H1;clear H1
     have HC17:=Aside0.mk H
     clear H
     go_upto_region 7 with (fail)
     go_cut [60] (fun v60 wc => ∃ (kq : Nat) (x60_16 : Bool),v60 = .bool x60_16 ∧ Aside0 (bursarlaw03_QuantAddsUp.j1 kq l0 l1 l2 t554 t555 x60_16 = some r) ∧ Aside0 (kq ≤ kj7) ∧ Aside0 (Kd.R k57 57 wc w.heap.size (fun _ => True) v556 t554) ∧ Aside0 (Below w.heap.size w wc))
     case first => as_aux_lemma =>
      have H:=HC17.out
      clear HC17
      replace H:=Option.bind_eq_some_iff.mp H
      obtain ⟨t563,A180,H⟩:=H
      replace H : (if t563 = 0 then ((quant_Valid.f kj7 l1).bind fun t564 => (bursarlaw03_QuantAddsUp.j1 kj7 l0 l1 l2 t554 t555 (t564 != 0))) else (bursarlaw03_QuantAddsUp.j1 kj7 l0 l1 l2 t554 t555 true)) = some r:=H
      have A18:=Aside0.mk A180
      clear A180
      by_cases c19 : t563 = 0
      ·rw [if_pos c19] at H
       have c19b0 : (t563 == 0) = true:=beq_iff_eq.mpr c19
       have c19b1 : (t563 != 0) = false:=bne_eq_false_iff_eq.mpr c19
       clear c19
       (first|rw [c19b0]|(simp only [i64_w,i32_w];rw [c19b0])|skip)
       replace H:=Option.bind_eq_some_iff.mp H
       obtain ⟨t564,A200,H⟩:=H
       replace H : (bursarlaw03_QuantAddsUp.j1 kj7 l0 l1 l2 t554 t555 (t564 != 0)) = some r:=H
       have A20:=Aside0.mk A200
       clear A200
       have H':=Aside0.mk H
       clear H
       go_wp2_with (first|((with_reducible refine gate_callee (f:=40) rfl ?_);refine goesL_ (some 54) rfl rfl Tryz.func40 (by kernel_rfl) rfl #[.slice A0 l0.length c0] rfl (by (try simp only [List.map_toArray,List.map_cons,List.map_nil]);first|done|rfl|(simp only [List.length_drop,List.length_take];rfl)) ?_;(with_reducible refine (quant_Valid.calls kj7 _ _ l0 t563 _ ?side1 ?side2 A18.out (Glob.below hG.toGlob (by repeat (first|(with_reducible first|exact HB.out|apply below_alloc|apply pw_below_drewN|apply below_drew1)|exact HB.out)))).mono ?_);(case side1 => repeat (first|exact (Kd.C_below HR0.out HB.out)|(with_reducible refine Kd.C_alloc ?_ _)|(with_reducible refine Kd.C_drewN ?_ _)|(with_reducible refine Kd.C_drew ?_)));(case side2 => exact HC0.out);rintro e w21 ⟨rfl,hb⟩;refine ⟨_,rfl,?_⟩;have n0_:=Aside0.mk (Kd.R_below (by (with_reducible repeat (first|apply Kd.R_alloc|apply Kd.R_drewN|apply Kd.R_drew));exact HO_7.out) hb);have n1_:=Aside0.mk (below_step (by repeat (first|(with_reducible first|exact HB.out|apply below_alloc|apply pw_below_drewN|apply below_drew1)|exact HB.out)) hb);clear HO_7;clear HB;have HO_7:=n0_;have HB:=n1_;clear n0_ n1_;(try clear hb);(try clear hb2);(try clear hk);(try clear hi))|(go_at_call 40;(with_reducible refine (quant_Valid.calls kj7 _ _ l1 t564 _ ?side1 ?side2 A20.out (Glob.below hG.toGlob (by repeat (first|(with_reducible first|exact HB.out|apply below_alloc|apply pw_below_drewN|apply below_drew1)|exact HB.out)))).mono ?_);(case side1 => repeat (first|exact (Kd.C_below HR1.out HB.out)|(with_reducible refine Kd.C_alloc ?_ _)|(with_reducible refine Kd.C_drewN ?_ _)|(with_reducible refine Kd.C_drew ?_)));(case side2 => exact HC1.out);rintro e w22 ⟨rfl,hb⟩;have n0_:=Aside0.mk (Kd.R_below (by (with_reducible repeat (first|apply Kd.R_alloc|apply Kd.R_drewN|apply Kd.R_drew));exact HO_7.out) hb);have n1_:=Aside0.mk (below_step (by repeat (first|(with_reducible first|exact HB.out|apply below_alloc|apply pw_below_drewN|apply below_drew1)|exact HB.out)) hb);clear HO_7;clear HB;have HO_7:=n0_;have HB:=n1_;clear n0_ n1_;(try clear hb);(try clear hb2);(try clear hk);(try clear hi)))
       go_meet
       case rel => exact ⟨_,((t564 != 0)),(by first|rfl|(simp;done)|(simp [*];done)|(simp;rw [Bool.eq_iff_iff];simp;done)|(rw [Bool.eq_iff_iff];simp;done)),H',⟨by have:=HJ7.out;first|omega|exact Nat.le_refl _⟩,⟨by (with_reducible repeat (first|apply Kd.R_alloc|apply Kd.R_drewN|apply Kd.R_drew));exact HO_7.out⟩,⟨by repeat (first|(with_reducible first|exact HB.out|apply below_alloc|apply pw_below_drewN|apply below_drew1)|exact HB.out)⟩⟩
      ·rw [if_neg c19] at H
       have c19b0 : (t563 == 0) = false:=beq_eq_false_iff_ne.mpr c19
       have c19b1 : (t563 != 0) = true:=bne_iff_ne.mpr c19
       (first|rw [c19b0]|(simp only [i64_w,i32_w];rw [c19b0])|skip)
       have H':=Aside0.mk H
       clear H
       go_wp2_with (first|((with_reducible refine gate_callee (f:=40) rfl ?_);refine goesL_ (some 54) rfl rfl Tryz.func40 (by kernel_rfl) rfl #[.slice A0 l0.length c0] rfl (by (try simp only [List.map_toArray,List.map_cons,List.map_nil]);first|done|rfl|(simp only [List.length_drop,List.length_take];rfl)) ?_;(with_reducible refine (quant_Valid.calls kj7 _ _ l0 t563 _ ?side1 ?side2 A18.out (Glob.below hG.toGlob (by repeat (first|(with_reducible first|exact HB.out|apply below_alloc|apply pw_below_drewN|apply below_drew1)|exact HB.out)))).mono ?_);(case side1 => repeat (first|exact (Kd.C_below HR0.out HB.out)|(with_reducible refine Kd.C_alloc ?_ _)|(with_reducible refine Kd.C_drewN ?_ _)|(with_reducible refine Kd.C_drew ?_)));(case side2 => exact HC0.out);rintro e w23 ⟨rfl,hb⟩;refine ⟨_,rfl,?_⟩;have n0_:=Aside0.mk (Kd.R_below (by (with_reducible repeat (first|apply Kd.R_alloc|apply Kd.R_drewN|apply Kd.R_drew));exact HO_7.out) hb);have n1_:=Aside0.mk (below_step (by repeat (first|(with_reducible first|exact HB.out|apply below_alloc|apply pw_below_drewN|apply below_drew1)|exact HB.out)) hb);clear HO_7;clear HB;have HO_7:=n0_;have HB:=n1_;clear n0_ n1_;(try clear hb);(try clear hb2);(try clear hk);(try clear hi)))
       go_meet
       case rel => exact ⟨_,(true),(by first|rfl|(simp;done)|(simp [*];done)|(simp;rw [Bool.eq_iff_iff];simp;done)|(rw [Bool.eq_iff_iff];simp;done)),H',⟨by have:=HJ7.out;first|omega|exact Nat.le_refl _⟩,⟨by (with_reducible repeat (first|apply Kd.R_alloc|apply Kd.R_drewN|apply Kd.R_drew));exact HO_7.out⟩,⟨by repeat (first|(with_reducible first|exact HB.out|apply below_alloc|apply pw_below_drewN|apply below_drew1)|exact HB.out)⟩⟩
     case rest => as_aux_lemma =>
      clear HC17;(try clear c1);(try clear c2);(try clear p2);(try clear c4);(try clear c5);(try clear c12);(try clear c12b0);(try clear c12b1);(try clear c14);(try clear c16);(try clear c19);(try clear c19b0);(try clear c19b1);(try clear p2)
      obtain ⟨kq,x60_16,rfl,HA,HJ16,HO_7,HB⟩:=hcut
      cases kq with
     |zero => exact absurd HA.out (by simp [bursarlaw03_QuantAddsUp.j1])
     |succ kj16 =>
       have H:=HA.out
       clear HA
       simp only [bursarlaw03_QuantAddsUp.j1] at H
       by_cases c24 : x60_16 = true
       ·subst c24
        have H1 : (if t555 = 31 then (some ((t554.length : Int) == 0)) else (some false)) = some r:=by rw [if_pos rfl] at H;exact H
        clear H;have H:=H1;clear H1
        by_cases c25 : t555 = 31
        ·rw [if_pos c25] at H
         have c25b0 : (t555 == 31) = true:=beq_iff_eq.mpr c25
         have c25b1 : (t555 != 31) = false:=bne_eq_false_iff_eq.mpr c25
         clear c25
         obtain rfl:=Option.some.inj H
         obtain ⟨Ao26,co26,eo26⟩:=Kd.R_slice HO_7.out
         subst eo26
         go_wp2
         go_ret
         exact ⟨by first|rfl|(simp [errW_none,errW_some] <;> rfl)|(simp [*,errW_none,errW_some] <;> rfl),by repeat (first|(with_reducible first|exact HB.out|apply below_alloc|apply pw_below_drewN|apply below_drew1)|exact HB.out)⟩
        ·rw [if_neg c25] at H
         have c25b0 : (t555 == 31) = false:=beq_eq_false_iff_ne.mpr c25
         have c25b1 : (t555 != 31) = true:=bne_iff_ne.mpr c25
         obtain rfl:=Option.some.inj H
         go_wp2
         go_ret
         exact ⟨by first|rfl|(simp [errW_none,errW_some] <;> rfl)|(simp [*,errW_none,errW_some] <;> rfl),by repeat (first|(with_reducible first|exact HB.out|apply below_alloc|apply pw_below_drewN|apply below_drew1)|exact HB.out)⟩
       ·replace c24:=Bool.eq_false_iff.mpr c24
        subst c24
        have H1 : (if t555 = 0 then ((bursarlaw03_behind.f t554).bind fun t565 => (if 0 ≤ (t554.length : Int) then (if (t554.length : Int) ≤ (t565.length : Int) then ((bursarlaw03_behind.f l1).bind fun t572 => (if 0 ≤ (l1.length : Int) then (if (l1.length : Int) ≤ (t572.length : Int) then ((quant_Minus.f kj16 (t565.take ((t554.length : Int) : Int).toNat) (t572.take ((l1.length : Int) : Int).toNat)).bind fun bt579 => (if bt579.2 = 0 then (bursarlaw03_QuantAddsUp.j2 kj16 l0 l1 l2 t554 t555 bt579.1 ((bt579.1.length : Int) != (t554.length : Int))) else (bursarlaw03_QuantAddsUp.j2 kj16 l0 l1 l2 t554 t555 bt579.1 true))) else (none)) else (none))) else (none)) else (none))) else (bursarlaw03_QuantAddsUp.j4 kj16 l0 l1 l2 t554 t555)) = some r:=by rw [if_neg (show ¬ (false = true) by decide)] at H;exact H
        clear H;have H:=H1;clear H1
        have HC27:=Aside0.mk H
        clear H
        go_upto_if 69 with (fail)
        go_cut [] (fun wc => ∃ (kq : Nat),Aside0 (bursarlaw03_QuantAddsUp.j4 kq l0 l1 l2 t554 t555 = some r) ∧ Aside0 (kq ≤ kj16) ∧ Aside0 (Kd.R k57 57 wc w.heap.size (fun _ => True) v556 t554) ∧ Aside0 (Below w.heap.size w wc))
        case first => as_aux_lemma =>
         have H:=HC27.out
         clear HC27
         by_cases c28 : t555 = 0
         ·rw [if_pos c28] at H
          have c28b0 : (t555 == 0) = true:=beq_iff_eq.mpr c28
          have c28b1 : (t555 != 0) = false:=bne_eq_false_iff_eq.mpr c28
          clear c28
          (first|rw [c28b0]|(simp only [i64_w,i32_w];rw [c28b0])|skip)
          replace H:=Option.bind_eq_some_iff.mp H
          obtain ⟨t565,A290,H⟩:=H
          replace H : (if 0 ≤ (t554.length : Int) then (if (t554.length : Int) ≤ (t565.length : Int) then ((bursarlaw03_behind.f l1).bind fun t572 => (if 0 ≤ (l1.length : Int) then (if (l1.length : Int) ≤ (t572.length : Int) then ((quant_Minus.f kj16 (t565.take ((t554.length : Int) : Int).toNat) (t572.take ((l1.length : Int) : Int).toNat)).bind fun bt579 => (if bt579.2 = 0 then (bursarlaw03_QuantAddsUp.j2 kj16 l0 l1 l2 t554 t555 bt579.1 ((bt579.1.length : Int) != (t554.length : Int))) else (bursarlaw03_QuantAddsUp.j2 kj16 l0 l1 l2 t554 t555 bt579.1 true))) else (none)) else (none))) else (none)) else (none)) = some r:=H
          have A29:=Aside0.mk A290
          clear A290
          by_cases c30 : 0 ≤ (t554.length : Int)
          ·rw [if_pos c30] at H
           have c30b0:=eq_true c30
           have c30b1 : decide (0 ≤ (t554.length : Int)) = true:=decide_eq_true c30
           clear c30
           by_cases c31 : (t554.length : Int) ≤ (t565.length : Int)
           ·rw [if_pos c31] at H
            have c31b0:=eq_true c31
            have c31b1 : decide ((t554.length : Int) ≤ (t565.length : Int)) = true:=decide_eq_true c31
            clear c31
            obtain ⟨y568,hy568⟩ : ∃ y_ : List (S57),y_ = (t565.take ((t554.length : Int) : Int).toNat):=⟨_,rfl⟩
            replace H : ((bursarlaw03_behind.f l1).bind fun t572 => (if 0 ≤ (l1.length : Int) then (if (l1.length : Int) ≤ (t572.length : Int) then ((quant_Minus.f kj16 y568 (t572.take ((l1.length : Int) : Int).toNat)).bind fun bt579 => (if bt579.2 = 0 then (bursarlaw03_QuantAddsUp.j2 kj16 l0 l1 l2 t554 t555 bt579.1 ((bt579.1.length : Int) != (t554.length : Int))) else (bursarlaw03_QuantAddsUp.j2 kj16 l0 l1 l2 t554 t555 bt579.1 true))) else (none)) else (none))) = some r:=by first|(rw [hy568];with_reducible exact H)|(have H2_:=(Option.bind_some _ _).symm.trans H;rw [hy568];with_reducible exact H2_)|(have H2_:=(Option.bind_some _ _).symm.trans H;with_reducible exact H2_)|with_reducible exact H|(rw [hy568];exact H)|exact H
            have Ny568:=Aside0.mk hy568
            clear hy568
            replace H:=Option.bind_eq_some_iff.mp H
            obtain ⟨t572,A320,H⟩:=H
            replace H : (if 0 ≤ (l1.length : Int) then (if (l1.length : Int) ≤ (t572.length : Int) then ((quant_Minus.f kj16 y568 (t572.take ((l1.length : Int) : Int).toNat)).bind fun bt579 => (if bt579.2 = 0 then (bursarlaw03_QuantAddsUp.j2 kj16 l0 l1 l2 t554 t555 bt579.1 ((bt579.1.length : Int) != (t554.length : Int))) else (bursarlaw03_QuantAddsUp.j2 kj16 l0 l1 l2 t554 t555 bt579.1 true))) else (none)) else (none)) = some r:=H
            have A32:=Aside0.mk A320
            clear A320
            by_cases c33 : 0 ≤ (l1.length : Int)
            ·rw [if_pos c33] at H
             have c33b0:=eq_true c33
             have c33b1 : decide (0 ≤ (l1.length : Int)) = true:=decide_eq_true c33
             clear c33
             by_cases c34 : (l1.length : Int) ≤ (t572.length : Int)
             ·rw [if_pos c34] at H
              have c34b0:=eq_true c34
              have c34b1 : decide ((l1.length : Int) ≤ (t572.length : Int)) = true:=decide_eq_true c34
              clear c34
              obtain ⟨y575,hy575⟩ : ∃ y_ : List (S57),y_ = (t572.take ((l1.length : Int) : Int).toNat):=⟨_,rfl⟩
              replace H : ((quant_Minus.f kj16 y568 y575).bind fun bt579 => (if bt579.2 = 0 then (bursarlaw03_QuantAddsUp.j2 kj16 l0 l1 l2 t554 t555 bt579.1 ((bt579.1.length : Int) != (t554.length : Int))) else (bursarlaw03_QuantAddsUp.j2 kj16 l0 l1 l2 t554 t555 bt579.1 true))) = some r:=by first|(rw [hy575];with_reducible exact H)|(have H2_:=(Option.bind_some _ _).symm.trans H;rw [hy575];with_reducible exact H2_)|(have H2_:=(Option.bind_some _ _).symm.trans H;with_reducible exact H2_)|with_reducible exact H|(rw [hy575];exact H)|exact H
              have Ny575:=Aside0.mk hy575
              clear hy575
              replace H:=Option.bind_eq_some_iff.mp H
              obtain ⟨⟨t579,t580⟩,A350,H⟩:=H
              replace H : (if t580 = 0 then (bursarlaw03_QuantAddsUp.j2 kj16 l0 l1 l2 t554 t555 t579 ((t579.length : Int) != (t554.length : Int))) else (bursarlaw03_QuantAddsUp.j2 kj16 l0 l1 l2 t554 t555 t579 true)) = some r:=H
              have A35:=Aside0.mk A350
              clear A350
              have HC36:=Aside0.mk H
              clear H
              try go_wp2
              have n0_:=Aside0.mk (Kd.R_drew HO_7.out)
              have n1_:=Aside0.mk (below_drew1 HB.out)
              clear HO_7;clear HB;have HO_7:=n0_;have HB:=n1_;clear n0_ n1_
              obtain ⟨Ao38,co38,eo38⟩:=Kd.R_slice HO_7.out
              (first|subst eo38|(injection eo38 with f1_ f2_ f3_;have f4_:=f1_.symm;have f5_:=f3_.symm;clear f1_ f2_ f3_;subst f4_;subst f5_))
              refine start_ (n:=16) (S:=fun w' => True) (ds:=[]) (bl 0 16) (by kernel_rfl) rfl rfl trivial (fun hHeld => ?_);refine with_tabW bursarlaw03_QuantAddsUp.tab10 bursarlaw03_QuantAddsUp.bits10 (fun HT_ HW_ => ?_)
              generalize wc.drew = w37 at HO_7 HB hHeld ⊢
              refine pure_ (i:=0) (N:=some 71) (v:=?_) (a':=?_) (bl 1 15) rfl rfl (any_of HT_.out (by kernel_rfl)) (fun _ _ _ h => h) (Or.inl ⟨by rfl,?_⟩) ?_ ?_
              rotate_left;·intro w';go_simp;with_reducible rfl
              rotate_left;·simp only [Act.put,List.setIfInBounds_toArray,List.set_cons_zero,List.set_cons_succ,i64_w,i32_w];rfl
              refine pure_ (i:=2) (N:=some 73) (v:=?_) (a':=?_) #[true,false,true,false,false,false,false,false,false,false,false,false,false,false,false,false] rfl rfl (any_of HT_.out (by kernel_rfl)) (fun _ _ _ h => h) (Or.inl ⟨by rfl,?_⟩) ?_ ?_
              rotate_left;·intro w';go_simp;with_reducible rfl
              rotate_left;·simp only [Act.put,List.setIfInBounds_toArray,List.set_cons_zero,List.set_cons_succ,i64_w,i32_w];rfl
              refine pure_ (i:=3) (N:=some 74) (v:=?_) (a':=?_) #[true,false,true,true,false,false,false,false,false,false,false,false,false,false,false,false] rfl rfl (any_of HT_.out (by kernel_rfl)) (fun _ _ _ h => h) (Or.inl ⟨by rfl,?_⟩) ?_ ?_
              rotate_left;·intro w';go_simp;with_reducible rfl
              rotate_left;·simp only [Act.put,List.setIfInBounds_toArray,List.set_cons_zero,List.set_cons_succ,i64_w,i32_w];rfl
              refine pure_ (i:=5) (N:=some 76) (v:=?_) (a':=?_) #[true,false,true,true,false,true,false,false,false,false,false,false,false,false,false,false] rfl rfl (any_of HT_.out (by kernel_rfl)) (fun _ _ _ h => h) (Or.inl ⟨by rfl,?_⟩) ?_ ?_
              rotate_left;·intro w';go_simp;with_reducible rfl
              rotate_left;·simp only [Act.put,List.setIfInBounds_toArray,List.set_cons_zero,List.set_cons_succ,i64_w,i32_w];rfl
              refine pure_ (i:=7) (N:=some 78) (v:=?_) (a':=?_) #[true,false,true,true,false,true,false,true,false,false,false,false,false,false,false,false] rfl rfl (any_of HT_.out (by kernel_rfl)) (fun _ _ _ h => h) (Or.inl ⟨by rfl,?_⟩) ?_ ?_
              rotate_left;·intro w';go_simp;with_reducible rfl
              rotate_left;·simp only [Act.put,List.setIfInBounds_toArray,List.set_cons_zero,List.set_cons_succ,i64_w,i32_w];rfl
              refine pure_ (i:=8) (N:=some 79) (v:=?_) (a':=?_) #[true,false,true,true,false,true,false,true,true,false,false,false,false,false,false,false] rfl rfl (any_of HT_.out (by kernel_rfl)) (fun _ _ _ h => h) (Or.inl ⟨by rfl,?_⟩) ?_ ?_
              rotate_left;·intro w';go_simp;with_reducible rfl
              rotate_left;·simp only [Act.put,List.setIfInBounds_toArray,List.set_cons_zero,List.set_cons_succ,i64_w,i32_w];rfl
              refine one_ (i:=1) (N:=some 72) #[true,true,true,true,false,true,false,true,true,false,false,false,false,false,false,false] rfl rfl (one_of HT_.out (by kernel_rfl)) (by decide) (fun K hK => ?_)
              refine goes_ Tryz.func29 (by kernel_rfl) rfl #[.slice Ao38 t554.length co38] (by rfl) rfl rfl (by (try simp only [List.map_toArray,List.map_cons,List.map_nil]);first|done|rfl|(simp only [List.length_drop,List.length_take];rfl)) ?_
              with_reducible refine (bursarlaw03_behind.calls _ _ t554 t565 _ ?side1 ?side2 A29.out (GlobM.below hG (by repeat (first|(with_reducible first|exact HB.out|apply below_alloc|apply pw_below_drewN|apply below_drew1)|exact HB.out)))).mono ?_
              (case side1 => repeat (first|exact (Kd.R_reads' HO_7.out).2.2|(with_reducible refine Kd.C_alloc ?_ _)|(with_reducible refine Kd.C_drewN ?_ _)|(with_reducible refine Kd.C_drew ?_)))
              (case side2 => exact (Kd.R_reads' HO_7.out).2.1)
              rintro e w39 ⟨v566,rfl,ho0,hb⟩
              refine ⟨_,rfl,?_⟩
              have n0_:=Aside0.mk (Kd.R_elder' (by (with_reducible repeat (first|apply Kd.R_alloc|apply Kd.R_drewN|apply Kd.R_drew));exact HO_7.out) (Kd.R_base ho0) hb)
              have n1_:=Aside0.mk (Kd.R_lower (Kd.R_new' ho0 (Kd.R_lt (by (with_reducible repeat (first|apply Kd.R_alloc|apply Kd.R_drewN|apply Kd.R_drew));exact HO_7.out))) (below_size (by repeat (first|(with_reducible first|exact HB.out|apply below_alloc|apply pw_below_drewN|apply below_drew1)|exact HB.out))))
              have n2_:=Aside0.mk (below_step (by repeat (first|(with_reducible first|exact HB.out|apply below_alloc|apply pw_below_drewN|apply below_drew1)|exact HB.out)) hb)
              clear HO_7;clear HB;have HO_7:=n0_;have HO567:=n1_;have HB:=n2_;clear n0_ n1_ n2_;(try clear hb);(try clear hb2);(try clear hk);(try clear hi);(try clear ho0)
              obtain ⟨Ao41,co41,eo41⟩:=Kd.R_slice HO567.out
              (first|subst eo41|(injection eo41 with f1_ f2_ f3_;have f4_:=f1_.symm;have f5_:=f3_.symm;clear f1_ f2_ f3_;subst f4_;subst f5_))
              have q40 : ((t554.length : Int) : Int) ≤ ((t565.length : Int) : Int):=of_decide_eq_true (by first|(with_reducible assumption)|assumption)
              obtain ⟨i040,hi040,_,hsz40,_⟩:=info_parts info57
              have hroom40 : t565.length ≤ co41:=(Kd.R_reads' HO567.out).2.1
              have hC40 : Kd.C k57 _ Ao41 t565.length t565:=(Kd.R_reads' HO567.out).2.2
              have hcut40:=cut_to (P:=Tryz.prog) 46 57 .i64 Tryz.underlying46 hi040 Ao41 t565.length co41 (t554.length : Int) (of_decide_eq_true (by first|(with_reducible assumption)|assumption)) q40 hroom40
              have hr40:=Kd.C_take (m:=((t554.length : Int) : Int).toNat) hC40 (by omega)
              have hy40 : y568.length = ((t554.length : Int) : Int).toNat:=(by rw [Ny568.out,List.length_take];omega)
              rw [← Ny568.out] at hr40
              rw [← hy40] at hcut40
              have HR571:=Aside0.mk hr40
              have HC571:=Aside0.mk (show y568.length ≤ co41 from by omega)
              clear hr40 hC40 hroom40 hi040 hsz40
              have KY40:=Aside0.mk hy40
              clear hy40
              have KL40:=Aside0.mk (show ((t554.length : Int) : Int).toNat ≤ t565.length from by omega)
              replace q40:=eq_true q40
              refine hK.out _ _ trivial (fun hHeld => ?_)
              clear hK K
              refine norm_ (a':=?_) ?_ ?_
              rotate_left
              ·show Act.put _ (some 72) _ = _
               simp only [Act.put,List.setIfInBounds_toArray,List.set_cons_zero,List.set_cons_succ,i64_w,i32_w]
               rfl
              refine pure_ (i:=4) (N:=some 75) (v:=?_) (a':=?_) #[true,true,true,true,true,true,false,true,true,false,false,false,false,false,false,false] rfl rfl (any_of HT_.out (by kernel_rfl)) (fun _ _ _ h => h) (Or.inl ⟨by rfl,?_⟩) ?_ ?_
              rotate_left;·intro w';go_simp;with_reducible rfl
              rotate_left;·simp only [Act.put,List.setIfInBounds_toArray,List.set_cons_zero,List.set_cons_succ,i64_w,i32_w];rfl
              refine one_ (i:=6) (N:=some 77) (bl 9 7) rfl rfl (one_of HT_.out (by kernel_rfl)) (by decide) (fun K hK => ?_)
              refine goes_ Tryz.func29 (by kernel_rfl) rfl #[.slice A1 l1.length c1] (by rfl) rfl rfl (by (try simp only [List.map_toArray,List.map_cons,List.map_nil]);first|done|rfl|(simp only [List.length_drop,List.length_take];rfl)) ?_
              with_reducible refine (bursarlaw03_behind.calls _ _ l1 t572 _ ?side1 ?side2 A32.out (GlobM.below hG (by repeat (first|(with_reducible first|exact HB.out|apply below_alloc|apply pw_below_drewN|apply below_drew1)|exact HB.out)))).mono ?_
              (case side1 => repeat (first|exact (Kd.C_below HR1.out HB.out)|(with_reducible refine Kd.C_alloc ?_ _)|(with_reducible refine Kd.C_drewN ?_ _)|(with_reducible refine Kd.C_drew ?_)))
              (case side2 => exact HC1.out)
              rintro e w42 ⟨v573,rfl,ho0,hb⟩
              refine ⟨_,rfl,?_⟩
              have n0_:=Aside0.mk (Kd.R_elder' (by (with_reducible repeat (first|apply Kd.R_alloc|apply Kd.R_drewN|apply Kd.R_drew));exact HO_7.out) (Kd.R_base ho0) hb)
              have n1_:=Aside0.mk (Kd.R_elder' (by (with_reducible repeat (first|apply Kd.R_alloc|apply Kd.R_drewN|apply Kd.R_drew));exact HO567.out) (Kd.R_base ho0) hb)
              have n2_:=Aside0.mk (Kd.R_lower (Kd.R_new' (Kd.R_new' ho0 (Kd.R_lt (by (with_reducible repeat (first|apply Kd.R_alloc|apply Kd.R_drewN|apply Kd.R_drew));exact HO_7.out))) (Kd.R_lt (by (with_reducible repeat (first|apply Kd.R_alloc|apply Kd.R_drewN|apply Kd.R_drew));exact HO567.out))) (below_size (by repeat (first|(with_reducible first|exact HB.out|apply below_alloc|apply pw_below_drewN|apply below_drew1)|exact HB.out))))
              have n3_:=Aside0.mk (Kd.C_below (by repeat (first|(with_reducible exact HR571.out)|(with_reducible refine Kd.C_alloc ?_ _)|(with_reducible refine Kd.C_drewN ?_ _)|(with_reducible refine Kd.C_drew ?_)|exact HR571.out)) hb)
              have n4_:=Aside0.mk (below_step (by repeat (first|(with_reducible first|exact HB.out|apply below_alloc|apply pw_below_drewN|apply below_drew1)|exact HB.out)) hb)
              clear HO_7;clear HO567;clear HR571;clear HB;have HO_7:=n0_;have HO567:=n1_;have HO574:=n2_;have HR571:=n3_;have HB:=n4_;clear n0_ n1_ n2_ n3_ n4_;(try clear hb);(try clear hb2);(try clear hk);(try clear hi);(try clear ho0)
              obtain ⟨Ao44,co44,eo44⟩:=Kd.R_slice HO574.out
              (first|subst eo44|(injection eo44 with f1_ f2_ f3_;have f4_:=f1_.symm;have f5_:=f3_.symm;clear f1_ f2_ f3_;subst f4_;subst f5_))
              have q43 : ((l1.length : Int) : Int) ≤ ((t572.length : Int) : Int):=of_decide_eq_true (by first|(with_reducible assumption)|assumption)
              obtain ⟨i043,hi043,_,hsz43,_⟩:=info_parts info57
              have hroom43 : t572.length ≤ co44:=(Kd.R_reads' HO574.out).2.1
              have hC43 : Kd.C k57 _ Ao44 t572.length t572:=(Kd.R_reads' HO574.out).2.2
              have hcut43:=cut_to (P:=Tryz.prog) 46 57 .i64 Tryz.underlying46 hi043 Ao44 t572.length co44 (l1.length : Int) (of_decide_eq_true (by first|(with_reducible assumption)|assumption)) q43 hroom43
              have hr43:=Kd.C_take (m:=((l1.length : Int) : Int).toNat) hC43 (by omega)
              have hy43 : y575.length = ((l1.length : Int) : Int).toNat:=(by rw [Ny575.out,List.length_take];omega)
              rw [← Ny575.out] at hr43
              rw [← hy43] at hcut43
              have HR578:=Aside0.mk hr43
              have HC578:=Aside0.mk (show y575.length ≤ co44 from by omega)
              clear hr43 hC43 hroom43 hi043 hsz43
              have KY43:=Aside0.mk hy43
              clear hy43
              have KL43:=Aside0.mk (show ((l1.length : Int) : Int).toNat ≤ t572.length from by omega)
              replace q43:=eq_true q43
              refine hK.out _ _ trivial (fun hHeld => ?_)
              clear hK K
              refine norm_ (a':=?_) ?_ ?_
              rotate_left
              ·show Act.put _ (some 77) _ = _
               simp only [Act.put,List.setIfInBounds_toArray,List.set_cons_zero,List.set_cons_succ,i64_w,i32_w]
               rfl
              refine pure_ (i:=9) (N:=some 80) (v:=?_) (a':=?_) (bl 10 6) rfl rfl (any_of HT_.out (by kernel_rfl)) (fun _ _ _ h => h) (Or.inl ⟨by rfl,?_⟩) ?_ ?_
              rotate_left;·intro w';go_simp;with_reducible rfl
              rotate_left;·simp only [Act.put,List.setIfInBounds_toArray,List.set_cons_zero,List.set_cons_succ,i64_w,i32_w];rfl
              refine one_ (i:=10) (N:=some 81) (bl 11 5) rfl rfl (one_of HT_.out (by kernel_rfl)) (by decide) (fun K hK => ?_)
              refine goes_ Tryz.func42 (by kernel_rfl) rfl #[.slice Ao41 y568.length co41,.slice Ao44 y575.length co44] (by rfl) rfl rfl (by (try simp only [List.map_toArray,List.map_cons,List.map_nil]);first|done|rfl|(simp only [List.length_drop,List.length_take];rfl)) ?_
              with_reducible refine (quant_Minus.calls kj16 _ _ y568 _ _ y575 t579 t580 _ ?side1 ?side2 ?side3 ?side4 A35.out (Glob.below hG.toGlob (by repeat (first|(with_reducible first|exact HB.out|apply below_alloc|apply pw_below_drewN|apply below_drew1)|exact HB.out)))).mono ?_
              (case side1 => repeat (first|exact (by repeat (first|(with_reducible exact HR571.out)|(with_reducible refine Kd.C_alloc ?_ _)|(with_reducible refine Kd.C_drewN ?_ _)|(with_reducible refine Kd.C_drew ?_)|exact HR571.out))|(with_reducible refine Kd.C_alloc ?_ _)|(with_reducible refine Kd.C_drewN ?_ _)|(with_reducible refine Kd.C_drew ?_)))
              (case side2 => exact HC571.out)
              (case side3 => repeat (first|exact (by repeat (first|(with_reducible exact HR578.out)|(with_reducible refine Kd.C_alloc ?_ _)|(with_reducible refine Kd.C_drewN ?_ _)|(with_reducible refine Kd.C_drew ?_)|exact HR578.out))|(with_reducible refine Kd.C_alloc ?_ _)|(with_reducible refine Kd.C_drewN ?_ _)|(with_reducible refine Kd.C_drew ?_)))
              (case side4 => exact HC578.out)
              rintro e w45 ⟨v581,rfl,ho0,hb⟩
              refine ⟨_,rfl,?_⟩
              have n0_:=Aside0.mk (Kd.R_elder' (by (with_reducible repeat (first|apply Kd.R_alloc|apply Kd.R_drewN|apply Kd.R_drew));exact HO_7.out) (Kd.R_base ho0) hb)
              have n1_:=Aside0.mk (Kd.R_elder' (by (with_reducible repeat (first|apply Kd.R_alloc|apply Kd.R_drewN|apply Kd.R_drew));exact HO567.out) (Kd.R_base ho0) hb)
              have n2_:=Aside0.mk (Kd.R_elder' (by (with_reducible repeat (first|apply Kd.R_alloc|apply Kd.R_drewN|apply Kd.R_drew));exact HO574.out) (Kd.R_base ho0) hb)
              have n3_:=Aside0.mk (Kd.R_lower (Kd.R_new' (Kd.R_new' (Kd.R_new' ho0 (Kd.R_lt (by (with_reducible repeat (first|apply Kd.R_alloc|apply Kd.R_drewN|apply Kd.R_drew));exact HO_7.out))) (Kd.R_lt (by (with_reducible repeat (first|apply Kd.R_alloc|apply Kd.R_drewN|apply Kd.R_drew));exact HO567.out))) (Kd.R_lt (by (with_reducible repeat (first|apply Kd.R_alloc|apply Kd.R_drewN|apply Kd.R_drew));exact HO574.out))) (below_size (by repeat (first|(with_reducible first|exact HB.out|apply below_alloc|apply pw_below_drewN|apply below_drew1)|exact HB.out))))
              have n4_:=Aside0.mk (Kd.C_below (by repeat (first|(with_reducible exact HR571.out)|(with_reducible refine Kd.C_alloc ?_ _)|(with_reducible refine Kd.C_drewN ?_ _)|(with_reducible refine Kd.C_drew ?_)|exact HR571.out)) hb)
              have n5_:=Aside0.mk (Kd.C_below (by repeat (first|(with_reducible exact HR578.out)|(with_reducible refine Kd.C_alloc ?_ _)|(with_reducible refine Kd.C_drewN ?_ _)|(with_reducible refine Kd.C_drew ?_)|exact HR578.out)) hb)
              have n6_:=Aside0.mk (below_step (by repeat (first|(with_reducible first|exact HB.out|apply below_alloc|apply pw_below_drewN|apply below_drew1)|exact HB.out)) hb)
              clear HO_7;clear HO567;clear HO574;clear HR571;clear HR578;clear HB;have HO_7:=n0_;have HO567:=n1_;have HO574:=n2_;have HO582:=n3_;have HR571:=n4_;have HR578:=n5_;have HB:=n6_;clear n0_ n1_ n2_ n3_ n4_ n5_ n6_;(try clear hb);(try clear hb2);(try clear hk);(try clear hi);(try clear ho0)
              refine hK.out _ _ trivial (fun hHeld => ?_)
              clear hK K
              refine norm_ (a':=?_) ?_ ?_
              rotate_left
              ·show Act.put _ (some 81) _ = _
               simp only [Act.put,List.setIfInBounds_toArray,List.set_cons_zero,List.set_cons_succ,i64_w,i32_w]
               rfl
              refine pure_ (i:=11) (N:=some 70) (v:=?_) (a':=?_) (bl 12 4) rfl rfl (any_of HT_.out (by kernel_rfl)) (fun _ _ _ h => h) (Or.inl ⟨by rfl,?_⟩) ?_ ?_
              rotate_left;·intro w';go_simp;with_reducible rfl
              rotate_left;·simp only [Act.put,List.setIfInBounds_toArray,List.set_cons_zero,List.set_cons_succ,i64_w,i32_w];rfl
              refine pure_ (i:=12) (N:=some 82) (v:=?_) (a':=?_) (bl 13 3) rfl rfl (any_of HT_.out (by kernel_rfl)) (fun _ _ _ h => h) (Or.inl ⟨by rfl,?_⟩) ?_ ?_
              rotate_left;·intro w';go_simp;with_reducible rfl
              rotate_left;·simp only [Act.put,List.setIfInBounds_toArray,List.set_cons_zero,List.set_cons_succ,i64_w,i32_w];rfl
              refine pure_ (i:=13) (N:=some 83) (v:=?_) (a':=?_) (bl 14 2) rfl rfl (any_of HT_.out (by kernel_rfl)) (fun _ _ _ h => h) (Or.inl ⟨by rfl,?_⟩) ?_ ?_
              rotate_left;·intro w';go_simp;with_reducible rfl
              rotate_left;·simp only [Act.put,List.setIfInBounds_toArray,List.set_cons_zero,List.set_cons_succ,i64_w,i32_w];rfl
              refine pure_ (i:=14) (N:=some 11) (v:=?_) (a':=?_) (bl 15 1) rfl rfl (any_of HT_.out (by kernel_rfl)) (fun _ _ _ h => h) (Or.inl ⟨by rfl,?_⟩) ?_ ?_
              rotate_left;·intro w';go_simp;with_reducible rfl
              rotate_left;·simp only [Act.put,List.setIfInBounds_toArray,List.set_cons_zero,List.set_cons_succ,i64_w,i32_w];rfl
              refine pure_ (i:=15) (N:=some 12) (v:=?_) (a':=?_) (bl 16 0) rfl rfl (any_of HT_.out (by kernel_rfl)) (fun _ _ _ h => h) (Or.inl ⟨by rfl,?_⟩) ?_ ?_
              rotate_left;·intro w';go_simp;with_reducible rfl
              rotate_left;·simp only [Act.put,List.setIfInBounds_toArray,List.set_cons_zero,List.set_cons_succ,i64_w,i32_w];rfl
              refine done_ (done_of HT_.out (by kernel_rfl)) ?_
              go_upto_region 11 with (fail)
              go_cut [92] (fun v92 wc => ∃ (kq : Nat) (x92_35 : Bool),v92 = .bool x92_35 ∧ Aside0 (bursarlaw03_QuantAddsUp.j2 kq l0 l1 l2 t554 t555 t579 x92_35 = some r) ∧ Aside0 (kq ≤ kj16) ∧ Aside0 (Kd.R k57 57 wc w.heap.size (fun k_ => some k_ ≠ (v581 : Value).ownBlock) (.slice Ao38 t554.length co38) t554) ∧ Aside0 (Kd.R k57 57 wc w.heap.size (fun k_ => some k_ ≠ ((.slice Ao38 t554.length co38) : Value).ownBlock) v581 t579) ∧ Aside0 (Kd.C k57 wc Ao41 y568.length y568) ∧ Aside0 (Kd.C k57 wc Ao44 y575.length y575) ∧ Aside0 (Below w.heap.size w wc))
              case first => as_aux_lemma =>
               have H:=HC36.out
               clear HC36
               by_cases c46 : t580 = 0
               ·rw [if_pos c46] at H
                have c46b0 : (t580 == 0) = true:=beq_iff_eq.mpr c46
                have c46b1 : (t580 != 0) = false:=bne_eq_false_iff_eq.mpr c46
                clear c46
                (first|rw [c46b0]|(simp only [i64_w,i32_w];rw [c46b0])|skip)
                have H':=Aside0.mk H
                clear H
                obtain ⟨Ao47,co47,eo47⟩:=Kd.R_slice HO582.out
                subst eo47
                go_wp2
                go_meet
                case rel => exact ⟨_,(((t579.length : Int) != (t554.length : Int))),(by first|rfl|(simp;done)|(simp [*];done)|(simp;rw [Bool.eq_iff_iff];simp;done)|(rw [Bool.eq_iff_iff];simp;done)),H',⟨by have:=HJ7.out;have:=HJ16.out;first|omega|exact Nat.le_refl _⟩,⟨by (with_reducible repeat (first|apply Kd.R_alloc|apply Kd.R_drewN|apply Kd.R_drew));exact Kd.R_mono HO_7.out (fun _ hk => hk.2)⟩,⟨by (with_reducible repeat (first|apply Kd.R_alloc|apply Kd.R_drewN|apply Kd.R_drew));exact Kd.R_mono HO582.out (fun _ hk => hk.1.1.2)⟩,⟨by repeat (first|(with_reducible exact HR571.out)|(with_reducible refine Kd.C_alloc ?_ _)|(with_reducible refine Kd.C_drewN ?_ _)|(with_reducible refine Kd.C_drew ?_)|exact HR571.out)⟩,⟨by repeat (first|(with_reducible exact HR578.out)|(with_reducible refine Kd.C_alloc ?_ _)|(with_reducible refine Kd.C_drewN ?_ _)|(with_reducible refine Kd.C_drew ?_)|exact HR578.out)⟩,⟨by repeat (first|(with_reducible first|exact HB.out|apply below_alloc|apply pw_below_drewN|apply below_drew1)|exact HB.out)⟩⟩
               ·rw [if_neg c46] at H
                have c46b0 : (t580 == 0) = false:=beq_eq_false_iff_ne.mpr c46
                have c46b1 : (t580 != 0) = true:=bne_iff_ne.mpr c46
                (first|rw [c46b0]|(simp only [i64_w,i32_w];rw [c46b0])|skip)
                have H':=Aside0.mk H
                clear H
                go_wp2
                go_meet
                case rel => exact ⟨_,(true),(by first|rfl|(simp;done)|(simp [*];done)|(simp;rw [Bool.eq_iff_iff];simp;done)|(rw [Bool.eq_iff_iff];simp;done)),H',⟨by have:=HJ7.out;have:=HJ16.out;first|omega|exact Nat.le_refl _⟩,⟨by (with_reducible repeat (first|apply Kd.R_alloc|apply Kd.R_drewN|apply Kd.R_drew));exact Kd.R_mono HO_7.out (fun _ hk => hk.2)⟩,⟨by (with_reducible repeat (first|apply Kd.R_alloc|apply Kd.R_drewN|apply Kd.R_drew));exact Kd.R_mono HO582.out (fun _ hk => hk.1.1.2)⟩,⟨by repeat (first|(with_reducible exact HR571.out)|(with_reducible refine Kd.C_alloc ?_ _)|(with_reducible refine Kd.C_drewN ?_ _)|(with_reducible refine Kd.C_drew ?_)|exact HR571.out)⟩,⟨by repeat (first|(with_reducible exact HR578.out)|(with_reducible refine Kd.C_alloc ?_ _)|(with_reducible refine Kd.C_drewN ?_ _)|(with_reducible refine Kd.C_drew ?_)|exact HR578.out)⟩,⟨by repeat (first|(with_reducible first|exact HB.out|apply below_alloc|apply pw_below_drewN|apply below_drew1)|exact HB.out)⟩⟩
              case rest => as_aux_lemma =>
               clear HC36;(try clear c1);(try clear c2);(try clear p2);(try clear c3);(try clear c4);(try clear q4);(try clear c5);(try clear c12);(try clear c12b0);(try clear c12b1);(try clear c14);(try clear c16);(try clear c19);(try clear c19b0);(try clear c19b1);(try clear c24);(try clear c25);(try clear c25b0);(try clear c25b1);(try clear c28);(try clear c28b0);(try clear c28b1);(try clear c29);(try clear c30);(try clear c30b0);(try clear c30b1);(try clear c31);(try clear c31b0);(try clear c31b1);(try clear c33);(try clear c33b0);(try clear c33b1);(try clear c34);(try clear c34b0);(try clear c34b1);(try clear c40);(try clear q40);(try clear c42);(try clear c43);(try clear q43);(try clear c46);(try clear c46b0);(try clear c46b1);(try clear p2);(try clear q40);(try clear q43)
               obtain ⟨kq,x92_35,rfl,HA,HJ35,HO_7,HO_11,HR571,HR578,HB⟩:=hcut
               cases kq with
              |zero => exact absurd HA.out (by simp [bursarlaw03_QuantAddsUp.j2])
              |succ kj35 =>
                have H:=HA.out
                clear HA
                simp only [bursarlaw03_QuantAddsUp.j2] at H
                by_cases c48 : x92_35 = true
                ·subst c48
                 have H1 : (some false) = some r:=by rw [if_pos rfl] at H;exact H
                 clear H;have H:=H1;clear H1
                 obtain rfl:=Option.some.inj H
                 go_wp2
                 go_ret
                 exact ⟨by first|rfl|(simp [errW_none,errW_some] <;> rfl)|(simp [*,errW_none,errW_some] <;> rfl),by repeat (first|(with_reducible first|exact HB.out|apply below_alloc|apply pw_below_drewN|apply below_drew1)|exact HB.out)⟩
                ·replace c48:=Bool.eq_false_iff.mpr c48
                 subst c48
                 have H1 : (bursarlaw03_QuantAddsUp.l0 kj35 l0 l1 l2 t554 t555 t579 0) = some r:=by rw [if_neg (show ¬ (false = true) by decide)] at H;exact H
                 clear H;have H:=H1;clear H1
                 have H':=Aside0.mk H
                 clear H
                 go_wp2
                 go_loopg [13] kj35 (fun kq v13 w' => ∃ (x13_4 : Int),v13 = .int .i64 x13_4 ∧ Aside0 (bursarlaw03_QuantAddsUp.l0 kq l0 l1 l2 t554 t555 t579 x13_4 = some r) ∧ Aside0 (kq ≤ kj35) ∧ Aside0 (Kd.R k57 57 w' w.heap.size (fun k_ => some k_ ≠ (v581 : Value).ownBlock) (.slice Ao38 t554.length co38) t554) ∧ Aside0 (Kd.R k57 57 w' w.heap.size (fun k_ => some k_ ≠ ((.slice Ao38 t554.length co38) : Value).ownBlock) v581 t579) ∧ Aside0 (Kd.C k57 w' Ao41 y568.length y568) ∧ Aside0 (Kd.C k57 w' Ao44 y575.length y575) ∧ Aside0 (Below w.heap.size w w'))
                 case atStart => exact ⟨(0),(by first|rfl|(simp;done)|(simp [*];done)|(simp;rw [Bool.eq_iff_iff];simp;done)|(rw [Bool.eq_iff_iff];simp;done)),H',⟨Nat.le_refl _⟩,⟨by (with_reducible repeat (first|apply Kd.R_alloc|apply Kd.R_drewN|apply Kd.R_drew));exact HO_7.out⟩,⟨by (with_reducible repeat (first|apply Kd.R_alloc|apply Kd.R_drewN|apply Kd.R_drew));exact HO_11.out⟩,⟨by repeat (first|(with_reducible exact HR571.out)|(with_reducible refine Kd.C_alloc ?_ _)|(with_reducible refine Kd.C_drewN ?_ _)|(with_reducible refine Kd.C_drew ?_)|exact HR571.out)⟩,⟨by repeat (first|(with_reducible exact HR578.out)|(with_reducible refine Kd.C_alloc ?_ _)|(with_reducible refine Kd.C_drewN ?_ _)|(with_reducible refine Kd.C_drew ?_)|exact HR578.out)⟩,⟨by repeat (first|(with_reducible first|exact HB.out|apply below_alloc|apply pw_below_drewN|apply below_drew1)|exact HB.out)⟩⟩
                 case round => as_aux_lemma =>
                  clear H';(try clear c1);(try clear c2);(try clear p2);(try clear c3);(try clear c4);(try clear q4);(try clear c5);(try clear c12);(try clear c12b0);(try clear c12b1);(try clear c14);(try clear c16);(try clear c19);(try clear c19b0);(try clear c19b1);(try clear c24);(try clear c25);(try clear c25b0);(try clear c25b1);(try clear c28);(try clear c28b0);(try clear c28b1);(try clear c29);(try clear c30);(try clear c30b0);(try clear c30b1);(try clear c31);(try clear c31b0);(try clear c31b1);(try clear c33);(try clear c33b0);(try clear c33b1);(try clear c34);(try clear c34b0);(try clear c34b1);(try clear c40);(try clear q40);(try clear c42);(try clear c43);(try clear q43);(try clear c46);(try clear c46b0);(try clear c46b1);(try clear c48);(try clear p2);(try clear q4);(try clear q40);(try clear q43)
                  obtain ⟨x13_4,rfl,HA,HK4,HO_7,HO_11,HR571,HR578,HB⟩:=hrel
                  cases gk with
                 |zero => exact absurd HA.out (by simp [bursarlaw03_QuantAddsUp.l0])
                 |succ k4 =>
                   have H:=HA.out
                   clear HA
                   simp only [bursarlaw03_QuantAddsUp.l0] at H
                   by_cases c49 : x13_4 < (t579.length : Int)
                   ·rw [if_pos c49] at H
                    have c49b0 : decide (x13_4 < (t579.length : Int)) = true:=decide_eq_true c49
                    clear c49
                    by_cases c50 : 0 ≤ x13_4
                    ·rw [if_pos c50] at H
                     have c50b0 : decide (0 ≤ x13_4) = true:=decide_eq_true c50
                     clear c50
                     replace H:=Option.bind_eq_some_iff.mp H
                     obtain ⟨⟨t584,t585⟩,A510,H⟩:=H
                     replace H : (if x13_4 < (t554.length : Int) then (if ((rd_T57 t579 x13_4).f0).toList = ((rd_T57 t554 x13_4).f0).toList then (if ((rd_T57 t579 x13_4).f1) = t584 then (bursarlaw03_QuantAddsUp.l0 k4 l0 l1 l2 t554 t555 t579 (wrap64 (x13_4 + 1))) else (some false)) else (some false)) else (none)) = some r:=H
                     have A51:=Aside0.mk A510
                     clear A510
                     by_cases c52 : x13_4 < (t554.length : Int)
                     ·rw [if_pos c52] at H
                      have c52b0 : decide (x13_4 < (t554.length : Int)) = true:=decide_eq_true c52
                      clear c52
                      by_cases c53 : ((rd_T57 t579 x13_4).f0).toList = ((rd_T57 t554 x13_4).f0).toList
                      ·rw [if_pos c53] at H
                       have c53b0 : (((rd_T57 t579 x13_4).f0).toList == ((rd_T57 t554 x13_4).f0).toList) = true:=beq_iff_eq.mpr c53
                       have c53b1 : (((rd_T57 t579 x13_4).f0).toList != ((rd_T57 t554 x13_4).f0).toList) = false:=bne_eq_false_iff_eq.mpr c53
                       clear c53
                       by_cases c54 : ((rd_T57 t579 x13_4).f1) = t584
                       ·rw [if_pos c54] at H
                        have c54b0 : (((rd_T57 t579 x13_4).f1) == t584) = true:=beq_iff_eq.mpr c54
                        have c54b1 : (((rd_T57 t579 x13_4).f1) != t584) = false:=bne_eq_false_iff_eq.mpr c54
                        clear c54
                        have H':=Aside0.mk H
                        clear H
                        obtain ⟨Ao55,co55,eo55⟩:=Kd.R_slice HO_11.out
                        subst eo55
                        have p583 : 0 ≤ (x13_4 : Int):=of_decide_eq_true (by first|(with_reducible assumption)|assumption)
                        have q583 : x13_4 < (t579.length : Int):=of_decide_eq_true (by first|(with_reducible assumption)|assumption)
                        obtain ⟨ad583,e583,hx583_0,hx583_1⟩:=at_T57 (Kd.R_reads' HO_11.out).2.2 x13_4 p583 q583
                        cases e583
                        replace p583:=eq_true p583
                        replace q583:=eq_true q583
                        try go_wp2_with (first|((with_reducible refine gate_callee (f:=30) rfl ?_);refine goesL_ (some 106) rfl rfl Tryz.func30 (by kernel_rfl) rfl #[.slice A0 l0.length c0,.string ((rd_T57 t579 x13_4).f0)] rfl (by (try simp only [List.map_toArray,List.map_cons,List.map_nil]);first|done|rfl|(simp only [List.length_drop,List.length_take];rfl)) ?_;(with_reducible refine (quant_Of.calls k4 _ _ l0 ((rd_T57 t579 x13_4).f0) t584 t585 _ ?side1 ?side2 A51.out).mono ?_);(case side1 => repeat (first|exact (Kd.C_below HR0.out HB.out)|(with_reducible refine Kd.C_alloc ?_ _)|(with_reducible refine Kd.C_drewN ?_ _)|(with_reducible refine Kd.C_drew ?_)));(case side2 => exact HC0.out);rintro e w56 ⟨rfl,hb⟩;refine ⟨_,rfl,?_⟩;have n0_:=Aside0.mk (Kd.R_below (by (with_reducible repeat (first|apply Kd.R_alloc|apply Kd.R_drewN|apply Kd.R_drew));exact HO_7.out) hb);have n1_:=Aside0.mk (Kd.R_below (by (with_reducible repeat (first|apply Kd.R_alloc|apply Kd.R_drewN|apply Kd.R_drew));exact HO_11.out) hb);have n2_:=Aside0.mk (Kd.C_below (by repeat (first|(with_reducible exact HR571.out)|(with_reducible refine Kd.C_alloc ?_ _)|(with_reducible refine Kd.C_drewN ?_ _)|(with_reducible refine Kd.C_drew ?_)|exact HR571.out)) hb);have n3_:=Aside0.mk (Kd.C_below (by repeat (first|(with_reducible exact HR578.out)|(with_reducible refine Kd.C_alloc ?_ _)|(with_reducible refine Kd.C_drewN ?_ _)|(with_reducible refine Kd.C_drew ?_)|exact HR578.out)) hb);have n4_:=Aside0.mk (below_step (by repeat (first|(with_reducible first|exact HB.out|apply below_alloc|apply pw_below_drewN|apply below_drew1)|exact HB.out)) hb);clear HO_7;clear HO_11;clear HR571;clear HR578;clear HB;have HO_7:=n0_;have HO_11:=n1_;have HR571:=n2_;have HR578:=n3_;have HB:=n4_;clear n0_ n1_ n2_ n3_ n4_;(try clear hb);(try clear hb2);(try clear hk);(try clear hi)))
                        have n0_:=Aside0.mk (Kd.R_drew HO_7.out)
                        have n1_:=Aside0.mk (Kd.R_drew HO_11.out)
                        have n2_:=Aside0.mk (Kd.C_drew HR571.out)
                        have n3_:=Aside0.mk (Kd.C_drew HR578.out)
                        have n4_:=Aside0.mk (below_drew1 HB.out)
                        clear HO_7;clear HO_11;clear HR571;clear HR578;clear HB;have HO_7:=n0_;have HO_11:=n1_;have HR571:=n2_;have HR578:=n3_;have HB:=n4_;clear n0_ n1_ n2_ n3_ n4_
                        have p586 : 0 ≤ (x13_4 : Int):=of_decide_eq_true (by first|(with_reducible assumption)|assumption)
                        have q586 : x13_4 < (t579.length : Int):=of_decide_eq_true (by first|(with_reducible assumption)|assumption)
                        obtain ⟨ad586,e586,hx586_0,hx586_1⟩:=at_T57 (Kd.R_reads' HO_11.out).2.2 x13_4 p586 q586
                        obtain rfl : ad583 = ad586:=(by injection e586)
                        replace p586:=eq_true p586
                        replace q586:=eq_true q586
                        have p587 : 0 ≤ (x13_4 : Int):=of_decide_eq_true (by first|(with_reducible assumption)|assumption)
                        have q587 : x13_4 < (t554.length : Int):=of_decide_eq_true (by first|(with_reducible assumption)|assumption)
                        obtain ⟨ad587,e587,hx587_0,hx587_1⟩:=at_T57 (Kd.R_reads' HO_7.out).2.2 x13_4 p587 q587
                        cases e587
                        replace p587:=eq_true p587
                        replace q587:=eq_true q587
                        have p588 : 0 ≤ (x13_4 : Int):=of_decide_eq_true (by first|(with_reducible assumption)|assumption)
                        have q588 : x13_4 < (t579.length : Int):=of_decide_eq_true (by first|(with_reducible assumption)|assumption)
                        obtain ⟨ad588,e588,hx588_0,hx588_1⟩:=at_T57 (Kd.R_reads' HO_11.out).2.2 x13_4 p588 q588
                        obtain rfl : ad583 = ad588:=(by injection e588)
                        replace p588:=eq_true p588
                        replace q588:=eq_true q588
                        refine start_ (n:=20) (S:=fun w' => w'.cell? (ad583.add ((x13_4).toNat * 2)) = some (.string ((rd_T57 t579 x13_4).f0)) ∧ w'.cell? ⟨(ad583.add ((x13_4).toNat * 2)).block,(ad583.add ((x13_4).toNat * 2)).off + 1,none⟩ = some (.int .i64 ((rd_T57 t579 x13_4).f1)) ∧ w'.cell? (ad587.add ((x13_4).toNat * 2)) = some (.string ((rd_T57 t554 x13_4).f0)) ∧ w'.cell? ⟨(ad587.add ((x13_4).toNat * 2)).block,(ad587.add ((x13_4).toNat * 2)).off + 1,none⟩ = some (.int .i64 ((rd_T57 t554 x13_4).f1)) ∧ w'.cell? (ad583.add ((x13_4).toNat * 2)) = some (.string ((rd_T57 t579 x13_4).f0)) ∧ w'.cell? ⟨(ad583.add ((x13_4).toNat * 2)).block,(ad583.add ((x13_4).toNat * 2)).off + 1,none⟩ = some (.int .i64 ((rd_T57 t579 x13_4).f1))) (ds:=[]) (bl 0 20) (by kernel_rfl) rfl rfl ⟨hx586_0,hx586_1,hx587_0,hx587_1,hx588_0,hx588_1⟩ (fun hHeld => ?_);refine with_tabW bursarlaw03_QuantAddsUp.tab17 bursarlaw03_QuantAddsUp.bits17 (fun HT_ HW_ => ?_)
                        generalize w56.drew = w57 at HO_7 HO_11 HR571 HR578 HB hx586_0 hx586_1 hx587_0 hx587_1 hx588_0 hx588_1 hHeld ⊢
                        refine pure_ (i:=0) (N:=some 109) (v:=?_) (a':=?_) (bl 1 19) rfl rfl (any_of HT_.out (by kernel_rfl)) (fun _ _ _ h => h) (Or.inl ⟨by rfl,?_⟩) ?_ ?_
                        rotate_left;·intro w';go_simp;with_reducible rfl
                        rotate_left;·simp only [Act.put,List.setIfInBounds_toArray,List.set_cons_zero,List.set_cons_succ,i64_w,i32_w];rfl
                        refine pure_ (i:=1) (N:=some 110) (v:=?_) (a':=?_) (bl 2 18) rfl rfl (any_of HT_.out (by kernel_rfl)) (fun _ _ _ h => h) (Or.inl ⟨by rfl,?_⟩) ?_ ?_
                        rotate_left;·intro w';go_simp;with_reducible rfl
                        rotate_left;·simp only [Act.put,List.setIfInBounds_toArray,List.set_cons_zero,List.set_cons_succ,i64_w,i32_w];rfl
                        refine pure_ (i:=2) (N:=some 111) (v:=?_) (a':=?_) (bl 3 17) rfl rfl (any_of HT_.out (by kernel_rfl)) (fun _ _ _ h => h) (Or.inl ⟨by rfl,?_⟩) ?_ ?_
                        rotate_left;·intro w';go_simp;with_reducible rfl
                        rotate_left;·simp only [Act.put,List.setIfInBounds_toArray,List.set_cons_zero,List.set_cons_succ,i64_w,i32_w];rfl
                        refine pure_ (i:=3) (N:=some 112) (v:=?_) (a':=?_) (bl 4 16) rfl rfl (any_of HT_.out (by kernel_rfl)) (fun _ _ _ h => h) (Or.inl ⟨by rfl,?_⟩) ?_ ?_
                        rotate_left;·intro w';go_simp;with_reducible rfl
                        rotate_left;·simp only [Act.put,List.setIfInBounds_toArray,List.set_cons_zero,List.set_cons_succ,i64_w,i32_w];rfl
                        refine pure_ (i:=5) (N:=some 114) (v:=?_) (a':=?_) #[true,true,true,true,false,true,false,false,false,false,false,false,false,false,false,false,false,false,false,false] rfl rfl (any_of HT_.out (by kernel_rfl)) (fun _ _ _ h => h) (Or.inl ⟨by rfl,?_⟩) ?_ ?_
                        rotate_left;·intro w';go_simp;with_reducible rfl
                        rotate_left;·simp only [Act.put,List.setIfInBounds_toArray,List.set_cons_zero,List.set_cons_succ,i64_w,i32_w];rfl
                        refine pure_ (i:=6) (N:=some 115) (v:=?_) (a':=?_) #[true,true,true,true,false,true,true,false,false,false,false,false,false,false,false,false,false,false,false,false] rfl rfl (any_of HT_.out (by kernel_rfl)) (fun _ _ _ h => h) (Or.inl ⟨by rfl,?_⟩) ?_ ?_
                        rotate_left;·intro w';go_simp;with_reducible rfl
                        rotate_left;·simp only [Act.put,List.setIfInBounds_toArray,List.set_cons_zero,List.set_cons_succ,i64_w,i32_w];rfl
                        refine pure_ (i:=7) (N:=some 116) (v:=?_) (a':=?_) #[true,true,true,true,false,true,true,true,false,false,false,false,false,false,false,false,false,false,false,false] rfl rfl (any_of HT_.out (by kernel_rfl)) (fun _ _ _ h => h) (Or.inl ⟨by rfl,?_⟩) ?_ ?_
                        rotate_left;·intro w';go_simp;with_reducible rfl
                        rotate_left;·simp only [Act.put,List.setIfInBounds_toArray,List.set_cons_zero,List.set_cons_succ,i64_w,i32_w];rfl
                        refine pure_ (i:=8) (N:=some 117) (v:=?_) (a':=?_) #[true,true,true,true,false,true,true,true,true,false,false,false,false,false,false,false,false,false,false,false] rfl rfl (any_of HT_.out (by kernel_rfl)) (fun _ _ _ h => h) (Or.inl ⟨by rfl,?_⟩) ?_ ?_
                        rotate_left;·intro w';go_simp;with_reducible rfl
                        rotate_left;·simp only [Act.put,List.setIfInBounds_toArray,List.set_cons_zero,List.set_cons_succ,i64_w,i32_w];rfl
                        refine take_ (i:=4) (N:=some 113) (v:=?_) (a':=?_) (bl 9 11) rfl rfl (take_ofW HT_.out HW_.out (by kernel_rfl)) (fun _ _ _ h => h) (Or.inl ⟨by rfl,?_⟩) hHeld ?_ ?_
                        rotate_left
                        ·rintro w' ⟨s0,s1,s2,s3,s4,s5⟩
                         go_simp
                         with_reducible rfl
                        rotate_left
                        ·simp only [Act.put,List.setIfInBounds_toArray,List.set_cons_zero,List.set_cons_succ,i64_w,i32_w]
                         rfl
                        refine take_ (i:=9) (N:=some 118) (v:=?_) (a':=?_) (bl 10 10) rfl rfl (take_ofW HT_.out HW_.out (by kernel_rfl)) (fun _ _ _ h => h) (Or.inl ⟨by rfl,?_⟩) hHeld ?_ ?_
                        rotate_left
                        ·rintro w' ⟨s0,s1,s2,s3,s4,s5⟩
                         go_simp
                         with_reducible rfl
                        rotate_left
                        ·simp only [Act.put,List.setIfInBounds_toArray,List.set_cons_zero,List.set_cons_succ,i64_w,i32_w]
                         rfl
                        refine pure_ (i:=10) (N:=some 119) (v:=?_) (a':=?_) (bl 11 9) rfl rfl (any_of HT_.out (by kernel_rfl)) (fun _ _ _ h => h) (Or.inl ⟨by rfl,?_⟩) ?_ ?_
                        rotate_left;·intro w';go_simp;with_reducible rfl
                        rotate_left;·simp only [Act.put,List.setIfInBounds_toArray,List.set_cons_zero,List.set_cons_succ,i64_w,i32_w];rfl
                        refine pure_ (i:=11) (N:=some 120) (v:=?_) (a':=?_) (bl 12 8) rfl rfl (any_of HT_.out (by kernel_rfl)) (fun _ _ _ h => h) (Or.inl ⟨by rfl,?_⟩) ?_ ?_
                        rotate_left;·intro w';go_simp;with_reducible rfl
                        rotate_left;·simp only [Act.put,List.setIfInBounds_toArray,List.set_cons_zero,List.set_cons_succ,i64_w,i32_w];rfl
                        refine pure_ (i:=12) (N:=some 121) (v:=?_) (a':=?_) (bl 13 7) rfl rfl (any_of HT_.out (by kernel_rfl)) (fun _ _ _ h => h) (Or.inl ⟨by rfl,?_⟩) ?_ ?_
                        rotate_left;·intro w';go_simp;with_reducible rfl
                        rotate_left;·simp only [Act.put,List.setIfInBounds_toArray,List.set_cons_zero,List.set_cons_succ,i64_w,i32_w];rfl
                        refine pure_ (i:=13) (N:=some 122) (v:=?_) (a':=?_) (bl 14 6) rfl rfl (any_of HT_.out (by kernel_rfl)) (fun _ _ _ h => h) (Or.inl ⟨by rfl,?_⟩) ?_ ?_
                        rotate_left;·intro w';go_simp;with_reducible rfl
                        rotate_left;·simp only [Act.put,List.setIfInBounds_toArray,List.set_cons_zero,List.set_cons_succ,i64_w,i32_w];rfl
                        refine pure_ (i:=14) (N:=some 123) (v:=?_) (a':=?_) (bl 15 5) rfl rfl (any_of HT_.out (by kernel_rfl)) (fun _ _ _ h => h) (Or.inl ⟨by rfl,?_⟩) ?_ ?_
                        rotate_left;·intro w';go_simp;with_reducible rfl
                        rotate_left;·simp only [Act.put,List.setIfInBounds_toArray,List.set_cons_zero,List.set_cons_succ,i64_w,i32_w];rfl
                        refine pure_ (i:=15) (N:=some 124) (v:=?_) (a':=?_) (bl 16 4) rfl rfl (any_of HT_.out (by kernel_rfl)) (fun _ _ _ h => h) (Or.inl ⟨by rfl,?_⟩) ?_ ?_
                        rotate_left;·intro w';go_simp;with_reducible rfl
                        rotate_left;·simp only [Act.put,List.setIfInBounds_toArray,List.set_cons_zero,List.set_cons_succ,i64_w,i32_w];rfl
                        refine pure_ (i:=17) (N:=some 126) (v:=?_) (a':=?_) #[true,true,true,true,true,true,true,true,true,true,true,true,true,true,true,true,false,true,false,false] rfl rfl (any_of HT_.out (by kernel_rfl)) (fun _ _ _ h => h) (Or.inl ⟨by rfl,?_⟩) ?_ ?_
                        rotate_left;·intro w';go_simp;with_reducible rfl
                        rotate_left;·simp only [Act.put,List.setIfInBounds_toArray,List.set_cons_zero,List.set_cons_succ,i64_w,i32_w];rfl
                        refine take_ (i:=16) (N:=some 125) (v:=?_) (a':=?_) (bl 18 2) rfl rfl (take_ofW HT_.out HW_.out (by kernel_rfl)) (fun _ _ _ h => h) (Or.inl ⟨by rfl,?_⟩) hHeld ?_ ?_
                        rotate_left
                        ·rintro w' ⟨s0,s1,s2,s3,s4,s5⟩
                         go_simp
                         with_reducible rfl
                        rotate_left
                        ·simp only [Act.put,List.setIfInBounds_toArray,List.set_cons_zero,List.set_cons_succ,i64_w,i32_w]
                         rfl
                        refine pure_ (i:=18) (N:=some 127) (v:=?_) (a':=?_) (bl 19 1) rfl rfl (any_of HT_.out (by kernel_rfl)) (fun _ _ _ h => h) (Or.inl ⟨by rfl,?_⟩) ?_ ?_
                        rotate_left;·intro w';go_simp;with_reducible rfl
                        rotate_left;·simp only [Act.put,List.setIfInBounds_toArray,List.set_cons_zero,List.set_cons_succ,i64_w,i32_w];rfl
                        refine pure_ (i:=19) (N:=some 128) (v:=?_) (a':=?_) (bl 20 0) rfl rfl (any_of HT_.out (by kernel_rfl)) (fun _ _ _ h => h) (Or.inl ⟨by rfl,?_⟩) ?_ ?_
                        rotate_left;·intro w';go_simp;with_reducible rfl
                        rotate_left;·simp only [Act.put,List.setIfInBounds_toArray,List.set_cons_zero,List.set_cons_succ,i64_w,i32_w];rfl
                        refine done_ (done_of HT_.out (by kernel_rfl)) ?_
                        try go_wp2
                        go_roundg k4
                        case measure => have:=HJ7.out;have:=HJ16.out;have:=HJ35.out;have:=HK4.out;omega
                        case rel => exact ⟨(wrap64 (x13_4 + 1)),(by first|rfl|(simp;done)|(simp [*];done)|(simp;rw [Bool.eq_iff_iff];simp;done)|(rw [Bool.eq_iff_iff];simp;done)),H',⟨by have:=HJ7.out;have:=HJ16.out;have:=HJ35.out;have:=HK4.out;omega⟩,⟨by (with_reducible repeat (first|apply Kd.R_alloc|apply Kd.R_drewN|apply Kd.R_drew));exact HO_7.out⟩,⟨by (with_reducible repeat (first|apply Kd.R_alloc|apply Kd.R_drewN|apply Kd.R_drew));exact HO_11.out⟩,⟨by repeat (first|(with_reducible exact HR571.out)|(with_reducible refine Kd.C_alloc ?_ _)|(with_reducible refine Kd.C_drewN ?_ _)|(with_reducible refine Kd.C_drew ?_)|exact HR571.out)⟩,⟨by repeat (first|(with_reducible exact HR578.out)|(with_reducible refine Kd.C_alloc ?_ _)|(with_reducible refine Kd.C_drewN ?_ _)|(with_reducible refine Kd.C_drew ?_)|exact HR578.out)⟩,⟨by repeat (first|(with_reducible first|exact HB.out|apply below_alloc|apply pw_below_drewN|apply below_drew1)|exact HB.out)⟩⟩
                       ·rw [if_neg c54] at H
                        have c54b0 : (((rd_T57 t579 x13_4).f1) == t584) = false:=beq_eq_false_iff_ne.mpr c54
                        have c54b1 : (((rd_T57 t579 x13_4).f1) != t584) = true:=bne_iff_ne.mpr c54
                        obtain rfl:=Option.some.inj H
                        obtain ⟨Ao58,co58,eo58⟩:=Kd.R_slice HO_11.out
                        subst eo58
                        have p583 : 0 ≤ (x13_4 : Int):=of_decide_eq_true (by first|(with_reducible assumption)|assumption)
                        have q583 : x13_4 < (t579.length : Int):=of_decide_eq_true (by first|(with_reducible assumption)|assumption)
                        obtain ⟨ad583,e583,hx583_0,hx583_1⟩:=at_T57 (Kd.R_reads' HO_11.out).2.2 x13_4 p583 q583
                        cases e583
                        replace p583:=eq_true p583
                        replace q583:=eq_true q583
                        try go_wp2_with (first|((with_reducible refine gate_callee (f:=30) rfl ?_);refine goesL_ (some 106) rfl rfl Tryz.func30 (by kernel_rfl) rfl #[.slice A0 l0.length c0,.string ((rd_T57 t579 x13_4).f0)] rfl (by (try simp only [List.map_toArray,List.map_cons,List.map_nil]);first|done|rfl|(simp only [List.length_drop,List.length_take];rfl)) ?_;(with_reducible refine (quant_Of.calls k4 _ _ l0 ((rd_T57 t579 x13_4).f0) t584 t585 _ ?side1 ?side2 A51.out).mono ?_);(case side1 => repeat (first|exact (Kd.C_below HR0.out HB.out)|(with_reducible refine Kd.C_alloc ?_ _)|(with_reducible refine Kd.C_drewN ?_ _)|(with_reducible refine Kd.C_drew ?_)));(case side2 => exact HC0.out);rintro e w59 ⟨rfl,hb⟩;refine ⟨_,rfl,?_⟩;have n0_:=Aside0.mk (Kd.R_below (by (with_reducible repeat (first|apply Kd.R_alloc|apply Kd.R_drewN|apply Kd.R_drew));exact HO_7.out) hb);have n1_:=Aside0.mk (Kd.R_below (by (with_reducible repeat (first|apply Kd.R_alloc|apply Kd.R_drewN|apply Kd.R_drew));exact HO_11.out) hb);have n2_:=Aside0.mk (Kd.C_below (by repeat (first|(with_reducible exact HR571.out)|(with_reducible refine Kd.C_alloc ?_ _)|(with_reducible refine Kd.C_drewN ?_ _)|(with_reducible refine Kd.C_drew ?_)|exact HR571.out)) hb);have n3_:=Aside0.mk (Kd.C_below (by repeat (first|(with_reducible exact HR578.out)|(with_reducible refine Kd.C_alloc ?_ _)|(with_reducible refine Kd.C_drewN ?_ _)|(with_reducible refine Kd.C_drew ?_)|exact HR578.out)) hb);have n4_:=Aside0.mk (below_step (by repeat (first|(with_reducible first|exact HB.out|apply below_alloc|apply pw_below_drewN|apply below_drew1)|exact HB.out)) hb);clear HO_7;clear HO_11;clear HR571;clear HR578;clear HB;have HO_7:=n0_;have HO_11:=n1_;have HR571:=n2_;have HR578:=n3_;have HB:=n4_;clear n0_ n1_ n2_ n3_ n4_;(try clear hb);(try clear hb2);(try clear hk);(try clear hi)))
                        have n0_:=Aside0.mk (Kd.R_drew HO_7.out)
                        have n1_:=Aside0.mk (Kd.R_drew HO_11.out)
                        have n2_:=Aside0.mk (Kd.C_drew HR571.out)
                        have n3_:=Aside0.mk (Kd.C_drew HR578.out)
                        have n4_:=Aside0.mk (below_drew1 HB.out)
                        clear HO_7;clear HO_11;clear HR571;clear HR578;clear HB;have HO_7:=n0_;have HO_11:=n1_;have HR571:=n2_;have HR578:=n3_;have HB:=n4_;clear n0_ n1_ n2_ n3_ n4_
                        have p586 : 0 ≤ (x13_4 : Int):=of_decide_eq_true (by first|(with_reducible assumption)|assumption)
                        have q586 : x13_4 < (t579.length : Int):=of_decide_eq_true (by first|(with_reducible assumption)|assumption)
                        obtain ⟨ad586,e586,hx586_0,hx586_1⟩:=at_T57 (Kd.R_reads' HO_11.out).2.2 x13_4 p586 q586
                        obtain rfl : ad583 = ad586:=(by injection e586)
                        replace p586:=eq_true p586
                        replace q586:=eq_true q586
                        have p587 : 0 ≤ (x13_4 : Int):=of_decide_eq_true (by first|(with_reducible assumption)|assumption)
                        have q587 : x13_4 < (t554.length : Int):=of_decide_eq_true (by first|(with_reducible assumption)|assumption)
                        obtain ⟨ad587,e587,hx587_0,hx587_1⟩:=at_T57 (Kd.R_reads' HO_7.out).2.2 x13_4 p587 q587
                        cases e587
                        replace p587:=eq_true p587
                        replace q587:=eq_true q587
                        have p588 : 0 ≤ (x13_4 : Int):=of_decide_eq_true (by first|(with_reducible assumption)|assumption)
                        have q588 : x13_4 < (t579.length : Int):=of_decide_eq_true (by first|(with_reducible assumption)|assumption)
                        obtain ⟨ad588,e588,hx588_0,hx588_1⟩:=at_T57 (Kd.R_reads' HO_11.out).2.2 x13_4 p588 q588
                        obtain rfl : ad583 = ad588:=(by injection e588)
                        replace p588:=eq_true p588
                        replace q588:=eq_true q588
                        refine start_ (n:=20) (S:=fun w' => w'.cell? (ad583.add ((x13_4).toNat * 2)) = some (.string ((rd_T57 t579 x13_4).f0)) ∧ w'.cell? ⟨(ad583.add ((x13_4).toNat * 2)).block,(ad583.add ((x13_4).toNat * 2)).off + 1,none⟩ = some (.int .i64 ((rd_T57 t579 x13_4).f1)) ∧ w'.cell? (ad587.add ((x13_4).toNat * 2)) = some (.string ((rd_T57 t554 x13_4).f0)) ∧ w'.cell? ⟨(ad587.add ((x13_4).toNat * 2)).block,(ad587.add ((x13_4).toNat * 2)).off + 1,none⟩ = some (.int .i64 ((rd_T57 t554 x13_4).f1)) ∧ w'.cell? (ad583.add ((x13_4).toNat * 2)) = some (.string ((rd_T57 t579 x13_4).f0)) ∧ w'.cell? ⟨(ad583.add ((x13_4).toNat * 2)).block,(ad583.add ((x13_4).toNat * 2)).off + 1,none⟩ = some (.int .i64 ((rd_T57 t579 x13_4).f1))) (ds:=[]) (bl 0 20) (by kernel_rfl) rfl rfl ⟨hx586_0,hx586_1,hx587_0,hx587_1,hx588_0,hx588_1⟩ (fun hHeld => ?_);refine with_tabW bursarlaw03_QuantAddsUp.tab17 bursarlaw03_QuantAddsUp.bits17 (fun HT_ HW_ => ?_)
                        generalize w59.drew = w60 at HO_7 HO_11 HR571 HR578 HB hx586_0 hx586_1 hx587_0 hx587_1 hx588_0 hx588_1 hHeld ⊢
                        refine pure_ (i:=0) (N:=some 109) (v:=?_) (a':=?_) (bl 1 19) rfl rfl (any_of HT_.out (by kernel_rfl)) (fun _ _ _ h => h) (Or.inl ⟨by rfl,?_⟩) ?_ ?_
                        rotate_left;·intro w';go_simp;with_reducible rfl
                        rotate_left;·simp only [Act.put,List.setIfInBounds_toArray,List.set_cons_zero,List.set_cons_succ,i64_w,i32_w];rfl
                        refine pure_ (i:=1) (N:=some 110) (v:=?_) (a':=?_) (bl 2 18) rfl rfl (any_of HT_.out (by kernel_rfl)) (fun _ _ _ h => h) (Or.inl ⟨by rfl,?_⟩) ?_ ?_
                        rotate_left;·intro w';go_simp;with_reducible rfl
                        rotate_left;·simp only [Act.put,List.setIfInBounds_toArray,List.set_cons_zero,List.set_cons_succ,i64_w,i32_w];rfl
                        refine pure_ (i:=2) (N:=some 111) (v:=?_) (a':=?_) (bl 3 17) rfl rfl (any_of HT_.out (by kernel_rfl)) (fun _ _ _ h => h) (Or.inl ⟨by rfl,?_⟩) ?_ ?_
                        rotate_left;·intro w';go_simp;with_reducible rfl
                        rotate_left;·simp only [Act.put,List.setIfInBounds_toArray,List.set_cons_zero,List.set_cons_succ,i64_w,i32_w];rfl
                        refine pure_ (i:=3) (N:=some 112) (v:=?_) (a':=?_) (bl 4 16) rfl rfl (any_of HT_.out (by kernel_rfl)) (fun _ _ _ h => h) (Or.inl ⟨by rfl,?_⟩) ?_ ?_
                        rotate_left;·intro w';go_simp;with_reducible rfl
                        rotate_left;·simp only [Act.put,List.setIfInBounds_toArray,List.set_cons_zero,List.set_cons_succ,i64_w,i32_w];rfl
                        refine pure_ (i:=5) (N:=some 114) (v:=?_) (a':=?_) #[true,true,true,true,false,true,false,false,false,false,false,false,false,false,false,false,false,false,false,false] rfl rfl (any_of HT_.out (by kernel_rfl)) (fun _ _ _ h => h) (Or.inl ⟨by rfl,?_⟩) ?_ ?_
                        rotate_left;·intro w';go_simp;with_reducible rfl
                        rotate_left;·simp only [Act.put,List.setIfInBounds_toArray,List.set_cons_zero,List.set_cons_succ,i64_w,i32_w];rfl
                        refine pure_ (i:=6) (N:=some 115) (v:=?_) (a':=?_) #[true,true,true,true,false,true,true,false,false,false,false,false,false,false,false,false,false,false,false,false] rfl rfl (any_of HT_.out (by kernel_rfl)) (fun _ _ _ h => h) (Or.inl ⟨by rfl,?_⟩) ?_ ?_
                        rotate_left;·intro w';go_simp;with_reducible rfl
                        rotate_left;·simp only [Act.put,List.setIfInBounds_toArray,List.set_cons_zero,List.set_cons_succ,i64_w,i32_w];rfl
                        refine pure_ (i:=7) (N:=some 116) (v:=?_) (a':=?_) #[true,true,true,true,false,true,true,true,false,false,false,false,false,false,false,false,false,false,false,false] rfl rfl (any_of HT_.out (by kernel_rfl)) (fun _ _ _ h => h) (Or.inl ⟨by rfl,?_⟩) ?_ ?_
                        rotate_left;·intro w';go_simp;with_reducible rfl
                        rotate_left;·simp only [Act.put,List.setIfInBounds_toArray,List.set_cons_zero,List.set_cons_succ,i64_w,i32_w];rfl
                        refine pure_ (i:=8) (N:=some 117) (v:=?_) (a':=?_) #[true,true,true,true,false,true,true,true,true,false,false,false,false,false,false,false,false,false,false,false] rfl rfl (any_of HT_.out (by kernel_rfl)) (fun _ _ _ h => h) (Or.inl ⟨by rfl,?_⟩) ?_ ?_
                        rotate_left;·intro w';go_simp;with_reducible rfl
                        rotate_left;·simp only [Act.put,List.setIfInBounds_toArray,List.set_cons_zero,List.set_cons_succ,i64_w,i32_w];rfl
                        refine take_ (i:=4) (N:=some 113) (v:=?_) (a':=?_) (bl 9 11) rfl rfl (take_ofW HT_.out HW_.out (by kernel_rfl)) (fun _ _ _ h => h) (Or.inl ⟨by rfl,?_⟩) hHeld ?_ ?_
                        rotate_left
                        ·rintro w' ⟨s0,s1,s2,s3,s4,s5⟩
                         go_simp
                         with_reducible rfl
                        rotate_left
                        ·simp only [Act.put,List.setIfInBounds_toArray,List.set_cons_zero,List.set_cons_succ,i64_w,i32_w]
                         rfl
                        refine take_ (i:=9) (N:=some 118) (v:=?_) (a':=?_) (bl 10 10) rfl rfl (take_ofW HT_.out HW_.out (by kernel_rfl)) (fun _ _ _ h => h) (Or.inl ⟨by rfl,?_⟩) hHeld ?_ ?_
                        rotate_left
                        ·rintro w' ⟨s0,s1,s2,s3,s4,s5⟩
                         go_simp
                         with_reducible rfl
                        rotate_left
                        ·simp only [Act.put,List.setIfInBounds_toArray,List.set_cons_zero,List.set_cons_succ,i64_w,i32_w]
                         rfl
                        refine pure_ (i:=10) (N:=some 119) (v:=?_) (a':=?_) (bl 11 9) rfl rfl (any_of HT_.out (by kernel_rfl)) (fun _ _ _ h => h) (Or.inl ⟨by rfl,?_⟩) ?_ ?_
                        rotate_left;·intro w';go_simp;with_reducible rfl
                        rotate_left;·simp only [Act.put,List.setIfInBounds_toArray,List.set_cons_zero,List.set_cons_succ,i64_w,i32_w];rfl
                        refine pure_ (i:=11) (N:=some 120) (v:=?_) (a':=?_) (bl 12 8) rfl rfl (any_of HT_.out (by kernel_rfl)) (fun _ _ _ h => h) (Or.inl ⟨by rfl,?_⟩) ?_ ?_
                        rotate_left;·intro w';go_simp;with_reducible rfl
                        rotate_left;·simp only [Act.put,List.setIfInBounds_toArray,List.set_cons_zero,List.set_cons_succ,i64_w,i32_w];rfl
                        refine pure_ (i:=12) (N:=some 121) (v:=?_) (a':=?_) (bl 13 7) rfl rfl (any_of HT_.out (by kernel_rfl)) (fun _ _ _ h => h) (Or.inl ⟨by rfl,?_⟩) ?_ ?_
                        rotate_left;·intro w';go_simp;with_reducible rfl
                        rotate_left;·simp only [Act.put,List.setIfInBounds_toArray,List.set_cons_zero,List.set_cons_succ,i64_w,i32_w];rfl
                        refine pure_ (i:=13) (N:=some 122) (v:=?_) (a':=?_) (bl 14 6) rfl rfl (any_of HT_.out (by kernel_rfl)) (fun _ _ _ h => h) (Or.inl ⟨by rfl,?_⟩) ?_ ?_
                        rotate_left;·intro w';go_simp;with_reducible rfl
                        rotate_left;·simp only [Act.put,List.setIfInBounds_toArray,List.set_cons_zero,List.set_cons_succ,i64_w,i32_w];rfl
                        refine pure_ (i:=14) (N:=some 123) (v:=?_) (a':=?_) (bl 15 5) rfl rfl (any_of HT_.out (by kernel_rfl)) (fun _ _ _ h => h) (Or.inl ⟨by rfl,?_⟩) ?_ ?_
                        rotate_left;·intro w';go_simp;with_reducible rfl
                        rotate_left;·simp only [Act.put,List.setIfInBounds_toArray,List.set_cons_zero,List.set_cons_succ,i64_w,i32_w];rfl
                        refine pure_ (i:=15) (N:=some 124) (v:=?_) (a':=?_) (bl 16 4) rfl rfl (any_of HT_.out (by kernel_rfl)) (fun _ _ _ h => h) (Or.inl ⟨by rfl,?_⟩) ?_ ?_
                        rotate_left;·intro w';go_simp;with_reducible rfl
                        rotate_left;·simp only [Act.put,List.setIfInBounds_toArray,List.set_cons_zero,List.set_cons_succ,i64_w,i32_w];rfl
                        refine pure_ (i:=17) (N:=some 126) (v:=?_) (a':=?_) #[true,true,true,true,true,true,true,true,true,true,true,true,true,true,true,true,false,true,false,false] rfl rfl (any_of HT_.out (by kernel_rfl)) (fun _ _ _ h => h) (Or.inl ⟨by rfl,?_⟩) ?_ ?_
                        rotate_left;·intro w';go_simp;with_reducible rfl
                        rotate_left;·simp only [Act.put,List.setIfInBounds_toArray,List.set_cons_zero,List.set_cons_succ,i64_w,i32_w];rfl
                        refine take_ (i:=16) (N:=some 125) (v:=?_) (a':=?_) (bl 18 2) rfl rfl (take_ofW HT_.out HW_.out (by kernel_rfl)) (fun _ _ _ h => h) (Or.inl ⟨by rfl,?_⟩) hHeld ?_ ?_
                        rotate_left
                        ·rintro w' ⟨s0,s1,s2,s3,s4,s5⟩
                         go_simp
                         with_reducible rfl
                        rotate_left
                        ·simp only [Act.put,List.setIfInBounds_toArray,List.set_cons_zero,List.set_cons_succ,i64_w,i32_w]
                         rfl
                        refine pure_ (i:=18) (N:=some 127) (v:=?_) (a':=?_) (bl 19 1) rfl rfl (any_of HT_.out (by kernel_rfl)) (fun _ _ _ h => h) (Or.inl ⟨by rfl,?_⟩) ?_ ?_
                        rotate_left;·intro w';go_simp;with_reducible rfl
                        rotate_left;·simp only [Act.put,List.setIfInBounds_toArray,List.set_cons_zero,List.set_cons_succ,i64_w,i32_w];rfl
                        refine pure_ (i:=19) (N:=some 128) (v:=?_) (a':=?_) (bl 20 0) rfl rfl (any_of HT_.out (by kernel_rfl)) (fun _ _ _ h => h) (Or.inl ⟨by rfl,?_⟩) ?_ ?_
                        rotate_left;·intro w';go_simp;with_reducible rfl
                        rotate_left;·simp only [Act.put,List.setIfInBounds_toArray,List.set_cons_zero,List.set_cons_succ,i64_w,i32_w];rfl
                        refine done_ (done_of HT_.out (by kernel_rfl)) ?_
                        try go_wp2
                        go_ret
                        exact ⟨by first|rfl|(simp [errW_none,errW_some] <;> rfl)|(simp [*,errW_none,errW_some] <;> rfl),by repeat (first|(with_reducible first|exact HB.out|apply below_alloc|apply pw_below_drewN|apply below_drew1)|exact HB.out)⟩
                      ·rw [if_neg c53] at H
                       have c53b0 : (((rd_T57 t579 x13_4).f0).toList == ((rd_T57 t554 x13_4).f0).toList) = false:=beq_eq_false_iff_ne.mpr c53
                       have c53b1 : (((rd_T57 t579 x13_4).f0).toList != ((rd_T57 t554 x13_4).f0).toList) = true:=bne_iff_ne.mpr c53
                       obtain rfl:=Option.some.inj H
                       obtain ⟨Ao61,co61,eo61⟩:=Kd.R_slice HO_11.out
                       subst eo61
                       have p583 : 0 ≤ (x13_4 : Int):=of_decide_eq_true (by first|(with_reducible assumption)|assumption)
                       have q583 : x13_4 < (t579.length : Int):=of_decide_eq_true (by first|(with_reducible assumption)|assumption)
                       obtain ⟨ad583,e583,hx583_0,hx583_1⟩:=at_T57 (Kd.R_reads' HO_11.out).2.2 x13_4 p583 q583
                       cases e583
                       replace p583:=eq_true p583
                       replace q583:=eq_true q583
                       try go_wp2_with (first|((with_reducible refine gate_callee (f:=30) rfl ?_);refine goesL_ (some 106) rfl rfl Tryz.func30 (by kernel_rfl) rfl #[.slice A0 l0.length c0,.string ((rd_T57 t579 x13_4).f0)] rfl (by (try simp only [List.map_toArray,List.map_cons,List.map_nil]);first|done|rfl|(simp only [List.length_drop,List.length_take];rfl)) ?_;(with_reducible refine (quant_Of.calls k4 _ _ l0 ((rd_T57 t579 x13_4).f0) t584 t585 _ ?side1 ?side2 A51.out).mono ?_);(case side1 => repeat (first|exact (Kd.C_below HR0.out HB.out)|(with_reducible refine Kd.C_alloc ?_ _)|(with_reducible refine Kd.C_drewN ?_ _)|(with_reducible refine Kd.C_drew ?_)));(case side2 => exact HC0.out);rintro e w62 ⟨rfl,hb⟩;refine ⟨_,rfl,?_⟩;have n0_:=Aside0.mk (Kd.R_below (by (with_reducible repeat (first|apply Kd.R_alloc|apply Kd.R_drewN|apply Kd.R_drew));exact HO_7.out) hb);have n1_:=Aside0.mk (Kd.R_below (by (with_reducible repeat (first|apply Kd.R_alloc|apply Kd.R_drewN|apply Kd.R_drew));exact HO_11.out) hb);have n2_:=Aside0.mk (Kd.C_below (by repeat (first|(with_reducible exact HR571.out)|(with_reducible refine Kd.C_alloc ?_ _)|(with_reducible refine Kd.C_drewN ?_ _)|(with_reducible refine Kd.C_drew ?_)|exact HR571.out)) hb);have n3_:=Aside0.mk (Kd.C_below (by repeat (first|(with_reducible exact HR578.out)|(with_reducible refine Kd.C_alloc ?_ _)|(with_reducible refine Kd.C_drewN ?_ _)|(with_reducible refine Kd.C_drew ?_)|exact HR578.out)) hb);have n4_:=Aside0.mk (below_step (by repeat (first|(with_reducible first|exact HB.out|apply below_alloc|apply pw_below_drewN|apply below_drew1)|exact HB.out)) hb);clear HO_7;clear HO_11;clear HR571;clear HR578;clear HB;have HO_7:=n0_;have HO_11:=n1_;have HR571:=n2_;have HR578:=n3_;have HB:=n4_;clear n0_ n1_ n2_ n3_ n4_;(try clear hb);(try clear hb2);(try clear hk);(try clear hi)))
                       have n0_:=Aside0.mk (Kd.R_drew HO_7.out)
                       have n1_:=Aside0.mk (Kd.R_drew HO_11.out)
                       have n2_:=Aside0.mk (Kd.C_drew HR571.out)
                       have n3_:=Aside0.mk (Kd.C_drew HR578.out)
                       have n4_:=Aside0.mk (below_drew1 HB.out)
                       clear HO_7;clear HO_11;clear HR571;clear HR578;clear HB;have HO_7:=n0_;have HO_11:=n1_;have HR571:=n2_;have HR578:=n3_;have HB:=n4_;clear n0_ n1_ n2_ n3_ n4_
                       have p586 : 0 ≤ (x13_4 : Int):=of_decide_eq_true (by first|(with_reducible assumption)|assumption)
                       have q586 : x13_4 < (t579.length : Int):=of_decide_eq_true (by first|(with_reducible assumption)|assumption)
                       obtain ⟨ad586,e586,hx586_0,hx586_1⟩:=at_T57 (Kd.R_reads' HO_11.out).2.2 x13_4 p586 q586
                       obtain rfl : ad583 = ad586:=(by injection e586)
                       replace p586:=eq_true p586
                       replace q586:=eq_true q586
                       have p587 : 0 ≤ (x13_4 : Int):=of_decide_eq_true (by first|(with_reducible assumption)|assumption)
                       have q587 : x13_4 < (t554.length : Int):=of_decide_eq_true (by first|(with_reducible assumption)|assumption)
                       obtain ⟨ad587,e587,hx587_0,hx587_1⟩:=at_T57 (Kd.R_reads' HO_7.out).2.2 x13_4 p587 q587
                       cases e587
                       replace p587:=eq_true p587
                       replace q587:=eq_true q587
                       refine start_ (n:=20) (S:=fun w' => w'.cell? (ad583.add ((x13_4).toNat * 2)) = some (.string ((rd_T57 t579 x13_4).f0)) ∧ w'.cell? ⟨(ad583.add ((x13_4).toNat * 2)).block,(ad583.add ((x13_4).toNat * 2)).off + 1,none⟩ = some (.int .i64 ((rd_T57 t579 x13_4).f1)) ∧ w'.cell? (ad587.add ((x13_4).toNat * 2)) = some (.string ((rd_T57 t554 x13_4).f0)) ∧ w'.cell? ⟨(ad587.add ((x13_4).toNat * 2)).block,(ad587.add ((x13_4).toNat * 2)).off + 1,none⟩ = some (.int .i64 ((rd_T57 t554 x13_4).f1))) (ds:=[]) (bl 0 20) (by kernel_rfl) rfl rfl ⟨hx586_0,hx586_1,hx587_0,hx587_1⟩ (fun hHeld => ?_);refine with_tabW bursarlaw03_QuantAddsUp.tab17 bursarlaw03_QuantAddsUp.bits17 (fun HT_ HW_ => ?_)
                       generalize w62.drew = w63 at HO_7 HO_11 HR571 HR578 HB hx586_0 hx586_1 hx587_0 hx587_1 hHeld ⊢
                       refine pure_ (i:=0) (N:=some 109) (v:=?_) (a':=?_) (bl 1 19) rfl rfl (any_of HT_.out (by kernel_rfl)) (fun _ _ _ h => h) (Or.inl ⟨by rfl,?_⟩) ?_ ?_
                       rotate_left;·intro w';go_simp;with_reducible rfl
                       rotate_left;·simp only [Act.put,List.setIfInBounds_toArray,List.set_cons_zero,List.set_cons_succ,i64_w,i32_w];rfl
                       refine pure_ (i:=1) (N:=some 110) (v:=?_) (a':=?_) (bl 2 18) rfl rfl (any_of HT_.out (by kernel_rfl)) (fun _ _ _ h => h) (Or.inl ⟨by rfl,?_⟩) ?_ ?_
                       rotate_left;·intro w';go_simp;with_reducible rfl
                       rotate_left;·simp only [Act.put,List.setIfInBounds_toArray,List.set_cons_zero,List.set_cons_succ,i64_w,i32_w];rfl
                       refine pure_ (i:=2) (N:=some 111) (v:=?_) (a':=?_) (bl 3 17) rfl rfl (any_of HT_.out (by kernel_rfl)) (fun _ _ _ h => h) (Or.inl ⟨by rfl,?_⟩) ?_ ?_
                       rotate_left;·intro w';go_simp;with_reducible rfl
                       rotate_left;·simp only [Act.put,List.setIfInBounds_toArray,List.set_cons_zero,List.set_cons_succ,i64_w,i32_w];rfl
                       refine pure_ (i:=3) (N:=some 112) (v:=?_) (a':=?_) (bl 4 16) rfl rfl (any_of HT_.out (by kernel_rfl)) (fun _ _ _ h => h) (Or.inl ⟨by rfl,?_⟩) ?_ ?_
                       rotate_left;·intro w';go_simp;with_reducible rfl
                       rotate_left;·simp only [Act.put,List.setIfInBounds_toArray,List.set_cons_zero,List.set_cons_succ,i64_w,i32_w];rfl
                       refine pure_ (i:=5) (N:=some 114) (v:=?_) (a':=?_) #[true,true,true,true,false,true,false,false,false,false,false,false,false,false,false,false,false,false,false,false] rfl rfl (any_of HT_.out (by kernel_rfl)) (fun _ _ _ h => h) (Or.inl ⟨by rfl,?_⟩) ?_ ?_
                       rotate_left;·intro w';go_simp;with_reducible rfl
                       rotate_left;·simp only [Act.put,List.setIfInBounds_toArray,List.set_cons_zero,List.set_cons_succ,i64_w,i32_w];rfl
                       refine pure_ (i:=6) (N:=some 115) (v:=?_) (a':=?_) #[true,true,true,true,false,true,true,false,false,false,false,false,false,false,false,false,false,false,false,false] rfl rfl (any_of HT_.out (by kernel_rfl)) (fun _ _ _ h => h) (Or.inl ⟨by rfl,?_⟩) ?_ ?_
                       rotate_left;·intro w';go_simp;with_reducible rfl
                       rotate_left;·simp only [Act.put,List.setIfInBounds_toArray,List.set_cons_zero,List.set_cons_succ,i64_w,i32_w];rfl
                       refine pure_ (i:=7) (N:=some 116) (v:=?_) (a':=?_) #[true,true,true,true,false,true,true,true,false,false,false,false,false,false,false,false,false,false,false,false] rfl rfl (any_of HT_.out (by kernel_rfl)) (fun _ _ _ h => h) (Or.inl ⟨by rfl,?_⟩) ?_ ?_
                       rotate_left;·intro w';go_simp;with_reducible rfl
                       rotate_left;·simp only [Act.put,List.setIfInBounds_toArray,List.set_cons_zero,List.set_cons_succ,i64_w,i32_w];rfl
                       refine pure_ (i:=8) (N:=some 117) (v:=?_) (a':=?_) #[true,true,true,true,false,true,true,true,true,false,false,false,false,false,false,false,false,false,false,false] rfl rfl (any_of HT_.out (by kernel_rfl)) (fun _ _ _ h => h) (Or.inl ⟨by rfl,?_⟩) ?_ ?_
                       rotate_left;·intro w';go_simp;with_reducible rfl
                       rotate_left;·simp only [Act.put,List.setIfInBounds_toArray,List.set_cons_zero,List.set_cons_succ,i64_w,i32_w];rfl
                       refine take_ (i:=4) (N:=some 113) (v:=?_) (a':=?_) (bl 9 11) rfl rfl (take_ofW HT_.out HW_.out (by kernel_rfl)) (fun _ _ _ h => h) (Or.inl ⟨by rfl,?_⟩) hHeld ?_ ?_
                       rotate_left
                       ·rintro w' ⟨s0,s1,s2,s3⟩
                        go_simp
                        with_reducible rfl
                       rotate_left
                       ·simp only [Act.put,List.setIfInBounds_toArray,List.set_cons_zero,List.set_cons_succ,i64_w,i32_w]
                        rfl
                       refine take_ (i:=9) (N:=some 118) (v:=?_) (a':=?_) (bl 10 10) rfl rfl (take_ofW HT_.out HW_.out (by kernel_rfl)) (fun _ _ _ h => h) (Or.inl ⟨by rfl,?_⟩) hHeld ?_ ?_
                       rotate_left
                       ·rintro w' ⟨s0,s1,s2,s3⟩
                        go_simp
                        with_reducible rfl
                       rotate_left
                       ·simp only [Act.put,List.setIfInBounds_toArray,List.set_cons_zero,List.set_cons_succ,i64_w,i32_w]
                        rfl
                       refine pure_ (i:=10) (N:=some 119) (v:=?_) (a':=?_) (bl 11 9) rfl rfl (any_of HT_.out (by kernel_rfl)) (fun _ _ _ h => h) (Or.inl ⟨by rfl,?_⟩) ?_ ?_
                       rotate_left;·intro w';go_simp;with_reducible rfl
                       rotate_left;·simp only [Act.put,List.setIfInBounds_toArray,List.set_cons_zero,List.set_cons_succ,i64_w,i32_w];rfl
                       refine pure_ (i:=11) (N:=some 120) (v:=?_) (a':=?_) (bl 12 8) rfl rfl (any_of HT_.out (by kernel_rfl)) (fun _ _ _ h => h) (Or.inl ⟨by rfl,?_⟩) ?_ ?_
                       rotate_left;·intro w';go_simp;with_reducible rfl
                       rotate_left;·simp only [Act.put,List.setIfInBounds_toArray,List.set_cons_zero,List.set_cons_succ,i64_w,i32_w];rfl
                       refine pure_ (i:=12) (N:=some 121) (v:=undef) (a':=?_) (bl 13 7) rfl rfl (any_of HT_.out (by kernel_rfl)) (fun _ _ _ h => h) (Or.inr ⟨by rfl,rfl⟩) ?_ ?_
                       rotate_left
                       ·simp only [Act.put,List.setIfInBounds_toArray,List.set_cons_zero,List.set_cons_succ,i64_w,i32_w]
                        rfl
                       refine pure_ (i:=13) (N:=some 122) (v:=undef) (a':=?_) (bl 14 6) rfl rfl (any_of HT_.out (by kernel_rfl)) (fun _ _ _ h => h) (Or.inr ⟨by rfl,rfl⟩) ?_ ?_
                       rotate_left
                       ·simp only [Act.put,List.setIfInBounds_toArray,List.set_cons_zero,List.set_cons_succ,i64_w,i32_w]
                        rfl
                       refine pure_ (i:=14) (N:=some 123) (v:=undef) (a':=?_) (bl 15 5) rfl rfl (any_of HT_.out (by kernel_rfl)) (fun _ _ _ h => h) (Or.inr ⟨by rfl,rfl⟩) ?_ ?_
                       rotate_left
                       ·simp only [Act.put,List.setIfInBounds_toArray,List.set_cons_zero,List.set_cons_succ,i64_w,i32_w]
                        rfl
                       refine pure_ (i:=15) (N:=some 124) (v:=undef) (a':=?_) (bl 16 4) rfl rfl (any_of HT_.out (by kernel_rfl)) (fun _ _ _ h => h) (Or.inr ⟨by rfl,rfl⟩) ?_ ?_
                       rotate_left
                       ·simp only [Act.put,List.setIfInBounds_toArray,List.set_cons_zero,List.set_cons_succ,i64_w,i32_w]
                        rfl
                       refine pure_ (i:=16) (N:=some 125) (v:=undef) (a':=?_) (bl 17 3) rfl rfl (any_of HT_.out (by kernel_rfl)) (fun _ _ _ h => h) (Or.inr ⟨by rfl,rfl⟩) ?_ ?_
                       rotate_left
                       ·simp only [Act.put,List.setIfInBounds_toArray,List.set_cons_zero,List.set_cons_succ,i64_w,i32_w]
                        rfl
                       refine pure_ (i:=17) (N:=some 126) (v:=undef) (a':=?_) (bl 18 2) rfl rfl (any_of HT_.out (by kernel_rfl)) (fun _ _ _ h => h) (Or.inr ⟨by rfl,rfl⟩) ?_ ?_
                       rotate_left
                       ·simp only [Act.put,List.setIfInBounds_toArray,List.set_cons_zero,List.set_cons_succ,i64_w,i32_w]
                        rfl
                       refine pure_ (i:=18) (N:=some 127) (v:=undef) (a':=?_) (bl 19 1) rfl rfl (any_of HT_.out (by kernel_rfl)) (fun _ _ _ h => h) (Or.inr ⟨by rfl,rfl⟩) ?_ ?_
                       rotate_left
                       ·simp only [Act.put,List.setIfInBounds_toArray,List.set_cons_zero,List.set_cons_succ,i64_w,i32_w]
                        rfl
                       refine pure_ (i:=19) (N:=some 128) (v:=?_) (a':=?_) (bl 20 0) rfl rfl (any_of HT_.out (by kernel_rfl)) (fun _ _ _ h => h) (Or.inl ⟨by rfl,?_⟩) ?_ ?_
                       rotate_left;·intro w';go_simp;with_reducible rfl
                       rotate_left;·simp only [Act.put,List.setIfInBounds_toArray,List.set_cons_zero,List.set_cons_succ,i64_w,i32_w];rfl
                       refine done_ (done_of HT_.out (by kernel_rfl)) ?_
                       try go_wp2
                       go_ret
                       exact ⟨by first|rfl|(simp [errW_none,errW_some] <;> rfl)|(simp [*,errW_none,errW_some] <;> rfl),by repeat (first|(with_reducible first|exact HB.out|apply below_alloc|apply pw_below_drewN|apply below_drew1)|exact HB.out)⟩
                     ·rw [if_neg c52] at H
                      exact absurd H (by simp)
                    ·rw [if_neg c50] at H
                     exact absurd H (by simp)
                   ·rw [if_neg c49] at H
                    have c49b0 : decide (x13_4 < (t579.length : Int)) = false:=decide_eq_false c49
                    clear c49
                    replace H:=Option.bind_eq_some_iff.mp H
                    obtain ⟨t589,A640,H⟩:=H
                    replace H : (if 0 ≤ (l0.length : Int) then (if (l0.length : Int) ≤ (t589.length : Int) then ((bursarlaw03_behind.f t554).bind fun t596 => (if 0 ≤ (t554.length : Int) then (if (t554.length : Int) ≤ (t596.length : Int) then ((quant_Within.f k4 (t589.take ((l0.length : Int) : Int).toNat) (t596.take ((t554.length : Int) : Int).toNat)).bind fun bt603 => (if bt603.1.toList = ([] : List UInt8) then (if bt603.2 = 0 then (bursarlaw03_QuantAddsUp.j4 k4 l0 l1 l2 t554 t555) else (some false)) else (some false))) else (none)) else (none))) else (none)) else (none)) = some r:=H
                    have A64:=Aside0.mk A640
                    clear A640
                    by_cases c65 : 0 ≤ (l0.length : Int)
                    ·rw [if_pos c65] at H
                     have c65b0:=eq_true c65
                     have c65b1 : decide (0 ≤ (l0.length : Int)) = true:=decide_eq_true c65
                     clear c65
                     by_cases c66 : (l0.length : Int) ≤ (t589.length : Int)
                     ·rw [if_pos c66] at H
                      have c66b0:=eq_true c66
                      have c66b1 : decide ((l0.length : Int) ≤ (t589.length : Int)) = true:=decide_eq_true c66
                      clear c66
                      obtain ⟨y592,hy592⟩ : ∃ y_ : List (S57),y_ = (t589.take ((l0.length : Int) : Int).toNat):=⟨_,rfl⟩
                      replace H : ((bursarlaw03_behind.f t554).bind fun t596 => (if 0 ≤ (t554.length : Int) then (if (t554.length : Int) ≤ (t596.length : Int) then ((quant_Within.f k4 y592 (t596.take ((t554.length : Int) : Int).toNat)).bind fun bt603 => (if bt603.1.toList = ([] : List UInt8) then (if bt603.2 = 0 then (bursarlaw03_QuantAddsUp.j4 k4 l0 l1 l2 t554 t555) else (some false)) else (some false))) else (none)) else (none))) = some r:=by first|(rw [hy592];with_reducible exact H)|(have H2_:=(Option.bind_some _ _).symm.trans H;rw [hy592];with_reducible exact H2_)|(have H2_:=(Option.bind_some _ _).symm.trans H;with_reducible exact H2_)|with_reducible exact H|(rw [hy592];exact H)|exact H
                      have Ny592:=Aside0.mk hy592
                      clear hy592
                      replace H:=Option.bind_eq_some_iff.mp H
                      obtain ⟨t596,A670,H⟩:=H
                      replace H : (if 0 ≤ (t554.length : Int) then (if (t554.length : Int) ≤ (t596.length : Int) then ((quant_Within.f k4 y592 (t596.take ((t554.length : Int) : Int).toNat)).bind fun bt603 => (if bt603.1.toList = ([] : List UInt8) then (if bt603.2 = 0 then (bursarlaw03_QuantAddsUp.j4 k4 l0 l1 l2 t554 t555) else (some false)) else (some false))) else (none)) else (none)) = some r:=H
                      have A67:=Aside0.mk A670
                      clear A670
                      by_cases c68 : 0 ≤ (t554.length : Int)
                      ·rw [if_pos c68] at H
                       have c68b0:=eq_true c68
                       have c68b1 : decide (0 ≤ (t554.length : Int)) = true:=decide_eq_true c68
                       clear c68
                       by_cases c69 : (t554.length : Int) ≤ (t596.length : Int)
                       ·rw [if_pos c69] at H
                        have c69b0:=eq_true c69
                        have c69b1 : decide ((t554.length : Int) ≤ (t596.length : Int)) = true:=decide_eq_true c69
                        clear c69
                        obtain ⟨y599,hy599⟩ : ∃ y_ : List (S57),y_ = (t596.take ((t554.length : Int) : Int).toNat):=⟨_,rfl⟩
                        replace H : ((quant_Within.f k4 y592 y599).bind fun bt603 => (if bt603.1.toList = ([] : List UInt8) then (if bt603.2 = 0 then (bursarlaw03_QuantAddsUp.j4 k4 l0 l1 l2 t554 t555) else (some false)) else (some false))) = some r:=by first|(rw [hy599];with_reducible exact H)|(have H2_:=(Option.bind_some _ _).symm.trans H;rw [hy599];with_reducible exact H2_)|(have H2_:=(Option.bind_some _ _).symm.trans H;with_reducible exact H2_)|with_reducible exact H|(rw [hy599];exact H)|exact H
                        have Ny599:=Aside0.mk hy599
                        clear hy599
                        replace H:=Option.bind_eq_some_iff.mp H
                        obtain ⟨⟨t603,t604⟩,A700,H⟩:=H
                        replace H : (if t603.toList = ([] : List UInt8) then (if t604 = 0 then (bursarlaw03_QuantAddsUp.j4 k4 l0 l1 l2 t554 t555) else (some false)) else (some false)) = some r:=H
                        have A70:=Aside0.mk A700
                        clear A700
                        by_cases c71 : t603.toList = ([] : List UInt8)
                        ·rw [if_pos c71] at H
                         have c71b0 : (t603.toList == ([] : List UInt8)) = true:=beq_iff_eq.mpr c71
                         have c71b1 : (t603.toList != ([] : List UInt8)) = false:=bne_eq_false_iff_eq.mpr c71
                         clear c71
                         by_cases c72 : t604 = 0
                         ·rw [if_pos c72] at H
                          have c72b0 : (t604 == 0) = true:=beq_iff_eq.mpr c72
                          have c72b1 : (t604 != 0) = false:=bne_eq_false_iff_eq.mpr c72
                          clear c72
                          have H':=Aside0.mk H
                          clear H
                          obtain ⟨Ao73,co73,eo73⟩:=Kd.R_slice HO_11.out
                          subst eo73
                          try go_wp2
                          have n0_:=Aside0.mk (Kd.R_drew HO_7.out)
                          have n1_:=Aside0.mk (Kd.R_drew HO_11.out)
                          have n2_:=Aside0.mk (Kd.C_drew HR571.out)
                          have n3_:=Aside0.mk (Kd.C_drew HR578.out)
                          have n4_:=Aside0.mk (below_drew1 HB.out)
                          clear HO_7;clear HO_11;clear HR571;clear HR578;clear HB;have HO_7:=n0_;have HO_11:=n1_;have HR571:=n2_;have HR578:=n3_;have HB:=n4_;clear n0_ n1_ n2_ n3_ n4_
                          refine start_ (n:=16) (S:=fun w' => True) (ds:=[]) (bl 0 16) (by kernel_rfl) rfl rfl trivial (fun hHeld => ?_);refine with_tabW bursarlaw03_QuantAddsUp.tab19 bursarlaw03_QuantAddsUp.bits19 (fun HT_ HW_ => ?_)
                          generalize wr.drew = w74 at HO_7 HO_11 HR571 HR578 HB hHeld ⊢
                          refine pure_ (i:=0) (N:=some 130) (v:=?_) (a':=?_) (bl 1 15) rfl rfl (any_of HT_.out (by kernel_rfl)) (fun _ _ _ h => h) (Or.inl ⟨by rfl,?_⟩) ?_ ?_
                          rotate_left;·intro w';go_simp;with_reducible rfl
                          rotate_left;·simp only [Act.put,List.setIfInBounds_toArray,List.set_cons_zero,List.set_cons_succ,i64_w,i32_w];rfl
                          refine pure_ (i:=2) (N:=some 132) (v:=?_) (a':=?_) #[true,false,true,false,false,false,false,false,false,false,false,false,false,false,false,false] rfl rfl (any_of HT_.out (by kernel_rfl)) (fun _ _ _ h => h) (Or.inl ⟨by rfl,?_⟩) ?_ ?_
                          rotate_left;·intro w';go_simp;with_reducible rfl
                          rotate_left;·simp only [Act.put,List.setIfInBounds_toArray,List.set_cons_zero,List.set_cons_succ,i64_w,i32_w];rfl
                          refine pure_ (i:=3) (N:=some 133) (v:=?_) (a':=?_) #[true,false,true,true,false,false,false,false,false,false,false,false,false,false,false,false] rfl rfl (any_of HT_.out (by kernel_rfl)) (fun _ _ _ h => h) (Or.inl ⟨by rfl,?_⟩) ?_ ?_
                          rotate_left;·intro w';go_simp;with_reducible rfl
                          rotate_left;·simp only [Act.put,List.setIfInBounds_toArray,List.set_cons_zero,List.set_cons_succ,i64_w,i32_w];rfl
                          refine pure_ (i:=5) (N:=some 135) (v:=?_) (a':=?_) #[true,false,true,true,false,true,false,false,false,false,false,false,false,false,false,false] rfl rfl (any_of HT_.out (by kernel_rfl)) (fun _ _ _ h => h) (Or.inl ⟨by rfl,?_⟩) ?_ ?_
                          rotate_left;·intro w';go_simp;with_reducible rfl
                          rotate_left;·simp only [Act.put,List.setIfInBounds_toArray,List.set_cons_zero,List.set_cons_succ,i64_w,i32_w];rfl
                          refine pure_ (i:=7) (N:=some 137) (v:=?_) (a':=?_) #[true,false,true,true,false,true,false,true,false,false,false,false,false,false,false,false] rfl rfl (any_of HT_.out (by kernel_rfl)) (fun _ _ _ h => h) (Or.inl ⟨by rfl,?_⟩) ?_ ?_
                          rotate_left;·intro w';go_simp;with_reducible rfl
                          rotate_left;·simp only [Act.put,List.setIfInBounds_toArray,List.set_cons_zero,List.set_cons_succ,i64_w,i32_w];rfl
                          refine pure_ (i:=8) (N:=some 138) (v:=?_) (a':=?_) #[true,false,true,true,false,true,false,true,true,false,false,false,false,false,false,false] rfl rfl (any_of HT_.out (by kernel_rfl)) (fun _ _ _ h => h) (Or.inl ⟨by rfl,?_⟩) ?_ ?_
                          rotate_left;·intro w';go_simp;with_reducible rfl
                          rotate_left;·simp only [Act.put,List.setIfInBounds_toArray,List.set_cons_zero,List.set_cons_succ,i64_w,i32_w];rfl
                          refine one_ (i:=1) (N:=some 131) #[true,true,true,true,false,true,false,true,true,false,false,false,false,false,false,false] rfl rfl (one_of HT_.out (by kernel_rfl)) (by decide) (fun K hK => ?_)
                          refine goes_ Tryz.func29 (by kernel_rfl) rfl #[.slice A0 l0.length c0] (by rfl) rfl rfl (by (try simp only [List.map_toArray,List.map_cons,List.map_nil]);first|done|rfl|(simp only [List.length_drop,List.length_take];rfl)) ?_
                          with_reducible refine (bursarlaw03_behind.calls _ _ l0 t589 _ ?side1 ?side2 A64.out (GlobM.below hG (by repeat (first|(with_reducible first|exact HB.out|apply below_alloc|apply pw_below_drewN|apply below_drew1)|exact HB.out)))).mono ?_
                          (case side1 => repeat (first|exact (Kd.C_below HR0.out HB.out)|(with_reducible refine Kd.C_alloc ?_ _)|(with_reducible refine Kd.C_drewN ?_ _)|(with_reducible refine Kd.C_drew ?_)))
                          (case side2 => exact HC0.out)
                          rintro e w75 ⟨v590,rfl,ho0,hb⟩
                          refine ⟨_,rfl,?_⟩
                          have n0_:=Aside0.mk (Kd.R_elder' (by (with_reducible repeat (first|apply Kd.R_alloc|apply Kd.R_drewN|apply Kd.R_drew));exact HO_7.out) (Kd.R_base ho0) hb)
                          have n1_:=Aside0.mk (Kd.R_elder' (by (with_reducible repeat (first|apply Kd.R_alloc|apply Kd.R_drewN|apply Kd.R_drew));exact HO_11.out) (Kd.R_base ho0) hb)
                          have n2_:=Aside0.mk (Kd.R_lower (Kd.R_new' (Kd.R_new' ho0 (Kd.R_lt (by (with_reducible repeat (first|apply Kd.R_alloc|apply Kd.R_drewN|apply Kd.R_drew));exact HO_7.out))) (Kd.R_lt (by (with_reducible repeat (first|apply Kd.R_alloc|apply Kd.R_drewN|apply Kd.R_drew));exact HO_11.out))) (below_size (by repeat (first|(with_reducible first|exact HB.out|apply below_alloc|apply pw_below_drewN|apply below_drew1)|exact HB.out))))
                          have n3_:=Aside0.mk (Kd.C_below (by repeat (first|(with_reducible exact HR571.out)|(with_reducible refine Kd.C_alloc ?_ _)|(with_reducible refine Kd.C_drewN ?_ _)|(with_reducible refine Kd.C_drew ?_)|exact HR571.out)) hb)
                          have n4_:=Aside0.mk (Kd.C_below (by repeat (first|(with_reducible exact HR578.out)|(with_reducible refine Kd.C_alloc ?_ _)|(with_reducible refine Kd.C_drewN ?_ _)|(with_reducible refine Kd.C_drew ?_)|exact HR578.out)) hb)
                          have n5_:=Aside0.mk (below_step (by repeat (first|(with_reducible first|exact HB.out|apply below_alloc|apply pw_below_drewN|apply below_drew1)|exact HB.out)) hb)
                          clear HO_7;clear HO_11;clear HR571;clear HR578;clear HB;have HO_7:=n0_;have HO_11:=n1_;have HO591:=n2_;have HR571:=n3_;have HR578:=n4_;have HB:=n5_;clear n0_ n1_ n2_ n3_ n4_ n5_;(try clear hb);(try clear hb2);(try clear hk);(try clear hi);(try clear ho0)
                          obtain ⟨Ao77,co77,eo77⟩:=Kd.R_slice HO591.out
                          (first|subst eo77|(injection eo77 with f1_ f2_ f3_;have f4_:=f1_.symm;have f5_:=f3_.symm;clear f1_ f2_ f3_;subst f4_;subst f5_))
                          have q76 : ((l0.length : Int) : Int) ≤ ((t589.length : Int) : Int):=of_decide_eq_true (by first|(with_reducible assumption)|assumption)
                          obtain ⟨i076,hi076,_,hsz76,_⟩:=info_parts info57
                          have hroom76 : t589.length ≤ co77:=(Kd.R_reads' HO591.out).2.1
                          have hC76 : Kd.C k57 _ Ao77 t589.length t589:=(Kd.R_reads' HO591.out).2.2
                          have hcut76:=cut_to (P:=Tryz.prog) 46 57 .i64 Tryz.underlying46 hi076 Ao77 t589.length co77 (l0.length : Int) (of_decide_eq_true (by first|(with_reducible assumption)|assumption)) q76 hroom76
                          have hr76:=Kd.C_take (m:=((l0.length : Int) : Int).toNat) hC76 (by omega)
                          have hy76 : y592.length = ((l0.length : Int) : Int).toNat:=(by rw [Ny592.out,List.length_take];omega)
                          rw [← Ny592.out] at hr76
                          rw [← hy76] at hcut76
                          have HR595:=Aside0.mk hr76
                          have HC595:=Aside0.mk (show y592.length ≤ co77 from by omega)
                          clear hr76 hC76 hroom76 hi076 hsz76
                          have KY76:=Aside0.mk hy76
                          clear hy76
                          have KL76:=Aside0.mk (show ((l0.length : Int) : Int).toNat ≤ t589.length from by omega)
                          replace q76:=eq_true q76
                          refine hK.out _ _ trivial (fun hHeld => ?_)
                          clear hK K
                          refine norm_ (a':=?_) ?_ ?_
                          rotate_left
                          ·show Act.put _ (some 131) _ = _
                           simp only [Act.put,List.setIfInBounds_toArray,List.set_cons_zero,List.set_cons_succ,i64_w,i32_w]
                           rfl
                          refine pure_ (i:=4) (N:=some 134) (v:=?_) (a':=?_) #[true,true,true,true,true,true,false,true,true,false,false,false,false,false,false,false] rfl rfl (any_of HT_.out (by kernel_rfl)) (fun _ _ _ h => h) (Or.inl ⟨by rfl,?_⟩) ?_ ?_
                          rotate_left;·intro w';go_simp;with_reducible rfl
                          rotate_left;·simp only [Act.put,List.setIfInBounds_toArray,List.set_cons_zero,List.set_cons_succ,i64_w,i32_w];rfl
                          refine one_ (i:=6) (N:=some 136) (bl 9 7) rfl rfl (one_of HT_.out (by kernel_rfl)) (by decide) (fun K hK => ?_)
                          refine goes_ Tryz.func29 (by kernel_rfl) rfl #[.slice Ao38 t554.length co38] (by rfl) rfl rfl (by (try simp only [List.map_toArray,List.map_cons,List.map_nil]);first|done|rfl|(simp only [List.length_drop,List.length_take];rfl)) ?_
                          with_reducible refine (bursarlaw03_behind.calls _ _ t554 t596 _ ?side1 ?side2 A67.out (GlobM.below hG (by repeat (first|(with_reducible first|exact HB.out|apply below_alloc|apply pw_below_drewN|apply below_drew1)|exact HB.out)))).mono ?_
                          (case side1 => repeat (first|exact (Kd.R_reads' HO_7.out).2.2|(with_reducible refine Kd.C_alloc ?_ _)|(with_reducible refine Kd.C_drewN ?_ _)|(with_reducible refine Kd.C_drew ?_)))
                          (case side2 => exact (Kd.R_reads' HO_7.out).2.1)
                          rintro e w78 ⟨v597,rfl,ho0,hb⟩
                          refine ⟨_,rfl,?_⟩
                          have n0_:=Aside0.mk (Kd.R_elder' (by (with_reducible repeat (first|apply Kd.R_alloc|apply Kd.R_drewN|apply Kd.R_drew));exact HO_7.out) (Kd.R_base ho0) hb)
                          have n1_:=Aside0.mk (Kd.R_elder' (by (with_reducible repeat (first|apply Kd.R_alloc|apply Kd.R_drewN|apply Kd.R_drew));exact HO_11.out) (Kd.R_base ho0) hb)
                          have n2_:=Aside0.mk (Kd.R_elder' (by (with_reducible repeat (first|apply Kd.R_alloc|apply Kd.R_drewN|apply Kd.R_drew));exact HO591.out) (Kd.R_base ho0) hb)
                          have n3_:=Aside0.mk (Kd.R_lower (Kd.R_new' (Kd.R_new' (Kd.R_new' ho0 (Kd.R_lt (by (with_reducible repeat (first|apply Kd.R_alloc|apply Kd.R_drewN|apply Kd.R_drew));exact HO_7.out))) (Kd.R_lt (by (with_reducible repeat (first|apply Kd.R_alloc|apply Kd.R_drewN|apply Kd.R_drew));exact HO_11.out))) (Kd.R_lt (by (with_reducible repeat (first|apply Kd.R_alloc|apply Kd.R_drewN|apply Kd.R_drew));exact HO591.out))) (below_size (by repeat (first|(with_reducible first|exact HB.out|apply below_alloc|apply pw_below_drewN|apply below_drew1)|exact HB.out))))
                          have n4_:=Aside0.mk (Kd.C_below (by repeat (first|(with_reducible exact HR571.out)|(with_reducible refine Kd.C_alloc ?_ _)|(with_reducible refine Kd.C_drewN ?_ _)|(with_reducible refine Kd.C_drew ?_)|exact HR571.out)) hb)
                          have n5_:=Aside0.mk (Kd.C_below (by repeat (first|(with_reducible exact HR578.out)|(with_reducible refine Kd.C_alloc ?_ _)|(with_reducible refine Kd.C_drewN ?_ _)|(with_reducible refine Kd.C_drew ?_)|exact HR578.out)) hb)
                          have n6_:=Aside0.mk (Kd.C_below (by repeat (first|(with_reducible exact HR595.out)|(with_reducible refine Kd.C_alloc ?_ _)|(with_reducible refine Kd.C_drewN ?_ _)|(with_reducible refine Kd.C_drew ?_)|exact HR595.out)) hb)
                          have n7_:=Aside0.mk (below_step (by repeat (first|(with_reducible first|exact HB.out|apply below_alloc|apply pw_below_drewN|apply below_drew1)|exact HB.out)) hb)
                          clear HO_7;clear HO_11;clear HO591;clear HR571;clear HR578;clear HR595;clear HB;have HO_7:=n0_;have HO_11:=n1_;have HO591:=n2_;have HO598:=n3_;have HR571:=n4_;have HR578:=n5_;have HR595:=n6_;have HB:=n7_;clear n0_ n1_ n2_ n3_ n4_ n5_ n6_ n7_;(try clear hb);(try clear hb2);(try clear hk);(try clear hi);(try clear ho0)
                          obtain ⟨Ao80,co80,eo80⟩:=Kd.R_slice HO598.out
                          (first|subst eo80|(injection eo80 with f1_ f2_ f3_;have f4_:=f1_.symm;have f5_:=f3_.symm;clear f1_ f2_ f3_;subst f4_;subst f5_))
                          have q79 : ((t554.length : Int) : Int) ≤ ((t596.length : Int) : Int):=of_decide_eq_true (by first|(with_reducible assumption)|assumption)
                          obtain ⟨i079,hi079,_,hsz79,_⟩:=info_parts info57
                          have hroom79 : t596.length ≤ co80:=(Kd.R_reads' HO598.out).2.1
                          have hC79 : Kd.C k57 _ Ao80 t596.length t596:=(Kd.R_reads' HO598.out).2.2
                          have hcut79:=cut_to (P:=Tryz.prog) 46 57 .i64 Tryz.underlying46 hi079 Ao80 t596.length co80 (t554.length : Int) (of_decide_eq_true (by first|(with_reducible assumption)|assumption)) q79 hroom79
                          have hr79:=Kd.C_take (m:=((t554.length : Int) : Int).toNat) hC79 (by omega)
                          have hy79 : y599.length = ((t554.length : Int) : Int).toNat:=(by rw [Ny599.out,List.length_take];omega)
                          rw [← Ny599.out] at hr79
                          rw [← hy79] at hcut79
                          have HR602:=Aside0.mk hr79
                          have HC602:=Aside0.mk (show y599.length ≤ co80 from by omega)
                          clear hr79 hC79 hroom79 hi079 hsz79
                          have KY79:=Aside0.mk hy79
                          clear hy79
                          have KL79:=Aside0.mk (show ((t554.length : Int) : Int).toNat ≤ t596.length from by omega)
                          replace q79:=eq_true q79
                          refine hK.out _ _ trivial (fun hHeld => ?_)
                          clear hK K
                          refine norm_ (a':=?_) ?_ ?_
                          rotate_left
                          ·show Act.put _ (some 136) _ = _
                           simp only [Act.put,List.setIfInBounds_toArray,List.set_cons_zero,List.set_cons_succ,i64_w,i32_w]
                           rfl
                          refine pure_ (i:=9) (N:=some 139) (v:=?_) (a':=?_) (bl 10 6) rfl rfl (any_of HT_.out (by kernel_rfl)) (fun _ _ _ h => h) (Or.inl ⟨by rfl,?_⟩) ?_ ?_
                          rotate_left;·intro w';go_simp;with_reducible rfl
                          rotate_left;·simp only [Act.put,List.setIfInBounds_toArray,List.set_cons_zero,List.set_cons_succ,i64_w,i32_w];rfl
                          refine one_ (i:=10) (N:=some 140) (bl 11 5) rfl rfl (one_of HT_.out (by kernel_rfl)) (by decide) (fun K hK => ?_)
                          refine goes_ Tryz.func44 (by kernel_rfl) rfl #[.slice Ao77 y592.length co77,.slice Ao80 y599.length co80] (by rfl) rfl rfl (by (try simp only [List.map_toArray,List.map_cons,List.map_nil]);first|done|rfl|(simp only [List.length_drop,List.length_take];rfl)) ?_
                          with_reducible refine (quant_Within.calls k4 _ _ y592 _ _ y599 t603 t604 _ ?side1 ?side2 ?side3 ?side4 A70.out (Glob.below hG.toGlob (by repeat (first|(with_reducible first|exact HB.out|apply below_alloc|apply pw_below_drewN|apply below_drew1)|exact HB.out)))).mono ?_
                          (case side1 => repeat (first|exact (by repeat (first|(with_reducible exact HR595.out)|(with_reducible refine Kd.C_alloc ?_ _)|(with_reducible refine Kd.C_drewN ?_ _)|(with_reducible refine Kd.C_drew ?_)|exact HR595.out))|(with_reducible refine Kd.C_alloc ?_ _)|(with_reducible refine Kd.C_drewN ?_ _)|(with_reducible refine Kd.C_drew ?_)))
                          (case side2 => exact HC595.out)
                          (case side3 => repeat (first|exact (by repeat (first|(with_reducible exact HR602.out)|(with_reducible refine Kd.C_alloc ?_ _)|(with_reducible refine Kd.C_drewN ?_ _)|(with_reducible refine Kd.C_drew ?_)|exact HR602.out))|(with_reducible refine Kd.C_alloc ?_ _)|(with_reducible refine Kd.C_drewN ?_ _)|(with_reducible refine Kd.C_drew ?_)))
                          (case side4 => exact HC602.out)
                          rintro e w81 ⟨rfl,hb⟩
                          refine ⟨_,rfl,?_⟩
                          have n0_:=Aside0.mk (Kd.R_below (by (with_reducible repeat (first|apply Kd.R_alloc|apply Kd.R_drewN|apply Kd.R_drew));exact HO_7.out) hb)
                          have n1_:=Aside0.mk (Kd.R_below (by (with_reducible repeat (first|apply Kd.R_alloc|apply Kd.R_drewN|apply Kd.R_drew));exact HO_11.out) hb)
                          have n2_:=Aside0.mk (Kd.R_below (by (with_reducible repeat (first|apply Kd.R_alloc|apply Kd.R_drewN|apply Kd.R_drew));exact HO591.out) hb)
                          have n3_:=Aside0.mk (Kd.R_below (by (with_reducible repeat (first|apply Kd.R_alloc|apply Kd.R_drewN|apply Kd.R_drew));exact HO598.out) hb)
                          have n4_:=Aside0.mk (Kd.C_below (by repeat (first|(with_reducible exact HR571.out)|(with_reducible refine Kd.C_alloc ?_ _)|(with_reducible refine Kd.C_drewN ?_ _)|(with_reducible refine Kd.C_drew ?_)|exact HR571.out)) hb)
                          have n5_:=Aside0.mk (Kd.C_below (by repeat (first|(with_reducible exact HR578.out)|(with_reducible refine Kd.C_alloc ?_ _)|(with_reducible refine Kd.C_drewN ?_ _)|(with_reducible refine Kd.C_drew ?_)|exact HR578.out)) hb)
                          have n6_:=Aside0.mk (Kd.C_below (by repeat (first|(with_reducible exact HR595.out)|(with_reducible refine Kd.C_alloc ?_ _)|(with_reducible refine Kd.C_drewN ?_ _)|(with_reducible refine Kd.C_drew ?_)|exact HR595.out)) hb)
                          have n7_:=Aside0.mk (Kd.C_below (by repeat (first|(with_reducible exact HR602.out)|(with_reducible refine Kd.C_alloc ?_ _)|(with_reducible refine Kd.C_drewN ?_ _)|(with_reducible refine Kd.C_drew ?_)|exact HR602.out)) hb)
                          have n8_:=Aside0.mk (below_step (by repeat (first|(with_reducible first|exact HB.out|apply below_alloc|apply pw_below_drewN|apply below_drew1)|exact HB.out)) hb)
                          clear HO_7;clear HO_11;clear HO591;clear HO598;clear HR571;clear HR578;clear HR595;clear HR602;clear HB;have HO_7:=n0_;have HO_11:=n1_;have HO591:=n2_;have HO598:=n3_;have HR571:=n4_;have HR578:=n5_;have HR595:=n6_;have HR602:=n7_;have HB:=n8_;clear n0_ n1_ n2_ n3_ n4_ n5_ n6_ n7_ n8_;(try clear hb);(try clear hb2);(try clear hk);(try clear hi)
                          refine hK.out _ _ trivial (fun hHeld => ?_)
                          clear hK K
                          refine norm_ (a':=?_) ?_ ?_
                          rotate_left
                          ·show Act.put _ (some 140) _ = _
                           simp only [Act.put,List.setIfInBounds_toArray,List.set_cons_zero,List.set_cons_succ,i64_w,i32_w]
                           rfl
                          refine pure_ (i:=11) (N:=some 129) (v:=?_) (a':=?_) (bl 12 4) rfl rfl (any_of HT_.out (by kernel_rfl)) (fun _ _ _ h => h) (Or.inl ⟨by rfl,?_⟩) ?_ ?_
                          rotate_left;·intro w';go_simp;with_reducible rfl
                          rotate_left;·simp only [Act.put,List.setIfInBounds_toArray,List.set_cons_zero,List.set_cons_succ,i64_w,i32_w];rfl
                          refine pure_ (i:=12) (N:=some 141) (v:=?_) (a':=?_) (bl 13 3) rfl rfl (any_of HT_.out (by kernel_rfl)) (fun _ _ _ h => h) (Or.inl ⟨by rfl,?_⟩) ?_ ?_
                          rotate_left;·intro w';go_simp;with_reducible rfl
                          rotate_left;·simp only [Act.put,List.setIfInBounds_toArray,List.set_cons_zero,List.set_cons_succ,i64_w,i32_w];rfl
                          refine pure_ (i:=13) (N:=some 142) (v:=?_) (a':=?_) (bl 14 2) rfl rfl (any_of HT_.out (by kernel_rfl)) (fun _ _ _ h => h) (Or.inl ⟨by rfl,?_⟩) ?_ ?_
                          rotate_left;·intro w';go_simp;with_reducible rfl
                          rotate_left;·simp only [Act.put,List.setIfInBounds_toArray,List.set_cons_zero,List.set_cons_succ,i64_w,i32_w];rfl
                          refine pure_ (i:=14) (N:=some 16) (v:=?_) (a':=?_) (bl 15 1) rfl rfl (any_of HT_.out (by kernel_rfl)) (fun _ _ _ h => h) (Or.inl ⟨by rfl,?_⟩) ?_ ?_
                          rotate_left;·intro w';go_simp;with_reducible rfl
                          rotate_left;·simp only [Act.put,List.setIfInBounds_toArray,List.set_cons_zero,List.set_cons_succ,i64_w,i32_w];rfl
                          refine pure_ (i:=15) (N:=some 12) (v:=?_) (a':=?_) (bl 16 0) rfl rfl (any_of HT_.out (by kernel_rfl)) (fun _ _ _ h => h) (Or.inl ⟨by rfl,?_⟩) ?_ ?_
                          rotate_left;·intro w';go_simp;with_reducible rfl
                          rotate_left;·simp only [Act.put,List.setIfInBounds_toArray,List.set_cons_zero,List.set_cons_succ,i64_w,i32_w];rfl
                          refine done_ (done_of HT_.out (by kernel_rfl)) ?_
                          try go_wp2
                          go_meet
                          case rel => exact ⟨_,H',⟨by have:=HJ7.out;have:=HJ16.out;have:=HJ35.out;have:=HK4.out;first|omega|exact Nat.le_refl _⟩,⟨by (with_reducible repeat (first|apply Kd.R_alloc|apply Kd.R_drewN|apply Kd.R_drew));exact Kd.R_mono HO_7.out (fun _ hk => trivial)⟩,⟨by repeat (first|(with_reducible first|exact HB.out|apply below_alloc|apply pw_below_drewN|apply below_drew1)|exact HB.out)⟩⟩
                         ·rw [if_neg c72] at H
                          have c72b0 : (t604 == 0) = false:=beq_eq_false_iff_ne.mpr c72
                          have c72b1 : (t604 != 0) = true:=bne_iff_ne.mpr c72
                          obtain rfl:=Option.some.inj H
                          obtain ⟨Ao82,co82,eo82⟩:=Kd.R_slice HO_11.out
                          subst eo82
                          try go_wp2
                          have n0_:=Aside0.mk (Kd.R_drew HO_7.out)
                          have n1_:=Aside0.mk (Kd.R_drew HO_11.out)
                          have n2_:=Aside0.mk (Kd.C_drew HR571.out)
                          have n3_:=Aside0.mk (Kd.C_drew HR578.out)
                          have n4_:=Aside0.mk (below_drew1 HB.out)
                          clear HO_7;clear HO_11;clear HR571;clear HR578;clear HB;have HO_7:=n0_;have HO_11:=n1_;have HR571:=n2_;have HR578:=n3_;have HB:=n4_;clear n0_ n1_ n2_ n3_ n4_
                          refine start_ (n:=16) (S:=fun w' => True) (ds:=[]) (bl 0 16) (by kernel_rfl) rfl rfl trivial (fun hHeld => ?_);refine with_tabW bursarlaw03_QuantAddsUp.tab19 bursarlaw03_QuantAddsUp.bits19 (fun HT_ HW_ => ?_)
                          generalize wr.drew = w83 at HO_7 HO_11 HR571 HR578 HB hHeld ⊢
                          refine pure_ (i:=0) (N:=some 130) (v:=?_) (a':=?_) (bl 1 15) rfl rfl (any_of HT_.out (by kernel_rfl)) (fun _ _ _ h => h) (Or.inl ⟨by rfl,?_⟩) ?_ ?_
                          rotate_left;·intro w';go_simp;with_reducible rfl
                          rotate_left;·simp only [Act.put,List.setIfInBounds_toArray,List.set_cons_zero,List.set_cons_succ,i64_w,i32_w];rfl
                          refine pure_ (i:=2) (N:=some 132) (v:=?_) (a':=?_) #[true,false,true,false,false,false,false,false,false,false,false,false,false,false,false,false] rfl rfl (any_of HT_.out (by kernel_rfl)) (fun _ _ _ h => h) (Or.inl ⟨by rfl,?_⟩) ?_ ?_
                          rotate_left;·intro w';go_simp;with_reducible rfl
                          rotate_left;·simp only [Act.put,List.setIfInBounds_toArray,List.set_cons_zero,List.set_cons_succ,i64_w,i32_w];rfl
                          refine pure_ (i:=3) (N:=some 133) (v:=?_) (a':=?_) #[true,false,true,true,false,false,false,false,false,false,false,false,false,false,false,false] rfl rfl (any_of HT_.out (by kernel_rfl)) (fun _ _ _ h => h) (Or.inl ⟨by rfl,?_⟩) ?_ ?_
                          rotate_left;·intro w';go_simp;with_reducible rfl
                          rotate_left;·simp only [Act.put,List.setIfInBounds_toArray,List.set_cons_zero,List.set_cons_succ,i64_w,i32_w];rfl
                          refine pure_ (i:=5) (N:=some 135) (v:=?_) (a':=?_) #[true,false,true,true,false,true,false,false,false,false,false,false,false,false,false,false] rfl rfl (any_of HT_.out (by kernel_rfl)) (fun _ _ _ h => h) (Or.inl ⟨by rfl,?_⟩) ?_ ?_
                          rotate_left;·intro w';go_simp;with_reducible rfl
                          rotate_left;·simp only [Act.put,List.setIfInBounds_toArray,List.set_cons_zero,List.set_cons_succ,i64_w,i32_w];rfl
                          refine pure_ (i:=7) (N:=some 137) (v:=?_) (a':=?_) #[true,false,true,true,false,true,false,true,false,false,false,false,false,false,false,false] rfl rfl (any_of HT_.out (by kernel_rfl)) (fun _ _ _ h => h) (Or.inl ⟨by rfl,?_⟩) ?_ ?_
                          rotate_left;·intro w';go_simp;with_reducible rfl
                          rotate_left;·simp only [Act.put,List.setIfInBounds_toArray,List.set_cons_zero,List.set_cons_succ,i64_w,i32_w];rfl
                          refine pure_ (i:=8) (N:=some 138) (v:=?_) (a':=?_) #[true,false,true,true,false,true,false,true,true,false,false,false,false,false,false,false] rfl rfl (any_of HT_.out (by kernel_rfl)) (fun _ _ _ h => h) (Or.inl ⟨by rfl,?_⟩) ?_ ?_
                          rotate_left;·intro w';go_simp;with_reducible rfl
                          rotate_left;·simp only [Act.put,List.setIfInBounds_toArray,List.set_cons_zero,List.set_cons_succ,i64_w,i32_w];rfl
                          refine one_ (i:=1) (N:=some 131) #[true,true,true,true,false,true,false,true,true,false,false,false,false,false,false,false] rfl rfl (one_of HT_.out (by kernel_rfl)) (by decide) (fun K hK => ?_)
                          refine goes_ Tryz.func29 (by kernel_rfl) rfl #[.slice A0 l0.length c0] (by rfl) rfl rfl (by (try simp only [List.map_toArray,List.map_cons,List.map_nil]);first|done|rfl|(simp only [List.length_drop,List.length_take];rfl)) ?_
                          with_reducible refine (bursarlaw03_behind.calls _ _ l0 t589 _ ?side1 ?side2 A64.out (GlobM.below hG (by repeat (first|(with_reducible first|exact HB.out|apply below_alloc|apply pw_below_drewN|apply below_drew1)|exact HB.out)))).mono ?_
                          (case side1 => repeat (first|exact (Kd.C_below HR0.out HB.out)|(with_reducible refine Kd.C_alloc ?_ _)|(with_reducible refine Kd.C_drewN ?_ _)|(with_reducible refine Kd.C_drew ?_)))
                          (case side2 => exact HC0.out)
                          rintro e w84 ⟨v590,rfl,ho0,hb⟩
                          refine ⟨_,rfl,?_⟩
                          have n0_:=Aside0.mk (Kd.R_elder' (by (with_reducible repeat (first|apply Kd.R_alloc|apply Kd.R_drewN|apply Kd.R_drew));exact HO_7.out) (Kd.R_base ho0) hb)
                          have n1_:=Aside0.mk (Kd.R_elder' (by (with_reducible repeat (first|apply Kd.R_alloc|apply Kd.R_drewN|apply Kd.R_drew));exact HO_11.out) (Kd.R_base ho0) hb)
                          have n2_:=Aside0.mk (Kd.R_lower (Kd.R_new' (Kd.R_new' ho0 (Kd.R_lt (by (with_reducible repeat (first|apply Kd.R_alloc|apply Kd.R_drewN|apply Kd.R_drew));exact HO_7.out))) (Kd.R_lt (by (with_reducible repeat (first|apply Kd.R_alloc|apply Kd.R_drewN|apply Kd.R_drew));exact HO_11.out))) (below_size (by repeat (first|(with_reducible first|exact HB.out|apply below_alloc|apply pw_below_drewN|apply below_drew1)|exact HB.out))))
                          have n3_:=Aside0.mk (Kd.C_below (by repeat (first|(with_reducible exact HR571.out)|(with_reducible refine Kd.C_alloc ?_ _)|(with_reducible refine Kd.C_drewN ?_ _)|(with_reducible refine Kd.C_drew ?_)|exact HR571.out)) hb)
                          have n4_:=Aside0.mk (Kd.C_below (by repeat (first|(with_reducible exact HR578.out)|(with_reducible refine Kd.C_alloc ?_ _)|(with_reducible refine Kd.C_drewN ?_ _)|(with_reducible refine Kd.C_drew ?_)|exact HR578.out)) hb)
                          have n5_:=Aside0.mk (below_step (by repeat (first|(with_reducible first|exact HB.out|apply below_alloc|apply pw_below_drewN|apply below_drew1)|exact HB.out)) hb)
                          clear HO_7;clear HO_11;clear HR571;clear HR578;clear HB;have HO_7:=n0_;have HO_11:=n1_;have HO591:=n2_;have HR571:=n3_;have HR578:=n4_;have HB:=n5_;clear n0_ n1_ n2_ n3_ n4_ n5_;(try clear hb);(try clear hb2);(try clear hk);(try clear hi);(try clear ho0)
                          obtain ⟨Ao86,co86,eo86⟩:=Kd.R_slice HO591.out
                          (first|subst eo86|(injection eo86 with f1_ f2_ f3_;have f4_:=f1_.symm;have f5_:=f3_.symm;clear f1_ f2_ f3_;subst f4_;subst f5_))
                          have q85 : ((l0.length : Int) : Int) ≤ ((t589.length : Int) : Int):=of_decide_eq_true (by first|(with_reducible assumption)|assumption)
                          obtain ⟨i085,hi085,_,hsz85,_⟩:=info_parts info57
                          have hroom85 : t589.length ≤ co86:=(Kd.R_reads' HO591.out).2.1
                          have hC85 : Kd.C k57 _ Ao86 t589.length t589:=(Kd.R_reads' HO591.out).2.2
                          (try clear hcut76);have hcut85:=cut_to (P:=Tryz.prog) 46 57 .i64 Tryz.underlying46 hi085 Ao86 t589.length co86 (l0.length : Int) (of_decide_eq_true (by first|(with_reducible assumption)|assumption)) q85 hroom85
                          have hr85:=Kd.C_take (m:=((l0.length : Int) : Int).toNat) hC85 (by omega)
                          have hy85 : y592.length = ((l0.length : Int) : Int).toNat:=(by rw [Ny592.out,List.length_take];omega)
                          rw [← Ny592.out] at hr85
                          rw [← hy85] at hcut85
                          have HR595:=Aside0.mk hr85
                          have HC595:=Aside0.mk (show y592.length ≤ co86 from by omega)
                          clear hr85 hC85 hroom85 hi085 hsz85
                          have KY85:=Aside0.mk hy85
                          clear hy85
                          have KL85:=Aside0.mk (show ((l0.length : Int) : Int).toNat ≤ t589.length from by omega)
                          replace q85:=eq_true q85
                          refine hK.out _ _ trivial (fun hHeld => ?_)
                          clear hK K
                          refine norm_ (a':=?_) ?_ ?_
                          rotate_left
                          ·show Act.put _ (some 131) _ = _
                           simp only [Act.put,List.setIfInBounds_toArray,List.set_cons_zero,List.set_cons_succ,i64_w,i32_w]
                           rfl
                          refine pure_ (i:=4) (N:=some 134) (v:=?_) (a':=?_) #[true,true,true,true,true,true,false,true,true,false,false,false,false,false,false,false] rfl rfl (any_of HT_.out (by kernel_rfl)) (fun _ _ _ h => h) (Or.inl ⟨by rfl,?_⟩) ?_ ?_
                          rotate_left;·intro w';go_simp;with_reducible rfl
                          rotate_left;·simp only [Act.put,List.setIfInBounds_toArray,List.set_cons_zero,List.set_cons_succ,i64_w,i32_w];rfl
                          refine one_ (i:=6) (N:=some 136) (bl 9 7) rfl rfl (one_of HT_.out (by kernel_rfl)) (by decide) (fun K hK => ?_)
                          refine goes_ Tryz.func29 (by kernel_rfl) rfl #[.slice Ao38 t554.length co38] (by rfl) rfl rfl (by (try simp only [List.map_toArray,List.map_cons,List.map_nil]);first|done|rfl|(simp only [List.length_drop,List.length_take];rfl)) ?_
                          with_reducible refine (bursarlaw03_behind.calls _ _ t554 t596 _ ?side1 ?side2 A67.out (GlobM.below hG (by repeat (first|(with_reducible first|exact HB.out|apply below_alloc|apply pw_below_drewN|apply below_drew1)|exact HB.out)))).mono ?_
                          (case side1 => repeat (first|exact (Kd.R_reads' HO_7.out).2.2|(with_reducible refine Kd.C_alloc ?_ _)|(with_reducible refine Kd.C_drewN ?_ _)|(with_reducible refine Kd.C_drew ?_)))
                          (case side2 => exact (Kd.R_reads' HO_7.out).2.1)
                          rintro e w87 ⟨v597,rfl,ho0,hb⟩
                          refine ⟨_,rfl,?_⟩
                          have n0_:=Aside0.mk (Kd.R_elder' (by (with_reducible repeat (first|apply Kd.R_alloc|apply Kd.R_drewN|apply Kd.R_drew));exact HO_7.out) (Kd.R_base ho0) hb)
                          have n1_:=Aside0.mk (Kd.R_elder' (by (with_reducible repeat (first|apply Kd.R_alloc|apply Kd.R_drewN|apply Kd.R_drew));exact HO_11.out) (Kd.R_base ho0) hb)
                          have n2_:=Aside0.mk (Kd.R_elder' (by (with_reducible repeat (first|apply Kd.R_alloc|apply Kd.R_drewN|apply Kd.R_drew));exact HO591.out) (Kd.R_base ho0) hb)
                          have n3_:=Aside0.mk (Kd.R_lower (Kd.R_new' (Kd.R_new' (Kd.R_new' ho0 (Kd.R_lt (by (with_reducible repeat (first|apply Kd.R_alloc|apply Kd.R_drewN|apply Kd.R_drew));exact HO_7.out))) (Kd.R_lt (by (with_reducible repeat (first|apply Kd.R_alloc|apply Kd.R_drewN|apply Kd.R_drew));exact HO_11.out))) (Kd.R_lt (by (with_reducible repeat (first|apply Kd.R_alloc|apply Kd.R_drewN|apply Kd.R_drew));exact HO591.out))) (below_size (by repeat (first|(with_reducible first|exact HB.out|apply below_alloc|apply pw_below_drewN|apply below_drew1)|exact HB.out))))
                          have n4_:=Aside0.mk (Kd.C_below (by repeat (first|(with_reducible exact HR571.out)|(with_reducible refine Kd.C_alloc ?_ _)|(with_reducible refine Kd.C_drewN ?_ _)|(with_reducible refine Kd.C_drew ?_)|exact HR571.out)) hb)
                          have n5_:=Aside0.mk (Kd.C_below (by repeat (first|(with_reducible exact HR578.out)|(with_reducible refine Kd.C_alloc ?_ _)|(with_reducible refine Kd.C_drewN ?_ _)|(with_reducible refine Kd.C_drew ?_)|exact HR578.out)) hb)
                          have n6_:=Aside0.mk (Kd.C_below (by repeat (first|(with_reducible exact HR595.out)|(with_reducible refine Kd.C_alloc ?_ _)|(with_reducible refine Kd.C_drewN ?_ _)|(with_reducible refine Kd.C_drew ?_)|exact HR595.out)) hb)
                          have n7_:=Aside0.mk (below_step (by repeat (first|(with_reducible first|exact HB.out|apply below_alloc|apply pw_below_drewN|apply below_drew1)|exact HB.out)) hb)
                          clear HO_7;clear HO_11;clear HO591;clear HR571;clear HR578;clear HR595;clear HB;have HO_7:=n0_;have HO_11:=n1_;have HO591:=n2_;have HO598:=n3_;have HR571:=n4_;have HR578:=n5_;have HR595:=n6_;have HB:=n7_;clear n0_ n1_ n2_ n3_ n4_ n5_ n6_ n7_;(try clear hb);(try clear hb2);(try clear hk);(try clear hi);(try clear ho0)
                          obtain ⟨Ao89,co89,eo89⟩:=Kd.R_slice HO598.out
                          (first|subst eo89|(injection eo89 with f1_ f2_ f3_;have f4_:=f1_.symm;have f5_:=f3_.symm;clear f1_ f2_ f3_;subst f4_;subst f5_))
                          have q88 : ((t554.length : Int) : Int) ≤ ((t596.length : Int) : Int):=of_decide_eq_true (by first|(with_reducible assumption)|assumption)
                          obtain ⟨i088,hi088,_,hsz88,_⟩:=info_parts info57
                          have hroom88 : t596.length ≤ co89:=(Kd.R_reads' HO598.out).2.1
                          have hC88 : Kd.C k57 _ Ao89 t596.length t596:=(Kd.R_reads' HO598.out).2.2
                          (try clear hcut79);have hcut88:=cut_to (P:=Tryz.prog) 46 57 .i64 Tryz.underlying46 hi088 Ao89 t596.length co89 (t554.length : Int) (of_decide_eq_true (by first|(with_reducible assumption)|assumption)) q88 hroom88
                          have hr88:=Kd.C_take (m:=((t554.length : Int) : Int).toNat) hC88 (by omega)
                          have hy88 : y599.length = ((t554.length : Int) : Int).toNat:=(by rw [Ny599.out,List.length_take];omega)
                          rw [← Ny599.out] at hr88
                          rw [← hy88] at hcut88
                          have HR602:=Aside0.mk hr88
                          have HC602:=Aside0.mk (show y599.length ≤ co89 from by omega)
                          clear hr88 hC88 hroom88 hi088 hsz88
                          have KY88:=Aside0.mk hy88
                          clear hy88
                          have KL88:=Aside0.mk (show ((t554.length : Int) : Int).toNat ≤ t596.length from by omega)
                          replace q88:=eq_true q88
                          refine hK.out _ _ trivial (fun hHeld => ?_)
                          clear hK K
                          refine norm_ (a':=?_) ?_ ?_
                          rotate_left
                          ·show Act.put _ (some 136) _ = _
                           simp only [Act.put,List.setIfInBounds_toArray,List.set_cons_zero,List.set_cons_succ,i64_w,i32_w]
                           rfl
                          refine pure_ (i:=9) (N:=some 139) (v:=?_) (a':=?_) (bl 10 6) rfl rfl (any_of HT_.out (by kernel_rfl)) (fun _ _ _ h => h) (Or.inl ⟨by rfl,?_⟩) ?_ ?_
                          rotate_left;·intro w';go_simp;with_reducible rfl
                          rotate_left;·simp only [Act.put,List.setIfInBounds_toArray,List.set_cons_zero,List.set_cons_succ,i64_w,i32_w];rfl
                          refine one_ (i:=10) (N:=some 140) (bl 11 5) rfl rfl (one_of HT_.out (by kernel_rfl)) (by decide) (fun K hK => ?_)
                          refine goes_ Tryz.func44 (by kernel_rfl) rfl #[.slice Ao86 y592.length co86,.slice Ao89 y599.length co89] (by rfl) rfl rfl (by (try simp only [List.map_toArray,List.map_cons,List.map_nil]);first|done|rfl|(simp only [List.length_drop,List.length_take];rfl)) ?_
                          with_reducible refine (quant_Within.calls k4 _ _ y592 _ _ y599 t603 t604 _ ?side1 ?side2 ?side3 ?side4 A70.out (Glob.below hG.toGlob (by repeat (first|(with_reducible first|exact HB.out|apply below_alloc|apply pw_below_drewN|apply below_drew1)|exact HB.out)))).mono ?_
                          (case side1 => repeat (first|exact (by repeat (first|(with_reducible exact HR595.out)|(with_reducible refine Kd.C_alloc ?_ _)|(with_reducible refine Kd.C_drewN ?_ _)|(with_reducible refine Kd.C_drew ?_)|exact HR595.out))|(with_reducible refine Kd.C_alloc ?_ _)|(with_reducible refine Kd.C_drewN ?_ _)|(with_reducible refine Kd.C_drew ?_)))
                          (case side2 => exact HC595.out)
                          (case side3 => repeat (first|exact (by repeat (first|(with_reducible exact HR602.out)|(with_reducible refine Kd.C_alloc ?_ _)|(with_reducible refine Kd.C_drewN ?_ _)|(with_reducible refine Kd.C_drew ?_)|exact HR602.out))|(with_reducible refine Kd.C_alloc ?_ _)|(with_reducible refine Kd.C_drewN ?_ _)|(with_reducible refine Kd.C_drew ?_)))
                          (case side4 => exact HC602.out)
                          rintro e w90 ⟨rfl,hb⟩
                          refine ⟨_,rfl,?_⟩
                          have n0_:=Aside0.mk (Kd.R_below (by (with_reducible repeat (first|apply Kd.R_alloc|apply Kd.R_drewN|apply Kd.R_drew));exact HO_7.out) hb)
                          have n1_:=Aside0.mk (Kd.R_below (by (with_reducible repeat (first|apply Kd.R_alloc|apply Kd.R_drewN|apply Kd.R_drew));exact HO_11.out) hb)
                          have n2_:=Aside0.mk (Kd.R_below (by (with_reducible repeat (first|apply Kd.R_alloc|apply Kd.R_drewN|apply Kd.R_drew));exact HO591.out) hb)
                          have n3_:=Aside0.mk (Kd.R_below (by (with_reducible repeat (first|apply Kd.R_alloc|apply Kd.R_drewN|apply Kd.R_drew));exact HO598.out) hb)
                          have n4_:=Aside0.mk (Kd.C_below (by repeat (first|(with_reducible exact HR571.out)|(with_reducible refine Kd.C_alloc ?_ _)|(with_reducible refine Kd.C_drewN ?_ _)|(with_reducible refine Kd.C_drew ?_)|exact HR571.out)) hb)
                          have n5_:=Aside0.mk (Kd.C_below (by repeat (first|(with_reducible exact HR578.out)|(with_reducible refine Kd.C_alloc ?_ _)|(with_reducible refine Kd.C_drewN ?_ _)|(with_reducible refine Kd.C_drew ?_)|exact HR578.out)) hb)
                          have n6_:=Aside0.mk (Kd.C_below (by repeat (first|(with_reducible exact HR595.out)|(with_reducible refine Kd.C_alloc ?_ _)|(with_reducible refine Kd.C_drewN ?_ _)|(with_reducible refine Kd.C_drew ?_)|exact HR595.out)) hb)
                          have n7_:=Aside0.mk (Kd.C_below (by repeat (first|(with_reducible exact HR602.out)|(with_reducible refine Kd.C_alloc ?_ _)|(with_reducible refine Kd.C_drewN ?_ _)|(with_reducible refine Kd.C_drew ?_)|exact HR602.out)) hb)
                          have n8_:=Aside0.mk (below_step (by repeat (first|(with_reducible first|exact HB.out|apply below_alloc|apply pw_below_drewN|apply below_drew1)|exact HB.out)) hb)
                          clear HO_7;clear HO_11;clear HO591;clear HO598;clear HR571;clear HR578;clear HR595;clear HR602;clear HB;have HO_7:=n0_;have HO_11:=n1_;have HO591:=n2_;have HO598:=n3_;have HR571:=n4_;have HR578:=n5_;have HR595:=n6_;have HR602:=n7_;have HB:=n8_;clear n0_ n1_ n2_ n3_ n4_ n5_ n6_ n7_ n8_;(try clear hb);(try clear hb2);(try clear hk);(try clear hi)
                          refine hK.out _ _ trivial (fun hHeld => ?_)
                          clear hK K
                          refine norm_ (a':=?_) ?_ ?_
                          rotate_left
                          ·show Act.put _ (some 140) _ = _
                           simp only [Act.put,List.setIfInBounds_toArray,List.set_cons_zero,List.set_cons_succ,i64_w,i32_w]
                           rfl
                          refine pure_ (i:=11) (N:=some 129) (v:=?_) (a':=?_) (bl 12 4) rfl rfl (any_of HT_.out (by kernel_rfl)) (fun _ _ _ h => h) (Or.inl ⟨by rfl,?_⟩) ?_ ?_
                          rotate_left;·intro w';go_simp;with_reducible rfl
                          rotate_left;·simp only [Act.put,List.setIfInBounds_toArray,List.set_cons_zero,List.set_cons_succ,i64_w,i32_w];rfl
                          refine pure_ (i:=12) (N:=some 141) (v:=?_) (a':=?_) (bl 13 3) rfl rfl (any_of HT_.out (by kernel_rfl)) (fun _ _ _ h => h) (Or.inl ⟨by rfl,?_⟩) ?_ ?_
                          rotate_left;·intro w';go_simp;with_reducible rfl
                          rotate_left;·simp only [Act.put,List.setIfInBounds_toArray,List.set_cons_zero,List.set_cons_succ,i64_w,i32_w];rfl
                          refine pure_ (i:=13) (N:=some 142) (v:=?_) (a':=?_) (bl 14 2) rfl rfl (any_of HT_.out (by kernel_rfl)) (fun _ _ _ h => h) (Or.inl ⟨by rfl,?_⟩) ?_ ?_
                          rotate_left;·intro w';go_simp;with_reducible rfl
                          rotate_left;·simp only [Act.put,List.setIfInBounds_toArray,List.set_cons_zero,List.set_cons_succ,i64_w,i32_w];rfl
                          refine pure_ (i:=14) (N:=some 16) (v:=?_) (a':=?_) (bl 15 1) rfl rfl (any_of HT_.out (by kernel_rfl)) (fun _ _ _ h => h) (Or.inl ⟨by rfl,?_⟩) ?_ ?_
                          rotate_left;·intro w';go_simp;with_reducible rfl
                          rotate_left;·simp only [Act.put,List.setIfInBounds_toArray,List.set_cons_zero,List.set_cons_succ,i64_w,i32_w];rfl
                          refine pure_ (i:=15) (N:=some 12) (v:=?_) (a':=?_) (bl 16 0) rfl rfl (any_of HT_.out (by kernel_rfl)) (fun _ _ _ h => h) (Or.inl ⟨by rfl,?_⟩) ?_ ?_
                          rotate_left;·intro w';go_simp;with_reducible rfl
                          rotate_left;·simp only [Act.put,List.setIfInBounds_toArray,List.set_cons_zero,List.set_cons_succ,i64_w,i32_w];rfl
                          refine done_ (done_of HT_.out (by kernel_rfl)) ?_
                          try go_wp2
                          go_ret
                          exact ⟨by first|rfl|(simp [errW_none,errW_some] <;> rfl)|(simp [*,errW_none,errW_some] <;> rfl),by repeat (first|(with_reducible first|exact HB.out|apply below_alloc|apply pw_below_drewN|apply below_drew1)|exact HB.out)⟩
                        ·rw [if_neg c71] at H
                         have c71b0 : (t603.toList == ([] : List UInt8)) = false:=beq_eq_false_iff_ne.mpr c71
                         have c71b1 : (t603.toList != ([] : List UInt8)) = true:=bne_iff_ne.mpr c71
                         obtain rfl:=Option.some.inj H
                         obtain ⟨Ao91,co91,eo91⟩:=Kd.R_slice HO_11.out
                         subst eo91
                         try go_wp2
                         have n0_:=Aside0.mk (Kd.R_drew HO_7.out)
                         have n1_:=Aside0.mk (Kd.R_drew HO_11.out)
                         have n2_:=Aside0.mk (Kd.C_drew HR571.out)
                         have n3_:=Aside0.mk (Kd.C_drew HR578.out)
                         have n4_:=Aside0.mk (below_drew1 HB.out)
                         clear HO_7;clear HO_11;clear HR571;clear HR578;clear HB;have HO_7:=n0_;have HO_11:=n1_;have HR571:=n2_;have HR578:=n3_;have HB:=n4_;clear n0_ n1_ n2_ n3_ n4_
                         refine start_ (n:=16) (S:=fun w' => True) (ds:=[]) (bl 0 16) (by kernel_rfl) rfl rfl trivial (fun hHeld => ?_);refine with_tabW bursarlaw03_QuantAddsUp.tab19 bursarlaw03_QuantAddsUp.bits19 (fun HT_ HW_ => ?_)
                         generalize wr.drew = w92 at HO_7 HO_11 HR571 HR578 HB hHeld ⊢
                         refine pure_ (i:=0) (N:=some 130) (v:=?_) (a':=?_) (bl 1 15) rfl rfl (any_of HT_.out (by kernel_rfl)) (fun _ _ _ h => h) (Or.inl ⟨by rfl,?_⟩) ?_ ?_
                         rotate_left;·intro w';go_simp;with_reducible rfl
                         rotate_left;·simp only [Act.put,List.setIfInBounds_toArray,List.set_cons_zero,List.set_cons_succ,i64_w,i32_w];rfl
                         refine pure_ (i:=2) (N:=some 132) (v:=?_) (a':=?_) #[true,false,true,false,false,false,false,false,false,false,false,false,false,false,false,false] rfl rfl (any_of HT_.out (by kernel_rfl)) (fun _ _ _ h => h) (Or.inl ⟨by rfl,?_⟩) ?_ ?_
                         rotate_left;·intro w';go_simp;with_reducible rfl
                         rotate_left;·simp only [Act.put,List.setIfInBounds_toArray,List.set_cons_zero,List.set_cons_succ,i64_w,i32_w];rfl
                         refine pure_ (i:=3) (N:=some 133) (v:=?_) (a':=?_) #[true,false,true,true,false,false,false,false,false,false,false,false,false,false,false,false] rfl rfl (any_of HT_.out (by kernel_rfl)) (fun _ _ _ h => h) (Or.inl ⟨by rfl,?_⟩) ?_ ?_
                         rotate_left;·intro w';go_simp;with_reducible rfl
                         rotate_left;·simp only [Act.put,List.setIfInBounds_toArray,List.set_cons_zero,List.set_cons_succ,i64_w,i32_w];rfl
                         refine pure_ (i:=5) (N:=some 135) (v:=?_) (a':=?_) #[true,false,true,true,false,true,false,false,false,false,false,false,false,false,false,false] rfl rfl (any_of HT_.out (by kernel_rfl)) (fun _ _ _ h => h) (Or.inl ⟨by rfl,?_⟩) ?_ ?_
                         rotate_left;·intro w';go_simp;with_reducible rfl
                         rotate_left;·simp only [Act.put,List.setIfInBounds_toArray,List.set_cons_zero,List.set_cons_succ,i64_w,i32_w];rfl
                         refine pure_ (i:=7) (N:=some 137) (v:=?_) (a':=?_) #[true,false,true,true,false,true,false,true,false,false,false,false,false,false,false,false] rfl rfl (any_of HT_.out (by kernel_rfl)) (fun _ _ _ h => h) (Or.inl ⟨by rfl,?_⟩) ?_ ?_
                         rotate_left;·intro w';go_simp;with_reducible rfl
                         rotate_left;·simp only [Act.put,List.setIfInBounds_toArray,List.set_cons_zero,List.set_cons_succ,i64_w,i32_w];rfl
                         refine pure_ (i:=8) (N:=some 138) (v:=?_) (a':=?_) #[true,false,true,true,false,true,false,true,true,false,false,false,false,false,false,false] rfl rfl (any_of HT_.out (by kernel_rfl)) (fun _ _ _ h => h) (Or.inl ⟨by rfl,?_⟩) ?_ ?_
                         rotate_left;·intro w';go_simp;with_reducible rfl
                         rotate_left;·simp only [Act.put,List.setIfInBounds_toArray,List.set_cons_zero,List.set_cons_succ,i64_w,i32_w];rfl
                         refine one_ (i:=1) (N:=some 131) #[true,true,true,true,false,true,false,true,true,false,false,false,false,false,false,false] rfl rfl (one_of HT_.out (by kernel_rfl)) (by decide) (fun K hK => ?_)
                         refine goes_ Tryz.func29 (by kernel_rfl) rfl #[.slice A0 l0.length c0] (by rfl) rfl rfl (by (try simp only [List.map_toArray,List.map_cons,List.map_nil]);first|done|rfl|(simp only [List.length_drop,List.length_take];rfl)) ?_
                         with_reducible refine (bursarlaw03_behind.calls _ _ l0 t589 _ ?side1 ?side2 A64.out (GlobM.below hG (by repeat (first|(with_reducible first|exact HB.out|apply below_alloc|apply pw_below_drewN|apply below_drew1)|exact HB.out)))).mono ?_
                         (case side1 => repeat (first|exact (Kd.C_below HR0.out HB.out)|(with_reducible refine Kd.C_alloc ?_ _)|(with_reducible refine Kd.C_drewN ?_ _)|(with_reducible refine Kd.C_drew ?_)))
                         (case side2 => exact HC0.out)
                         rintro e w93 ⟨v590,rfl,ho0,hb⟩
                         refine ⟨_,rfl,?_⟩
                         have n0_:=Aside0.mk (Kd.R_elder' (by (with_reducible repeat (first|apply Kd.R_alloc|apply Kd.R_drewN|apply Kd.R_drew));exact HO_7.out) (Kd.R_base ho0) hb)
                         have n1_:=Aside0.mk (Kd.R_elder' (by (with_reducible repeat (first|apply Kd.R_alloc|apply Kd.R_drewN|apply Kd.R_drew));exact HO_11.out) (Kd.R_base ho0) hb)
                         have n2_:=Aside0.mk (Kd.R_lower (Kd.R_new' (Kd.R_new' ho0 (Kd.R_lt (by (with_reducible repeat (first|apply Kd.R_alloc|apply Kd.R_drewN|apply Kd.R_drew));exact HO_7.out))) (Kd.R_lt (by (with_reducible repeat (first|apply Kd.R_alloc|apply Kd.R_drewN|apply Kd.R_drew));exact HO_11.out))) (below_size (by repeat (first|(with_reducible first|exact HB.out|apply below_alloc|apply pw_below_drewN|apply below_drew1)|exact HB.out))))
                         have n3_:=Aside0.mk (Kd.C_below (by repeat (first|(with_reducible exact HR571.out)|(with_reducible refine Kd.C_alloc ?_ _)|(with_reducible refine Kd.C_drewN ?_ _)|(with_reducible refine Kd.C_drew ?_)|exact HR571.out)) hb)
                         have n4_:=Aside0.mk (Kd.C_below (by repeat (first|(with_reducible exact HR578.out)|(with_reducible refine Kd.C_alloc ?_ _)|(with_reducible refine Kd.C_drewN ?_ _)|(with_reducible refine Kd.C_drew ?_)|exact HR578.out)) hb)
                         have n5_:=Aside0.mk (below_step (by repeat (first|(with_reducible first|exact HB.out|apply below_alloc|apply pw_below_drewN|apply below_drew1)|exact HB.out)) hb)
                         clear HO_7;clear HO_11;clear HR571;clear HR578;clear HB;have HO_7:=n0_;have HO_11:=n1_;have HO591:=n2_;have HR571:=n3_;have HR578:=n4_;have HB:=n5_;clear n0_ n1_ n2_ n3_ n4_ n5_;(try clear hb);(try clear hb2);(try clear hk);(try clear hi);(try clear ho0)
                         obtain ⟨Ao95,co95,eo95⟩:=Kd.R_slice HO591.out
                         (first|subst eo95|(injection eo95 with f1_ f2_ f3_;have f4_:=f1_.symm;have f5_:=f3_.symm;clear f1_ f2_ f3_;subst f4_;subst f5_))
                         have q94 : ((l0.length : Int) : Int) ≤ ((t589.length : Int) : Int):=of_decide_eq_true (by first|(with_reducible assumption)|assumption)
                         obtain ⟨i094,hi094,_,hsz94,_⟩:=info_parts info57
                         have hroom94 : t589.length ≤ co95:=(Kd.R_reads' HO591.out).2.1
                         have hC94 : Kd.C k57 _ Ao95 t589.length t589:=(Kd.R_reads' HO591.out).2.2
                         (try clear hcut76);(try clear hcut85);have hcut94:=cut_to (P:=Tryz.prog) 46 57 .i64 Tryz.underlying46 hi094 Ao95 t589.length co95 (l0.length : Int) (of_decide_eq_true (by first|(with_reducible assumption)|assumption)) q94 hroom94
                         have hr94:=Kd.C_take (m:=((l0.length : Int) : Int).toNat) hC94 (by omega)
                         have hy94 : y592.length = ((l0.length : Int) : Int).toNat:=(by rw [Ny592.out,List.length_take];omega)
                         rw [← Ny592.out] at hr94
                         rw [← hy94] at hcut94
                         have HR595:=Aside0.mk hr94
                         have HC595:=Aside0.mk (show y592.length ≤ co95 from by omega)
                         clear hr94 hC94 hroom94 hi094 hsz94
                         have KY94:=Aside0.mk hy94
                         clear hy94
                         have KL94:=Aside0.mk (show ((l0.length : Int) : Int).toNat ≤ t589.length from by omega)
                         replace q94:=eq_true q94
                         refine hK.out _ _ trivial (fun hHeld => ?_)
                         clear hK K
                         refine norm_ (a':=?_) ?_ ?_
                         rotate_left
                         ·show Act.put _ (some 131) _ = _
                          simp only [Act.put,List.setIfInBounds_toArray,List.set_cons_zero,List.set_cons_succ,i64_w,i32_w]
                          rfl
                         refine pure_ (i:=4) (N:=some 134) (v:=?_) (a':=?_) #[true,true,true,true,true,true,false,true,true,false,false,false,false,false,false,false] rfl rfl (any_of HT_.out (by kernel_rfl)) (fun _ _ _ h => h) (Or.inl ⟨by rfl,?_⟩) ?_ ?_
                         rotate_left;·intro w';go_simp;with_reducible rfl
                         rotate_left;·simp only [Act.put,List.setIfInBounds_toArray,List.set_cons_zero,List.set_cons_succ,i64_w,i32_w];rfl
                         refine one_ (i:=6) (N:=some 136) (bl 9 7) rfl rfl (one_of HT_.out (by kernel_rfl)) (by decide) (fun K hK => ?_)
                         refine goes_ Tryz.func29 (by kernel_rfl) rfl #[.slice Ao38 t554.length co38] (by rfl) rfl rfl (by (try simp only [List.map_toArray,List.map_cons,List.map_nil]);first|done|rfl|(simp only [List.length_drop,List.length_take];rfl)) ?_
                         with_reducible refine (bursarlaw03_behind.calls _ _ t554 t596 _ ?side1 ?side2 A67.out (GlobM.below hG (by repeat (first|(with_reducible first|exact HB.out|apply below_alloc|apply pw_below_drewN|apply below_drew1)|exact HB.out)))).mono ?_
                         (case side1 => repeat (first|exact (Kd.R_reads' HO_7.out).2.2|(with_reducible refine Kd.C_alloc ?_ _)|(with_reducible refine Kd.C_drewN ?_ _)|(with_reducible refine Kd.C_drew ?_)))
                         (case side2 => exact (Kd.R_reads' HO_7.out).2.1)
                         rintro e w96 ⟨v597,rfl,ho0,hb⟩
                         refine ⟨_,rfl,?_⟩
                         have n0_:=Aside0.mk (Kd.R_elder' (by (with_reducible repeat (first|apply Kd.R_alloc|apply Kd.R_drewN|apply Kd.R_drew));exact HO_7.out) (Kd.R_base ho0) hb)
                         have n1_:=Aside0.mk (Kd.R_elder' (by (with_reducible repeat (first|apply Kd.R_alloc|apply Kd.R_drewN|apply Kd.R_drew));exact HO_11.out) (Kd.R_base ho0) hb)
                         have n2_:=Aside0.mk (Kd.R_elder' (by (with_reducible repeat (first|apply Kd.R_alloc|apply Kd.R_drewN|apply Kd.R_drew));exact HO591.out) (Kd.R_base ho0) hb)
                         have n3_:=Aside0.mk (Kd.R_lower (Kd.R_new' (Kd.R_new' (Kd.R_new' ho0 (Kd.R_lt (by (with_reducible repeat (first|apply Kd.R_alloc|apply Kd.R_drewN|apply Kd.R_drew));exact HO_7.out))) (Kd.R_lt (by (with_reducible repeat (first|apply Kd.R_alloc|apply Kd.R_drewN|apply Kd.R_drew));exact HO_11.out))) (Kd.R_lt (by (with_reducible repeat (first|apply Kd.R_alloc|apply Kd.R_drewN|apply Kd.R_drew));exact HO591.out))) (below_size (by repeat (first|(with_reducible first|exact HB.out|apply below_alloc|apply pw_below_drewN|apply below_drew1)|exact HB.out))))
                         have n4_:=Aside0.mk (Kd.C_below (by repeat (first|(with_reducible exact HR571.out)|(with_reducible refine Kd.C_alloc ?_ _)|(with_reducible refine Kd.C_drewN ?_ _)|(with_reducible refine Kd.C_drew ?_)|exact HR571.out)) hb)
                         have n5_:=Aside0.mk (Kd.C_below (by repeat (first|(with_reducible exact HR578.out)|(with_reducible refine Kd.C_alloc ?_ _)|(with_reducible refine Kd.C_drewN ?_ _)|(with_reducible refine Kd.C_drew ?_)|exact HR578.out)) hb)
                         have n6_:=Aside0.mk (Kd.C_below (by repeat (first|(with_reducible exact HR595.out)|(with_reducible refine Kd.C_alloc ?_ _)|(with_reducible refine Kd.C_drewN ?_ _)|(with_reducible refine Kd.C_drew ?_)|exact HR595.out)) hb)
                         have n7_:=Aside0.mk (below_step (by repeat (first|(with_reducible first|exact HB.out|apply below_alloc|apply pw_below_drewN|apply below_drew1)|exact HB.out)) hb)
                         clear HO_7;clear HO_11;clear HO591;clear HR571;clear HR578;clear HR595;clear HB;have HO_7:=n0_;have HO_11:=n1_;have HO591:=n2_;have HO598:=n3_;have HR571:=n4_;have HR578:=n5_;have HR595:=n6_;have HB:=n7_;clear n0_ n1_ n2_ n3_ n4_ n5_ n6_ n7_;(try clear hb);(try clear hb2);(try clear hk);(try clear hi);(try clear ho0)
                         obtain ⟨Ao98,co98,eo98⟩:=Kd.R_slice HO598.out
                         (first|subst eo98|(injection eo98 with f1_ f2_ f3_;have f4_:=f1_.symm;have f5_:=f3_.symm;clear f1_ f2_ f3_;subst f4_;subst f5_))
                         have q97 : ((t554.length : Int) : Int) ≤ ((t596.length : Int) : Int):=of_decide_eq_true (by first|(with_reducible assumption)|assumption)
                         obtain ⟨i097,hi097,_,hsz97,_⟩:=info_parts info57
                         have hroom97 : t596.length ≤ co98:=(Kd.R_reads' HO598.out).2.1
                         have hC97 : Kd.C k57 _ Ao98 t596.length t596:=(Kd.R_reads' HO598.out).2.2
                         (try clear hcut79);(try clear hcut88);have hcut97:=cut_to (P:=Tryz.prog) 46 57 .i64 Tryz.underlying46 hi097 Ao98 t596.length co98 (t554.length : Int) (of_decide_eq_true (by first|(with_reducible assumption)|assumption)) q97 hroom97
                         have hr97:=Kd.C_take (m:=((t554.length : Int) : Int).toNat) hC97 (by omega)
                         have hy97 : y599.length = ((t554.length : Int) : Int).toNat:=(by rw [Ny599.out,List.length_take];omega)
                         rw [← Ny599.out] at hr97
                         rw [← hy97] at hcut97
                         have HR602:=Aside0.mk hr97
                         have HC602:=Aside0.mk (show y599.length ≤ co98 from by omega)
                         clear hr97 hC97 hroom97 hi097 hsz97
                         have KY97:=Aside0.mk hy97
                         clear hy97
                         have KL97:=Aside0.mk (show ((t554.length : Int) : Int).toNat ≤ t596.length from by omega)
                         replace q97:=eq_true q97
                         refine hK.out _ _ trivial (fun hHeld => ?_)
                         clear hK K
                         refine norm_ (a':=?_) ?_ ?_
                         rotate_left
                         ·show Act.put _ (some 136) _ = _
                          simp only [Act.put,List.setIfInBounds_toArray,List.set_cons_zero,List.set_cons_succ,i64_w,i32_w]
                          rfl
                         refine pure_ (i:=9) (N:=some 139) (v:=?_) (a':=?_) (bl 10 6) rfl rfl (any_of HT_.out (by kernel_rfl)) (fun _ _ _ h => h) (Or.inl ⟨by rfl,?_⟩) ?_ ?_
                         rotate_left;·intro w';go_simp;with_reducible rfl
                         rotate_left;·simp only [Act.put,List.setIfInBounds_toArray,List.set_cons_zero,List.set_cons_succ,i64_w,i32_w];rfl
                         refine one_ (i:=10) (N:=some 140) (bl 11 5) rfl rfl (one_of HT_.out (by kernel_rfl)) (by decide) (fun K hK => ?_)
                         refine goes_ Tryz.func44 (by kernel_rfl) rfl #[.slice Ao95 y592.length co95,.slice Ao98 y599.length co98] (by rfl) rfl rfl (by (try simp only [List.map_toArray,List.map_cons,List.map_nil]);first|done|rfl|(simp only [List.length_drop,List.length_take];rfl)) ?_
                         with_reducible refine (quant_Within.calls k4 _ _ y592 _ _ y599 t603 t604 _ ?side1 ?side2 ?side3 ?side4 A70.out (Glob.below hG.toGlob (by repeat (first|(with_reducible first|exact HB.out|apply below_alloc|apply pw_below_drewN|apply below_drew1)|exact HB.out)))).mono ?_
                         (case side1 => repeat (first|exact (by repeat (first|(with_reducible exact HR595.out)|(with_reducible refine Kd.C_alloc ?_ _)|(with_reducible refine Kd.C_drewN ?_ _)|(with_reducible refine Kd.C_drew ?_)|exact HR595.out))|(with_reducible refine Kd.C_alloc ?_ _)|(with_reducible refine Kd.C_drewN ?_ _)|(with_reducible refine Kd.C_drew ?_)))
                         (case side2 => exact HC595.out)
                         (case side3 => repeat (first|exact (by repeat (first|(with_reducible exact HR602.out)|(with_reducible refine Kd.C_alloc ?_ _)|(with_reducible refine Kd.C_drewN ?_ _)|(with_reducible refine Kd.C_drew ?_)|exact HR602.out))|(with_reducible refine Kd.C_alloc ?_ _)|(with_reducible refine Kd.C_drewN ?_ _)|(with_reducible refine Kd.C_drew ?_)))
                         (case side4 => exact HC602.out)
                         rintro e w99 ⟨rfl,hb⟩
                         refine ⟨_,rfl,?_⟩
                         have n0_:=Aside0.mk (Kd.R_below (by (with_reducible repeat (first|apply Kd.R_alloc|apply Kd.R_drewN|apply Kd.R_drew));exact HO_7.out) hb)
                         have n1_:=Aside0.mk (Kd.R_below (by (with_reducible repeat (first|apply Kd.R_alloc|apply Kd.R_drewN|apply Kd.R_drew));exact HO_11.out) hb)
                         have n2_:=Aside0.mk (Kd.R_below (by (with_reducible repeat (first|apply Kd.R_alloc|apply Kd.R_drewN|apply Kd.R_drew));exact HO591.out) hb)
                         have n3_:=Aside0.mk (Kd.R_below (by (with_reducible repeat (first|apply Kd.R_alloc|apply Kd.R_drewN|apply Kd.R_drew));exact HO598.out) hb)
                         have n4_:=Aside0.mk (Kd.C_below (by repeat (first|(with_reducible exact HR571.out)|(with_reducible refine Kd.C_alloc ?_ _)|(with_reducible refine Kd.C_drewN ?_ _)|(with_reducible refine Kd.C_drew ?_)|exact HR571.out)) hb)
                         have n5_:=Aside0.mk (Kd.C_below (by repeat (first|(with_reducible exact HR578.out)|(with_reducible refine Kd.C_alloc ?_ _)|(with_reducible refine Kd.C_drewN ?_ _)|(with_reducible refine Kd.C_drew ?_)|exact HR578.out)) hb)
                         have n6_:=Aside0.mk (Kd.C_below (by repeat (first|(with_reducible exact HR595.out)|(with_reducible refine Kd.C_alloc ?_ _)|(with_reducible refine Kd.C_drewN ?_ _)|(with_reducible refine Kd.C_drew ?_)|exact HR595.out)) hb)
                         have n7_:=Aside0.mk (Kd.C_below (by repeat (first|(with_reducible exact HR602.out)|(with_reducible refine Kd.C_alloc ?_ _)|(with_reducible refine Kd.C_drewN ?_ _)|(with_reducible refine Kd.C_drew ?_)|exact HR602.out)) hb)
                         have n8_:=Aside0.mk (below_step (by repeat (first|(with_reducible first|exact HB.out|apply below_alloc|apply pw_below_drewN|apply below_drew1)|exact HB.out)) hb)
                         clear HO_7;clear HO_11;clear HO591;clear HO598;clear HR571;clear HR578;clear HR595;clear HR602;clear HB;have HO_7:=n0_;have HO_11:=n1_;have HO591:=n2_;have HO598:=n3_;have HR571:=n4_;have HR578:=n5_;have HR595:=n6_;have HR602:=n7_;have HB:=n8_;clear n0_ n1_ n2_ n3_ n4_ n5_ n6_ n7_ n8_;(try clear hb);(try clear hb2);(try clear hk);(try clear hi)
                         refine hK.out _ _ trivial (fun hHeld => ?_)
                         clear hK K
                         refine norm_ (a':=?_) ?_ ?_
                         rotate_left
                         ·show Act.put _ (some 140) _ = _
                          simp only [Act.put,List.setIfInBounds_toArray,List.set_cons_zero,List.set_cons_succ,i64_w,i32_w]
                          rfl
                         refine pure_ (i:=11) (N:=some 129) (v:=?_) (a':=?_) (bl 12 4) rfl rfl (any_of HT_.out (by kernel_rfl)) (fun _ _ _ h => h) (Or.inl ⟨by rfl,?_⟩) ?_ ?_
                         rotate_left;·intro w';go_simp;with_reducible rfl
                         rotate_left;·simp only [Act.put,List.setIfInBounds_toArray,List.set_cons_zero,List.set_cons_succ,i64_w,i32_w];rfl
                         refine pure_ (i:=12) (N:=some 141) (v:=?_) (a':=?_) (bl 13 3) rfl rfl (any_of HT_.out (by kernel_rfl)) (fun _ _ _ h => h) (Or.inl ⟨by rfl,?_⟩) ?_ ?_
                         rotate_left;·intro w';go_simp;with_reducible rfl
                         rotate_left;·simp only [Act.put,List.setIfInBounds_toArray,List.set_cons_zero,List.set_cons_succ,i64_w,i32_w];rfl
                         refine pure_ (i:=13) (N:=some 142) (v:=?_) (a':=?_) (bl 14 2) rfl rfl (any_of HT_.out (by kernel_rfl)) (fun _ _ _ h => h) (Or.inl ⟨by rfl,?_⟩) ?_ ?_
                         rotate_left;·intro w';go_simp;with_reducible rfl
                         rotate_left;·simp only [Act.put,List.setIfInBounds_toArray,List.set_cons_zero,List.set_cons_succ,i64_w,i32_w];rfl
                         refine pure_ (i:=14) (N:=some 16) (v:=?_) (a':=?_) (bl 15 1) rfl rfl (any_of HT_.out (by kernel_rfl)) (fun _ _ _ h => h) (Or.inl ⟨by rfl,?_⟩) ?_ ?_
                         rotate_left;·intro w';go_simp;with_reducible rfl
                         rotate_left;·simp only [Act.put,List.setIfInBounds_toArray,List.set_cons_zero,List.set_cons_succ,i64_w,i32_w];rfl
                         refine pure_ (i:=15) (N:=some 12) (v:=?_) (a':=?_) (bl 16 0) rfl rfl (any_of HT_.out (by kernel_rfl)) (fun _ _ _ h => h) (Or.inl ⟨by rfl,?_⟩) ?_ ?_
                         rotate_left;·intro w';go_simp;with_reducible rfl
                         rotate_left;·simp only [Act.put,List.setIfInBounds_toArray,List.set_cons_zero,List.set_cons_succ,i64_w,i32_w];rfl
                         refine done_ (done_of HT_.out (by kernel_rfl)) ?_
                         try go_wp2
                         go_ret
                         exact ⟨by first|rfl|(simp [errW_none,errW_some] <;> rfl)|(simp [*,errW_none,errW_some] <;> rfl),by repeat (first|(with_reducible first|exact HB.out|apply below_alloc|apply pw_below_drewN|apply below_drew1)|exact HB.out)⟩
                       ·rw [if_neg c69] at H
                        exact absurd H (by simp)
                      ·rw [if_neg c68] at H
                       exact absurd H (by simp)
                     ·rw [if_neg c66] at H
                      exact absurd H (by simp)
                    ·rw [if_neg c65] at H
                     exact absurd H (by simp)
             ·rw [if_neg c34] at H
              exact absurd H (by simp)
            ·rw [if_neg c33] at H
             exact absurd H (by simp)
           ·rw [if_neg c31] at H
            exact absurd H (by simp)
          ·rw [if_neg c30] at H
           exact absurd H (by simp)
         ·rw [if_neg c28] at H
          have c28b0 : (t555 == 0) = false:=beq_eq_false_iff_ne.mpr c28
          have c28b1 : (t555 != 0) = true:=bne_iff_ne.mpr c28
          (first|rw [c28b0]|(simp only [i64_w,i32_w];rw [c28b0])|skip)
          have H':=Aside0.mk H
          clear H
          go_wp2
          go_meet
          case rel => exact ⟨_,H',⟨by have:=HJ7.out;have:=HJ16.out;first|omega|exact Nat.le_refl _⟩,⟨by (with_reducible repeat (first|apply Kd.R_alloc|apply Kd.R_drewN|apply Kd.R_drew));exact HO_7.out⟩,⟨by repeat (first|(with_reducible first|exact HB.out|apply below_alloc|apply pw_below_drewN|apply below_drew1)|exact HB.out)⟩⟩
        case rest => as_aux_lemma =>
         clear HC27;(try clear c2);(try clear p2);(try clear c3);(try clear c4);(try clear c6);(try clear c7);(try clear q8);(try clear q9);(try clear c28);(try clear c28b0);(try clear c28b1);(try clear c29);(try clear c30);(try clear c31);(try clear c33);(try clear c34);(try clear c44);(try clear c65);(try clear c66);(try clear c68);(try clear c69);(try clear c71);(try clear c71b0);(try clear c71b1);(try clear q85);(try clear q88);(try clear q94);(try clear q97);(try clear q85);(try clear q88);(try clear q94);(try clear q97)
         obtain ⟨kq,HA,HJ26,HO_7,HB⟩:=hcut
         cases kq with
        |zero => exact absurd HA.out (by simp [bursarlaw03_QuantAddsUp.j4])
        |succ kj26 =>
          have H:=HA.out
          clear HA
          simp only [bursarlaw03_QuantAddsUp.j4] at H
          have H':=Aside0.mk H
          clear H
          go_wp2
          go_loopg [17,18] kj26 (fun kq v17 v18 w' => ∃ (x17_4 : List (S57)) (x18_4 : Int),v18 = .int .i64 x18_4 ∧ Aside0 (bursarlaw03_QuantAddsUp.l1 kq l0 l1 l2 t554 t555 x17_4 x18_4 = some r) ∧ Aside0 (kq ≤ kj26) ∧ Aside0 (Kd.R k57 57 w' w.heap.size (fun k_ => some k_ ≠ (v17 : Value).ownBlock) v556 t554) ∧ Aside0 (Kd.R k57 57 w' w.heap.size (fun k_ => some k_ ≠ (v556 : Value).ownBlock) v17 x17_4) ∧ Aside0 (Below w.heap.size w w'))
          case atStart => exact ⟨(([] : List (S57))),(0),(by first|rfl|(simp;done)|(simp [*];done)|(simp;rw [Bool.eq_iff_iff];simp;done)|(rw [Bool.eq_iff_iff];simp;done)),H',⟨Nat.le_refl _⟩,⟨by (with_reducible repeat (first|apply Kd.R_alloc|apply Kd.R_drewN|apply Kd.R_drew));exact Kd.R_mono HO_7.out (fun _ hk => (by simp [Value.ownBlock]))⟩,⟨by first|exact Kd.R_nil _ _ _ _ _|exact Kd.N_nil _ _ _ _ _|exact Kd.V_nil _ _ _ _ _|exact Kd.Q_nil _ _ _ _ _|exact Kd.S_nil _ _ _ _ _⟩,⟨by repeat (first|(with_reducible first|exact HB.out|apply below_alloc|apply pw_below_drewN|apply below_drew1)|exact HB.out)⟩⟩
          case round => as_aux_lemma =>
           clear H';(try clear c2);(try clear p2);(try clear c3);(try clear c4);(try clear c6);(try clear c7);(try clear q8);(try clear q9);(try clear c28);(try clear c28b0);(try clear c28b1);(try clear c29);(try clear c30);(try clear c31);(try clear c33);(try clear c34);(try clear c44);(try clear c65);(try clear c66);(try clear c68);(try clear c69);(try clear c71);(try clear c71b0);(try clear c71b1);(try clear q85);(try clear q88);(try clear q94);(try clear q97);(try clear p2);(try clear q8);(try clear q85);(try clear q88);(try clear q9);(try clear q94);(try clear q97)
           obtain ⟨x17_4,x18_4,rfl,HA,HK4,HO_7,HO_17,HB⟩:=hrel
           cases gk with
          |zero => exact absurd HA.out (by simp [bursarlaw03_QuantAddsUp.l1])
          |succ k4 =>
            have H:=HA.out
            clear HA
            simp only [bursarlaw03_QuantAddsUp.l1] at H
            by_cases c100 : x18_4 < (l0.length : Int)
            ·rw [if_pos c100] at H
             have c100b0 : decide (x18_4 < (l0.length : Int)) = true:=decide_eq_true c100
             clear c100
             by_cases c101 : 0 ≤ x18_4
             ·rw [if_pos c101] at H
              have c101b0 : decide (0 ≤ x18_4) = true:=decide_eq_true c101
              clear c101
              replace H:=Option.bind_eq_some_iff.mp H
              obtain ⟨⟨t606,t607⟩,A1020,H⟩:=H
              replace H : (if t607 = true then (if x17_4.length < 5864062014805 then (bursarlaw03_QuantAddsUp.l1 k4 l0 l1 l2 t554 t555 (x17_4 ++ [(⟨(rd_T57 l0 x18_4).f0,(rd_T57 l0 x18_4).f1⟩ : S57)]) (wrap64 (x18_4 + 1))) else (none)) else (bursarlaw03_QuantAddsUp.l1 k4 l0 l1 l2 t554 t555 x17_4 (wrap64 (x18_4 + 1)))) = some r:=H
              have A102:=Aside0.mk A1020
              clear A1020
              by_cases c103 : t607 = true
              ·subst c103
               have H1 : (if x17_4.length < 5864062014805 then (bursarlaw03_QuantAddsUp.l1 k4 l0 l1 l2 t554 t555 (x17_4 ++ [(⟨(rd_T57 l0 x18_4).f0,(rd_T57 l0 x18_4).f1⟩ : S57)]) (wrap64 (x18_4 + 1))) else (none)) = some r:=by rw [if_pos rfl] at H;exact H
               clear H;have H:=H1;clear H1
               by_cases c104 : x17_4.length < 5864062014805
               ·rw [if_pos c104] at H
                have LMc104:=Aside0.mk c104
                clear c104
                obtain ⟨y609,hy609⟩ : ∃ y_ : List (S57),y_ = (x17_4 ++ [(⟨(rd_T57 l0 x18_4).f0,(rd_T57 l0 x18_4).f1⟩ : S57)]):=⟨_,rfl⟩
                replace H : (bursarlaw03_QuantAddsUp.l1 k4 l0 l1 l2 t554 t555 y609 (wrap64 (x18_4 + 1))) = some r:=by first|(rw [hy609];with_reducible exact H)|(have H2_:=(Option.bind_some _ _).symm.trans H;rw [hy609];with_reducible exact H2_)|(have H2_:=(Option.bind_some _ _).symm.trans H;with_reducible exact H2_)|with_reducible exact H|(rw [hy609];exact H)|exact H
                have Ny609:=Aside0.mk hy609
                clear hy609
                have H':=Aside0.mk H
                clear H
                have p605 : 0 ≤ (x18_4 : Int):=of_decide_eq_true (by first|(with_reducible assumption)|assumption)
                have q605 : x18_4 < (l0.length : Int):=of_decide_eq_true (by first|(with_reducible assumption)|assumption)
                obtain ⟨ad605,e605,hx605_0,hx605_1⟩:=at_T57 HR0.out x18_4 p605 q605
                cases e605
                replace hx605_0:=(HB.out.cell (World.block_lt_of_cell? w _ hx605_0)).trans hx605_0
                replace hx605_1:=(HB.out.cell (World.block_lt_of_cell? w _ hx605_1)).trans hx605_1
                replace p605:=eq_true p605
                replace q605:=eq_true q605
                go_wp2_with (first|((with_reducible refine gate_callee (f:=30) rfl ?_);refine goesL_ (some 162) rfl rfl Tryz.func30 (by kernel_rfl) rfl #[.slice A1 l1.length c1,.string ((rd_T57 l0 x18_4).f0)] rfl (by (try simp only [List.map_toArray,List.map_cons,List.map_nil]);first|done|rfl|(simp only [List.length_drop,List.length_take];rfl)) ?_;(with_reducible refine (quant_Of.calls k4 _ _ l1 ((rd_T57 l0 x18_4).f0) t606 true _ ?side1 ?side2 A102.out).mono ?_);(case side1 => repeat (first|exact (Kd.C_below HR1.out HB.out)|(with_reducible refine Kd.C_alloc ?_ _)|(with_reducible refine Kd.C_drewN ?_ _)|(with_reducible refine Kd.C_drew ?_)));(case side2 => exact HC1.out);rintro e w105 ⟨rfl,hb⟩;refine ⟨_,rfl,?_⟩;have n0_:=Aside0.mk (Kd.R_below (by (with_reducible repeat (first|apply Kd.R_alloc|apply Kd.R_drewN|apply Kd.R_drew));exact HO_7.out) hb);have n1_:=Aside0.mk (Kd.R_below (by (with_reducible repeat (first|apply Kd.R_alloc|apply Kd.R_drewN|apply Kd.R_drew));exact HO_17.out) hb);have n2_:=Aside0.mk (below_step (by repeat (first|(with_reducible first|exact HB.out|apply below_alloc|apply pw_below_drewN|apply below_drew1)|exact HB.out)) hb);clear HO_7;clear HO_17;clear HB;have HO_7:=n0_;have HO_17:=n1_;have HB:=n2_;clear n0_ n1_ n2_;(try clear hb);(try clear hb2);(try clear hk);(try clear hi);have p608 : 0 ≤ (x18_4 : Int):=of_decide_eq_true (by first|(with_reducible assumption)|assumption);have q608 : x18_4 < (l0.length : Int):=of_decide_eq_true (by first|(with_reducible assumption)|assumption);obtain ⟨ad608,e608,hx608_0,hx608_1⟩:=at_T57 HR0.out x18_4 p608 q608;obtain rfl : ad605 = ad608:=(by injection e608);replace hx608_0:=(HB.out.cell (World.block_lt_of_cell? w _ hx608_0)).trans hx608_0;replace hx608_1:=(HB.out.cell (World.block_lt_of_cell? w _ hx608_1)).trans hx608_1;replace p608:=eq_true p608;replace q608:=eq_true q608)|((with_reducible refine gate_builtin (b:=.append) (xs:=#[.tmp 166,.tmp 171]) rfl ?_);(try (refine gate_guard (by rfl) ?_;dsimp only));at_builtin;refine Kd.R_append k57 (w0:=w) w.heap.size rfl (.tmp 166) (.tmp 171) 46 57 (.agg #[(.string ⟨#[]⟩),(.int .i64 0)]) 24 rfl Tryz.underlying46 info57 rfl (by decide) (by omega) u17 x17_4 (⟨(rd_T57 l0 x18_4).f0,(rd_T57 l0 x18_4).f1⟩ : S57) [.string ((rd_T57 l0 x18_4).f0),.int .i64 ((rd_T57 l0 x18_4).f1)] (fun k_ => some k_ ≠ (v556 : Value).ownBlock) (fun _ => False) rfl rfl ?aP (fun _ hk => hk.elim) ?aF ?aO ?aB ?aS ?aL ?_;(case aP => exact k57_mkM _ _ _ (⟨(rd_T57 l0 x18_4).f0,(rd_T57 l0 x18_4).f1⟩ : S57));(case aB => exact (by repeat (first|(with_reducible first|exact HB.out|apply below_alloc|apply pw_below_drewN|apply below_drew1)|exact HB.out)));(case aF => exact (fun k_ hk => Kd.fresh' (Kd.R_lt (by (with_reducible repeat (first|apply Kd.R_alloc|apply Kd.R_drewN|apply Kd.R_drew));exact HO_7.out)) k_ hk));(case aO => exact (by (with_reducible repeat (first|apply Kd.R_alloc|apply Kd.R_drewN|apply Kd.R_drew));exact HO_17.out));(case aS => exact (below_size (by repeat (first|(with_reducible first|exact HB.out|apply below_alloc|apply pw_below_drewN|apply below_drew1)|exact HB.out))));(case aL => have:=LMc104.out;omega);intro v610 w106 ho hb hg hat;rw [← Ny609.out] at ho;have n0_:=Aside0.mk (Kd.R_after (ok:=(fun _ => True)) (by (with_reducible repeat (first|apply Kd.R_alloc|apply Kd.R_drewN|apply Kd.R_drew));exact Kd.R_mono HO_7.out (fun _ hk => ⟨trivial,hk⟩)) hg hat);have n1_:=Aside0.mk (hb);have n2_:=Aside0.mk (ho);clear HO_7;clear HB;clear HO_17;have HO_7:=n0_;have HB:=n1_;have HO611:=n2_;clear n0_ n1_ n2_;clear ho hb hg hat))
                go_roundg k4
                case measure => have:=HJ7.out;have:=HJ16.out;have:=HJ26.out;have:=HK4.out;omega
                case rel => exact ⟨(y609),(wrap64 (x18_4 + 1)),(by first|rfl|(simp;done)|(simp [*];done)|(simp;rw [Bool.eq_iff_iff];simp;done)|(rw [Bool.eq_iff_iff];simp;done)),H',⟨by have:=HJ7.out;have:=HJ16.out;have:=HJ26.out;have:=HK4.out;omega⟩,⟨by (with_reducible repeat (first|apply Kd.R_alloc|apply Kd.R_drewN|apply Kd.R_drew));exact Kd.R_mono HO_7.out (fun _ hk => hk.2)⟩,⟨by (with_reducible repeat (first|apply Kd.R_alloc|apply Kd.R_drewN|apply Kd.R_drew));exact HO611.out⟩,⟨by repeat (first|(with_reducible first|exact HB.out|apply below_alloc|apply pw_below_drewN|apply below_drew1)|exact HB.out)⟩⟩
               ·rw [if_neg c104] at H
                exact absurd H (by simp)
              ·replace c103:=Bool.eq_false_iff.mpr c103
               subst c103
               have H1 : (bursarlaw03_QuantAddsUp.l1 k4 l0 l1 l2 t554 t555 x17_4 (wrap64 (x18_4 + 1))) = some r:=by rw [if_neg (show ¬ (false = true) by decide)] at H;exact H
               clear H;have H:=H1;clear H1
               have H':=Aside0.mk H
               clear H
               have p605 : 0 ≤ (x18_4 : Int):=of_decide_eq_true (by first|(with_reducible assumption)|assumption)
               have q605 : x18_4 < (l0.length : Int):=of_decide_eq_true (by first|(with_reducible assumption)|assumption)
               obtain ⟨ad605,e605,hx605_0,hx605_1⟩:=at_T57 HR0.out x18_4 p605 q605
               cases e605
               replace hx605_0:=(HB.out.cell (World.block_lt_of_cell? w _ hx605_0)).trans hx605_0
               replace hx605_1:=(HB.out.cell (World.block_lt_of_cell? w _ hx605_1)).trans hx605_1
               replace p605:=eq_true p605
               replace q605:=eq_true q605
               go_wp2_with (first|((with_reducible refine gate_callee (f:=30) rfl ?_);refine goesL_ (some 162) rfl rfl Tryz.func30 (by kernel_rfl) rfl #[.slice A1 l1.length c1,.string ((rd_T57 l0 x18_4).f0)] rfl (by (try simp only [List.map_toArray,List.map_cons,List.map_nil]);first|done|rfl|(simp only [List.length_drop,List.length_take];rfl)) ?_;(with_reducible refine (quant_Of.calls k4 _ _ l1 ((rd_T57 l0 x18_4).f0) t606 false _ ?side1 ?side2 A102.out).mono ?_);(case side1 => repeat (first|exact (Kd.C_below HR1.out HB.out)|(with_reducible refine Kd.C_alloc ?_ _)|(with_reducible refine Kd.C_drewN ?_ _)|(with_reducible refine Kd.C_drew ?_)));(case side2 => exact HC1.out);rintro e w107 ⟨rfl,hb⟩;refine ⟨_,rfl,?_⟩;have n0_:=Aside0.mk (Kd.R_below (by (with_reducible repeat (first|apply Kd.R_alloc|apply Kd.R_drewN|apply Kd.R_drew));exact HO_7.out) hb);have n1_:=Aside0.mk (Kd.R_below (by (with_reducible repeat (first|apply Kd.R_alloc|apply Kd.R_drewN|apply Kd.R_drew));exact HO_17.out) hb);have n2_:=Aside0.mk (below_step (by repeat (first|(with_reducible first|exact HB.out|apply below_alloc|apply pw_below_drewN|apply below_drew1)|exact HB.out)) hb);clear HO_7;clear HO_17;clear HB;have HO_7:=n0_;have HO_17:=n1_;have HB:=n2_;clear n0_ n1_ n2_;(try clear hb);(try clear hb2);(try clear hk);(try clear hi)))
               go_roundg k4
               case measure => have:=HJ7.out;have:=HJ16.out;have:=HJ26.out;have:=HK4.out;omega
               case rel => exact ⟨(x17_4),(wrap64 (x18_4 + 1)),(by first|rfl|(simp;done)|(simp [*];done)|(simp;rw [Bool.eq_iff_iff];simp;done)|(rw [Bool.eq_iff_iff];simp;done)),H',⟨by have:=HJ7.out;have:=HJ16.out;have:=HJ26.out;have:=HK4.out;omega⟩,⟨by (with_reducible repeat (first|apply Kd.R_alloc|apply Kd.R_drewN|apply Kd.R_drew));exact HO_7.out⟩,⟨by (with_reducible repeat (first|apply Kd.R_alloc|apply Kd.R_drewN|apply Kd.R_drew));exact HO_17.out⟩,⟨by repeat (first|(with_reducible first|exact HB.out|apply below_alloc|apply pw_below_drewN|apply below_drew1)|exact HB.out)⟩⟩
             ·rw [if_neg c101] at H
              exact absurd H (by simp)
            ·rw [if_neg c100] at H
             have c100b0 : decide (x18_4 < (l0.length : Int)) = false:=decide_eq_false c100
             clear c100
             replace H:=Option.bind_eq_some_iff.mp H
             obtain ⟨t612,A1080,H⟩:=H
             replace H : (if 0 ≤ (l1.length : Int) then (if (l1.length : Int) ≤ (t612.length : Int) then ((quant_Minus.f k4 (t612.take ((l1.length : Int) : Int).toNat) x17_4).bind fun bt619 => ((bursarlaw03_behind.f l0).bind fun t623 => (if 0 ≤ (l0.length : Int) then (if (l0.length : Int) ≤ (t623.length : Int) then ((bursarlaw03_behind.f l1).bind fun t630 => (if (l1.length : Int) ≤ (t630.length : Int) then ((quant_Within.f k4 (t623.take ((l0.length : Int) : Int).toNat) (t630.take ((l1.length : Int) : Int).toNat)).bind fun bt637 => (if bt637.2 = 0 then (bursarlaw03_QuantAddsUp.j6 k4 l0 l1 l2 t554 t555 ((bt637.1.toList == ([] : List UInt8)) != (bt619.2 == 0))) else (bursarlaw03_QuantAddsUp.j6 k4 l0 l1 l2 t554 t555 true))) else (none))) else (none)) else (none)))) else (none)) else (none)) = some r:=H
             have A108:=Aside0.mk A1080
             clear A1080
             by_cases c109 : 0 ≤ (l1.length : Int)
             ·rw [if_pos c109] at H
              have c109b0:=eq_true c109
              have c109b1 : decide (0 ≤ (l1.length : Int)) = true:=decide_eq_true c109
              clear c109
              by_cases c110 : (l1.length : Int) ≤ (t612.length : Int)
              ·rw [if_pos c110] at H
               have c110b0:=eq_true c110
               have c110b1 : decide ((l1.length : Int) ≤ (t612.length : Int)) = true:=decide_eq_true c110
               clear c110
               obtain ⟨y615,hy615⟩ : ∃ y_ : List (S57),y_ = (t612.take ((l1.length : Int) : Int).toNat):=⟨_,rfl⟩
               replace H : ((quant_Minus.f k4 y615 x17_4).bind fun bt619 => ((bursarlaw03_behind.f l0).bind fun t623 => (if 0 ≤ (l0.length : Int) then (if (l0.length : Int) ≤ (t623.length : Int) then ((bursarlaw03_behind.f l1).bind fun t630 => (if (l1.length : Int) ≤ (t630.length : Int) then ((quant_Within.f k4 (t623.take ((l0.length : Int) : Int).toNat) (t630.take ((l1.length : Int) : Int).toNat)).bind fun bt637 => (if bt637.2 = 0 then (bursarlaw03_QuantAddsUp.j6 k4 l0 l1 l2 t554 t555 ((bt637.1.toList == ([] : List UInt8)) != (bt619.2 == 0))) else (bursarlaw03_QuantAddsUp.j6 k4 l0 l1 l2 t554 t555 true))) else (none))) else (none)) else (none)))) = some r:=by first|(rw [hy615];with_reducible exact H)|(have H2_:=(Option.bind_some _ _).symm.trans H;rw [hy615];with_reducible exact H2_)|(have H2_:=(Option.bind_some _ _).symm.trans H;with_reducible exact H2_)|with_reducible exact H|(rw [hy615];exact H)|exact H
               have Ny615:=Aside0.mk hy615
               clear hy615
               replace H:=Option.bind_eq_some_iff.mp H
               obtain ⟨⟨t619,t620⟩,A1110,H⟩:=H
               replace H : ((bursarlaw03_behind.f l0).bind fun t623 => (if 0 ≤ (l0.length : Int) then (if (l0.length : Int) ≤ (t623.length : Int) then ((bursarlaw03_behind.f l1).bind fun t630 => (if (l1.length : Int) ≤ (t630.length : Int) then ((quant_Within.f k4 (t623.take ((l0.length : Int) : Int).toNat) (t630.take ((l1.length : Int) : Int).toNat)).bind fun bt637 => (if bt637.2 = 0 then (bursarlaw03_QuantAddsUp.j6 k4 l0 l1 l2 t554 t555 ((bt637.1.toList == ([] : List UInt8)) != (t620 == 0))) else (bursarlaw03_QuantAddsUp.j6 k4 l0 l1 l2 t554 t555 true))) else (none))) else (none)) else (none))) = some r:=H
               have A111:=Aside0.mk A1110
               clear A1110
               replace H:=Option.bind_eq_some_iff.mp H
               obtain ⟨t623,A1120,H⟩:=H
               replace H : (if 0 ≤ (l0.length : Int) then (if (l0.length : Int) ≤ (t623.length : Int) then ((bursarlaw03_behind.f l1).bind fun t630 => (if (l1.length : Int) ≤ (t630.length : Int) then ((quant_Within.f k4 (t623.take ((l0.length : Int) : Int).toNat) (t630.take ((l1.length : Int) : Int).toNat)).bind fun bt637 => (if bt637.2 = 0 then (bursarlaw03_QuantAddsUp.j6 k4 l0 l1 l2 t554 t555 ((bt637.1.toList == ([] : List UInt8)) != (t620 == 0))) else (bursarlaw03_QuantAddsUp.j6 k4 l0 l1 l2 t554 t555 true))) else (none))) else (none)) else (none)) = some r:=H
               have A112:=Aside0.mk A1120
               clear A1120
               by_cases c113 : 0 ≤ (l0.length : Int)
               ·rw [if_pos c113] at H
                have c113b0:=eq_true c113
                have c113b1 : decide (0 ≤ (l0.length : Int)) = true:=decide_eq_true c113
                clear c113
                by_cases c114 : (l0.length : Int) ≤ (t623.length : Int)
                ·rw [if_pos c114] at H
                 have c114b0:=eq_true c114
                 have c114b1 : decide ((l0.length : Int) ≤ (t623.length : Int)) = true:=decide_eq_true c114
                 clear c114
                 obtain ⟨y626,hy626⟩ : ∃ y_ : List (S57),y_ = (t623.take ((l0.length : Int) : Int).toNat):=⟨_,rfl⟩
                 replace H : ((bursarlaw03_behind.f l1).bind fun t630 => (if (l1.length : Int) ≤ (t630.length : Int) then ((quant_Within.f k4 y626 (t630.take ((l1.length : Int) : Int).toNat)).bind fun bt637 => (if bt637.2 = 0 then (bursarlaw03_QuantAddsUp.j6 k4 l0 l1 l2 t554 t555 ((bt637.1.toList == ([] : List UInt8)) != (t620 == 0))) else (bursarlaw03_QuantAddsUp.j6 k4 l0 l1 l2 t554 t555 true))) else (none))) = some r:=by first|(rw [hy626];with_reducible exact H)|(have H2_:=(Option.bind_some _ _).symm.trans H;rw [hy626];with_reducible exact H2_)|(have H2_:=(Option.bind_some _ _).symm.trans H;with_reducible exact H2_)|with_reducible exact H|(rw [hy626];exact H)|exact H
                 have Ny626:=Aside0.mk hy626
                 clear hy626
                 replace H:=Option.bind_eq_some_iff.mp H
                 obtain ⟨t630,A1150,H⟩:=H
                 replace H : (if (l1.length : Int) ≤ (t630.length : Int) then ((quant_Within.f k4 y626 (t630.take ((l1.length : Int) : Int).toNat)).bind fun bt637 => (if bt637.2 = 0 then (bursarlaw03_QuantAddsUp.j6 k4 l0 l1 l2 t554 t555 ((bt637.1.toList == ([] : List UInt8)) != (t620 == 0))) else (bursarlaw03_QuantAddsUp.j6 k4 l0 l1 l2 t554 t555 true))) else (none)) = some r:=H
                 have A115:=Aside0.mk A1150
                 clear A1150
                 have c116b0:=eq_true (of_decide_eq_true (by first|(with_reducible assumption)|assumption) : 0 ≤ (l1.length : Int))
                 by_cases c117 : (l1.length : Int) ≤ (t630.length : Int)
                 ·rw [if_pos c117] at H
                  have c117b0:=eq_true c117
                  have c117b1 : decide ((l1.length : Int) ≤ (t630.length : Int)) = true:=decide_eq_true c117
                  clear c117
                  obtain ⟨y633,hy633⟩ : ∃ y_ : List (S57),y_ = (t630.take ((l1.length : Int) : Int).toNat):=⟨_,rfl⟩
                  replace H : ((quant_Within.f k4 y626 y633).bind fun bt637 => (if bt637.2 = 0 then (bursarlaw03_QuantAddsUp.j6 k4 l0 l1 l2 t554 t555 ((bt637.1.toList == ([] : List UInt8)) != (t620 == 0))) else (bursarlaw03_QuantAddsUp.j6 k4 l0 l1 l2 t554 t555 true))) = some r:=by first|(rw [hy633];with_reducible exact H)|(have H2_:=(Option.bind_some _ _).symm.trans H;rw [hy633];with_reducible exact H2_)|(have H2_:=(Option.bind_some _ _).symm.trans H;with_reducible exact H2_)|with_reducible exact H|(rw [hy633];exact H)|exact H
                  have Ny633:=Aside0.mk hy633
                  clear hy633
                  replace H:=Option.bind_eq_some_iff.mp H
                  obtain ⟨⟨t637,t638⟩,A1180,H⟩:=H
                  replace H : (if t638 = 0 then (bursarlaw03_QuantAddsUp.j6 k4 l0 l1 l2 t554 t555 ((t637.toList == ([] : List UInt8)) != (t620 == 0))) else (bursarlaw03_QuantAddsUp.j6 k4 l0 l1 l2 t554 t555 true)) = some r:=H
                  have A118:=Aside0.mk A1180
                  clear A1180
                  have HC119:=Aside0.mk H
                  clear H
                  try go_wp2_with (first|((with_reducible refine gate_callee (f:=29) rfl ?_);refine goesL_ (some 175) rfl rfl Tryz.func29 (by kernel_rfl) rfl #[.slice A1 l1.length c1] rfl (by (try simp only [List.map_toArray,List.map_cons,List.map_nil]);first|done|rfl|(simp only [List.length_drop,List.length_take];rfl)) ?_;(with_reducible refine (bursarlaw03_behind.calls _ _ l1 t612 _ ?side1 ?side2 A108.out (GlobM.below hG (by repeat (first|(with_reducible first|exact HB.out|apply below_alloc|apply pw_below_drewN|apply below_drew1)|exact HB.out)))).mono ?_);(case side1 => repeat (first|exact (Kd.C_below HR1.out HB.out)|(with_reducible refine Kd.C_alloc ?_ _)|(with_reducible refine Kd.C_drewN ?_ _)|(with_reducible refine Kd.C_drew ?_)));(case side2 => exact HC1.out);rintro e w120 ⟨v613,rfl,ho0,hb⟩;refine ⟨_,rfl,?_⟩;have n0_:=Aside0.mk (Kd.R_elder' (by (with_reducible repeat (first|apply Kd.R_alloc|apply Kd.R_drewN|apply Kd.R_drew));exact HO_7.out) (Kd.R_base ho0) hb);have n1_:=Aside0.mk (Kd.R_elder' (by (with_reducible repeat (first|apply Kd.R_alloc|apply Kd.R_drewN|apply Kd.R_drew));exact HO_17.out) (Kd.R_base ho0) hb);have n2_:=Aside0.mk (Kd.R_lower (Kd.R_new' (Kd.R_new' ho0 (Kd.R_lt (by (with_reducible repeat (first|apply Kd.R_alloc|apply Kd.R_drewN|apply Kd.R_drew));exact HO_7.out))) (Kd.R_lt (by (with_reducible repeat (first|apply Kd.R_alloc|apply Kd.R_drewN|apply Kd.R_drew));exact HO_17.out))) (below_size (by repeat (first|(with_reducible first|exact HB.out|apply below_alloc|apply pw_below_drewN|apply below_drew1)|exact HB.out))));have n3_:=Aside0.mk (below_step (by repeat (first|(with_reducible first|exact HB.out|apply below_alloc|apply pw_below_drewN|apply below_drew1)|exact HB.out)) hb);clear HO_7;clear HO_17;clear HB;have HO_7:=n0_;have HO_17:=n1_;have HO614:=n2_;have HB:=n3_;clear n0_ n1_ n2_ n3_;(try clear hb);(try clear hb2);(try clear hk);(try clear hi);(try clear ho0);obtain ⟨Ao122,co122,eo122⟩:=Kd.R_slice HO614.out;subst eo122;have q121 : ((l1.length : Int) : Int) ≤ ((t612.length : Int) : Int):=of_decide_eq_true (by first|(with_reducible assumption)|assumption);obtain ⟨i0121,hi0121,_,hsz121,_⟩:=info_parts info57;have hroom121 : t612.length ≤ co122:=(Kd.R_reads' HO614.out).2.1;have hC121 : Kd.C k57 _ Ao122 t612.length t612:=(Kd.R_reads' HO614.out).2.2;have hcut121:=cut_to (P:=Tryz.prog) 46 57 .i64 Tryz.underlying46 hi0121 Ao122 t612.length co122 (l1.length : Int) (of_decide_eq_true (by first|(with_reducible assumption)|assumption)) q121 hroom121;have hr121:=Kd.C_take (m:=((l1.length : Int) : Int).toNat) hC121 (by omega);have hy121 : y615.length = ((l1.length : Int) : Int).toNat:=(by rw [Ny615.out,List.length_take];omega);rw [← Ny615.out] at hr121;rw [← hy121] at hcut121;have HR618:=Aside0.mk hr121;have HC618:=Aside0.mk (show y615.length ≤ co122 from by omega);clear hr121 hC121 hroom121 hi0121 hsz121;have KY121:=Aside0.mk hy121;clear hy121;have KL121:=Aside0.mk (show ((l1.length : Int) : Int).toNat ≤ t612.length from by omega);replace q121:=eq_true q121;obtain ⟨Ao123,co123,eo123⟩:=Kd.R_slice HO_17.out;subst eo123)|((with_reducible refine gate_callee (f:=42) rfl ?_);refine goesL_ (some 180) rfl rfl Tryz.func42 (by kernel_rfl) rfl #[.slice Ao122 y615.length co122,.slice Ao123 x17_4.length co123] rfl (by (try simp only [List.map_toArray,List.map_cons,List.map_nil]);first|done|rfl|(simp only [List.length_drop,List.length_take];rfl)) ?_;(with_reducible refine (quant_Minus.calls k4 _ _ y615 _ _ x17_4 t619 t620 _ ?side1 ?side2 ?side3 ?side4 A111.out (Glob.below hG.toGlob (by repeat (first|(with_reducible first|exact HB.out|apply below_alloc|apply pw_below_drewN|apply below_drew1)|exact HB.out)))).mono ?_);(case side1 => repeat (first|exact (by repeat (first|(with_reducible exact HR618.out)|(with_reducible refine Kd.C_alloc ?_ _)|(with_reducible refine Kd.C_drewN ?_ _)|(with_reducible refine Kd.C_drew ?_)|exact HR618.out))|(with_reducible refine Kd.C_alloc ?_ _)|(with_reducible refine Kd.C_drewN ?_ _)|(with_reducible refine Kd.C_drew ?_)));(case side2 => exact HC618.out);(case side3 => repeat (first|exact (Kd.R_reads' HO_17.out).2.2|(with_reducible refine Kd.C_alloc ?_ _)|(with_reducible refine Kd.C_drewN ?_ _)|(with_reducible refine Kd.C_drew ?_)));(case side4 => exact (Kd.R_reads' HO_17.out).2.1);rintro e w124 ⟨v621,rfl,ho0,hb⟩;refine ⟨_,rfl,?_⟩;have n0_:=Aside0.mk (Kd.R_elder' (by (with_reducible repeat (first|apply Kd.R_alloc|apply Kd.R_drewN|apply Kd.R_drew));exact HO_7.out) (Kd.R_base ho0) hb);have n1_:=Aside0.mk (Kd.R_elder' (by (with_reducible repeat (first|apply Kd.R_alloc|apply Kd.R_drewN|apply Kd.R_drew));exact HO_17.out) (Kd.R_base ho0) hb);have n2_:=Aside0.mk (Kd.R_elder' (by (with_reducible repeat (first|apply Kd.R_alloc|apply Kd.R_drewN|apply Kd.R_drew));exact HO614.out) (Kd.R_base ho0) hb);have n3_:=Aside0.mk (Kd.R_lower (Kd.R_new' (Kd.R_new' (Kd.R_new' ho0 (Kd.R_lt (by (with_reducible repeat (first|apply Kd.R_alloc|apply Kd.R_drewN|apply Kd.R_drew));exact HO_7.out))) (Kd.R_lt (by (with_reducible repeat (first|apply Kd.R_alloc|apply Kd.R_drewN|apply Kd.R_drew));exact HO_17.out))) (Kd.R_lt (by (with_reducible repeat (first|apply Kd.R_alloc|apply Kd.R_drewN|apply Kd.R_drew));exact HO614.out))) (below_size (by repeat (first|(with_reducible first|exact HB.out|apply below_alloc|apply pw_below_drewN|apply below_drew1)|exact HB.out))));have n4_:=Aside0.mk (Kd.C_below (by repeat (first|(with_reducible exact HR618.out)|(with_reducible refine Kd.C_alloc ?_ _)|(with_reducible refine Kd.C_drewN ?_ _)|(with_reducible refine Kd.C_drew ?_)|exact HR618.out)) hb);have n5_:=Aside0.mk (below_step (by repeat (first|(with_reducible first|exact HB.out|apply below_alloc|apply pw_below_drewN|apply below_drew1)|exact HB.out)) hb);clear HO_7;clear HO_17;clear HO614;clear HR618;clear HB;have HO_7:=n0_;have HO_17:=n1_;have HO614:=n2_;have HO622:=n3_;have HR618:=n4_;have HB:=n5_;clear n0_ n1_ n2_ n3_ n4_ n5_;(try clear hb);(try clear hb2);(try clear hk);(try clear hi);(try clear ho0)))
                  have n0_:=Aside0.mk (Kd.R_drew HO_7.out)
                  have n1_:=Aside0.mk (Kd.R_drew HO_17.out)
                  have n2_:=Aside0.mk (Kd.R_drew HO614.out)
                  have n3_:=Aside0.mk (Kd.R_drew HO622.out)
                  have n4_:=Aside0.mk (Kd.C_drew HR618.out)
                  have n5_:=Aside0.mk (below_drew1 HB.out)
                  clear HO_7;clear HO_17;clear HO614;clear HO622;clear HR618;clear HB;have HO_7:=n0_;have HO_17:=n1_;have HO614:=n2_;have HO622:=n3_;have HR618:=n4_;have HB:=n5_;clear n0_ n1_ n2_ n3_ n4_ n5_
                  refine start_ (n:=16) (S:=fun w' => True) (ds:=[]) (bl 0 16) (by kernel_rfl) rfl rfl trivial (fun hHeld => ?_);refine with_tabW bursarlaw03_QuantAddsUp.tab30 bursarlaw03_QuantAddsUp.bits30 (fun HT_ HW_ => ?_)
                  generalize w124.drew = w125 at HO_7 HO_17 HO614 HO622 HR618 HB hHeld ⊢
                  refine pure_ (i:=0) (N:=some 184) (v:=?_) (a':=?_) (bl 1 15) rfl rfl (any_of HT_.out (by kernel_rfl)) (fun _ _ _ h => h) (Or.inl ⟨by rfl,?_⟩) ?_ ?_
                  rotate_left;·intro w';go_simp;with_reducible rfl
                  rotate_left;·simp only [Act.put,List.setIfInBounds_toArray,List.set_cons_zero,List.set_cons_succ,i64_w,i32_w];rfl
                  refine pure_ (i:=2) (N:=some 186) (v:=?_) (a':=?_) #[true,false,true,false,false,false,false,false,false,false,false,false,false,false,false,false] rfl rfl (any_of HT_.out (by kernel_rfl)) (fun _ _ _ h => h) (Or.inl ⟨by rfl,?_⟩) ?_ ?_
                  rotate_left;·intro w';go_simp;with_reducible rfl
                  rotate_left;·simp only [Act.put,List.setIfInBounds_toArray,List.set_cons_zero,List.set_cons_succ,i64_w,i32_w];rfl
                  refine pure_ (i:=3) (N:=some 187) (v:=?_) (a':=?_) #[true,false,true,true,false,false,false,false,false,false,false,false,false,false,false,false] rfl rfl (any_of HT_.out (by kernel_rfl)) (fun _ _ _ h => h) (Or.inl ⟨by rfl,?_⟩) ?_ ?_
                  rotate_left;·intro w';go_simp;with_reducible rfl
                  rotate_left;·simp only [Act.put,List.setIfInBounds_toArray,List.set_cons_zero,List.set_cons_succ,i64_w,i32_w];rfl
                  refine pure_ (i:=5) (N:=some 189) (v:=?_) (a':=?_) #[true,false,true,true,false,true,false,false,false,false,false,false,false,false,false,false] rfl rfl (any_of HT_.out (by kernel_rfl)) (fun _ _ _ h => h) (Or.inl ⟨by rfl,?_⟩) ?_ ?_
                  rotate_left;·intro w';go_simp;with_reducible rfl
                  rotate_left;·simp only [Act.put,List.setIfInBounds_toArray,List.set_cons_zero,List.set_cons_succ,i64_w,i32_w];rfl
                  refine pure_ (i:=7) (N:=some 191) (v:=?_) (a':=?_) #[true,false,true,true,false,true,false,true,false,false,false,false,false,false,false,false] rfl rfl (any_of HT_.out (by kernel_rfl)) (fun _ _ _ h => h) (Or.inl ⟨by rfl,?_⟩) ?_ ?_
                  rotate_left;·intro w';go_simp;with_reducible rfl
                  rotate_left;·simp only [Act.put,List.setIfInBounds_toArray,List.set_cons_zero,List.set_cons_succ,i64_w,i32_w];rfl
                  refine pure_ (i:=8) (N:=some 192) (v:=?_) (a':=?_) #[true,false,true,true,false,true,false,true,true,false,false,false,false,false,false,false] rfl rfl (any_of HT_.out (by kernel_rfl)) (fun _ _ _ h => h) (Or.inl ⟨by rfl,?_⟩) ?_ ?_
                  rotate_left;·intro w';go_simp;with_reducible rfl
                  rotate_left;·simp only [Act.put,List.setIfInBounds_toArray,List.set_cons_zero,List.set_cons_succ,i64_w,i32_w];rfl
                  refine one_ (i:=1) (N:=some 185) #[true,true,true,true,false,true,false,true,true,false,false,false,false,false,false,false] rfl rfl (one_of HT_.out (by kernel_rfl)) (by decide) (fun K hK => ?_)
                  refine goes_ Tryz.func29 (by kernel_rfl) rfl #[.slice A0 l0.length c0] (by rfl) rfl rfl (by (try simp only [List.map_toArray,List.map_cons,List.map_nil]);first|done|rfl|(simp only [List.length_drop,List.length_take];rfl)) ?_
                  with_reducible refine (bursarlaw03_behind.calls _ _ l0 t623 _ ?side1 ?side2 A112.out (GlobM.below hG (by repeat (first|(with_reducible first|exact HB.out|apply below_alloc|apply pw_below_drewN|apply below_drew1)|exact HB.out)))).mono ?_
                  (case side1 => repeat (first|exact (Kd.C_below HR0.out HB.out)|(with_reducible refine Kd.C_alloc ?_ _)|(with_reducible refine Kd.C_drewN ?_ _)|(with_reducible refine Kd.C_drew ?_)))
                  (case side2 => exact HC0.out)
                  rintro e w126 ⟨v624,rfl,ho0,hb⟩
                  refine ⟨_,rfl,?_⟩
                  have n0_:=Aside0.mk (Kd.R_elder' (by (with_reducible repeat (first|apply Kd.R_alloc|apply Kd.R_drewN|apply Kd.R_drew));exact HO_7.out) (Kd.R_base ho0) hb)
                  have n1_:=Aside0.mk (Kd.R_elder' (by (with_reducible repeat (first|apply Kd.R_alloc|apply Kd.R_drewN|apply Kd.R_drew));exact HO_17.out) (Kd.R_base ho0) hb)
                  have n2_:=Aside0.mk (Kd.R_elder' (by (with_reducible repeat (first|apply Kd.R_alloc|apply Kd.R_drewN|apply Kd.R_drew));exact HO614.out) (Kd.R_base ho0) hb)
                  have n3_:=Aside0.mk (Kd.R_elder' (by (with_reducible repeat (first|apply Kd.R_alloc|apply Kd.R_drewN|apply Kd.R_drew));exact HO622.out) (Kd.R_base ho0) hb)
                  have n4_:=Aside0.mk (Kd.R_lower (Kd.R_new' (Kd.R_new' (Kd.R_new' (Kd.R_new' ho0 (Kd.R_lt (by (with_reducible repeat (first|apply Kd.R_alloc|apply Kd.R_drewN|apply Kd.R_drew));exact HO_7.out))) (Kd.R_lt (by (with_reducible repeat (first|apply Kd.R_alloc|apply Kd.R_drewN|apply Kd.R_drew));exact HO_17.out))) (Kd.R_lt (by (with_reducible repeat (first|apply Kd.R_alloc|apply Kd.R_drewN|apply Kd.R_drew));exact HO614.out))) (Kd.R_lt (by (with_reducible repeat (first|apply Kd.R_alloc|apply Kd.R_drewN|apply Kd.R_drew));exact HO622.out))) (below_size (by repeat (first|(with_reducible first|exact HB.out|apply below_alloc|apply pw_below_drewN|apply below_drew1)|exact HB.out))))
                  have n5_:=Aside0.mk (Kd.C_below (by repeat (first|(with_reducible exact HR618.out)|(with_reducible refine Kd.C_alloc ?_ _)|(with_reducible refine Kd.C_drewN ?_ _)|(with_reducible refine Kd.C_drew ?_)|exact HR618.out)) hb)
                  have n6_:=Aside0.mk (below_step (by repeat (first|(with_reducible first|exact HB.out|apply below_alloc|apply pw_below_drewN|apply below_drew1)|exact HB.out)) hb)
                  clear HO_7;clear HO_17;clear HO614;clear HO622;clear HR618;clear HB;have HO_7:=n0_;have HO_17:=n1_;have HO614:=n2_;have HO622:=n3_;have HO625:=n4_;have HR618:=n5_;have HB:=n6_;clear n0_ n1_ n2_ n3_ n4_ n5_ n6_;(try clear hb);(try clear hb2);(try clear hk);(try clear hi);(try clear ho0)
                  obtain ⟨Ao128,co128,eo128⟩:=Kd.R_slice HO625.out
                  (first|subst eo128|(injection eo128 with f1_ f2_ f3_;have f4_:=f1_.symm;have f5_:=f3_.symm;clear f1_ f2_ f3_;subst f4_;subst f5_))
                  have q127 : ((l0.length : Int) : Int) ≤ ((t623.length : Int) : Int):=of_decide_eq_true (by first|(with_reducible assumption)|assumption)
                  obtain ⟨i0127,hi0127,_,hsz127,_⟩:=info_parts info57
                  have hroom127 : t623.length ≤ co128:=(Kd.R_reads' HO625.out).2.1
                  have hC127 : Kd.C k57 _ Ao128 t623.length t623:=(Kd.R_reads' HO625.out).2.2
                  have hcut127:=cut_to (P:=Tryz.prog) 46 57 .i64 Tryz.underlying46 hi0127 Ao128 t623.length co128 (l0.length : Int) (of_decide_eq_true (by first|(with_reducible assumption)|assumption)) q127 hroom127
                  have hr127:=Kd.C_take (m:=((l0.length : Int) : Int).toNat) hC127 (by omega)
                  have hy127 : y626.length = ((l0.length : Int) : Int).toNat:=(by rw [Ny626.out,List.length_take];omega)
                  rw [← Ny626.out] at hr127
                  rw [← hy127] at hcut127
                  have HR629:=Aside0.mk hr127
                  have HC629:=Aside0.mk (show y626.length ≤ co128 from by omega)
                  clear hr127 hC127 hroom127 hi0127 hsz127
                  have KY127:=Aside0.mk hy127
                  clear hy127
                  have KL127:=Aside0.mk (show ((l0.length : Int) : Int).toNat ≤ t623.length from by omega)
                  replace q127:=eq_true q127
                  refine hK.out _ _ trivial (fun hHeld => ?_)
                  clear hK K
                  refine norm_ (a':=?_) ?_ ?_
                  rotate_left
                  ·show Act.put _ (some 185) _ = _
                   simp only [Act.put,List.setIfInBounds_toArray,List.set_cons_zero,List.set_cons_succ,i64_w,i32_w]
                   rfl
                  refine pure_ (i:=4) (N:=some 188) (v:=?_) (a':=?_) #[true,true,true,true,true,true,false,true,true,false,false,false,false,false,false,false] rfl rfl (any_of HT_.out (by kernel_rfl)) (fun _ _ _ h => h) (Or.inl ⟨by rfl,?_⟩) ?_ ?_
                  rotate_left;·intro w';go_simp;with_reducible rfl
                  rotate_left;·simp only [Act.put,List.setIfInBounds_toArray,List.set_cons_zero,List.set_cons_succ,i64_w,i32_w];rfl
                  refine one_ (i:=6) (N:=some 190) (bl 9 7) rfl rfl (one_of HT_.out (by kernel_rfl)) (by decide) (fun K hK => ?_)
                  refine goes_ Tryz.func29 (by kernel_rfl) rfl #[.slice A1 l1.length c1] (by rfl) rfl rfl (by (try simp only [List.map_toArray,List.map_cons,List.map_nil]);first|done|rfl|(simp only [List.length_drop,List.length_take];rfl)) ?_
                  with_reducible refine (bursarlaw03_behind.calls _ _ l1 t630 _ ?side1 ?side2 A115.out (GlobM.below hG (by repeat (first|(with_reducible first|exact HB.out|apply below_alloc|apply pw_below_drewN|apply below_drew1)|exact HB.out)))).mono ?_
                  (case side1 => repeat (first|exact (Kd.C_below HR1.out HB.out)|(with_reducible refine Kd.C_alloc ?_ _)|(with_reducible refine Kd.C_drewN ?_ _)|(with_reducible refine Kd.C_drew ?_)))
                  (case side2 => exact HC1.out)
                  rintro e w129 ⟨v631,rfl,ho0,hb⟩
                  refine ⟨_,rfl,?_⟩
                  have n0_:=Aside0.mk (Kd.R_elder' (by (with_reducible repeat (first|apply Kd.R_alloc|apply Kd.R_drewN|apply Kd.R_drew));exact HO_7.out) (Kd.R_base ho0) hb)
                  have n1_:=Aside0.mk (Kd.R_elder' (by (with_reducible repeat (first|apply Kd.R_alloc|apply Kd.R_drewN|apply Kd.R_drew));exact HO_17.out) (Kd.R_base ho0) hb)
                  have n2_:=Aside0.mk (Kd.R_elder' (by (with_reducible repeat (first|apply Kd.R_alloc|apply Kd.R_drewN|apply Kd.R_drew));exact HO614.out) (Kd.R_base ho0) hb)
                  have n3_:=Aside0.mk (Kd.R_elder' (by (with_reducible repeat (first|apply Kd.R_alloc|apply Kd.R_drewN|apply Kd.R_drew));exact HO622.out) (Kd.R_base ho0) hb)
                  have n4_:=Aside0.mk (Kd.R_elder' (by (with_reducible repeat (first|apply Kd.R_alloc|apply Kd.R_drewN|apply Kd.R_drew));exact HO625.out) (Kd.R_base ho0) hb)
                  have n5_:=Aside0.mk (Kd.R_lower (Kd.R_new' (Kd.R_new' (Kd.R_new' (Kd.R_new' (Kd.R_new' ho0 (Kd.R_lt (by (with_reducible repeat (first|apply Kd.R_alloc|apply Kd.R_drewN|apply Kd.R_drew));exact HO_7.out))) (Kd.R_lt (by (with_reducible repeat (first|apply Kd.R_alloc|apply Kd.R_drewN|apply Kd.R_drew));exact HO_17.out))) (Kd.R_lt (by (with_reducible repeat (first|apply Kd.R_alloc|apply Kd.R_drewN|apply Kd.R_drew));exact HO614.out))) (Kd.R_lt (by (with_reducible repeat (first|apply Kd.R_alloc|apply Kd.R_drewN|apply Kd.R_drew));exact HO622.out))) (Kd.R_lt (by (with_reducible repeat (first|apply Kd.R_alloc|apply Kd.R_drewN|apply Kd.R_drew));exact HO625.out))) (below_size (by repeat (first|(with_reducible first|exact HB.out|apply below_alloc|apply pw_below_drewN|apply below_drew1)|exact HB.out))))
                  have n6_:=Aside0.mk (Kd.C_below (by repeat (first|(with_reducible exact HR618.out)|(with_reducible refine Kd.C_alloc ?_ _)|(with_reducible refine Kd.C_drewN ?_ _)|(with_reducible refine Kd.C_drew ?_)|exact HR618.out)) hb)
                  have n7_:=Aside0.mk (Kd.C_below (by repeat (first|(with_reducible exact HR629.out)|(with_reducible refine Kd.C_alloc ?_ _)|(with_reducible refine Kd.C_drewN ?_ _)|(with_reducible refine Kd.C_drew ?_)|exact HR629.out)) hb)
                  have n8_:=Aside0.mk (below_step (by repeat (first|(with_reducible first|exact HB.out|apply below_alloc|apply pw_below_drewN|apply below_drew1)|exact HB.out)) hb)
                  clear HO_7;clear HO_17;clear HO614;clear HO622;clear HO625;clear HR618;clear HR629;clear HB;have HO_7:=n0_;have HO_17:=n1_;have HO614:=n2_;have HO622:=n3_;have HO625:=n4_;have HO632:=n5_;have HR618:=n6_;have HR629:=n7_;have HB:=n8_;clear n0_ n1_ n2_ n3_ n4_ n5_ n6_ n7_ n8_;(try clear hb);(try clear hb2);(try clear hk);(try clear hi);(try clear ho0)
                  obtain ⟨Ao131,co131,eo131⟩:=Kd.R_slice HO632.out
                  (first|subst eo131|(injection eo131 with f1_ f2_ f3_;have f4_:=f1_.symm;have f5_:=f3_.symm;clear f1_ f2_ f3_;subst f4_;subst f5_))
                  have q130 : ((l1.length : Int) : Int) ≤ ((t630.length : Int) : Int):=of_decide_eq_true (by first|(with_reducible assumption)|assumption)
                  obtain ⟨i0130,hi0130,_,hsz130,_⟩:=info_parts info57
                  have hroom130 : t630.length ≤ co131:=(Kd.R_reads' HO632.out).2.1
                  have hC130 : Kd.C k57 _ Ao131 t630.length t630:=(Kd.R_reads' HO632.out).2.2
                  have hcut130:=cut_to (P:=Tryz.prog) 46 57 .i64 Tryz.underlying46 hi0130 Ao131 t630.length co131 (l1.length : Int) (of_decide_eq_true (by first|(with_reducible assumption)|assumption)) q130 hroom130
                  have hr130:=Kd.C_take (m:=((l1.length : Int) : Int).toNat) hC130 (by omega)
                  have hy130 : y633.length = ((l1.length : Int) : Int).toNat:=(by rw [Ny633.out,List.length_take];omega)
                  rw [← Ny633.out] at hr130
                  rw [← hy130] at hcut130
                  have HR636:=Aside0.mk hr130
                  have HC636:=Aside0.mk (show y633.length ≤ co131 from by omega)
                  clear hr130 hC130 hroom130 hi0130 hsz130
                  have KY130:=Aside0.mk hy130
                  clear hy130
                  have KL130:=Aside0.mk (show ((l1.length : Int) : Int).toNat ≤ t630.length from by omega)
                  replace q130:=eq_true q130
                  refine hK.out _ _ trivial (fun hHeld => ?_)
                  clear hK K
                  refine norm_ (a':=?_) ?_ ?_
                  rotate_left
                  ·show Act.put _ (some 190) _ = _
                   simp only [Act.put,List.setIfInBounds_toArray,List.set_cons_zero,List.set_cons_succ,i64_w,i32_w]
                   rfl
                  refine pure_ (i:=9) (N:=some 193) (v:=?_) (a':=?_) (bl 10 6) rfl rfl (any_of HT_.out (by kernel_rfl)) (fun _ _ _ h => h) (Or.inl ⟨by rfl,?_⟩) ?_ ?_
                  rotate_left;·intro w';go_simp;with_reducible rfl
                  rotate_left;·simp only [Act.put,List.setIfInBounds_toArray,List.set_cons_zero,List.set_cons_succ,i64_w,i32_w];rfl
                  refine one_ (i:=10) (N:=some 194) (bl 11 5) rfl rfl (one_of HT_.out (by kernel_rfl)) (by decide) (fun K hK => ?_)
                  refine goes_ Tryz.func44 (by kernel_rfl) rfl #[.slice Ao128 y626.length co128,.slice Ao131 y633.length co131] (by rfl) rfl rfl (by (try simp only [List.map_toArray,List.map_cons,List.map_nil]);first|done|rfl|(simp only [List.length_drop,List.length_take];rfl)) ?_
                  with_reducible refine (quant_Within.calls k4 _ _ y626 _ _ y633 t637 t638 _ ?side1 ?side2 ?side3 ?side4 A118.out (Glob.below hG.toGlob (by repeat (first|(with_reducible first|exact HB.out|apply below_alloc|apply pw_below_drewN|apply below_drew1)|exact HB.out)))).mono ?_
                  (case side1 => repeat (first|exact (by repeat (first|(with_reducible exact HR629.out)|(with_reducible refine Kd.C_alloc ?_ _)|(with_reducible refine Kd.C_drewN ?_ _)|(with_reducible refine Kd.C_drew ?_)|exact HR629.out))|(with_reducible refine Kd.C_alloc ?_ _)|(with_reducible refine Kd.C_drewN ?_ _)|(with_reducible refine Kd.C_drew ?_)))
                  (case side2 => exact HC629.out)
                  (case side3 => repeat (first|exact (by repeat (first|(with_reducible exact HR636.out)|(with_reducible refine Kd.C_alloc ?_ _)|(with_reducible refine Kd.C_drewN ?_ _)|(with_reducible refine Kd.C_drew ?_)|exact HR636.out))|(with_reducible refine Kd.C_alloc ?_ _)|(with_reducible refine Kd.C_drewN ?_ _)|(with_reducible refine Kd.C_drew ?_)))
                  (case side4 => exact HC636.out)
                  rintro e w132 ⟨rfl,hb⟩
                  refine ⟨_,rfl,?_⟩
                  have n0_:=Aside0.mk (Kd.R_below (by (with_reducible repeat (first|apply Kd.R_alloc|apply Kd.R_drewN|apply Kd.R_drew));exact HO_7.out) hb)
                  have n1_:=Aside0.mk (Kd.R_below (by (with_reducible repeat (first|apply Kd.R_alloc|apply Kd.R_drewN|apply Kd.R_drew));exact HO_17.out) hb)
                  have n2_:=Aside0.mk (Kd.R_below (by (with_reducible repeat (first|apply Kd.R_alloc|apply Kd.R_drewN|apply Kd.R_drew));exact HO614.out) hb)
                  have n3_:=Aside0.mk (Kd.R_below (by (with_reducible repeat (first|apply Kd.R_alloc|apply Kd.R_drewN|apply Kd.R_drew));exact HO622.out) hb)
                  have n4_:=Aside0.mk (Kd.R_below (by (with_reducible repeat (first|apply Kd.R_alloc|apply Kd.R_drewN|apply Kd.R_drew));exact HO625.out) hb)
                  have n5_:=Aside0.mk (Kd.R_below (by (with_reducible repeat (first|apply Kd.R_alloc|apply Kd.R_drewN|apply Kd.R_drew));exact HO632.out) hb)
                  have n6_:=Aside0.mk (Kd.C_below (by repeat (first|(with_reducible exact HR618.out)|(with_reducible refine Kd.C_alloc ?_ _)|(with_reducible refine Kd.C_drewN ?_ _)|(with_reducible refine Kd.C_drew ?_)|exact HR618.out)) hb)
                  have n7_:=Aside0.mk (Kd.C_below (by repeat (first|(with_reducible exact HR629.out)|(with_reducible refine Kd.C_alloc ?_ _)|(with_reducible refine Kd.C_drewN ?_ _)|(with_reducible refine Kd.C_drew ?_)|exact HR629.out)) hb)
                  have n8_:=Aside0.mk (Kd.C_below (by repeat (first|(with_reducible exact HR636.out)|(with_reducible refine Kd.C_alloc ?_ _)|(with_reducible refine Kd.C_drewN ?_ _)|(with_reducible refine Kd.C_drew ?_)|exact HR636.out)) hb)
                  have n9_:=Aside0.mk (below_step (by repeat (first|(with_reducible first|exact HB.out|apply below_alloc|apply pw_below_drewN|apply below_drew1)|exact HB.out)) hb)
                  clear HO_7;clear HO_17;clear HO614;clear HO622;clear HO625;clear HO632;clear HR618;clear HR629;clear HR636;clear HB;have HO_7:=n0_;have HO_17:=n1_;have HO614:=n2_;have HO622:=n3_;have HO625:=n4_;have HO632:=n5_;have HR618:=n6_;have HR629:=n7_;have HR636:=n8_;have HB:=n9_;clear n0_ n1_ n2_ n3_ n4_ n5_ n6_ n7_ n8_ n9_;(try clear hb);(try clear hb2);(try clear hk);(try clear hi)
                  refine hK.out _ _ trivial (fun hHeld => ?_)
                  clear hK K
                  refine norm_ (a':=?_) ?_ ?_
                  rotate_left
                  ·show Act.put _ (some 194) _ = _
                   simp only [Act.put,List.setIfInBounds_toArray,List.set_cons_zero,List.set_cons_succ,i64_w,i32_w]
                   rfl
                  refine pure_ (i:=11) (N:=some 183) (v:=?_) (a':=?_) (bl 12 4) rfl rfl (any_of HT_.out (by kernel_rfl)) (fun _ _ _ h => h) (Or.inl ⟨by rfl,?_⟩) ?_ ?_
                  rotate_left;·intro w';go_simp;with_reducible rfl
                  rotate_left;·simp only [Act.put,List.setIfInBounds_toArray,List.set_cons_zero,List.set_cons_succ,i64_w,i32_w];rfl
                  refine pure_ (i:=12) (N:=some 195) (v:=?_) (a':=?_) (bl 13 3) rfl rfl (any_of HT_.out (by kernel_rfl)) (fun _ _ _ h => h) (Or.inl ⟨by rfl,?_⟩) ?_ ?_
                  rotate_left;·intro w';go_simp;with_reducible rfl
                  rotate_left;·simp only [Act.put,List.setIfInBounds_toArray,List.set_cons_zero,List.set_cons_succ,i64_w,i32_w];rfl
                  refine pure_ (i:=13) (N:=some 196) (v:=?_) (a':=?_) (bl 14 2) rfl rfl (any_of HT_.out (by kernel_rfl)) (fun _ _ _ h => h) (Or.inl ⟨by rfl,?_⟩) ?_ ?_
                  rotate_left;·intro w';go_simp;with_reducible rfl
                  rotate_left;·simp only [Act.put,List.setIfInBounds_toArray,List.set_cons_zero,List.set_cons_succ,i64_w,i32_w];rfl
                  refine pure_ (i:=14) (N:=some 23) (v:=?_) (a':=?_) (bl 15 1) rfl rfl (any_of HT_.out (by kernel_rfl)) (fun _ _ _ h => h) (Or.inl ⟨by rfl,?_⟩) ?_ ?_
                  rotate_left;·intro w';go_simp;with_reducible rfl
                  rotate_left;·simp only [Act.put,List.setIfInBounds_toArray,List.set_cons_zero,List.set_cons_succ,i64_w,i32_w];rfl
                  refine pure_ (i:=15) (N:=some 24) (v:=?_) (a':=?_) (bl 16 0) rfl rfl (any_of HT_.out (by kernel_rfl)) (fun _ _ _ h => h) (Or.inl ⟨by rfl,?_⟩) ?_ ?_
                  rotate_left;·intro w';go_simp;with_reducible rfl
                  rotate_left;·simp only [Act.put,List.setIfInBounds_toArray,List.set_cons_zero,List.set_cons_succ,i64_w,i32_w];rfl
                  refine done_ (done_of HT_.out (by kernel_rfl)) ?_
                  go_upto_region 31 with (fail)
                  go_cut [205] (fun v205 wc => ∃ (kq : Nat) (x205_118 : Bool),v205 = .bool x205_118 ∧ Aside0 (bursarlaw03_QuantAddsUp.j6 kq l0 l1 l2 t554 t555 x205_118 = some r) ∧ Aside0 (kq ≤ k4) ∧ Aside0 (Kd.R k57 57 wc w.heap.size (fun _ => True) v556 t554) ∧ Aside0 (Kd.C k57 wc Ao122 y615.length y615) ∧ Aside0 (Kd.C k57 wc Ao128 y626.length y626) ∧ Aside0 (Kd.C k57 wc Ao131 y633.length y633) ∧ Aside0 (Below w.heap.size w wc))
                  case first => as_aux_lemma =>
                   have H:=HC119.out
                   clear HC119
                   by_cases c133 : t638 = 0
                   ·rw [if_pos c133] at H
                    have c133b0 : (t638 == 0) = true:=beq_iff_eq.mpr c133
                    have c133b1 : (t638 != 0) = false:=bne_eq_false_iff_eq.mpr c133
                    clear c133
                    (first|rw [c133b0]|(simp only [i64_w,i32_w];rw [c133b0])|skip)
                    have H':=Aside0.mk H
                    clear H
                    go_wp2
                    go_meet
                    case rel => exact ⟨_,(((t637.toList == ([] : List UInt8)) != (t620 == 0))),(by first|rfl|(simp;done)|(simp [*];done)|(simp;rw [Bool.eq_iff_iff];simp;done)|(rw [Bool.eq_iff_iff];simp;done)),H',⟨by have:=HJ7.out;have:=HJ16.out;have:=HJ26.out;have:=HK4.out;first|omega|exact Nat.le_refl _⟩,⟨by (with_reducible repeat (first|apply Kd.R_alloc|apply Kd.R_drewN|apply Kd.R_drew));exact Kd.R_mono HO_7.out (fun _ hk => trivial)⟩,⟨by repeat (first|(with_reducible exact HR618.out)|(with_reducible refine Kd.C_alloc ?_ _)|(with_reducible refine Kd.C_drewN ?_ _)|(with_reducible refine Kd.C_drew ?_)|exact HR618.out)⟩,⟨by repeat (first|(with_reducible exact HR629.out)|(with_reducible refine Kd.C_alloc ?_ _)|(with_reducible refine Kd.C_drewN ?_ _)|(with_reducible refine Kd.C_drew ?_)|exact HR629.out)⟩,⟨by repeat (first|(with_reducible exact HR636.out)|(with_reducible refine Kd.C_alloc ?_ _)|(with_reducible refine Kd.C_drewN ?_ _)|(with_reducible refine Kd.C_drew ?_)|exact HR636.out)⟩,⟨by repeat (first|(with_reducible first|exact HB.out|apply below_alloc|apply pw_below_drewN|apply below_drew1)|exact HB.out)⟩⟩
                   ·rw [if_neg c133] at H
                    have c133b0 : (t638 == 0) = false:=beq_eq_false_iff_ne.mpr c133
                    have c133b1 : (t638 != 0) = true:=bne_iff_ne.mpr c133
                    (first|rw [c133b0]|(simp only [i64_w,i32_w];rw [c133b0])|skip)
                    have H':=Aside0.mk H
                    clear H
                    go_wp2
                    go_meet
                    case rel => exact ⟨_,(true),(by first|rfl|(simp;done)|(simp [*];done)|(simp;rw [Bool.eq_iff_iff];simp;done)|(rw [Bool.eq_iff_iff];simp;done)),H',⟨by have:=HJ7.out;have:=HJ16.out;have:=HJ26.out;have:=HK4.out;first|omega|exact Nat.le_refl _⟩,⟨by (with_reducible repeat (first|apply Kd.R_alloc|apply Kd.R_drewN|apply Kd.R_drew));exact Kd.R_mono HO_7.out (fun _ hk => trivial)⟩,⟨by repeat (first|(with_reducible exact HR618.out)|(with_reducible refine Kd.C_alloc ?_ _)|(with_reducible refine Kd.C_drewN ?_ _)|(with_reducible refine Kd.C_drew ?_)|exact HR618.out)⟩,⟨by repeat (first|(with_reducible exact HR629.out)|(with_reducible refine Kd.C_alloc ?_ _)|(with_reducible refine Kd.C_drewN ?_ _)|(with_reducible refine Kd.C_drew ?_)|exact HR629.out)⟩,⟨by repeat (first|(with_reducible exact HR636.out)|(with_reducible refine Kd.C_alloc ?_ _)|(with_reducible refine Kd.C_drewN ?_ _)|(with_reducible refine Kd.C_drew ?_)|exact HR636.out)⟩,⟨by repeat (first|(with_reducible first|exact HB.out|apply below_alloc|apply pw_below_drewN|apply below_drew1)|exact HB.out)⟩⟩
                  case rest => as_aux_lemma =>
                   clear HC119;(try clear c1);(try clear q1);(try clear c2);(try clear p2);(try clear c3);(try clear c4);(try clear c6);(try clear p6);(try clear q6);(try clear hx6);(try clear c7);(try clear q8);(try clear q9);(try clear c10);(try clear c11);(try clear q12);(try clear c13);(try clear q13);(try clear c28);(try clear c28b0);(try clear c28b1);(try clear c29);(try clear c30);(try clear c31);(try clear c33);(try clear c34);(try clear c42);(try clear c44);(try clear p60);(try clear q60);(try clear hx60);(try clear p64);(try clear c65);(try clear c66);(try clear c68);(try clear c69);(try clear c71);(try clear c71b0);(try clear c71b1);(try clear q85);(try clear q88);(try clear q94);(try clear q97);(try clear c100);(try clear c100b0);(try clear c101);(try clear c101b0);(try clear c103);(try clear c104);(try clear c109);(try clear c109b0);(try clear c109b1);(try clear c110);(try clear c110b0);(try clear c110b1);(try clear c113);(try clear c113b0);(try clear c113b1);(try clear c114);(try clear c114b0);(try clear c114b1);(try clear c116);(try clear c116b0);(try clear c117);(try clear c117b0);(try clear c117b1);(try clear q121);(try clear q127);(try clear q130);(try clear c133);(try clear c133b0);(try clear c133b1);(try clear hx605_0);(try clear hx605_1);(try clear hx608_0);(try clear hx608_1);(try clear p2);(try clear p605);(try clear p608);(try clear q121);(try clear q127);(try clear q130);(try clear q605);(try clear q608);(try clear q8);(try clear q85);(try clear q88);(try clear q9);(try clear q94);(try clear q97)
                   obtain ⟨kq,x205_118,rfl,HA,HJ118,HO_7,HR618,HR629,HR636,HB⟩:=hcut
                   cases kq with
                  |zero => exact absurd HA.out (by simp [bursarlaw03_QuantAddsUp.j6])
                  |succ kj118 =>
                    have H:=HA.out
                    clear HA
                    simp only [bursarlaw03_QuantAddsUp.j6] at H
                    by_cases c134 : x205_118 = true
                    ·subst c134
                     have H1 : (some false) = some r:=by rw [if_pos rfl] at H;exact H
                     clear H;have H:=H1;clear H1
                     obtain rfl:=Option.some.inj H
                     go_wp2
                     go_ret
                     exact ⟨by first|rfl|(simp [errW_none,errW_some] <;> rfl)|(simp [*,errW_none,errW_some] <;> rfl),by repeat (first|(with_reducible first|exact HB.out|apply below_alloc|apply pw_below_drewN|apply below_drew1)|exact HB.out)⟩
                    ·replace c134:=Bool.eq_false_iff.mpr c134
                     subst c134
                     have H1 : ((bursarlaw03_added.f kj118 t554 l2).bind fun bt639 => ((bursarlaw03_added.f kj118 l1 l2).bind fun bt643 => ((bursarlaw03_added.f kj118 l0 bt643.1).bind fun bt647 => (if t555 = 0 then (if bt639.2 = 0 then (if bt643.2 = 0 then (if bt647.2 = 0 then ((bursarlaw03_same.f kj118 bt639.1 bt647.1).bind fun t651 => (some t651)) else (some true)) else (some true)) else (some true)) else (some true))))) = some r:=by rw [if_neg (show ¬ (false = true) by decide)] at H;exact H
                     clear H;have H:=H1;clear H1
                     replace H:=Option.bind_eq_some_iff.mp H
                     obtain ⟨⟨t639,t640⟩,A1350,H⟩:=H
                     replace H : ((bursarlaw03_added.f kj118 l1 l2).bind fun bt643 => ((bursarlaw03_added.f kj118 l0 bt643.1).bind fun bt647 => (if t555 = 0 then (if t640 = 0 then (if bt643.2 = 0 then (if bt647.2 = 0 then ((bursarlaw03_same.f kj118 t639 bt647.1).bind fun t651 => (some t651)) else (some true)) else (some true)) else (some true)) else (some true)))) = some r:=H
                     have A135:=Aside0.mk A1350
                     clear A1350
                     replace H:=Option.bind_eq_some_iff.mp H
                     obtain ⟨⟨t643,t644⟩,A1360,H⟩:=H
                     replace H : ((bursarlaw03_added.f kj118 l0 t643).bind fun bt647 => (if t555 = 0 then (if t640 = 0 then (if t644 = 0 then (if bt647.2 = 0 then ((bursarlaw03_same.f kj118 t639 bt647.1).bind fun t651 => (some t651)) else (some true)) else (some true)) else (some true)) else (some true))) = some r:=H
                     have A136:=Aside0.mk A1360
                     clear A1360
                     replace H:=Option.bind_eq_some_iff.mp H
                     obtain ⟨⟨t647,t648⟩,A1370,H⟩:=H
                     replace H : (if t555 = 0 then (if t640 = 0 then (if t644 = 0 then (if t648 = 0 then ((bursarlaw03_same.f kj118 t639 t647).bind fun t651 => (some t651)) else (some true)) else (some true)) else (some true)) else (some true)) = some r:=H
                     have A137:=Aside0.mk A1370
                     clear A1370
                     by_cases c138 : t555 = 0
                     ·rw [if_pos c138] at H
                      have c138b0 : (t555 == 0) = true:=beq_iff_eq.mpr c138
                      have c138b1 : (t555 != 0) = false:=bne_eq_false_iff_eq.mpr c138
                      clear c138
                      by_cases c139 : t640 = 0
                      ·rw [if_pos c139] at H
                       have c139b0 : (t640 == 0) = true:=beq_iff_eq.mpr c139
                       have c139b1 : (t640 != 0) = false:=bne_eq_false_iff_eq.mpr c139
                       clear c139
                       by_cases c140 : t644 = 0
                       ·rw [if_pos c140] at H
                        have c140b0 : (t644 == 0) = true:=beq_iff_eq.mpr c140
                        have c140b1 : (t644 != 0) = false:=bne_eq_false_iff_eq.mpr c140
                        clear c140
                        by_cases c141 : t648 = 0
                        ·rw [if_pos c141] at H
                         have c141b0 : (t648 == 0) = true:=beq_iff_eq.mpr c141
                         have c141b1 : (t648 != 0) = false:=bne_eq_false_iff_eq.mpr c141
                         clear c141
                         replace H:=Option.bind_eq_some_iff.mp H
                         obtain ⟨t651,A1420,H⟩:=H
                         replace H : (some t651) = some r:=H
                         have A142:=Aside0.mk A1420
                         clear A1420
                         obtain rfl:=Option.some.inj H
                         obtain ⟨Ao143,co143,eo143⟩:=Kd.R_slice HO_7.out
                         subst eo143
                         go_wp2_with (first|((with_reducible refine gate_callee (f:=43) rfl ?_);refine goesL_ (some 209) rfl rfl Tryz.func43 (by kernel_rfl) rfl #[.slice Ao143 t554.length co143,.slice A2 l2.length c2] rfl (by (try simp only [List.map_toArray,List.map_cons,List.map_nil]);first|done|rfl|(simp only [List.length_drop,List.length_take];rfl)) ?_;(with_reducible refine (bursarlaw03_added.calls kj118 _ _ t554 _ _ l2 t639 t640 _ ?side1 ?side2 ?side3 ?side4 A135.out (GlobM.below hG (by repeat (first|(with_reducible first|exact HB.out|apply below_alloc|apply pw_below_drewN|apply below_drew1)|exact HB.out)))).mono ?_);(case side1 => repeat (first|exact (Kd.R_reads' HO_7.out).2.2|(with_reducible refine Kd.C_alloc ?_ _)|(with_reducible refine Kd.C_drewN ?_ _)|(with_reducible refine Kd.C_drew ?_)));(case side2 => exact (Kd.R_reads' HO_7.out).2.1);(case side3 => repeat (first|exact (Kd.C_below HR2.out HB.out)|(with_reducible refine Kd.C_alloc ?_ _)|(with_reducible refine Kd.C_drewN ?_ _)|(with_reducible refine Kd.C_drew ?_)));(case side4 => exact HC2.out);rintro e w144 ⟨v641,rfl,ho0,hb⟩;refine ⟨_,rfl,?_⟩;have n0_:=Aside0.mk (Kd.R_elder' (by (with_reducible repeat (first|apply Kd.R_alloc|apply Kd.R_drewN|apply Kd.R_drew));exact HO_7.out) (Kd.R_base ho0) hb);have n1_:=Aside0.mk (Kd.R_lower (Kd.R_new' ho0 (Kd.R_lt (by (with_reducible repeat (first|apply Kd.R_alloc|apply Kd.R_drewN|apply Kd.R_drew));exact HO_7.out))) (below_size (by repeat (first|(with_reducible first|exact HB.out|apply below_alloc|apply pw_below_drewN|apply below_drew1)|exact HB.out))));have n2_:=Aside0.mk (Kd.C_below (by repeat (first|(with_reducible exact HR618.out)|(with_reducible refine Kd.C_alloc ?_ _)|(with_reducible refine Kd.C_drewN ?_ _)|(with_reducible refine Kd.C_drew ?_)|exact HR618.out)) hb);have n3_:=Aside0.mk (Kd.C_below (by repeat (first|(with_reducible exact HR629.out)|(with_reducible refine Kd.C_alloc ?_ _)|(with_reducible refine Kd.C_drewN ?_ _)|(with_reducible refine Kd.C_drew ?_)|exact HR629.out)) hb);have n4_:=Aside0.mk (Kd.C_below (by repeat (first|(with_reducible exact HR636.out)|(with_reducible refine Kd.C_alloc ?_ _)|(with_reducible refine Kd.C_drewN ?_ _)|(with_reducible refine Kd.C_drew ?_)|exact HR636.out)) hb);have n5_:=Aside0.mk (below_step (by repeat (first|(with_reducible first|exact HB.out|apply below_alloc|apply pw_below_drewN|apply below_drew1)|exact HB.out)) hb);clear HO_7;clear HR618;clear HR629;clear HR636;clear HB;have HO_7:=n0_;have HO642:=n1_;have HR618:=n2_;have HR629:=n3_;have HR636:=n4_;have HB:=n5_;clear n0_ n1_ n2_ n3_ n4_ n5_;(try clear hb);(try clear hb2);(try clear hk);(try clear hi);(try clear ho0))|((with_reducible refine gate_callee (f:=43) rfl ?_);refine goesL_ (some 215) rfl rfl Tryz.func43 (by kernel_rfl) rfl #[.slice A1 l1.length c1,.slice A2 l2.length c2] rfl (by (try simp only [List.map_toArray,List.map_cons,List.map_nil]);first|done|rfl|(simp only [List.length_drop,List.length_take];rfl)) ?_;(with_reducible refine (bursarlaw03_added.calls kj118 _ _ l1 _ _ l2 t643 t644 _ ?side1 ?side2 ?side3 ?side4 A136.out (GlobM.below hG (by repeat (first|(with_reducible first|exact HB.out|apply below_alloc|apply pw_below_drewN|apply below_drew1)|exact HB.out)))).mono ?_);(case side1 => repeat (first|exact (Kd.C_below HR1.out HB.out)|(with_reducible refine Kd.C_alloc ?_ _)|(with_reducible refine Kd.C_drewN ?_ _)|(with_reducible refine Kd.C_drew ?_)));(case side2 => exact HC1.out);(case side3 => repeat (first|exact (Kd.C_below HR2.out HB.out)|(with_reducible refine Kd.C_alloc ?_ _)|(with_reducible refine Kd.C_drewN ?_ _)|(with_reducible refine Kd.C_drew ?_)));(case side4 => exact HC2.out);rintro e w145 ⟨v645,rfl,ho0,hb⟩;refine ⟨_,rfl,?_⟩;have n0_:=Aside0.mk (Kd.R_elder' (by (with_reducible repeat (first|apply Kd.R_alloc|apply Kd.R_drewN|apply Kd.R_drew));exact HO_7.out) (Kd.R_base ho0) hb);have n1_:=Aside0.mk (Kd.R_elder' (by (with_reducible repeat (first|apply Kd.R_alloc|apply Kd.R_drewN|apply Kd.R_drew));exact HO642.out) (Kd.R_base ho0) hb);have n2_:=Aside0.mk (Kd.R_lower (Kd.R_new' (Kd.R_new' ho0 (Kd.R_lt (by (with_reducible repeat (first|apply Kd.R_alloc|apply Kd.R_drewN|apply Kd.R_drew));exact HO_7.out))) (Kd.R_lt (by (with_reducible repeat (first|apply Kd.R_alloc|apply Kd.R_drewN|apply Kd.R_drew));exact HO642.out))) (below_size (by repeat (first|(with_reducible first|exact HB.out|apply below_alloc|apply pw_below_drewN|apply below_drew1)|exact HB.out))));have n3_:=Aside0.mk (Kd.C_below (by repeat (first|(with_reducible exact HR618.out)|(with_reducible refine Kd.C_alloc ?_ _)|(with_reducible refine Kd.C_drewN ?_ _)|(with_reducible refine Kd.C_drew ?_)|exact HR618.out)) hb);have n4_:=Aside0.mk (Kd.C_below (by repeat (first|(with_reducible exact HR629.out)|(with_reducible refine Kd.C_alloc ?_ _)|(with_reducible refine Kd.C_drewN ?_ _)|(with_reducible refine Kd.C_drew ?_)|exact HR629.out)) hb);have n5_:=Aside0.mk (Kd.C_below (by repeat (first|(with_reducible exact HR636.out)|(with_reducible refine Kd.C_alloc ?_ _)|(with_reducible refine Kd.C_drewN ?_ _)|(with_reducible refine Kd.C_drew ?_)|exact HR636.out)) hb);have n6_:=Aside0.mk (below_step (by repeat (first|(with_reducible first|exact HB.out|apply below_alloc|apply pw_below_drewN|apply below_drew1)|exact HB.out)) hb);clear HO_7;clear HO642;clear HR618;clear HR629;clear HR636;clear HB;have HO_7:=n0_;have HO642:=n1_;have HO646:=n2_;have HR618:=n3_;have HR629:=n4_;have HR636:=n5_;have HB:=n6_;clear n0_ n1_ n2_ n3_ n4_ n5_ n6_;(try clear hb);(try clear hb2);(try clear hk);(try clear hi);(try clear ho0);obtain ⟨Ao146,co146,eo146⟩:=Kd.R_slice HO646.out;subst eo146)|((with_reducible refine gate_callee (f:=43) rfl ?_);refine goesL_ (some 221) rfl rfl Tryz.func43 (by kernel_rfl) rfl #[.slice A0 l0.length c0,.slice Ao146 t643.length co146] rfl (by (try simp only [List.map_toArray,List.map_cons,List.map_nil]);first|done|rfl|(simp only [List.length_drop,List.length_take];rfl)) ?_;(with_reducible refine (bursarlaw03_added.calls kj118 _ _ l0 _ _ t643 t647 t648 _ ?side1 ?side2 ?side3 ?side4 A137.out (GlobM.below hG (by repeat (first|(with_reducible first|exact HB.out|apply below_alloc|apply pw_below_drewN|apply below_drew1)|exact HB.out)))).mono ?_);(case side1 => repeat (first|exact (Kd.C_below HR0.out HB.out)|(with_reducible refine Kd.C_alloc ?_ _)|(with_reducible refine Kd.C_drewN ?_ _)|(with_reducible refine Kd.C_drew ?_)));(case side2 => exact HC0.out);(case side3 => repeat (first|exact (Kd.R_reads' HO646.out).2.2|(with_reducible refine Kd.C_alloc ?_ _)|(with_reducible refine Kd.C_drewN ?_ _)|(with_reducible refine Kd.C_drew ?_)));(case side4 => exact (Kd.R_reads' HO646.out).2.1);rintro e w147 ⟨v649,rfl,ho0,hb⟩;refine ⟨_,rfl,?_⟩;have n0_:=Aside0.mk (Kd.R_elder' (by (with_reducible repeat (first|apply Kd.R_alloc|apply Kd.R_drewN|apply Kd.R_drew));exact HO_7.out) (Kd.R_base ho0) hb);have n1_:=Aside0.mk (Kd.R_elder' (by (with_reducible repeat (first|apply Kd.R_alloc|apply Kd.R_drewN|apply Kd.R_drew));exact HO642.out) (Kd.R_base ho0) hb);have n2_:=Aside0.mk (Kd.R_elder' (by (with_reducible repeat (first|apply Kd.R_alloc|apply Kd.R_drewN|apply Kd.R_drew));exact HO646.out) (Kd.R_base ho0) hb);have n3_:=Aside0.mk (Kd.R_lower (Kd.R_new' (Kd.R_new' (Kd.R_new' ho0 (Kd.R_lt (by (with_reducible repeat (first|apply Kd.R_alloc|apply Kd.R_drewN|apply Kd.R_drew));exact HO_7.out))) (Kd.R_lt (by (with_reducible repeat (first|apply Kd.R_alloc|apply Kd.R_drewN|apply Kd.R_drew));exact HO642.out))) (Kd.R_lt (by (with_reducible repeat (first|apply Kd.R_alloc|apply Kd.R_drewN|apply Kd.R_drew));exact HO646.out))) (below_size (by repeat (first|(with_reducible first|exact HB.out|apply below_alloc|apply pw_below_drewN|apply below_drew1)|exact HB.out))));have n4_:=Aside0.mk (Kd.C_below (by repeat (first|(with_reducible exact HR618.out)|(with_reducible refine Kd.C_alloc ?_ _)|(with_reducible refine Kd.C_drewN ?_ _)|(with_reducible refine Kd.C_drew ?_)|exact HR618.out)) hb);have n5_:=Aside0.mk (Kd.C_below (by repeat (first|(with_reducible exact HR629.out)|(with_reducible refine Kd.C_alloc ?_ _)|(with_reducible refine Kd.C_drewN ?_ _)|(with_reducible refine Kd.C_drew ?_)|exact HR629.out)) hb);have n6_:=Aside0.mk (Kd.C_below (by repeat (first|(with_reducible exact HR636.out)|(with_reducible refine Kd.C_alloc ?_ _)|(with_reducible refine Kd.C_drewN ?_ _)|(with_reducible refine Kd.C_drew ?_)|exact HR636.out)) hb);have n7_:=Aside0.mk (below_step (by repeat (first|(with_reducible first|exact HB.out|apply below_alloc|apply pw_below_drewN|apply below_drew1)|exact HB.out)) hb);clear HO_7;clear HO642;clear HO646;clear HR618;clear HR629;clear HR636;clear HB;have HO_7:=n0_;have HO642:=n1_;have HO646:=n2_;have HO650:=n3_;have HR618:=n4_;have HR629:=n5_;have HR636:=n6_;have HB:=n7_;clear n0_ n1_ n2_ n3_ n4_ n5_ n6_ n7_;(try clear hb);(try clear hb2);(try clear hk);(try clear hi);(try clear ho0);obtain ⟨Ao148,co148,eo148⟩:=Kd.R_slice HO642.out;subst eo148;obtain ⟨Ao149,co149,eo149⟩:=Kd.R_slice HO650.out;subst eo149)|(go_at_call 39;(with_reducible refine (bursarlaw03_same.calls kj118 _ _ t639 _ _ t647 t651 _ ?side1 ?side2 ?side3 ?side4 A142.out).mono ?_);(case side1 => repeat (first|exact (Kd.R_reads' HO642.out).2.2|(with_reducible refine Kd.C_alloc ?_ _)|(with_reducible refine Kd.C_drewN ?_ _)|(with_reducible refine Kd.C_drew ?_)));(case side2 => exact (Kd.R_reads' HO642.out).2.1);(case side3 => repeat (first|exact (Kd.R_reads' HO650.out).2.2|(with_reducible refine Kd.C_alloc ?_ _)|(with_reducible refine Kd.C_drewN ?_ _)|(with_reducible refine Kd.C_drew ?_)));(case side4 => exact (Kd.R_reads' HO650.out).2.1);rintro e w' ⟨rfl,⟨nd,rfl⟩⟩))
                         go_ret
                         exact ⟨by first|rfl|(simp [errW_none,errW_some] <;> rfl)|(simp [*,errW_none,errW_some] <;> rfl),by repeat (first|(with_reducible first|exact HB.out|apply below_alloc|apply pw_below_drewN|apply below_drew1)|exact HB.out)⟩
                        ·rw [if_neg c141] at H
                         have c141b0 : (t648 == 0) = false:=beq_eq_false_iff_ne.mpr c141
                         have c141b1 : (t648 != 0) = true:=bne_iff_ne.mpr c141
                         obtain rfl:=Option.some.inj H
                         obtain ⟨Ao150,co150,eo150⟩:=Kd.R_slice HO_7.out
                         subst eo150
                         go_wp2_with (first|((with_reducible refine gate_callee (f:=43) rfl ?_);refine goesL_ (some 209) rfl rfl Tryz.func43 (by kernel_rfl) rfl #[.slice Ao150 t554.length co150,.slice A2 l2.length c2] rfl (by (try simp only [List.map_toArray,List.map_cons,List.map_nil]);first|done|rfl|(simp only [List.length_drop,List.length_take];rfl)) ?_;(with_reducible refine (bursarlaw03_added.calls kj118 _ _ t554 _ _ l2 t639 t640 _ ?side1 ?side2 ?side3 ?side4 A135.out (GlobM.below hG (by repeat (first|(with_reducible first|exact HB.out|apply below_alloc|apply pw_below_drewN|apply below_drew1)|exact HB.out)))).mono ?_);(case side1 => repeat (first|exact (Kd.R_reads' HO_7.out).2.2|(with_reducible refine Kd.C_alloc ?_ _)|(with_reducible refine Kd.C_drewN ?_ _)|(with_reducible refine Kd.C_drew ?_)));(case side2 => exact (Kd.R_reads' HO_7.out).2.1);(case side3 => repeat (first|exact (Kd.C_below HR2.out HB.out)|(with_reducible refine Kd.C_alloc ?_ _)|(with_reducible refine Kd.C_drewN ?_ _)|(with_reducible refine Kd.C_drew ?_)));(case side4 => exact HC2.out);rintro e w151 ⟨v641,rfl,ho0,hb⟩;refine ⟨_,rfl,?_⟩;have n0_:=Aside0.mk (Kd.R_elder' (by (with_reducible repeat (first|apply Kd.R_alloc|apply Kd.R_drewN|apply Kd.R_drew));exact HO_7.out) (Kd.R_base ho0) hb);have n1_:=Aside0.mk (Kd.R_lower (Kd.R_new' ho0 (Kd.R_lt (by (with_reducible repeat (first|apply Kd.R_alloc|apply Kd.R_drewN|apply Kd.R_drew));exact HO_7.out))) (below_size (by repeat (first|(with_reducible first|exact HB.out|apply below_alloc|apply pw_below_drewN|apply below_drew1)|exact HB.out))));have n2_:=Aside0.mk (Kd.C_below (by repeat (first|(with_reducible exact HR618.out)|(with_reducible refine Kd.C_alloc ?_ _)|(with_reducible refine Kd.C_drewN ?_ _)|(with_reducible refine Kd.C_drew ?_)|exact HR618.out)) hb);have n3_:=Aside0.mk (Kd.C_below (by repeat (first|(with_reducible exact HR629.out)|(with_reducible refine Kd.C_alloc ?_ _)|(with_reducible refine Kd.C_drewN ?_ _)|(with_reducible refine Kd.C_drew ?_)|exact HR629.out)) hb);have n4_:=Aside0.mk (Kd.C_below (by repeat (first|(with_reducible exact HR636.out)|(with_reducible refine Kd.C_alloc ?_ _)|(with_reducible refine Kd.C_drewN ?_ _)|(with_reducible refine Kd.C_drew ?_)|exact HR636.out)) hb);have n5_:=Aside0.mk (below_step (by repeat (first|(with_reducible first|exact HB.out|apply below_alloc|apply pw_below_drewN|apply below_drew1)|exact HB.out)) hb);clear HO_7;clear HR618;clear HR629;clear HR636;clear HB;have HO_7:=n0_;have HO642:=n1_;have HR618:=n2_;have HR629:=n3_;have HR636:=n4_;have HB:=n5_;clear n0_ n1_ n2_ n3_ n4_ n5_;(try clear hb);(try clear hb2);(try clear hk);(try clear hi);(try clear ho0))|((with_reducible refine gate_callee (f:=43) rfl ?_);refine goesL_ (some 215) rfl rfl Tryz.func43 (by kernel_rfl) rfl #[.slice A1 l1.length c1,.slice A2 l2.length c2] rfl (by (try simp only [List.map_toArray,List.map_cons,List.map_nil]);first|done|rfl|(simp only [List.length_drop,List.length_take];rfl)) ?_;(with_reducible refine (bursarlaw03_added.calls kj118 _ _ l1 _ _ l2 t643 t644 _ ?side1 ?side2 ?side3 ?side4 A136.out (GlobM.below hG (by repeat (first|(with_reducible first|exact HB.out|apply below_alloc|apply pw_below_drewN|apply below_drew1)|exact HB.out)))).mono ?_);(case side1 => repeat (first|exact (Kd.C_below HR1.out HB.out)|(with_reducible refine Kd.C_alloc ?_ _)|(with_reducible refine Kd.C_drewN ?_ _)|(with_reducible refine Kd.C_drew ?_)));(case side2 => exact HC1.out);(case side3 => repeat (first|exact (Kd.C_below HR2.out HB.out)|(with_reducible refine Kd.C_alloc ?_ _)|(with_reducible refine Kd.C_drewN ?_ _)|(with_reducible refine Kd.C_drew ?_)));(case side4 => exact HC2.out);rintro e w152 ⟨v645,rfl,ho0,hb⟩;refine ⟨_,rfl,?_⟩;have n0_:=Aside0.mk (Kd.R_elder' (by (with_reducible repeat (first|apply Kd.R_alloc|apply Kd.R_drewN|apply Kd.R_drew));exact HO_7.out) (Kd.R_base ho0) hb);have n1_:=Aside0.mk (Kd.R_elder' (by (with_reducible repeat (first|apply Kd.R_alloc|apply Kd.R_drewN|apply Kd.R_drew));exact HO642.out) (Kd.R_base ho0) hb);have n2_:=Aside0.mk (Kd.R_lower (Kd.R_new' (Kd.R_new' ho0 (Kd.R_lt (by (with_reducible repeat (first|apply Kd.R_alloc|apply Kd.R_drewN|apply Kd.R_drew));exact HO_7.out))) (Kd.R_lt (by (with_reducible repeat (first|apply Kd.R_alloc|apply Kd.R_drewN|apply Kd.R_drew));exact HO642.out))) (below_size (by repeat (first|(with_reducible first|exact HB.out|apply below_alloc|apply pw_below_drewN|apply below_drew1)|exact HB.out))));have n3_:=Aside0.mk (Kd.C_below (by repeat (first|(with_reducible exact HR618.out)|(with_reducible refine Kd.C_alloc ?_ _)|(with_reducible refine Kd.C_drewN ?_ _)|(with_reducible refine Kd.C_drew ?_)|exact HR618.out)) hb);have n4_:=Aside0.mk (Kd.C_below (by repeat (first|(with_reducible exact HR629.out)|(with_reducible refine Kd.C_alloc ?_ _)|(with_reducible refine Kd.C_drewN ?_ _)|(with_reducible refine Kd.C_drew ?_)|exact HR629.out)) hb);have n5_:=Aside0.mk (Kd.C_below (by repeat (first|(with_reducible exact HR636.out)|(with_reducible refine Kd.C_alloc ?_ _)|(with_reducible refine Kd.C_drewN ?_ _)|(with_reducible refine Kd.C_drew ?_)|exact HR636.out)) hb);have n6_:=Aside0.mk (below_step (by repeat (first|(with_reducible first|exact HB.out|apply below_alloc|apply pw_below_drewN|apply below_drew1)|exact HB.out)) hb);clear HO_7;clear HO642;clear HR618;clear HR629;clear HR636;clear HB;have HO_7:=n0_;have HO642:=n1_;have HO646:=n2_;have HR618:=n3_;have HR629:=n4_;have HR636:=n5_;have HB:=n6_;clear n0_ n1_ n2_ n3_ n4_ n5_ n6_;(try clear hb);(try clear hb2);(try clear hk);(try clear hi);(try clear ho0);obtain ⟨Ao153,co153,eo153⟩:=Kd.R_slice HO646.out;subst eo153)|((with_reducible refine gate_callee (f:=43) rfl ?_);refine goesL_ (some 221) rfl rfl Tryz.func43 (by kernel_rfl) rfl #[.slice A0 l0.length c0,.slice Ao153 t643.length co153] rfl (by (try simp only [List.map_toArray,List.map_cons,List.map_nil]);first|done|rfl|(simp only [List.length_drop,List.length_take];rfl)) ?_;(with_reducible refine (bursarlaw03_added.calls kj118 _ _ l0 _ _ t643 t647 t648 _ ?side1 ?side2 ?side3 ?side4 A137.out (GlobM.below hG (by repeat (first|(with_reducible first|exact HB.out|apply below_alloc|apply pw_below_drewN|apply below_drew1)|exact HB.out)))).mono ?_);(case side1 => repeat (first|exact (Kd.C_below HR0.out HB.out)|(with_reducible refine Kd.C_alloc ?_ _)|(with_reducible refine Kd.C_drewN ?_ _)|(with_reducible refine Kd.C_drew ?_)));(case side2 => exact HC0.out);(case side3 => repeat (first|exact (Kd.R_reads' HO646.out).2.2|(with_reducible refine Kd.C_alloc ?_ _)|(with_reducible refine Kd.C_drewN ?_ _)|(with_reducible refine Kd.C_drew ?_)));(case side4 => exact (Kd.R_reads' HO646.out).2.1);rintro e w154 ⟨v649,rfl,ho0,hb⟩;refine ⟨_,rfl,?_⟩;have n0_:=Aside0.mk (Kd.R_elder' (by (with_reducible repeat (first|apply Kd.R_alloc|apply Kd.R_drewN|apply Kd.R_drew));exact HO_7.out) (Kd.R_base ho0) hb);have n1_:=Aside0.mk (Kd.R_elder' (by (with_reducible repeat (first|apply Kd.R_alloc|apply Kd.R_drewN|apply Kd.R_drew));exact HO642.out) (Kd.R_base ho0) hb);have n2_:=Aside0.mk (Kd.R_elder' (by (with_reducible repeat (first|apply Kd.R_alloc|apply Kd.R_drewN|apply Kd.R_drew));exact HO646.out) (Kd.R_base ho0) hb);have n3_:=Aside0.mk (Kd.R_lower (Kd.R_new' (Kd.R_new' (Kd.R_new' ho0 (Kd.R_lt (by (with_reducible repeat (first|apply Kd.R_alloc|apply Kd.R_drewN|apply Kd.R_drew));exact HO_7.out))) (Kd.R_lt (by (with_reducible repeat (first|apply Kd.R_alloc|apply Kd.R_drewN|apply Kd.R_drew));exact HO642.out))) (Kd.R_lt (by (with_reducible repeat (first|apply Kd.R_alloc|apply Kd.R_drewN|apply Kd.R_drew));exact HO646.out))) (below_size (by repeat (first|(with_reducible first|exact HB.out|apply below_alloc|apply pw_below_drewN|apply below_drew1)|exact HB.out))));have n4_:=Aside0.mk (Kd.C_below (by repeat (first|(with_reducible exact HR618.out)|(with_reducible refine Kd.C_alloc ?_ _)|(with_reducible refine Kd.C_drewN ?_ _)|(with_reducible refine Kd.C_drew ?_)|exact HR618.out)) hb);have n5_:=Aside0.mk (Kd.C_below (by repeat (first|(with_reducible exact HR629.out)|(with_reducible refine Kd.C_alloc ?_ _)|(with_reducible refine Kd.C_drewN ?_ _)|(with_reducible refine Kd.C_drew ?_)|exact HR629.out)) hb);have n6_:=Aside0.mk (Kd.C_below (by repeat (first|(with_reducible exact HR636.out)|(with_reducible refine Kd.C_alloc ?_ _)|(with_reducible refine Kd.C_drewN ?_ _)|(with_reducible refine Kd.C_drew ?_)|exact HR636.out)) hb);have n7_:=Aside0.mk (below_step (by repeat (first|(with_reducible first|exact HB.out|apply below_alloc|apply pw_below_drewN|apply below_drew1)|exact HB.out)) hb);clear HO_7;clear HO642;clear HO646;clear HR618;clear HR629;clear HR636;clear HB;have HO_7:=n0_;have HO642:=n1_;have HO646:=n2_;have HO650:=n3_;have HR618:=n4_;have HR629:=n5_;have HR636:=n6_;have HB:=n7_;clear n0_ n1_ n2_ n3_ n4_ n5_ n6_ n7_;(try clear hb);(try clear hb2);(try clear hk);(try clear hi);(try clear ho0)))
                         go_ret
                         exact ⟨by first|rfl|(simp [errW_none,errW_some] <;> rfl)|(simp [*,errW_none,errW_some] <;> rfl),by repeat (first|(with_reducible first|exact HB.out|apply below_alloc|apply pw_below_drewN|apply below_drew1)|exact HB.out)⟩
                       ·rw [if_neg c140] at H
                        have c140b0 : (t644 == 0) = false:=beq_eq_false_iff_ne.mpr c140
                        have c140b1 : (t644 != 0) = true:=bne_iff_ne.mpr c140
                        obtain rfl:=Option.some.inj H
                        obtain ⟨Ao155,co155,eo155⟩:=Kd.R_slice HO_7.out
                        subst eo155
                        go_wp2_with (first|((with_reducible refine gate_callee (f:=43) rfl ?_);refine goesL_ (some 209) rfl rfl Tryz.func43 (by kernel_rfl) rfl #[.slice Ao155 t554.length co155,.slice A2 l2.length c2] rfl (by (try simp only [List.map_toArray,List.map_cons,List.map_nil]);first|done|rfl|(simp only [List.length_drop,List.length_take];rfl)) ?_;(with_reducible refine (bursarlaw03_added.calls kj118 _ _ t554 _ _ l2 t639 t640 _ ?side1 ?side2 ?side3 ?side4 A135.out (GlobM.below hG (by repeat (first|(with_reducible first|exact HB.out|apply below_alloc|apply pw_below_drewN|apply below_drew1)|exact HB.out)))).mono ?_);(case side1 => repeat (first|exact (Kd.R_reads' HO_7.out).2.2|(with_reducible refine Kd.C_alloc ?_ _)|(with_reducible refine Kd.C_drewN ?_ _)|(with_reducible refine Kd.C_drew ?_)));(case side2 => exact (Kd.R_reads' HO_7.out).2.1);(case side3 => repeat (first|exact (Kd.C_below HR2.out HB.out)|(with_reducible refine Kd.C_alloc ?_ _)|(with_reducible refine Kd.C_drewN ?_ _)|(with_reducible refine Kd.C_drew ?_)));(case side4 => exact HC2.out);rintro e w156 ⟨v641,rfl,ho0,hb⟩;refine ⟨_,rfl,?_⟩;have n0_:=Aside0.mk (Kd.R_elder' (by (with_reducible repeat (first|apply Kd.R_alloc|apply Kd.R_drewN|apply Kd.R_drew));exact HO_7.out) (Kd.R_base ho0) hb);have n1_:=Aside0.mk (Kd.R_lower (Kd.R_new' ho0 (Kd.R_lt (by (with_reducible repeat (first|apply Kd.R_alloc|apply Kd.R_drewN|apply Kd.R_drew));exact HO_7.out))) (below_size (by repeat (first|(with_reducible first|exact HB.out|apply below_alloc|apply pw_below_drewN|apply below_drew1)|exact HB.out))));have n2_:=Aside0.mk (Kd.C_below (by repeat (first|(with_reducible exact HR618.out)|(with_reducible refine Kd.C_alloc ?_ _)|(with_reducible refine Kd.C_drewN ?_ _)|(with_reducible refine Kd.C_drew ?_)|exact HR618.out)) hb);have n3_:=Aside0.mk (Kd.C_below (by repeat (first|(with_reducible exact HR629.out)|(with_reducible refine Kd.C_alloc ?_ _)|(with_reducible refine Kd.C_drewN ?_ _)|(with_reducible refine Kd.C_drew ?_)|exact HR629.out)) hb);have n4_:=Aside0.mk (Kd.C_below (by repeat (first|(with_reducible exact HR636.out)|(with_reducible refine Kd.C_alloc ?_ _)|(with_reducible refine Kd.C_drewN ?_ _)|(with_reducible refine Kd.C_drew ?_)|exact HR636.out)) hb);have n5_:=Aside0.mk (below_step (by repeat (first|(with_reducible first|exact HB.out|apply below_alloc|apply pw_below_drewN|apply below_drew1)|exact HB.out)) hb);clear HO_7;clear HR618;clear HR629;clear HR636;clear HB;have HO_7:=n0_;have HO642:=n1_;have HR618:=n2_;have HR629:=n3_;have HR636:=n4_;have HB:=n5_;clear n0_ n1_ n2_ n3_ n4_ n5_;(try clear hb);(try clear hb2);(try clear hk);(try clear hi);(try clear ho0))|((with_reducible refine gate_callee (f:=43) rfl ?_);refine goesL_ (some 215) rfl rfl Tryz.func43 (by kernel_rfl) rfl #[.slice A1 l1.length c1,.slice A2 l2.length c2] rfl (by (try simp only [List.map_toArray,List.map_cons,List.map_nil]);first|done|rfl|(simp only [List.length_drop,List.length_take];rfl)) ?_;(with_reducible refine (bursarlaw03_added.calls kj118 _ _ l1 _ _ l2 t643 t644 _ ?side1 ?side2 ?side3 ?side4 A136.out (GlobM.below hG (by repeat (first|(with_reducible first|exact HB.out|apply below_alloc|apply pw_below_drewN|apply below_drew1)|exact HB.out)))).mono ?_);(case side1 => repeat (first|exact (Kd.C_below HR1.out HB.out)|(with_reducible refine Kd.C_alloc ?_ _)|(with_reducible refine Kd.C_drewN ?_ _)|(with_reducible refine Kd.C_drew ?_)));(case side2 => exact HC1.out);(case side3 => repeat (first|exact (Kd.C_below HR2.out HB.out)|(with_reducible refine Kd.C_alloc ?_ _)|(with_reducible refine Kd.C_drewN ?_ _)|(with_reducible refine Kd.C_drew ?_)));(case side4 => exact HC2.out);rintro e w157 ⟨v645,rfl,ho0,hb⟩;refine ⟨_,rfl,?_⟩;have n0_:=Aside0.mk (Kd.R_elder' (by (with_reducible repeat (first|apply Kd.R_alloc|apply Kd.R_drewN|apply Kd.R_drew));exact HO_7.out) (Kd.R_base ho0) hb);have n1_:=Aside0.mk (Kd.R_elder' (by (with_reducible repeat (first|apply Kd.R_alloc|apply Kd.R_drewN|apply Kd.R_drew));exact HO642.out) (Kd.R_base ho0) hb);have n2_:=Aside0.mk (Kd.R_lower (Kd.R_new' (Kd.R_new' ho0 (Kd.R_lt (by (with_reducible repeat (first|apply Kd.R_alloc|apply Kd.R_drewN|apply Kd.R_drew));exact HO_7.out))) (Kd.R_lt (by (with_reducible repeat (first|apply Kd.R_alloc|apply Kd.R_drewN|apply Kd.R_drew));exact HO642.out))) (below_size (by repeat (first|(with_reducible first|exact HB.out|apply below_alloc|apply pw_below_drewN|apply below_drew1)|exact HB.out))));have n3_:=Aside0.mk (Kd.C_below (by repeat (first|(with_reducible exact HR618.out)|(with_reducible refine Kd.C_alloc ?_ _)|(with_reducible refine Kd.C_drewN ?_ _)|(with_reducible refine Kd.C_drew ?_)|exact HR618.out)) hb);have n4_:=Aside0.mk (Kd.C_below (by repeat (first|(with_reducible exact HR629.out)|(with_reducible refine Kd.C_alloc ?_ _)|(with_reducible refine Kd.C_drewN ?_ _)|(with_reducible refine Kd.C_drew ?_)|exact HR629.out)) hb);have n5_:=Aside0.mk (Kd.C_below (by repeat (first|(with_reducible exact HR636.out)|(with_reducible refine Kd.C_alloc ?_ _)|(with_reducible refine Kd.C_drewN ?_ _)|(with_reducible refine Kd.C_drew ?_)|exact HR636.out)) hb);have n6_:=Aside0.mk (below_step (by repeat (first|(with_reducible first|exact HB.out|apply below_alloc|apply pw_below_drewN|apply below_drew1)|exact HB.out)) hb);clear HO_7;clear HO642;clear HR618;clear HR629;clear HR636;clear HB;have HO_7:=n0_;have HO642:=n1_;have HO646:=n2_;have HR618:=n3_;have HR629:=n4_;have HR636:=n5_;have HB:=n6_;clear n0_ n1_ n2_ n3_ n4_ n5_ n6_;(try clear hb);(try clear hb2);(try clear hk);(try clear hi);(try clear ho0);obtain ⟨Ao158,co158,eo158⟩:=Kd.R_slice HO646.out;subst eo158)|((with_reducible refine gate_callee (f:=43) rfl ?_);refine goesL_ (some 221) rfl rfl Tryz.func43 (by kernel_rfl) rfl #[.slice A0 l0.length c0,.slice Ao158 t643.length co158] rfl (by (try simp only [List.map_toArray,List.map_cons,List.map_nil]);first|done|rfl|(simp only [List.length_drop,List.length_take];rfl)) ?_;(with_reducible refine (bursarlaw03_added.calls kj118 _ _ l0 _ _ t643 t647 t648 _ ?side1 ?side2 ?side3 ?side4 A137.out (GlobM.below hG (by repeat (first|(with_reducible first|exact HB.out|apply below_alloc|apply pw_below_drewN|apply below_drew1)|exact HB.out)))).mono ?_);(case side1 => repeat (first|exact (Kd.C_below HR0.out HB.out)|(with_reducible refine Kd.C_alloc ?_ _)|(with_reducible refine Kd.C_drewN ?_ _)|(with_reducible refine Kd.C_drew ?_)));(case side2 => exact HC0.out);(case side3 => repeat (first|exact (Kd.R_reads' HO646.out).2.2|(with_reducible refine Kd.C_alloc ?_ _)|(with_reducible refine Kd.C_drewN ?_ _)|(with_reducible refine Kd.C_drew ?_)));(case side4 => exact (Kd.R_reads' HO646.out).2.1);rintro e w159 ⟨v649,rfl,ho0,hb⟩;refine ⟨_,rfl,?_⟩;have n0_:=Aside0.mk (Kd.R_elder' (by (with_reducible repeat (first|apply Kd.R_alloc|apply Kd.R_drewN|apply Kd.R_drew));exact HO_7.out) (Kd.R_base ho0) hb);have n1_:=Aside0.mk (Kd.R_elder' (by (with_reducible repeat (first|apply Kd.R_alloc|apply Kd.R_drewN|apply Kd.R_drew));exact HO642.out) (Kd.R_base ho0) hb);have n2_:=Aside0.mk (Kd.R_elder' (by (with_reducible repeat (first|apply Kd.R_alloc|apply Kd.R_drewN|apply Kd.R_drew));exact HO646.out) (Kd.R_base ho0) hb);have n3_:=Aside0.mk (Kd.R_lower (Kd.R_new' (Kd.R_new' (Kd.R_new' ho0 (Kd.R_lt (by (with_reducible repeat (first|apply Kd.R_alloc|apply Kd.R_drewN|apply Kd.R_drew));exact HO_7.out))) (Kd.R_lt (by (with_reducible repeat (first|apply Kd.R_alloc|apply Kd.R_drewN|apply Kd.R_drew));exact HO642.out))) (Kd.R_lt (by (with_reducible repeat (first|apply Kd.R_alloc|apply Kd.R_drewN|apply Kd.R_drew));exact HO646.out))) (below_size (by repeat (first|(with_reducible first|exact HB.out|apply below_alloc|apply pw_below_drewN|apply below_drew1)|exact HB.out))));have n4_:=Aside0.mk (Kd.C_below (by repeat (first|(with_reducible exact HR618.out)|(with_reducible refine Kd.C_alloc ?_ _)|(with_reducible refine Kd.C_drewN ?_ _)|(with_reducible refine Kd.C_drew ?_)|exact HR618.out)) hb);have n5_:=Aside0.mk (Kd.C_below (by repeat (first|(with_reducible exact HR629.out)|(with_reducible refine Kd.C_alloc ?_ _)|(with_reducible refine Kd.C_drewN ?_ _)|(with_reducible refine Kd.C_drew ?_)|exact HR629.out)) hb);have n6_:=Aside0.mk (Kd.C_below (by repeat (first|(with_reducible exact HR636.out)|(with_reducible refine Kd.C_alloc ?_ _)|(with_reducible refine Kd.C_drewN ?_ _)|(with_reducible refine Kd.C_drew ?_)|exact HR636.out)) hb);have n7_:=Aside0.mk (below_step (by repeat (first|(with_reducible first|exact HB.out|apply below_alloc|apply pw_below_drewN|apply below_drew1)|exact HB.out)) hb);clear HO_7;clear HO642;clear HO646;clear HR618;clear HR629;clear HR636;clear HB;have HO_7:=n0_;have HO642:=n1_;have HO646:=n2_;have HO650:=n3_;have HR618:=n4_;have HR629:=n5_;have HR636:=n6_;have HB:=n7_;clear n0_ n1_ n2_ n3_ n4_ n5_ n6_ n7_;(try clear hb);(try clear hb2);(try clear hk);(try clear hi);(try clear ho0)))
                        go_ret
                        exact ⟨by first|rfl|(simp [errW_none,errW_some] <;> rfl)|(simp [*,errW_none,errW_some] <;> rfl),by repeat (first|(with_reducible first|exact HB.out|apply below_alloc|apply pw_below_drewN|apply below_drew1)|exact HB.out)⟩
                      ·rw [if_neg c139] at H
                       have c139b0 : (t640 == 0) = false:=beq_eq_false_iff_ne.mpr c139
                       have c139b1 : (t640 != 0) = true:=bne_iff_ne.mpr c139
                       obtain rfl:=Option.some.inj H
                       obtain ⟨Ao160,co160,eo160⟩:=Kd.R_slice HO_7.out
                       subst eo160
                       go_wp2_with (first|((with_reducible refine gate_callee (f:=43) rfl ?_);refine goesL_ (some 209) rfl rfl Tryz.func43 (by kernel_rfl) rfl #[.slice Ao160 t554.length co160,.slice A2 l2.length c2] rfl (by (try simp only [List.map_toArray,List.map_cons,List.map_nil]);first|done|rfl|(simp only [List.length_drop,List.length_take];rfl)) ?_;(with_reducible refine (bursarlaw03_added.calls kj118 _ _ t554 _ _ l2 t639 t640 _ ?side1 ?side2 ?side3 ?side4 A135.out (GlobM.below hG (by repeat (first|(with_reducible first|exact HB.out|apply below_alloc|apply pw_below_drewN|apply below_drew1)|exact HB.out)))).mono ?_);(case side1 => repeat (first|exact (Kd.R_reads' HO_7.out).2.2|(with_reducible refine Kd.C_alloc ?_ _)|(with_reducible refine Kd.C_drewN ?_ _)|(with_reducible refine Kd.C_drew ?_)));(case side2 => exact (Kd.R_reads' HO_7.out).2.1);(case side3 => repeat (first|exact (Kd.C_below HR2.out HB.out)|(with_reducible refine Kd.C_alloc ?_ _)|(with_reducible refine Kd.C_drewN ?_ _)|(with_reducible refine Kd.C_drew ?_)));(case side4 => exact HC2.out);rintro e w161 ⟨v641,rfl,ho0,hb⟩;refine ⟨_,rfl,?_⟩;have n0_:=Aside0.mk (Kd.R_elder' (by (with_reducible repeat (first|apply Kd.R_alloc|apply Kd.R_drewN|apply Kd.R_drew));exact HO_7.out) (Kd.R_base ho0) hb);have n1_:=Aside0.mk (Kd.R_lower (Kd.R_new' ho0 (Kd.R_lt (by (with_reducible repeat (first|apply Kd.R_alloc|apply Kd.R_drewN|apply Kd.R_drew));exact HO_7.out))) (below_size (by repeat (first|(with_reducible first|exact HB.out|apply below_alloc|apply pw_below_drewN|apply below_drew1)|exact HB.out))));have n2_:=Aside0.mk (Kd.C_below (by repeat (first|(with_reducible exact HR618.out)|(with_reducible refine Kd.C_alloc ?_ _)|(with_reducible refine Kd.C_drewN ?_ _)|(with_reducible refine Kd.C_drew ?_)|exact HR618.out)) hb);have n3_:=Aside0.mk (Kd.C_below (by repeat (first|(with_reducible exact HR629.out)|(with_reducible refine Kd.C_alloc ?_ _)|(with_reducible refine Kd.C_drewN ?_ _)|(with_reducible refine Kd.C_drew ?_)|exact HR629.out)) hb);have n4_:=Aside0.mk (Kd.C_below (by repeat (first|(with_reducible exact HR636.out)|(with_reducible refine Kd.C_alloc ?_ _)|(with_reducible refine Kd.C_drewN ?_ _)|(with_reducible refine Kd.C_drew ?_)|exact HR636.out)) hb);have n5_:=Aside0.mk (below_step (by repeat (first|(with_reducible first|exact HB.out|apply below_alloc|apply pw_below_drewN|apply below_drew1)|exact HB.out)) hb);clear HO_7;clear HR618;clear HR629;clear HR636;clear HB;have HO_7:=n0_;have HO642:=n1_;have HR618:=n2_;have HR629:=n3_;have HR636:=n4_;have HB:=n5_;clear n0_ n1_ n2_ n3_ n4_ n5_;(try clear hb);(try clear hb2);(try clear hk);(try clear hi);(try clear ho0))|((with_reducible refine gate_callee (f:=43) rfl ?_);refine goesL_ (some 215) rfl rfl Tryz.func43 (by kernel_rfl) rfl #[.slice A1 l1.length c1,.slice A2 l2.length c2] rfl (by (try simp only [List.map_toArray,List.map_cons,List.map_nil]);first|done|rfl|(simp only [List.length_drop,List.length_take];rfl)) ?_;(with_reducible refine (bursarlaw03_added.calls kj118 _ _ l1 _ _ l2 t643 t644 _ ?side1 ?side2 ?side3 ?side4 A136.out (GlobM.below hG (by repeat (first|(with_reducible first|exact HB.out|apply below_alloc|apply pw_below_drewN|apply below_drew1)|exact HB.out)))).mono ?_);(case side1 => repeat (first|exact (Kd.C_below HR1.out HB.out)|(with_reducible refine Kd.C_alloc ?_ _)|(with_reducible refine Kd.C_drewN ?_ _)|(with_reducible refine Kd.C_drew ?_)));(case side2 => exact HC1.out);(case side3 => repeat (first|exact (Kd.C_below HR2.out HB.out)|(with_reducible refine Kd.C_alloc ?_ _)|(with_reducible refine Kd.C_drewN ?_ _)|(with_reducible refine Kd.C_drew ?_)));(case side4 => exact HC2.out);rintro e w162 ⟨v645,rfl,ho0,hb⟩;refine ⟨_,rfl,?_⟩;have n0_:=Aside0.mk (Kd.R_elder' (by (with_reducible repeat (first|apply Kd.R_alloc|apply Kd.R_drewN|apply Kd.R_drew));exact HO_7.out) (Kd.R_base ho0) hb);have n1_:=Aside0.mk (Kd.R_elder' (by (with_reducible repeat (first|apply Kd.R_alloc|apply Kd.R_drewN|apply Kd.R_drew));exact HO642.out) (Kd.R_base ho0) hb);have n2_:=Aside0.mk (Kd.R_lower (Kd.R_new' (Kd.R_new' ho0 (Kd.R_lt (by (with_reducible repeat (first|apply Kd.R_alloc|apply Kd.R_drewN|apply Kd.R_drew));exact HO_7.out))) (Kd.R_lt (by (with_reducible repeat (first|apply Kd.R_alloc|apply Kd.R_drewN|apply Kd.R_drew));exact HO642.out))) (below_size (by repeat (first|(with_reducible first|exact HB.out|apply below_alloc|apply pw_below_drewN|apply below_drew1)|exact HB.out))));have n3_:=Aside0.mk (Kd.C_below (by repeat (first|(with_reducible exact HR618.out)|(with_reducible refine Kd.C_alloc ?_ _)|(with_reducible refine Kd.C_drewN ?_ _)|(with_reducible refine Kd.C_drew ?_)|exact HR618.out)) hb);have n4_:=Aside0.mk (Kd.C_below (by repeat (first|(with_reducible exact HR629.out)|(with_reducible refine Kd.C_alloc ?_ _)|(with_reducible refine Kd.C_drewN ?_ _)|(with_reducible refine Kd.C_drew ?_)|exact HR629.out)) hb);have n5_:=Aside0.mk (Kd.C_below (by repeat (first|(with_reducible exact HR636.out)|(with_reducible refine Kd.C_alloc ?_ _)|(with_reducible refine Kd.C_drewN ?_ _)|(with_reducible refine Kd.C_drew ?_)|exact HR636.out)) hb);have n6_:=Aside0.mk (below_step (by repeat (first|(with_reducible first|exact HB.out|apply below_alloc|apply pw_below_drewN|apply below_drew1)|exact HB.out)) hb);clear HO_7;clear HO642;clear HR618;clear HR629;clear HR636;clear HB;have HO_7:=n0_;have HO642:=n1_;have HO646:=n2_;have HR618:=n3_;have HR629:=n4_;have HR636:=n5_;have HB:=n6_;clear n0_ n1_ n2_ n3_ n4_ n5_ n6_;(try clear hb);(try clear hb2);(try clear hk);(try clear hi);(try clear ho0);obtain ⟨Ao163,co163,eo163⟩:=Kd.R_slice HO646.out;subst eo163)|((with_reducible refine gate_callee (f:=43) rfl ?_);refine goesL_ (some 221) rfl rfl Tryz.func43 (by kernel_rfl) rfl #[.slice A0 l0.length c0,.slice Ao163 t643.length co163] rfl (by (try simp only [List.map_toArray,List.map_cons,List.map_nil]);first|done|rfl|(simp only [List.length_drop,List.length_take];rfl)) ?_;(with_reducible refine (bursarlaw03_added.calls kj118 _ _ l0 _ _ t643 t647 t648 _ ?side1 ?side2 ?side3 ?side4 A137.out (GlobM.below hG (by repeat (first|(with_reducible first|exact HB.out|apply below_alloc|apply pw_below_drewN|apply below_drew1)|exact HB.out)))).mono ?_);(case side1 => repeat (first|exact (Kd.C_below HR0.out HB.out)|(with_reducible refine Kd.C_alloc ?_ _)|(with_reducible refine Kd.C_drewN ?_ _)|(with_reducible refine Kd.C_drew ?_)));(case side2 => exact HC0.out);(case side3 => repeat (first|exact (Kd.R_reads' HO646.out).2.2|(with_reducible refine Kd.C_alloc ?_ _)|(with_reducible refine Kd.C_drewN ?_ _)|(with_reducible refine Kd.C_drew ?_)));(case side4 => exact (Kd.R_reads' HO646.out).2.1);rintro e w164 ⟨v649,rfl,ho0,hb⟩;refine ⟨_,rfl,?_⟩;have n0_:=Aside0.mk (Kd.R_elder' (by (with_reducible repeat (first|apply Kd.R_alloc|apply Kd.R_drewN|apply Kd.R_drew));exact HO_7.out) (Kd.R_base ho0) hb);have n1_:=Aside0.mk (Kd.R_elder' (by (with_reducible repeat (first|apply Kd.R_alloc|apply Kd.R_drewN|apply Kd.R_drew));exact HO642.out) (Kd.R_base ho0) hb);have n2_:=Aside0.mk (Kd.R_elder' (by (with_reducible repeat (first|apply Kd.R_alloc|apply Kd.R_drewN|apply Kd.R_drew));exact HO646.out) (Kd.R_base ho0) hb);have n3_:=Aside0.mk (Kd.R_lower (Kd.R_new' (Kd.R_new' (Kd.R_new' ho0 (Kd.R_lt (by (with_reducible repeat (first|apply Kd.R_alloc|apply Kd.R_drewN|apply Kd.R_drew));exact HO_7.out))) (Kd.R_lt (by (with_reducible repeat (first|apply Kd.R_alloc|apply Kd.R_drewN|apply Kd.R_drew));exact HO642.out))) (Kd.R_lt (by (with_reducible repeat (first|apply Kd.R_alloc|apply Kd.R_drewN|apply Kd.R_drew));exact HO646.out))) (below_size (by repeat (first|(with_reducible first|exact HB.out|apply below_alloc|apply pw_below_drewN|apply below_drew1)|exact HB.out))));have n4_:=Aside0.mk (Kd.C_below (by repeat (first|(with_reducible exact HR618.out)|(with_reducible refine Kd.C_alloc ?_ _)|(with_reducible refine Kd.C_drewN ?_ _)|(with_reducible refine Kd.C_drew ?_)|exact HR618.out)) hb);have n5_:=Aside0.mk (Kd.C_below (by repeat (first|(with_reducible exact HR629.out)|(with_reducible refine Kd.C_alloc ?_ _)|(with_reducible refine Kd.C_drewN ?_ _)|(with_reducible refine Kd.C_drew ?_)|exact HR629.out)) hb);have n6_:=Aside0.mk (Kd.C_below (by repeat (first|(with_reducible exact HR636.out)|(with_reducible refine Kd.C_alloc ?_ _)|(with_reducible refine Kd.C_drewN ?_ _)|(with_reducible refine Kd.C_drew ?_)|exact HR636.out)) hb);have n7_:=Aside0.mk (below_step (by repeat (first|(with_reducible first|exact HB.out|apply below_alloc|apply pw_below_drewN|apply below_drew1)|exact HB.out)) hb);clear HO_7;clear HO642;clear HO646;clear HR618;clear HR629;clear HR636;clear HB;have HO_7:=n0_;have HO642:=n1_;have HO646:=n2_;have HO650:=n3_;have HR618:=n4_;have HR629:=n5_;have HR636:=n6_;have HB:=n7_;clear n0_ n1_ n2_ n3_ n4_ n5_ n6_ n7_;(try clear hb);(try clear hb2);(try clear hk);(try clear hi);(try clear ho0)))
                       go_ret
                       exact ⟨by first|rfl|(simp [errW_none,errW_some] <;> rfl)|(simp [*,errW_none,errW_some] <;> rfl),by repeat (first|(with_reducible first|exact HB.out|apply below_alloc|apply pw_below_drewN|apply below_drew1)|exact HB.out)⟩
                     ·rw [if_neg c138] at H
                      have c138b0 : (t555 == 0) = false:=beq_eq_false_iff_ne.mpr c138
                      have c138b1 : (t555 != 0) = true:=bne_iff_ne.mpr c138
                      obtain rfl:=Option.some.inj H
                      obtain ⟨Ao165,co165,eo165⟩:=Kd.R_slice HO_7.out
                      subst eo165
                      go_wp2_with (first|((with_reducible refine gate_callee (f:=43) rfl ?_);refine goesL_ (some 209) rfl rfl Tryz.func43 (by kernel_rfl) rfl #[.slice Ao165 t554.length co165,.slice A2 l2.length c2] rfl (by (try simp only [List.map_toArray,List.map_cons,List.map_nil]);first|done|rfl|(simp only [List.length_drop,List.length_take];rfl)) ?_;(with_reducible refine (bursarlaw03_added.calls kj118 _ _ t554 _ _ l2 t639 t640 _ ?side1 ?side2 ?side3 ?side4 A135.out (GlobM.below hG (by repeat (first|(with_reducible first|exact HB.out|apply below_alloc|apply pw_below_drewN|apply below_drew1)|exact HB.out)))).mono ?_);(case side1 => repeat (first|exact (Kd.R_reads' HO_7.out).2.2|(with_reducible refine Kd.C_alloc ?_ _)|(with_reducible refine Kd.C_drewN ?_ _)|(with_reducible refine Kd.C_drew ?_)));(case side2 => exact (Kd.R_reads' HO_7.out).2.1);(case side3 => repeat (first|exact (Kd.C_below HR2.out HB.out)|(with_reducible refine Kd.C_alloc ?_ _)|(with_reducible refine Kd.C_drewN ?_ _)|(with_reducible refine Kd.C_drew ?_)));(case side4 => exact HC2.out);rintro e w166 ⟨v641,rfl,ho0,hb⟩;refine ⟨_,rfl,?_⟩;have n0_:=Aside0.mk (Kd.R_elder' (by (with_reducible repeat (first|apply Kd.R_alloc|apply Kd.R_drewN|apply Kd.R_drew));exact HO_7.out) (Kd.R_base ho0) hb);have n1_:=Aside0.mk (Kd.R_lower (Kd.R_new' ho0 (Kd.R_lt (by (with_reducible repeat (first|apply Kd.R_alloc|apply Kd.R_drewN|apply Kd.R_drew));exact HO_7.out))) (below_size (by repeat (first|(with_reducible first|exact HB.out|apply below_alloc|apply pw_below_drewN|apply below_drew1)|exact HB.out))));have n2_:=Aside0.mk (Kd.C_below (by repeat (first|(with_reducible exact HR618.out)|(with_reducible refine Kd.C_alloc ?_ _)|(with_reducible refine Kd.C_drewN ?_ _)|(with_reducible refine Kd.C_drew ?_)|exact HR618.out)) hb);have n3_:=Aside0.mk (Kd.C_below (by repeat (first|(with_reducible exact HR629.out)|(with_reducible refine Kd.C_alloc ?_ _)|(with_reducible refine Kd.C_drewN ?_ _)|(with_reducible refine Kd.C_drew ?_)|exact HR629.out)) hb);have n4_:=Aside0.mk (Kd.C_below (by repeat (first|(with_reducible exact HR636.out)|(with_reducible refine Kd.C_alloc ?_ _)|(with_reducible refine Kd.C_drewN ?_ _)|(with_reducible refine Kd.C_drew ?_)|exact HR636.out)) hb);have n5_:=Aside0.mk (below_step (by repeat (first|(with_reducible first|exact HB.out|apply below_alloc|apply pw_below_drewN|apply below_drew1)|exact HB.out)) hb);clear HO_7;clear HR618;clear HR629;clear HR636;clear HB;have HO_7:=n0_;have HO642:=n1_;have HR618:=n2_;have HR629:=n3_;have HR636:=n4_;have HB:=n5_;clear n0_ n1_ n2_ n3_ n4_ n5_;(try clear hb);(try clear hb2);(try clear hk);(try clear hi);(try clear ho0))|((with_reducible refine gate_callee (f:=43) rfl ?_);refine goesL_ (some 215) rfl rfl Tryz.func43 (by kernel_rfl) rfl #[.slice A1 l1.length c1,.slice A2 l2.length c2] rfl (by (try simp only [List.map_toArray,List.map_cons,List.map_nil]);first|done|rfl|(simp only [List.length_drop,List.length_take];rfl)) ?_;(with_reducible refine (bursarlaw03_added.calls kj118 _ _ l1 _ _ l2 t643 t644 _ ?side1 ?side2 ?side3 ?side4 A136.out (GlobM.below hG (by repeat (first|(with_reducible first|exact HB.out|apply below_alloc|apply pw_below_drewN|apply below_drew1)|exact HB.out)))).mono ?_);(case side1 => repeat (first|exact (Kd.C_below HR1.out HB.out)|(with_reducible refine Kd.C_alloc ?_ _)|(with_reducible refine Kd.C_drewN ?_ _)|(with_reducible refine Kd.C_drew ?_)));(case side2 => exact HC1.out);(case side3 => repeat (first|exact (Kd.C_below HR2.out HB.out)|(with_reducible refine Kd.C_alloc ?_ _)|(with_reducible refine Kd.C_drewN ?_ _)|(with_reducible refine Kd.C_drew ?_)));(case side4 => exact HC2.out);rintro e w167 ⟨v645,rfl,ho0,hb⟩;refine ⟨_,rfl,?_⟩;have n0_:=Aside0.mk (Kd.R_elder' (by (with_reducible repeat (first|apply Kd.R_alloc|apply Kd.R_drewN|apply Kd.R_drew));exact HO_7.out) (Kd.R_base ho0) hb);have n1_:=Aside0.mk (Kd.R_elder' (by (with_reducible repeat (first|apply Kd.R_alloc|apply Kd.R_drewN|apply Kd.R_drew));exact HO642.out) (Kd.R_base ho0) hb);have n2_:=Aside0.mk (Kd.R_lower (Kd.R_new' (Kd.R_new' ho0 (Kd.R_lt (by (with_reducible repeat (first|apply Kd.R_alloc|apply Kd.R_drewN|apply Kd.R_drew));exact HO_7.out))) (Kd.R_lt (by (with_reducible repeat (first|apply Kd.R_alloc|apply Kd.R_drewN|apply Kd.R_drew));exact HO642.out))) (below_size (by repeat (first|(with_reducible first|exact HB.out|apply below_alloc|apply pw_below_drewN|apply below_drew1)|exact HB.out))));have n3_:=Aside0.mk (Kd.C_below (by repeat (first|(with_reducible exact HR618.out)|(with_reducible refine Kd.C_alloc ?_ _)|(with_reducible refine Kd.C_drewN ?_ _)|(with_reducible refine Kd.C_drew ?_)|exact HR618.out)) hb);have n4_:=Aside0.mk (Kd.C_below (by repeat (first|(with_reducible exact HR629.out)|(with_reducible refine Kd.C_alloc ?_ _)|(with_reducible refine Kd.C_drewN ?_ _)|(with_reducible refine Kd.C_drew ?_)|exact HR629.out)) hb);have n5_:=Aside0.mk (Kd.C_below (by repeat (first|(with_reducible exact HR636.out)|(with_reducible refine Kd.C_alloc ?_ _)|(with_reducible refine Kd.C_drewN ?_ _)|(with_reducible refine Kd.C_drew ?_)|exact HR636.out)) hb);have n6_:=Aside0.mk (below_step (by repeat (first|(with_reducible first|exact HB.out|apply below_alloc|apply pw_below_drewN|apply below_drew1)|exact HB.out)) hb);clear HO_7;clear HO642;clear HR618;clear HR629;clear HR636;clear HB;have HO_7:=n0_;have HO642:=n1_;have HO646:=n2_;have HR618:=n3_;have HR629:=n4_;have HR636:=n5_;have HB:=n6_;clear n0_ n1_ n2_ n3_ n4_ n5_ n6_;(try clear hb);(try clear hb2);(try clear hk);(try clear hi);(try clear ho0);obtain ⟨Ao168,co168,eo168⟩:=Kd.R_slice HO646.out;subst eo168)|((with_reducible refine gate_callee (f:=43) rfl ?_);refine goesL_ (some 221) rfl rfl Tryz.func43 (by kernel_rfl) rfl #[.slice A0 l0.length c0,.slice Ao168 t643.length co168] rfl (by (try simp only [List.map_toArray,List.map_cons,List.map_nil]);first|done|rfl|(simp only [List.length_drop,List.length_take];rfl)) ?_;(with_reducible refine (bursarlaw03_added.calls kj118 _ _ l0 _ _ t643 t647 t648 _ ?side1 ?side2 ?side3 ?side4 A137.out (GlobM.below hG (by repeat (first|(with_reducible first|exact HB.out|apply below_alloc|apply pw_below_drewN|apply below_drew1)|exact HB.out)))).mono ?_);(case side1 => repeat (first|exact (Kd.C_below HR0.out HB.out)|(with_reducible refine Kd.C_alloc ?_ _)|(with_reducible refine Kd.C_drewN ?_ _)|(with_reducible refine Kd.C_drew ?_)));(case side2 => exact HC0.out);(case side3 => repeat (first|exact (Kd.R_reads' HO646.out).2.2|(with_reducible refine Kd.C_alloc ?_ _)|(with_reducible refine Kd.C_drewN ?_ _)|(with_reducible refine Kd.C_drew ?_)));(case side4 => exact (Kd.R_reads' HO646.out).2.1);rintro e w169 ⟨v649,rfl,ho0,hb⟩;refine ⟨_,rfl,?_⟩;have n0_:=Aside0.mk (Kd.R_elder' (by (with_reducible repeat (first|apply Kd.R_alloc|apply Kd.R_drewN|apply Kd.R_drew));exact HO_7.out) (Kd.R_base ho0) hb);have n1_:=Aside0.mk (Kd.R_elder' (by (with_reducible repeat (first|apply Kd.R_alloc|apply Kd.R_drewN|apply Kd.R_drew));exact HO642.out) (Kd.R_base ho0) hb);have n2_:=Aside0.mk (Kd.R_elder' (by (with_reducible repeat (first|apply Kd.R_alloc|apply Kd.R_drewN|apply Kd.R_drew));exact HO646.out) (Kd.R_base ho0) hb);have n3_:=Aside0.mk (Kd.R_lower (Kd.R_new' (Kd.R_new' (Kd.R_new' ho0 (Kd.R_lt (by (with_reducible repeat (first|apply Kd.R_alloc|apply Kd.R_drewN|apply Kd.R_drew));exact HO_7.out))) (Kd.R_lt (by (with_reducible repeat (first|apply Kd.R_alloc|apply Kd.R_drewN|apply Kd.R_drew));exact HO642.out))) (Kd.R_lt (by (with_reducible repeat (first|apply Kd.R_alloc|apply Kd.R_drewN|apply Kd.R_drew));exact HO646.out))) (below_size (by repeat (first|(with_reducible first|exact HB.out|apply below_alloc|apply pw_below_drewN|apply below_drew1)|exact HB.out))));have n4_:=Aside0.mk (Kd.C_below (by repeat (first|(with_reducible exact HR618.out)|(with_reducible refine Kd.C_alloc ?_ _)|(with_reducible refine Kd.C_drewN ?_ _)|(with_reducible refine Kd.C_drew ?_)|exact HR618.out)) hb);have n5_:=Aside0.mk (Kd.C_below (by repeat (first|(with_reducible exact HR629.out)|(with_reducible refine Kd.C_alloc ?_ _)|(with_reducible refine Kd.C_drewN ?_ _)|(with_reducible refine Kd.C_drew ?_)|exact HR629.out)) hb);have n6_:=Aside0.mk (Kd.C_below (by repeat (first|(with_reducible exact HR636.out)|(with_reducible refine Kd.C_alloc ?_ _)|(with_reducible refine Kd.C_drewN ?_ _)|(with_reducible refine Kd.C_drew ?_)|exact HR636.out)) hb);have n7_:=Aside0.mk (below_step (by repeat (first|(with_reducible first|exact HB.out|apply below_alloc|apply pw_below_drewN|apply below_drew1)|exact HB.out)) hb);clear HO_7;clear HO642;clear HO646;clear HR618;clear HR629;clear HR636;clear HB;have HO_7:=n0_;have HO642:=n1_;have HO646:=n2_;have HO650:=n3_;have HR618:=n4_;have HR629:=n5_;have HR636:=n6_;have HB:=n7_;clear n0_ n1_ n2_ n3_ n4_ n5_ n6_ n7_;(try clear hb);(try clear hb2);(try clear hk);(try clear hi);(try clear ho0)))
                      go_ret
                      exact ⟨by first|rfl|(simp [errW_none,errW_some] <;> rfl)|(simp [*,errW_none,errW_some] <;> rfl),by repeat (first|(with_reducible first|exact HB.out|apply below_alloc|apply pw_below_drewN|apply below_drew1)|exact HB.out)⟩
                 ·rw [if_neg c117] at H
                  exact absurd H (by simp)
                ·rw [if_neg c114] at H
                 exact absurd H (by simp)
               ·rw [if_neg c113] at H
                exact absurd H (by simp)
              ·rw [if_neg c110] at H
               exact absurd H (by simp)
             ·rw [if_neg c109] at H
              exact absurd H (by simp)
 ·replace c5:=Bool.eq_false_iff.mpr c5
  subst c5
  have H1 : (some false) = some r:=by rw [if_neg (show ¬ (false = true) by decide)] at H;exact H
  clear H;have H:=H1;clear H1
  obtain rfl:=Option.some.inj H
  go_enter Tryz.func14,Tryz.ntmps14
  go_wp2_with (first|((with_reducible refine gate_callee (f:=16) rfl ?_);refine goesL_ (some 30) rfl rfl Tryz.func16 (by kernel_rfl) rfl #[] rfl (by (try simp only [List.map_toArray,List.map_cons,List.map_nil]);first|done|rfl|(simp only [List.length_drop,List.length_take];rfl)) ?_;(with_reducible refine (bursarlaw03_known.calls k  false _ A4.out (Glob.below hG.toGlob (by repeat (first|(with_reducible first|exact HB.out|apply below_alloc|apply pw_below_drewN|apply below_drew1)|exact HB.out)))).mono ?_);rintro e w170 ⟨rfl,hb⟩;refine ⟨_,rfl,?_⟩;have n0_:=Aside0.mk (below_step (by repeat (first|(with_reducible first|exact HB.out|apply below_alloc|apply pw_below_drewN|apply below_drew1)|exact HB.out)) hb);clear HB;have HB:=n0_;clear n0_;(try clear hb);(try clear hb2);(try clear hk);(try clear hi)))
  go_ret
  exact ⟨by first|rfl|(simp [errW_none,errW_some] <;> rfl)|(simp [*,errW_none,errW_some] <;> rfl),by repeat (first|(with_reducible first|exact HB.out|apply below_alloc|apply pw_below_drewN|apply below_drew1)|exact HB.out)⟩
end Go.Proofs.YtejgbdclhlolkaaGreatDoor.Q
namespace Go.Proofs.YtejgbdclhlolkaaGreatDoor.Q
open Go.RowKit Go.Proofs.YtejgbdclhlolkaaGreatDoorW.PrintWords Go.Proofs.YtejgbdclhlolkaaGreatDoorW.PrintLast Go.Proofs.YtejgbdclhlolkaaGreatDoorW.PrintMore
attribute [local go_sem] max2_int min2_int max_two min_two max_three min_three max_four min_four   -- for this text's walks alone
set_option linter.unusedVariables false
set_option linter.unusedSimpArgs false
def bursarref03_Of.l0 : Nat → List (S57) → ByteArray → Int → Option (Int × Bool)
  | 0, _, _, _ => none
  | k + 1, x0, x1, x6 => if x6 < (x0.length : Int) then (if 0 ≤ x6 then (if ((rd_T57 x0 x6).f0).toList = x1.toList then (some ((rd_T57 x0 x6).f1, true)) else (bursarref03_Of.l0 k x0 x1 (wrap64 (x6 + 1)))) else (none)) else (some (0, false))
def bursarref03_Of.f (k : Nat) (l0 : List (S57)) (a1 : ByteArray) : Option (Int × Bool) := bursarref03_Of.l0 k l0 a1 0
theorem bursarref03_Of.mono_l : ∀ k, (∀ y0 y1 y2, LeO (bursarref03_Of.l0 k y0 y1 y2) (bursarref03_Of.l0 (k + 1) y0 y1 y2))
  | 0 => fun _ _ _ r h => by simp [bursarref03_Of.l0] at h
  | k + 1 => by
    have ih0 := bursarref03_Of.mono_l k
    · intro y0 y1 y2
      unfold bursarref03_Of.l0
      repeat' first
      | (with_reducible exact ih0 _ _ _)
      | (with_reducible exact LeO.refl _)
      | (with_reducible exact LeO.none _)
      | (with_reducible refine LeO.ite ?_ ?_)
      | (with_reducible refine LeO.bind ?_ (fun _ => ?_))
      | exact ih0 _ _ _
      | exact LeO.none _
      | refine LeO.ite ?_ ?_
      | refine LeO.bind ?_ (fun _ => ?_)
theorem bursarref03_Of.mono : ∀ a0 a1 k, LeO (bursarref03_Of.f k a0 a1) (bursarref03_Of.f (k + 1) a0 a1) := by
  intro a0 a1 k
  have ih0 := bursarref03_Of.mono_l k
  unfold bursarref03_Of.f
  repeat' first
      | (with_reducible exact ih0 _ _ _)
      | (with_reducible exact LeO.refl _)
      | (with_reducible exact LeO.none _)
      | (with_reducible refine LeO.ite ?_ ?_)
      | (with_reducible refine LeO.bind ?_ (fun _ => ?_))
      | exact ih0 _ _ _
      | exact LeO.none _
      | refine LeO.ite ?_ ?_
      | refine LeO.bind ?_ (fun _ => ?_)
end Go.Proofs.YtejgbdclhlolkaaGreatDoor.Q
namespace Go.Proofs.YtejgbdclhlolkaaGreatDoor.Q
open Go.RowKit Go.Proofs.YtejgbdclhlolkaaGreatDoorW.PrintWords Go.Proofs.YtejgbdclhlolkaaGreatDoorW.PrintLast
attribute [local go_sem high] eqA57
set_option linter.unusedVariables false
set_option linter.unusedSimpArgs false
def bursarlaw03_untouched.f (k : Nat) (l0 l1 : List S57) : Option Bool :=
  if 4000000000 < l1.length then none else if l0.length = l1.length + 1 then ((bursarlaw03_same.f k (l0.take l1.length) l1).bind fun t => if t = true then some ((rd_T57 l0 (l1.length : Int)).f0.toList == (⟨#[109, 97, 114, 107]⟩ : ByteArray).toList && ((rd_T57 l0 (l1.length : Int)).f1 == 77)) else some false) else some false
theorem bursarlaw03_untouched.mono : ∀ a0 a1 k, LeO (bursarlaw03_untouched.f k a0 a1) (bursarlaw03_untouched.f (k + 1) a0 a1) := by
  intro a0 a1 k
  unfold bursarlaw03_untouched.f
  repeat' first
    | exact LeO.refl _
    | refine LeO.ite ?_ ?_
    | (refine LeO.bind (bursarlaw03_same.mono _ _ _) (fun _ => ?_))
end Go.Proofs.YtejgbdclhlolkaaGreatDoor.Q
namespace Go.Proofs.YtejgbdclhlolkaaGreatDoor.Q
open Go.RowKit Go.Proofs.YtejgbdclhlolkaaGreatDoorW.PrintWords Go.Proofs.YtejgbdclhlolkaaGreatDoorW.PrintLast
set_option linter.unusedVariables false
set_option linter.unusedSimpArgs false
set_option maxRecDepth 100000 in
theorem known_at : bursarlaw03_known.f 60 = some true := by decide +kernel
theorem known_ev : Ev (fun k => bursarlaw03_known.f k) true := Ev.of bursarlaw03_known.mono known_at
end Go.Proofs.YtejgbdclhlolkaaGreatDoor.Q
