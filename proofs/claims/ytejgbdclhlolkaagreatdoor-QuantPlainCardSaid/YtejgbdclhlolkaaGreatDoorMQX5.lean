/- What the statement QuantPlainCardSaid rests on, part 5 of 5: walks and plain laws; what of the printer's words it leans on. -/
import Derived.Test.YtejgbdclhlolkaaGreatDoorRows
import Derived.Test.YtejgbdclhlolkaaGreatDoorCards
import Derived.Test.YtejgbdclhlolkaaGreatDoorTie
import Derived.Test.YtejgbdclhlolkaaGreatDoorMQX3
import Derived.Test.YtejgbdclhlolkaaGreatDoorMQX4
import Derived.Laws.BitsLemmas
import Derived.Lib.ItoaNum
import Derived.LaidSub
import Derived.Lib.LaidTab
import Derived.ChangeSame
import Derived.WalkKit
import Derived.ProofKit
import Derived.OpenShut
import Derived.ShutString
import Derived.ChangeOld
import Derived.Below
import Derived.SizedLaws
import Derived.Deep.DeepHandedRow
import Derived.LaidMore
namespace Go.Proofs.YtejgbdclhlolkaaGreatDoor.Q
open Go.RowKit Go.Proofs.YtejgbdclhlolkaaGreatDoorW.PrintWords Go.Proofs.YtejgbdclhlolkaaGreatDoorW.PrintLast Go.Proofs.YtejgbdclhlolkaaGreatDoorW.PrintMore
attribute [local go_sem] max2_int min2_int max_two min_two max_three min_three max_four min_four   -- for this text's walks alone
set_option linter.unusedVariables false
set_option linter.unusedSimpArgs false
def bursarlaw03_QuantPlain.f (k : Nat) (a0 : ByteArray) : Option (Bool) := (bursarlaw03_known.f k).bind fun t234 => (if t234 = true then ((quant_Parse.f k a0).bind fun bt235 => (if bt235.2 = 0 then ((quant_Print.f k bt235.1).bind fun t237 => ((quant_Parse.f k t237).bind fun bt238 => (if bt238.2 = 0 then (if bt238.1 = bt235.1 then ((quant_Print.f k bt238.1).bind fun t240 => (if t240.toList = t237.toList then (if 1 + t237.size ≤ 9223372036854775807 then ((quant_Parse.f k ((⟨#[48]⟩ : ByteArray) ++ t237)).bind fun bt241 => (if bt241.2 = 0 then (if bt241.1 = bt235.1 then (some true) else (if bt241.2 = 30 then (some ((t237.size : Int) == 20)) else (some false))) else (if bt241.2 = 30 then (some ((t237.size : Int) == 20)) else (some false)))) else (none)) else (some false))) else (some false)) else (some false)))) else (if bt235.1 = 0 then (if bt235.2 = 30 then (some true) else (some (bt235.2 == 7))) else (some false)))) else (some false))
theorem bursarlaw03_QuantPlain.mono : ∀ a0 k, LeO (bursarlaw03_QuantPlain.f k a0) (bursarlaw03_QuantPlain.f (k + 1) a0) := by
  intro a0 k
  unfold bursarlaw03_QuantPlain.f
  repeat' first
      | (with_reducible exact bursarlaw03_known.mono _)
      | (with_reducible exact quant_Parse.mono _ _)
      | (with_reducible exact quant_Print.mono _ _)
      | (with_reducible exact LeO.refl _)
      | (with_reducible exact LeO.none _)
      | (with_reducible refine LeO.ite ?_ ?_)
      | (with_reducible refine LeO.bind ?_ (fun _ => ?_))
      | exact bursarlaw03_known.mono _
      | exact quant_Parse.mono _ _
      | exact quant_Print.mono _ _
      | exact LeO.none _
      | refine LeO.ite ?_ ?_
      | refine LeO.bind ?_ (fun _ => ?_)
set_option maxHeartbeats 8000000 in
set_option maxRecDepth 100000 in
theorem bursarlaw03_QuantPlain.calls (k : Nat) (a0 : ByteArray) (r : Bool) (w : World) (h : bursarlaw03_QuantPlain.f k a0 = some r) (hG : Glob w) :
    Calls Tryz.prog 6 #[.string a0] w fun e w' => e = .returned (.bool r) ∧ Below w.heap.size w w' := by
  have HB := Aside0.mk (Below.refl w.heap.size w)
  have H : ((bursarlaw03_known.f k).bind fun t234 => (if t234 = true then ((quant_Parse.f k a0).bind fun bt235 => (if bt235.2 = 0 then ((quant_Print.f k bt235.1).bind fun t237 => ((quant_Parse.f k t237).bind fun bt238 => (if bt238.2 = 0 then (if bt238.1 = bt235.1 then ((quant_Print.f k bt238.1).bind fun t240 => (if t240.toList = t237.toList then (if 1 + t237.size ≤ 9223372036854775807 then ((quant_Parse.f k ((⟨#[48]⟩ : ByteArray) ++ t237)).bind fun bt241 => (if bt241.2 = 0 then (if bt241.1 = bt235.1 then (some true) else (if bt241.2 = 30 then (some ((t237.size : Int) == 20)) else (some false))) else (if bt241.2 = 30 then (some ((t237.size : Int) == 20)) else (some false)))) else (none)) else (some false))) else (some false)) else (some false)))) else (if bt235.1 = 0 then (if bt235.2 = 30 then (some true) else (some (bt235.2 == 7))) else (some false)))) else (some false))) = some r := h
  clear h
  replace H := Option.bind_eq_some_iff.mp H
  obtain ⟨t234, A20, H⟩ := H
  replace H : (if t234 = true then ((quant_Parse.f k a0).bind fun bt235 => (if bt235.2 = 0 then ((quant_Print.f k bt235.1).bind fun t237 => ((quant_Parse.f k t237).bind fun bt238 => (if bt238.2 = 0 then (if bt238.1 = bt235.1 then ((quant_Print.f k bt238.1).bind fun t240 => (if t240.toList = t237.toList then (if 1 + t237.size ≤ 9223372036854775807 then ((quant_Parse.f k ((⟨#[48]⟩ : ByteArray) ++ t237)).bind fun bt241 => (if bt241.2 = 0 then (if bt241.1 = bt235.1 then (some true) else (if bt241.2 = 30 then (some ((t237.size : Int) == 20)) else (some false))) else (if bt241.2 = 30 then (some ((t237.size : Int) == 20)) else (some false)))) else (none)) else (some false))) else (some false)) else (some false)))) else (if bt235.1 = 0 then (if bt235.2 = 30 then (some true) else (some (bt235.2 == 7))) else (some false)))) else (some false)) = some r := H
  have A2 := Aside0.mk A20
  clear A20
  by_cases c3 : t234 = true
  · subst c3
    have H1 : ((quant_Parse.f k a0).bind fun bt235 => (if bt235.2 = 0 then ((quant_Print.f k bt235.1).bind fun t237 => ((quant_Parse.f k t237).bind fun bt238 => (if bt238.2 = 0 then (if bt238.1 = bt235.1 then ((quant_Print.f k bt238.1).bind fun t240 => (if t240.toList = t237.toList then (if 1 + t237.size ≤ 9223372036854775807 then ((quant_Parse.f k ((⟨#[48]⟩ : ByteArray) ++ t237)).bind fun bt241 => (if bt241.2 = 0 then (if bt241.1 = bt235.1 then (some true) else (if bt241.2 = 30 then (some ((t237.size : Int) == 20)) else (some false))) else (if bt241.2 = 30 then (some ((t237.size : Int) == 20)) else (some false)))) else (none)) else (some false))) else (some false)) else (some false)))) else (if bt235.1 = 0 then (if bt235.2 = 30 then (some true) else (some (bt235.2 == 7))) else (some false)))) = some r := by rw [if_pos rfl] at H; exact H
    clear H
    have H := H1
    clear H1
    replace H := Option.bind_eq_some_iff.mp H
    obtain ⟨⟨t235, t236⟩, A40, H⟩ := H
    replace H : (if t236 = 0 then ((quant_Print.f k t235).bind fun t237 => ((quant_Parse.f k t237).bind fun bt238 => (if bt238.2 = 0 then (if bt238.1 = t235 then ((quant_Print.f k bt238.1).bind fun t240 => (if t240.toList = t237.toList then (if 1 + t237.size ≤ 9223372036854775807 then ((quant_Parse.f k ((⟨#[48]⟩ : ByteArray) ++ t237)).bind fun bt241 => (if bt241.2 = 0 then (if bt241.1 = t235 then (some true) else (if bt241.2 = 30 then (some ((t237.size : Int) == 20)) else (some false))) else (if bt241.2 = 30 then (some ((t237.size : Int) == 20)) else (some false)))) else (none)) else (some false))) else (some false)) else (some false)))) else (if t235 = 0 then (if t236 = 30 then (some true) else (some (t236 == 7))) else (some false))) = some r := H
    have A4 := Aside0.mk A40
    clear A40
    by_cases c5 : t236 = 0
    · rw [if_pos c5] at H
      have c5b0 : (t236 == 0) = true := beq_iff_eq.mpr c5
      have c5b1 : (t236 != 0) = false := bne_eq_false_iff_eq.mpr c5
      clear c5
      replace H := Option.bind_eq_some_iff.mp H
      obtain ⟨t237, A60, H⟩ := H
      replace H : ((quant_Parse.f k t237).bind fun bt238 => (if bt238.2 = 0 then (if bt238.1 = t235 then ((quant_Print.f k bt238.1).bind fun t240 => (if t240.toList = t237.toList then (if 1 + t237.size ≤ 9223372036854775807 then ((quant_Parse.f k ((⟨#[48]⟩ : ByteArray) ++ t237)).bind fun bt241 => (if bt241.2 = 0 then (if bt241.1 = t235 then (some true) else (if bt241.2 = 30 then (some ((t237.size : Int) == 20)) else (some false))) else (if bt241.2 = 30 then (some ((t237.size : Int) == 20)) else (some false)))) else (none)) else (some false))) else (some false)) else (some false))) = some r := H
      have A6 := Aside0.mk A60
      clear A60
      replace H := Option.bind_eq_some_iff.mp H
      obtain ⟨⟨t238, t239⟩, A70, H⟩ := H
      replace H : (if t239 = 0 then (if t238 = t235 then ((quant_Print.f k t238).bind fun t240 => (if t240.toList = t237.toList then (if 1 + t237.size ≤ 9223372036854775807 then ((quant_Parse.f k ((⟨#[48]⟩ : ByteArray) ++ t237)).bind fun bt241 => (if bt241.2 = 0 then (if bt241.1 = t235 then (some true) else (if bt241.2 = 30 then (some ((t237.size : Int) == 20)) else (some false))) else (if bt241.2 = 30 then (some ((t237.size : Int) == 20)) else (some false)))) else (none)) else (some false))) else (some false)) else (some false)) = some r := H
      have A7 := Aside0.mk A70
      clear A70
      by_cases c8 : t239 = 0
      · rw [if_pos c8] at H
        have c8b0 : (t239 == 0) = true := beq_iff_eq.mpr c8
        have c8b1 : (t239 != 0) = false := bne_eq_false_iff_eq.mpr c8
        clear c8
        by_cases c9 : t238 = t235
        · rw [if_pos c9] at H
          have c9b0 : (t238 == t235) = true := beq_iff_eq.mpr c9
          have c9b1 : (t238 != t235) = false := bne_eq_false_iff_eq.mpr c9
          clear c9
          replace H := Option.bind_eq_some_iff.mp H
          obtain ⟨t240, A100, H⟩ := H
          replace H : (if t240.toList = t237.toList then (if 1 + t237.size ≤ 9223372036854775807 then ((quant_Parse.f k ((⟨#[48]⟩ : ByteArray) ++ t237)).bind fun bt241 => (if bt241.2 = 0 then (if bt241.1 = t235 then (some true) else (if bt241.2 = 30 then (some ((t237.size : Int) == 20)) else (some false))) else (if bt241.2 = 30 then (some ((t237.size : Int) == 20)) else (some false)))) else (none)) else (some false)) = some r := H
          have A10 := Aside0.mk A100
          clear A100
          by_cases c11 : t240.toList = t237.toList
          · rw [if_pos c11] at H
            have c11b0 : (t240.toList == t237.toList) = true := beq_iff_eq.mpr c11
            have c11b1 : (t240.toList != t237.toList) = false := bne_eq_false_iff_eq.mpr c11
            clear c11
            by_cases c12 : 1 + t237.size ≤ 9223372036854775807
            · rw [if_pos c12] at H
              have c12b0 := eq_true c12
              have c12b1 : decide (1 + t237.size ≤ 9223372036854775807) = true := decide_eq_true c12
              try have c12b2 : (9223372036854775807 < 1 + t237.size) = False := eq_false (Nat.not_lt.2 c12)
              replace H := Option.bind_eq_some_iff.mp H
              obtain ⟨⟨t241, t242⟩, A130, H⟩ := H
              replace H : (if t242 = 0 then (if t241 = t235 then (some true) else (if t242 = 30 then (some ((t237.size : Int) == 20)) else (some false))) else (if t242 = 30 then (some ((t237.size : Int) == 20)) else (some false))) = some r := H
              have A13 := Aside0.mk A130
              clear A130
              by_cases c14 : t242 = 0
              · rw [if_pos c14] at H
                have c14b0 : (t242 == 0) = true := beq_iff_eq.mpr c14
                have c14b1 : (t242 != 0) = false := bne_eq_false_iff_eq.mpr c14
                clear c14
                by_cases c15 : t241 = t235
                · rw [if_pos c15] at H
                  have c15b0 : (t241 == t235) = true := beq_iff_eq.mpr c15
                  have c15b1 : (t241 != t235) = false := bne_eq_false_iff_eq.mpr c15
                  clear c15
                  obtain rfl := Option.some.inj H
                  go_enter Tryz.func6, Tryz.ntmps6
                  go_wp2_with (first | ((with_reducible refine gate_callee (f := 16) rfl ?_); refine goesL_ (some 10) rfl rfl Tryz.func16 (by kernel_rfl) rfl #[] rfl (by (try simp only [List.map_toArray, List.map_cons, List.map_nil]); first | done | rfl | (simp only [List.length_drop, List.length_take]; rfl)) ?_; (with_reducible refine (bursarlaw03_known.calls k  true _ A2.out (Glob.below hG (by repeat (first | (with_reducible first | exact HB.out | apply below_alloc | apply pw_below_drewN | apply below_drew1) | exact HB.out)))).mono ?_); rintro e w16 ⟨rfl, hb⟩; refine ⟨_, rfl, ?_⟩; have n0_ := Aside0.mk (below_step (by repeat (first | (with_reducible first | exact HB.out | apply below_alloc | apply pw_below_drewN | apply below_drew1) | exact HB.out)) hb); clear HB; have HB := n0_; clear n0_; (try clear hb); (try clear hb2); (try clear hk); (try clear hi)) | ((with_reducible refine gate_callee (f := 17) rfl ?_); refine goesL_ (some 14) rfl rfl Tryz.func17 (by kernel_rfl) rfl #[.string a0] rfl (by (try simp only [List.map_toArray, List.map_cons, List.map_nil]); first | done | rfl | (simp only [List.length_drop, List.length_take]; rfl)) ?_; (with_reducible refine (quant_Parse.calls k a0 t235 t236 _ A4.out (Glob.below hG (by repeat (first | (with_reducible first | exact HB.out | apply below_alloc | apply pw_below_drewN | apply below_drew1) | exact HB.out)))).mono ?_); rintro e w17 ⟨rfl, hb⟩; refine ⟨_, rfl, ?_⟩; have n0_ := Aside0.mk (below_step (by repeat (first | (with_reducible first | exact HB.out | apply below_alloc | apply pw_below_drewN | apply below_drew1) | exact HB.out)) hb); clear HB; have HB := n0_; clear n0_; (try clear hb); (try clear hb2); (try clear hk); (try clear hi)) | ((with_reducible refine gate_callee (f := 19) rfl ?_); refine goesL_ (some 30) rfl rfl Tryz.func19 (by kernel_rfl) rfl #[.int .i64 t235] rfl (by (try simp only [List.map_toArray, List.map_cons, List.map_nil]); first | done | rfl | (simp only [List.length_drop, List.length_take]; rfl)) ?_; (with_reducible refine (quant_Print.calls k t235 t237 _ A6.out (Glob.below hG (by repeat (first | (with_reducible first | exact HB.out | apply below_alloc | apply pw_below_drewN | apply below_drew1) | exact HB.out)))).mono ?_); rintro e w18 ⟨rfl, hb⟩; refine ⟨_, rfl, ?_⟩; have n0_ := Aside0.mk (below_step (by repeat (first | (with_reducible first | exact HB.out | apply below_alloc | apply pw_below_drewN | apply below_drew1) | exact HB.out)) hb); clear HB; have HB := n0_; clear n0_; (try clear hb); (try clear hb2); (try clear hk); (try clear hi)) | ((with_reducible refine gate_callee (f := 17) rfl ?_); refine goesL_ (some 33) rfl rfl Tryz.func17 (by kernel_rfl) rfl #[.string t237] rfl (by (try simp only [List.map_toArray, List.map_cons, List.map_nil]); first | done | rfl | (simp only [List.length_drop, List.length_take]; rfl)) ?_; (with_reducible refine (quant_Parse.calls k t237 t238 t239 _ A7.out (Glob.below hG (by repeat (first | (with_reducible first | exact HB.out | apply below_alloc | apply pw_below_drewN | apply below_drew1) | exact HB.out)))).mono ?_); rintro e w19 ⟨rfl, hb⟩; refine ⟨_, rfl, ?_⟩; have n0_ := Aside0.mk (below_step (by repeat (first | (with_reducible first | exact HB.out | apply below_alloc | apply pw_below_drewN | apply below_drew1) | exact HB.out)) hb); clear HB; have HB := n0_; clear n0_; (try clear hb); (try clear hb2); (try clear hk); (try clear hi)) | (go_at_call 19; (with_reducible refine (quant_Print.calls k t238 t240 _ A10.out (Glob.below hG (by repeat (first | (with_reducible first | exact HB.out | apply below_alloc | apply pw_below_drewN | apply below_drew1) | exact HB.out)))).mono ?_); rintro e w20 ⟨rfl, hb⟩; have n0_ := Aside0.mk (below_step (by repeat (first | (with_reducible first | exact HB.out | apply below_alloc | apply pw_below_drewN | apply below_drew1) | exact HB.out)) hb); clear HB; have HB := n0_; clear n0_; (try clear hb); (try clear hb2); (try clear hk); (try clear hi)) | ((with_reducible refine gate_callee (f := 17) rfl ?_); refine goesL_ (some 52) rfl rfl Tryz.func17 (by kernel_rfl) rfl #[.string ((⟨#[48]⟩ : ByteArray) ++ t237)] rfl (by (try simp only [List.map_toArray, List.map_cons, List.map_nil]); first | done | rfl | (simp only [List.length_drop, List.length_take]; rfl)) ?_; (with_reducible refine (quant_Parse.calls k ((⟨#[48]⟩ : ByteArray) ++ t237) t241 t242 _ A13.out (Glob.below hG (by repeat (first | (with_reducible first | exact HB.out | apply below_alloc | apply pw_below_drewN | apply below_drew1) | exact HB.out)))).mono ?_); rintro e w21 ⟨rfl, hb⟩; refine ⟨_, rfl, ?_⟩; have n0_ := Aside0.mk (below_step (by repeat (first | (with_reducible first | exact HB.out | apply below_alloc | apply pw_below_drewN | apply below_drew1) | exact HB.out)) hb); clear HB; have HB := n0_; clear n0_; (try clear hb); (try clear hb2); (try clear hk); (try clear hi)))
                  go_ret
                  exact ⟨by first | rfl | (simp [errW_none, errW_some] <;> rfl) | (simp [*, errW_none, errW_some] <;> rfl), by repeat (first | (with_reducible first | exact HB.out | apply below_alloc | apply pw_below_drewN | apply below_drew1) | exact HB.out)⟩
                · rw [if_neg c15] at H
                  have c15b0 : (t241 == t235) = false := beq_eq_false_iff_ne.mpr c15
                  have c15b1 : (t241 != t235) = true := bne_iff_ne.mpr c15
                  by_cases c22 : t242 = 30
                  · rw [if_pos c22] at H
                    have c22b0 : (t242 == 30) = true := beq_iff_eq.mpr c22
                    have c22b1 : (t242 != 30) = false := bne_eq_false_iff_eq.mpr c22
                    clear c22
                    obtain rfl := Option.some.inj H
                    go_enter Tryz.func6, Tryz.ntmps6
                    go_wp2_with (first | ((with_reducible refine gate_callee (f := 16) rfl ?_); refine goesL_ (some 10) rfl rfl Tryz.func16 (by kernel_rfl) rfl #[] rfl (by (try simp only [List.map_toArray, List.map_cons, List.map_nil]); first | done | rfl | (simp only [List.length_drop, List.length_take]; rfl)) ?_; (with_reducible refine (bursarlaw03_known.calls k  true _ A2.out (Glob.below hG (by repeat (first | (with_reducible first | exact HB.out | apply below_alloc | apply pw_below_drewN | apply below_drew1) | exact HB.out)))).mono ?_); rintro e w23 ⟨rfl, hb⟩; refine ⟨_, rfl, ?_⟩; have n0_ := Aside0.mk (below_step (by repeat (first | (with_reducible first | exact HB.out | apply below_alloc | apply pw_below_drewN | apply below_drew1) | exact HB.out)) hb); clear HB; have HB := n0_; clear n0_; (try clear hb); (try clear hb2); (try clear hk); (try clear hi)) | ((with_reducible refine gate_callee (f := 17) rfl ?_); refine goesL_ (some 14) rfl rfl Tryz.func17 (by kernel_rfl) rfl #[.string a0] rfl (by (try simp only [List.map_toArray, List.map_cons, List.map_nil]); first | done | rfl | (simp only [List.length_drop, List.length_take]; rfl)) ?_; (with_reducible refine (quant_Parse.calls k a0 t235 t236 _ A4.out (Glob.below hG (by repeat (first | (with_reducible first | exact HB.out | apply below_alloc | apply pw_below_drewN | apply below_drew1) | exact HB.out)))).mono ?_); rintro e w24 ⟨rfl, hb⟩; refine ⟨_, rfl, ?_⟩; have n0_ := Aside0.mk (below_step (by repeat (first | (with_reducible first | exact HB.out | apply below_alloc | apply pw_below_drewN | apply below_drew1) | exact HB.out)) hb); clear HB; have HB := n0_; clear n0_; (try clear hb); (try clear hb2); (try clear hk); (try clear hi)) | ((with_reducible refine gate_callee (f := 19) rfl ?_); refine goesL_ (some 30) rfl rfl Tryz.func19 (by kernel_rfl) rfl #[.int .i64 t235] rfl (by (try simp only [List.map_toArray, List.map_cons, List.map_nil]); first | done | rfl | (simp only [List.length_drop, List.length_take]; rfl)) ?_; (with_reducible refine (quant_Print.calls k t235 t237 _ A6.out (Glob.below hG (by repeat (first | (with_reducible first | exact HB.out | apply below_alloc | apply pw_below_drewN | apply below_drew1) | exact HB.out)))).mono ?_); rintro e w25 ⟨rfl, hb⟩; refine ⟨_, rfl, ?_⟩; have n0_ := Aside0.mk (below_step (by repeat (first | (with_reducible first | exact HB.out | apply below_alloc | apply pw_below_drewN | apply below_drew1) | exact HB.out)) hb); clear HB; have HB := n0_; clear n0_; (try clear hb); (try clear hb2); (try clear hk); (try clear hi)) | ((with_reducible refine gate_callee (f := 17) rfl ?_); refine goesL_ (some 33) rfl rfl Tryz.func17 (by kernel_rfl) rfl #[.string t237] rfl (by (try simp only [List.map_toArray, List.map_cons, List.map_nil]); first | done | rfl | (simp only [List.length_drop, List.length_take]; rfl)) ?_; (with_reducible refine (quant_Parse.calls k t237 t238 t239 _ A7.out (Glob.below hG (by repeat (first | (with_reducible first | exact HB.out | apply below_alloc | apply pw_below_drewN | apply below_drew1) | exact HB.out)))).mono ?_); rintro e w26 ⟨rfl, hb⟩; refine ⟨_, rfl, ?_⟩; have n0_ := Aside0.mk (below_step (by repeat (first | (with_reducible first | exact HB.out | apply below_alloc | apply pw_below_drewN | apply below_drew1) | exact HB.out)) hb); clear HB; have HB := n0_; clear n0_; (try clear hb); (try clear hb2); (try clear hk); (try clear hi)) | (go_at_call 19; (with_reducible refine (quant_Print.calls k t238 t240 _ A10.out (Glob.below hG (by repeat (first | (with_reducible first | exact HB.out | apply below_alloc | apply pw_below_drewN | apply below_drew1) | exact HB.out)))).mono ?_); rintro e w27 ⟨rfl, hb⟩; have n0_ := Aside0.mk (below_step (by repeat (first | (with_reducible first | exact HB.out | apply below_alloc | apply pw_below_drewN | apply below_drew1) | exact HB.out)) hb); clear HB; have HB := n0_; clear n0_; (try clear hb); (try clear hb2); (try clear hk); (try clear hi)) | ((with_reducible refine gate_callee (f := 17) rfl ?_); refine goesL_ (some 52) rfl rfl Tryz.func17 (by kernel_rfl) rfl #[.string ((⟨#[48]⟩ : ByteArray) ++ t237)] rfl (by (try simp only [List.map_toArray, List.map_cons, List.map_nil]); first | done | rfl | (simp only [List.length_drop, List.length_take]; rfl)) ?_; (with_reducible refine (quant_Parse.calls k ((⟨#[48]⟩ : ByteArray) ++ t237) t241 t242 _ A13.out (Glob.below hG (by repeat (first | (with_reducible first | exact HB.out | apply below_alloc | apply pw_below_drewN | apply below_drew1) | exact HB.out)))).mono ?_); rintro e w28 ⟨rfl, hb⟩; refine ⟨_, rfl, ?_⟩; have n0_ := Aside0.mk (below_step (by repeat (first | (with_reducible first | exact HB.out | apply below_alloc | apply pw_below_drewN | apply below_drew1) | exact HB.out)) hb); clear HB; have HB := n0_; clear n0_; (try clear hb); (try clear hb2); (try clear hk); (try clear hi)))
                    go_ret
                    exact ⟨by first | rfl | (simp [errW_none, errW_some] <;> rfl) | (simp [*, errW_none, errW_some] <;> rfl), by repeat (first | (with_reducible first | exact HB.out | apply below_alloc | apply pw_below_drewN | apply below_drew1) | exact HB.out)⟩
                  · rw [if_neg c22] at H
                    have c22b0 : (t242 == 30) = false := beq_eq_false_iff_ne.mpr c22
                    have c22b1 : (t242 != 30) = true := bne_iff_ne.mpr c22
                    obtain rfl := Option.some.inj H
                    go_enter Tryz.func6, Tryz.ntmps6
                    go_wp2_with (first | ((with_reducible refine gate_callee (f := 16) rfl ?_); refine goesL_ (some 10) rfl rfl Tryz.func16 (by kernel_rfl) rfl #[] rfl (by (try simp only [List.map_toArray, List.map_cons, List.map_nil]); first | done | rfl | (simp only [List.length_drop, List.length_take]; rfl)) ?_; (with_reducible refine (bursarlaw03_known.calls k  true _ A2.out (Glob.below hG (by repeat (first | (with_reducible first | exact HB.out | apply below_alloc | apply pw_below_drewN | apply below_drew1) | exact HB.out)))).mono ?_); rintro e w29 ⟨rfl, hb⟩; refine ⟨_, rfl, ?_⟩; have n0_ := Aside0.mk (below_step (by repeat (first | (with_reducible first | exact HB.out | apply below_alloc | apply pw_below_drewN | apply below_drew1) | exact HB.out)) hb); clear HB; have HB := n0_; clear n0_; (try clear hb); (try clear hb2); (try clear hk); (try clear hi)) | ((with_reducible refine gate_callee (f := 17) rfl ?_); refine goesL_ (some 14) rfl rfl Tryz.func17 (by kernel_rfl) rfl #[.string a0] rfl (by (try simp only [List.map_toArray, List.map_cons, List.map_nil]); first | done | rfl | (simp only [List.length_drop, List.length_take]; rfl)) ?_; (with_reducible refine (quant_Parse.calls k a0 t235 t236 _ A4.out (Glob.below hG (by repeat (first | (with_reducible first | exact HB.out | apply below_alloc | apply pw_below_drewN | apply below_drew1) | exact HB.out)))).mono ?_); rintro e w30 ⟨rfl, hb⟩; refine ⟨_, rfl, ?_⟩; have n0_ := Aside0.mk (below_step (by repeat (first | (with_reducible first | exact HB.out | apply below_alloc | apply pw_below_drewN | apply below_drew1) | exact HB.out)) hb); clear HB; have HB := n0_; clear n0_; (try clear hb); (try clear hb2); (try clear hk); (try clear hi)) | ((with_reducible refine gate_callee (f := 19) rfl ?_); refine goesL_ (some 30) rfl rfl Tryz.func19 (by kernel_rfl) rfl #[.int .i64 t235] rfl (by (try simp only [List.map_toArray, List.map_cons, List.map_nil]); first | done | rfl | (simp only [List.length_drop, List.length_take]; rfl)) ?_; (with_reducible refine (quant_Print.calls k t235 t237 _ A6.out (Glob.below hG (by repeat (first | (with_reducible first | exact HB.out | apply below_alloc | apply pw_below_drewN | apply below_drew1) | exact HB.out)))).mono ?_); rintro e w31 ⟨rfl, hb⟩; refine ⟨_, rfl, ?_⟩; have n0_ := Aside0.mk (below_step (by repeat (first | (with_reducible first | exact HB.out | apply below_alloc | apply pw_below_drewN | apply below_drew1) | exact HB.out)) hb); clear HB; have HB := n0_; clear n0_; (try clear hb); (try clear hb2); (try clear hk); (try clear hi)) | ((with_reducible refine gate_callee (f := 17) rfl ?_); refine goesL_ (some 33) rfl rfl Tryz.func17 (by kernel_rfl) rfl #[.string t237] rfl (by (try simp only [List.map_toArray, List.map_cons, List.map_nil]); first | done | rfl | (simp only [List.length_drop, List.length_take]; rfl)) ?_; (with_reducible refine (quant_Parse.calls k t237 t238 t239 _ A7.out (Glob.below hG (by repeat (first | (with_reducible first | exact HB.out | apply below_alloc | apply pw_below_drewN | apply below_drew1) | exact HB.out)))).mono ?_); rintro e w32 ⟨rfl, hb⟩; refine ⟨_, rfl, ?_⟩; have n0_ := Aside0.mk (below_step (by repeat (first | (with_reducible first | exact HB.out | apply below_alloc | apply pw_below_drewN | apply below_drew1) | exact HB.out)) hb); clear HB; have HB := n0_; clear n0_; (try clear hb); (try clear hb2); (try clear hk); (try clear hi)) | (go_at_call 19; (with_reducible refine (quant_Print.calls k t238 t240 _ A10.out (Glob.below hG (by repeat (first | (with_reducible first | exact HB.out | apply below_alloc | apply pw_below_drewN | apply below_drew1) | exact HB.out)))).mono ?_); rintro e w33 ⟨rfl, hb⟩; have n0_ := Aside0.mk (below_step (by repeat (first | (with_reducible first | exact HB.out | apply below_alloc | apply pw_below_drewN | apply below_drew1) | exact HB.out)) hb); clear HB; have HB := n0_; clear n0_; (try clear hb); (try clear hb2); (try clear hk); (try clear hi)) | ((with_reducible refine gate_callee (f := 17) rfl ?_); refine goesL_ (some 52) rfl rfl Tryz.func17 (by kernel_rfl) rfl #[.string ((⟨#[48]⟩ : ByteArray) ++ t237)] rfl (by (try simp only [List.map_toArray, List.map_cons, List.map_nil]); first | done | rfl | (simp only [List.length_drop, List.length_take]; rfl)) ?_; (with_reducible refine (quant_Parse.calls k ((⟨#[48]⟩ : ByteArray) ++ t237) t241 t242 _ A13.out (Glob.below hG (by repeat (first | (with_reducible first | exact HB.out | apply below_alloc | apply pw_below_drewN | apply below_drew1) | exact HB.out)))).mono ?_); rintro e w34 ⟨rfl, hb⟩; refine ⟨_, rfl, ?_⟩; have n0_ := Aside0.mk (below_step (by repeat (first | (with_reducible first | exact HB.out | apply below_alloc | apply pw_below_drewN | apply below_drew1) | exact HB.out)) hb); clear HB; have HB := n0_; clear n0_; (try clear hb); (try clear hb2); (try clear hk); (try clear hi)))
                    go_ret
                    exact ⟨by first | rfl | (simp [errW_none, errW_some] <;> rfl) | (simp [*, errW_none, errW_some] <;> rfl), by repeat (first | (with_reducible first | exact HB.out | apply below_alloc | apply pw_below_drewN | apply below_drew1) | exact HB.out)⟩
              · rw [if_neg c14] at H
                have c14b0 : (t242 == 0) = false := beq_eq_false_iff_ne.mpr c14
                have c14b1 : (t242 != 0) = true := bne_iff_ne.mpr c14
                by_cases c35 : t242 = 30
                · rw [if_pos c35] at H
                  have c35b0 : (t242 == 30) = true := beq_iff_eq.mpr c35
                  have c35b1 : (t242 != 30) = false := bne_eq_false_iff_eq.mpr c35
                  clear c35
                  obtain rfl := Option.some.inj H
                  go_enter Tryz.func6, Tryz.ntmps6
                  go_wp2_with (first | ((with_reducible refine gate_callee (f := 16) rfl ?_); refine goesL_ (some 10) rfl rfl Tryz.func16 (by kernel_rfl) rfl #[] rfl (by (try simp only [List.map_toArray, List.map_cons, List.map_nil]); first | done | rfl | (simp only [List.length_drop, List.length_take]; rfl)) ?_; (with_reducible refine (bursarlaw03_known.calls k  true _ A2.out (Glob.below hG (by repeat (first | (with_reducible first | exact HB.out | apply below_alloc | apply pw_below_drewN | apply below_drew1) | exact HB.out)))).mono ?_); rintro e w36 ⟨rfl, hb⟩; refine ⟨_, rfl, ?_⟩; have n0_ := Aside0.mk (below_step (by repeat (first | (with_reducible first | exact HB.out | apply below_alloc | apply pw_below_drewN | apply below_drew1) | exact HB.out)) hb); clear HB; have HB := n0_; clear n0_; (try clear hb); (try clear hb2); (try clear hk); (try clear hi)) | ((with_reducible refine gate_callee (f := 17) rfl ?_); refine goesL_ (some 14) rfl rfl Tryz.func17 (by kernel_rfl) rfl #[.string a0] rfl (by (try simp only [List.map_toArray, List.map_cons, List.map_nil]); first | done | rfl | (simp only [List.length_drop, List.length_take]; rfl)) ?_; (with_reducible refine (quant_Parse.calls k a0 t235 t236 _ A4.out (Glob.below hG (by repeat (first | (with_reducible first | exact HB.out | apply below_alloc | apply pw_below_drewN | apply below_drew1) | exact HB.out)))).mono ?_); rintro e w37 ⟨rfl, hb⟩; refine ⟨_, rfl, ?_⟩; have n0_ := Aside0.mk (below_step (by repeat (first | (with_reducible first | exact HB.out | apply below_alloc | apply pw_below_drewN | apply below_drew1) | exact HB.out)) hb); clear HB; have HB := n0_; clear n0_; (try clear hb); (try clear hb2); (try clear hk); (try clear hi)) | ((with_reducible refine gate_callee (f := 19) rfl ?_); refine goesL_ (some 30) rfl rfl Tryz.func19 (by kernel_rfl) rfl #[.int .i64 t235] rfl (by (try simp only [List.map_toArray, List.map_cons, List.map_nil]); first | done | rfl | (simp only [List.length_drop, List.length_take]; rfl)) ?_; (with_reducible refine (quant_Print.calls k t235 t237 _ A6.out (Glob.below hG (by repeat (first | (with_reducible first | exact HB.out | apply below_alloc | apply pw_below_drewN | apply below_drew1) | exact HB.out)))).mono ?_); rintro e w38 ⟨rfl, hb⟩; refine ⟨_, rfl, ?_⟩; have n0_ := Aside0.mk (below_step (by repeat (first | (with_reducible first | exact HB.out | apply below_alloc | apply pw_below_drewN | apply below_drew1) | exact HB.out)) hb); clear HB; have HB := n0_; clear n0_; (try clear hb); (try clear hb2); (try clear hk); (try clear hi)) | ((with_reducible refine gate_callee (f := 17) rfl ?_); refine goesL_ (some 33) rfl rfl Tryz.func17 (by kernel_rfl) rfl #[.string t237] rfl (by (try simp only [List.map_toArray, List.map_cons, List.map_nil]); first | done | rfl | (simp only [List.length_drop, List.length_take]; rfl)) ?_; (with_reducible refine (quant_Parse.calls k t237 t238 t239 _ A7.out (Glob.below hG (by repeat (first | (with_reducible first | exact HB.out | apply below_alloc | apply pw_below_drewN | apply below_drew1) | exact HB.out)))).mono ?_); rintro e w39 ⟨rfl, hb⟩; refine ⟨_, rfl, ?_⟩; have n0_ := Aside0.mk (below_step (by repeat (first | (with_reducible first | exact HB.out | apply below_alloc | apply pw_below_drewN | apply below_drew1) | exact HB.out)) hb); clear HB; have HB := n0_; clear n0_; (try clear hb); (try clear hb2); (try clear hk); (try clear hi)) | (go_at_call 19; (with_reducible refine (quant_Print.calls k t238 t240 _ A10.out (Glob.below hG (by repeat (first | (with_reducible first | exact HB.out | apply below_alloc | apply pw_below_drewN | apply below_drew1) | exact HB.out)))).mono ?_); rintro e w40 ⟨rfl, hb⟩; have n0_ := Aside0.mk (below_step (by repeat (first | (with_reducible first | exact HB.out | apply below_alloc | apply pw_below_drewN | apply below_drew1) | exact HB.out)) hb); clear HB; have HB := n0_; clear n0_; (try clear hb); (try clear hb2); (try clear hk); (try clear hi)) | ((with_reducible refine gate_callee (f := 17) rfl ?_); refine goesL_ (some 52) rfl rfl Tryz.func17 (by kernel_rfl) rfl #[.string ((⟨#[48]⟩ : ByteArray) ++ t237)] rfl (by (try simp only [List.map_toArray, List.map_cons, List.map_nil]); first | done | rfl | (simp only [List.length_drop, List.length_take]; rfl)) ?_; (with_reducible refine (quant_Parse.calls k ((⟨#[48]⟩ : ByteArray) ++ t237) t241 t242 _ A13.out (Glob.below hG (by repeat (first | (with_reducible first | exact HB.out | apply below_alloc | apply pw_below_drewN | apply below_drew1) | exact HB.out)))).mono ?_); rintro e w41 ⟨rfl, hb⟩; refine ⟨_, rfl, ?_⟩; have n0_ := Aside0.mk (below_step (by repeat (first | (with_reducible first | exact HB.out | apply below_alloc | apply pw_below_drewN | apply below_drew1) | exact HB.out)) hb); clear HB; have HB := n0_; clear n0_; (try clear hb); (try clear hb2); (try clear hk); (try clear hi)))
                  go_ret
                  exact ⟨by first | rfl | (simp [errW_none, errW_some] <;> rfl) | (simp [*, errW_none, errW_some] <;> rfl), by repeat (first | (with_reducible first | exact HB.out | apply below_alloc | apply pw_below_drewN | apply below_drew1) | exact HB.out)⟩
                · rw [if_neg c35] at H
                  have c35b0 : (t242 == 30) = false := beq_eq_false_iff_ne.mpr c35
                  have c35b1 : (t242 != 30) = true := bne_iff_ne.mpr c35
                  obtain rfl := Option.some.inj H
                  go_enter Tryz.func6, Tryz.ntmps6
                  go_wp2_with (first | ((with_reducible refine gate_callee (f := 16) rfl ?_); refine goesL_ (some 10) rfl rfl Tryz.func16 (by kernel_rfl) rfl #[] rfl (by (try simp only [List.map_toArray, List.map_cons, List.map_nil]); first | done | rfl | (simp only [List.length_drop, List.length_take]; rfl)) ?_; (with_reducible refine (bursarlaw03_known.calls k  true _ A2.out (Glob.below hG (by repeat (first | (with_reducible first | exact HB.out | apply below_alloc | apply pw_below_drewN | apply below_drew1) | exact HB.out)))).mono ?_); rintro e w42 ⟨rfl, hb⟩; refine ⟨_, rfl, ?_⟩; have n0_ := Aside0.mk (below_step (by repeat (first | (with_reducible first | exact HB.out | apply below_alloc | apply pw_below_drewN | apply below_drew1) | exact HB.out)) hb); clear HB; have HB := n0_; clear n0_; (try clear hb); (try clear hb2); (try clear hk); (try clear hi)) | ((with_reducible refine gate_callee (f := 17) rfl ?_); refine goesL_ (some 14) rfl rfl Tryz.func17 (by kernel_rfl) rfl #[.string a0] rfl (by (try simp only [List.map_toArray, List.map_cons, List.map_nil]); first | done | rfl | (simp only [List.length_drop, List.length_take]; rfl)) ?_; (with_reducible refine (quant_Parse.calls k a0 t235 t236 _ A4.out (Glob.below hG (by repeat (first | (with_reducible first | exact HB.out | apply below_alloc | apply pw_below_drewN | apply below_drew1) | exact HB.out)))).mono ?_); rintro e w43 ⟨rfl, hb⟩; refine ⟨_, rfl, ?_⟩; have n0_ := Aside0.mk (below_step (by repeat (first | (with_reducible first | exact HB.out | apply below_alloc | apply pw_below_drewN | apply below_drew1) | exact HB.out)) hb); clear HB; have HB := n0_; clear n0_; (try clear hb); (try clear hb2); (try clear hk); (try clear hi)) | ((with_reducible refine gate_callee (f := 19) rfl ?_); refine goesL_ (some 30) rfl rfl Tryz.func19 (by kernel_rfl) rfl #[.int .i64 t235] rfl (by (try simp only [List.map_toArray, List.map_cons, List.map_nil]); first | done | rfl | (simp only [List.length_drop, List.length_take]; rfl)) ?_; (with_reducible refine (quant_Print.calls k t235 t237 _ A6.out (Glob.below hG (by repeat (first | (with_reducible first | exact HB.out | apply below_alloc | apply pw_below_drewN | apply below_drew1) | exact HB.out)))).mono ?_); rintro e w44 ⟨rfl, hb⟩; refine ⟨_, rfl, ?_⟩; have n0_ := Aside0.mk (below_step (by repeat (first | (with_reducible first | exact HB.out | apply below_alloc | apply pw_below_drewN | apply below_drew1) | exact HB.out)) hb); clear HB; have HB := n0_; clear n0_; (try clear hb); (try clear hb2); (try clear hk); (try clear hi)) | ((with_reducible refine gate_callee (f := 17) rfl ?_); refine goesL_ (some 33) rfl rfl Tryz.func17 (by kernel_rfl) rfl #[.string t237] rfl (by (try simp only [List.map_toArray, List.map_cons, List.map_nil]); first | done | rfl | (simp only [List.length_drop, List.length_take]; rfl)) ?_; (with_reducible refine (quant_Parse.calls k t237 t238 t239 _ A7.out (Glob.below hG (by repeat (first | (with_reducible first | exact HB.out | apply below_alloc | apply pw_below_drewN | apply below_drew1) | exact HB.out)))).mono ?_); rintro e w45 ⟨rfl, hb⟩; refine ⟨_, rfl, ?_⟩; have n0_ := Aside0.mk (below_step (by repeat (first | (with_reducible first | exact HB.out | apply below_alloc | apply pw_below_drewN | apply below_drew1) | exact HB.out)) hb); clear HB; have HB := n0_; clear n0_; (try clear hb); (try clear hb2); (try clear hk); (try clear hi)) | (go_at_call 19; (with_reducible refine (quant_Print.calls k t238 t240 _ A10.out (Glob.below hG (by repeat (first | (with_reducible first | exact HB.out | apply below_alloc | apply pw_below_drewN | apply below_drew1) | exact HB.out)))).mono ?_); rintro e w46 ⟨rfl, hb⟩; have n0_ := Aside0.mk (below_step (by repeat (first | (with_reducible first | exact HB.out | apply below_alloc | apply pw_below_drewN | apply below_drew1) | exact HB.out)) hb); clear HB; have HB := n0_; clear n0_; (try clear hb); (try clear hb2); (try clear hk); (try clear hi)) | ((with_reducible refine gate_callee (f := 17) rfl ?_); refine goesL_ (some 52) rfl rfl Tryz.func17 (by kernel_rfl) rfl #[.string ((⟨#[48]⟩ : ByteArray) ++ t237)] rfl (by (try simp only [List.map_toArray, List.map_cons, List.map_nil]); first | done | rfl | (simp only [List.length_drop, List.length_take]; rfl)) ?_; (with_reducible refine (quant_Parse.calls k ((⟨#[48]⟩ : ByteArray) ++ t237) t241 t242 _ A13.out (Glob.below hG (by repeat (first | (with_reducible first | exact HB.out | apply below_alloc | apply pw_below_drewN | apply below_drew1) | exact HB.out)))).mono ?_); rintro e w47 ⟨rfl, hb⟩; refine ⟨_, rfl, ?_⟩; have n0_ := Aside0.mk (below_step (by repeat (first | (with_reducible first | exact HB.out | apply below_alloc | apply pw_below_drewN | apply below_drew1) | exact HB.out)) hb); clear HB; have HB := n0_; clear n0_; (try clear hb); (try clear hb2); (try clear hk); (try clear hi)))
                  go_ret
                  exact ⟨by first | rfl | (simp [errW_none, errW_some] <;> rfl) | (simp [*, errW_none, errW_some] <;> rfl), by repeat (first | (with_reducible first | exact HB.out | apply below_alloc | apply pw_below_drewN | apply below_drew1) | exact HB.out)⟩
            · rw [if_neg c12] at H
              exact absurd H (by simp)
          · rw [if_neg c11] at H
            have c11b0 : (t240.toList == t237.toList) = false := beq_eq_false_iff_ne.mpr c11
            have c11b1 : (t240.toList != t237.toList) = true := bne_iff_ne.mpr c11
            obtain rfl := Option.some.inj H
            go_enter Tryz.func6, Tryz.ntmps6
            go_wp2_with (first | ((with_reducible refine gate_callee (f := 16) rfl ?_); refine goesL_ (some 10) rfl rfl Tryz.func16 (by kernel_rfl) rfl #[] rfl (by (try simp only [List.map_toArray, List.map_cons, List.map_nil]); first | done | rfl | (simp only [List.length_drop, List.length_take]; rfl)) ?_; (with_reducible refine (bursarlaw03_known.calls k  true _ A2.out (Glob.below hG (by repeat (first | (with_reducible first | exact HB.out | apply below_alloc | apply pw_below_drewN | apply below_drew1) | exact HB.out)))).mono ?_); rintro e w48 ⟨rfl, hb⟩; refine ⟨_, rfl, ?_⟩; have n0_ := Aside0.mk (below_step (by repeat (first | (with_reducible first | exact HB.out | apply below_alloc | apply pw_below_drewN | apply below_drew1) | exact HB.out)) hb); clear HB; have HB := n0_; clear n0_; (try clear hb); (try clear hb2); (try clear hk); (try clear hi)) | ((with_reducible refine gate_callee (f := 17) rfl ?_); refine goesL_ (some 14) rfl rfl Tryz.func17 (by kernel_rfl) rfl #[.string a0] rfl (by (try simp only [List.map_toArray, List.map_cons, List.map_nil]); first | done | rfl | (simp only [List.length_drop, List.length_take]; rfl)) ?_; (with_reducible refine (quant_Parse.calls k a0 t235 t236 _ A4.out (Glob.below hG (by repeat (first | (with_reducible first | exact HB.out | apply below_alloc | apply pw_below_drewN | apply below_drew1) | exact HB.out)))).mono ?_); rintro e w49 ⟨rfl, hb⟩; refine ⟨_, rfl, ?_⟩; have n0_ := Aside0.mk (below_step (by repeat (first | (with_reducible first | exact HB.out | apply below_alloc | apply pw_below_drewN | apply below_drew1) | exact HB.out)) hb); clear HB; have HB := n0_; clear n0_; (try clear hb); (try clear hb2); (try clear hk); (try clear hi)) | ((with_reducible refine gate_callee (f := 19) rfl ?_); refine goesL_ (some 30) rfl rfl Tryz.func19 (by kernel_rfl) rfl #[.int .i64 t235] rfl (by (try simp only [List.map_toArray, List.map_cons, List.map_nil]); first | done | rfl | (simp only [List.length_drop, List.length_take]; rfl)) ?_; (with_reducible refine (quant_Print.calls k t235 t237 _ A6.out (Glob.below hG (by repeat (first | (with_reducible first | exact HB.out | apply below_alloc | apply pw_below_drewN | apply below_drew1) | exact HB.out)))).mono ?_); rintro e w50 ⟨rfl, hb⟩; refine ⟨_, rfl, ?_⟩; have n0_ := Aside0.mk (below_step (by repeat (first | (with_reducible first | exact HB.out | apply below_alloc | apply pw_below_drewN | apply below_drew1) | exact HB.out)) hb); clear HB; have HB := n0_; clear n0_; (try clear hb); (try clear hb2); (try clear hk); (try clear hi)) | ((with_reducible refine gate_callee (f := 17) rfl ?_); refine goesL_ (some 33) rfl rfl Tryz.func17 (by kernel_rfl) rfl #[.string t237] rfl (by (try simp only [List.map_toArray, List.map_cons, List.map_nil]); first | done | rfl | (simp only [List.length_drop, List.length_take]; rfl)) ?_; (with_reducible refine (quant_Parse.calls k t237 t238 t239 _ A7.out (Glob.below hG (by repeat (first | (with_reducible first | exact HB.out | apply below_alloc | apply pw_below_drewN | apply below_drew1) | exact HB.out)))).mono ?_); rintro e w51 ⟨rfl, hb⟩; refine ⟨_, rfl, ?_⟩; have n0_ := Aside0.mk (below_step (by repeat (first | (with_reducible first | exact HB.out | apply below_alloc | apply pw_below_drewN | apply below_drew1) | exact HB.out)) hb); clear HB; have HB := n0_; clear n0_; (try clear hb); (try clear hb2); (try clear hk); (try clear hi)) | (go_at_call 19; (with_reducible refine (quant_Print.calls k t238 t240 _ A10.out (Glob.below hG (by repeat (first | (with_reducible first | exact HB.out | apply below_alloc | apply pw_below_drewN | apply below_drew1) | exact HB.out)))).mono ?_); rintro e w52 ⟨rfl, hb⟩; have n0_ := Aside0.mk (below_step (by repeat (first | (with_reducible first | exact HB.out | apply below_alloc | apply pw_below_drewN | apply below_drew1) | exact HB.out)) hb); clear HB; have HB := n0_; clear n0_; (try clear hb); (try clear hb2); (try clear hk); (try clear hi)))
            go_ret
            exact ⟨by first | rfl | (simp [errW_none, errW_some] <;> rfl) | (simp [*, errW_none, errW_some] <;> rfl), by repeat (first | (with_reducible first | exact HB.out | apply below_alloc | apply pw_below_drewN | apply below_drew1) | exact HB.out)⟩
        · rw [if_neg c9] at H
          have c9b0 : (t238 == t235) = false := beq_eq_false_iff_ne.mpr c9
          have c9b1 : (t238 != t235) = true := bne_iff_ne.mpr c9
          obtain rfl := Option.some.inj H
          go_enter Tryz.func6, Tryz.ntmps6
          go_wp2_with (first | ((with_reducible refine gate_callee (f := 16) rfl ?_); refine goesL_ (some 10) rfl rfl Tryz.func16 (by kernel_rfl) rfl #[] rfl (by (try simp only [List.map_toArray, List.map_cons, List.map_nil]); first | done | rfl | (simp only [List.length_drop, List.length_take]; rfl)) ?_; (with_reducible refine (bursarlaw03_known.calls k  true _ A2.out (Glob.below hG (by repeat (first | (with_reducible first | exact HB.out | apply below_alloc | apply pw_below_drewN | apply below_drew1) | exact HB.out)))).mono ?_); rintro e w53 ⟨rfl, hb⟩; refine ⟨_, rfl, ?_⟩; have n0_ := Aside0.mk (below_step (by repeat (first | (with_reducible first | exact HB.out | apply below_alloc | apply pw_below_drewN | apply below_drew1) | exact HB.out)) hb); clear HB; have HB := n0_; clear n0_; (try clear hb); (try clear hb2); (try clear hk); (try clear hi)) | ((with_reducible refine gate_callee (f := 17) rfl ?_); refine goesL_ (some 14) rfl rfl Tryz.func17 (by kernel_rfl) rfl #[.string a0] rfl (by (try simp only [List.map_toArray, List.map_cons, List.map_nil]); first | done | rfl | (simp only [List.length_drop, List.length_take]; rfl)) ?_; (with_reducible refine (quant_Parse.calls k a0 t235 t236 _ A4.out (Glob.below hG (by repeat (first | (with_reducible first | exact HB.out | apply below_alloc | apply pw_below_drewN | apply below_drew1) | exact HB.out)))).mono ?_); rintro e w54 ⟨rfl, hb⟩; refine ⟨_, rfl, ?_⟩; have n0_ := Aside0.mk (below_step (by repeat (first | (with_reducible first | exact HB.out | apply below_alloc | apply pw_below_drewN | apply below_drew1) | exact HB.out)) hb); clear HB; have HB := n0_; clear n0_; (try clear hb); (try clear hb2); (try clear hk); (try clear hi)) | ((with_reducible refine gate_callee (f := 19) rfl ?_); refine goesL_ (some 30) rfl rfl Tryz.func19 (by kernel_rfl) rfl #[.int .i64 t235] rfl (by (try simp only [List.map_toArray, List.map_cons, List.map_nil]); first | done | rfl | (simp only [List.length_drop, List.length_take]; rfl)) ?_; (with_reducible refine (quant_Print.calls k t235 t237 _ A6.out (Glob.below hG (by repeat (first | (with_reducible first | exact HB.out | apply below_alloc | apply pw_below_drewN | apply below_drew1) | exact HB.out)))).mono ?_); rintro e w55 ⟨rfl, hb⟩; refine ⟨_, rfl, ?_⟩; have n0_ := Aside0.mk (below_step (by repeat (first | (with_reducible first | exact HB.out | apply below_alloc | apply pw_below_drewN | apply below_drew1) | exact HB.out)) hb); clear HB; have HB := n0_; clear n0_; (try clear hb); (try clear hb2); (try clear hk); (try clear hi)) | ((with_reducible refine gate_callee (f := 17) rfl ?_); refine goesL_ (some 33) rfl rfl Tryz.func17 (by kernel_rfl) rfl #[.string t237] rfl (by (try simp only [List.map_toArray, List.map_cons, List.map_nil]); first | done | rfl | (simp only [List.length_drop, List.length_take]; rfl)) ?_; (with_reducible refine (quant_Parse.calls k t237 t238 t239 _ A7.out (Glob.below hG (by repeat (first | (with_reducible first | exact HB.out | apply below_alloc | apply pw_below_drewN | apply below_drew1) | exact HB.out)))).mono ?_); rintro e w56 ⟨rfl, hb⟩; refine ⟨_, rfl, ?_⟩; have n0_ := Aside0.mk (below_step (by repeat (first | (with_reducible first | exact HB.out | apply below_alloc | apply pw_below_drewN | apply below_drew1) | exact HB.out)) hb); clear HB; have HB := n0_; clear n0_; (try clear hb); (try clear hb2); (try clear hk); (try clear hi)))
          go_ret
          exact ⟨by first | rfl | (simp [errW_none, errW_some] <;> rfl) | (simp [*, errW_none, errW_some] <;> rfl), by repeat (first | (with_reducible first | exact HB.out | apply below_alloc | apply pw_below_drewN | apply below_drew1) | exact HB.out)⟩
      · rw [if_neg c8] at H
        have c8b0 : (t239 == 0) = false := beq_eq_false_iff_ne.mpr c8
        have c8b1 : (t239 != 0) = true := bne_iff_ne.mpr c8
        obtain rfl := Option.some.inj H
        go_enter Tryz.func6, Tryz.ntmps6
        go_wp2_with (first | ((with_reducible refine gate_callee (f := 16) rfl ?_); refine goesL_ (some 10) rfl rfl Tryz.func16 (by kernel_rfl) rfl #[] rfl (by (try simp only [List.map_toArray, List.map_cons, List.map_nil]); first | done | rfl | (simp only [List.length_drop, List.length_take]; rfl)) ?_; (with_reducible refine (bursarlaw03_known.calls k  true _ A2.out (Glob.below hG (by repeat (first | (with_reducible first | exact HB.out | apply below_alloc | apply pw_below_drewN | apply below_drew1) | exact HB.out)))).mono ?_); rintro e w57 ⟨rfl, hb⟩; refine ⟨_, rfl, ?_⟩; have n0_ := Aside0.mk (below_step (by repeat (first | (with_reducible first | exact HB.out | apply below_alloc | apply pw_below_drewN | apply below_drew1) | exact HB.out)) hb); clear HB; have HB := n0_; clear n0_; (try clear hb); (try clear hb2); (try clear hk); (try clear hi)) | ((with_reducible refine gate_callee (f := 17) rfl ?_); refine goesL_ (some 14) rfl rfl Tryz.func17 (by kernel_rfl) rfl #[.string a0] rfl (by (try simp only [List.map_toArray, List.map_cons, List.map_nil]); first | done | rfl | (simp only [List.length_drop, List.length_take]; rfl)) ?_; (with_reducible refine (quant_Parse.calls k a0 t235 t236 _ A4.out (Glob.below hG (by repeat (first | (with_reducible first | exact HB.out | apply below_alloc | apply pw_below_drewN | apply below_drew1) | exact HB.out)))).mono ?_); rintro e w58 ⟨rfl, hb⟩; refine ⟨_, rfl, ?_⟩; have n0_ := Aside0.mk (below_step (by repeat (first | (with_reducible first | exact HB.out | apply below_alloc | apply pw_below_drewN | apply below_drew1) | exact HB.out)) hb); clear HB; have HB := n0_; clear n0_; (try clear hb); (try clear hb2); (try clear hk); (try clear hi)) | ((with_reducible refine gate_callee (f := 19) rfl ?_); refine goesL_ (some 30) rfl rfl Tryz.func19 (by kernel_rfl) rfl #[.int .i64 t235] rfl (by (try simp only [List.map_toArray, List.map_cons, List.map_nil]); first | done | rfl | (simp only [List.length_drop, List.length_take]; rfl)) ?_; (with_reducible refine (quant_Print.calls k t235 t237 _ A6.out (Glob.below hG (by repeat (first | (with_reducible first | exact HB.out | apply below_alloc | apply pw_below_drewN | apply below_drew1) | exact HB.out)))).mono ?_); rintro e w59 ⟨rfl, hb⟩; refine ⟨_, rfl, ?_⟩; have n0_ := Aside0.mk (below_step (by repeat (first | (with_reducible first | exact HB.out | apply below_alloc | apply pw_below_drewN | apply below_drew1) | exact HB.out)) hb); clear HB; have HB := n0_; clear n0_; (try clear hb); (try clear hb2); (try clear hk); (try clear hi)) | ((with_reducible refine gate_callee (f := 17) rfl ?_); refine goesL_ (some 33) rfl rfl Tryz.func17 (by kernel_rfl) rfl #[.string t237] rfl (by (try simp only [List.map_toArray, List.map_cons, List.map_nil]); first | done | rfl | (simp only [List.length_drop, List.length_take]; rfl)) ?_; (with_reducible refine (quant_Parse.calls k t237 t238 t239 _ A7.out (Glob.below hG (by repeat (first | (with_reducible first | exact HB.out | apply below_alloc | apply pw_below_drewN | apply below_drew1) | exact HB.out)))).mono ?_); rintro e w60 ⟨rfl, hb⟩; refine ⟨_, rfl, ?_⟩; have n0_ := Aside0.mk (below_step (by repeat (first | (with_reducible first | exact HB.out | apply below_alloc | apply pw_below_drewN | apply below_drew1) | exact HB.out)) hb); clear HB; have HB := n0_; clear n0_; (try clear hb); (try clear hb2); (try clear hk); (try clear hi)))
        go_ret
        exact ⟨by first | rfl | (simp [errW_none, errW_some] <;> rfl) | (simp [*, errW_none, errW_some] <;> rfl), by repeat (first | (with_reducible first | exact HB.out | apply below_alloc | apply pw_below_drewN | apply below_drew1) | exact HB.out)⟩
    · rw [if_neg c5] at H
      have c5b0 : (t236 == 0) = false := beq_eq_false_iff_ne.mpr c5
      have c5b1 : (t236 != 0) = true := bne_iff_ne.mpr c5
      by_cases c61 : t235 = 0
      · rw [if_pos c61] at H
        have c61b0 : (t235 == 0) = true := beq_iff_eq.mpr c61
        have c61b1 : (t235 != 0) = false := bne_eq_false_iff_eq.mpr c61
        clear c61
        by_cases c62 : t236 = 30
        · rw [if_pos c62] at H
          have c62b0 : (t236 == 30) = true := beq_iff_eq.mpr c62
          have c62b1 : (t236 != 30) = false := bne_eq_false_iff_eq.mpr c62
          clear c62
          obtain rfl := Option.some.inj H
          go_enter Tryz.func6, Tryz.ntmps6
          go_wp2_with (first | ((with_reducible refine gate_callee (f := 16) rfl ?_); refine goesL_ (some 10) rfl rfl Tryz.func16 (by kernel_rfl) rfl #[] rfl (by (try simp only [List.map_toArray, List.map_cons, List.map_nil]); first | done | rfl | (simp only [List.length_drop, List.length_take]; rfl)) ?_; (with_reducible refine (bursarlaw03_known.calls k  true _ A2.out (Glob.below hG (by repeat (first | (with_reducible first | exact HB.out | apply below_alloc | apply pw_below_drewN | apply below_drew1) | exact HB.out)))).mono ?_); rintro e w63 ⟨rfl, hb⟩; refine ⟨_, rfl, ?_⟩; have n0_ := Aside0.mk (below_step (by repeat (first | (with_reducible first | exact HB.out | apply below_alloc | apply pw_below_drewN | apply below_drew1) | exact HB.out)) hb); clear HB; have HB := n0_; clear n0_; (try clear hb); (try clear hb2); (try clear hk); (try clear hi)) | ((with_reducible refine gate_callee (f := 17) rfl ?_); refine goesL_ (some 14) rfl rfl Tryz.func17 (by kernel_rfl) rfl #[.string a0] rfl (by (try simp only [List.map_toArray, List.map_cons, List.map_nil]); first | done | rfl | (simp only [List.length_drop, List.length_take]; rfl)) ?_; (with_reducible refine (quant_Parse.calls k a0 t235 t236 _ A4.out (Glob.below hG (by repeat (first | (with_reducible first | exact HB.out | apply below_alloc | apply pw_below_drewN | apply below_drew1) | exact HB.out)))).mono ?_); rintro e w64 ⟨rfl, hb⟩; refine ⟨_, rfl, ?_⟩; have n0_ := Aside0.mk (below_step (by repeat (first | (with_reducible first | exact HB.out | apply below_alloc | apply pw_below_drewN | apply below_drew1) | exact HB.out)) hb); clear HB; have HB := n0_; clear n0_; (try clear hb); (try clear hb2); (try clear hk); (try clear hi)))
          go_ret
          exact ⟨by first | rfl | (simp [errW_none, errW_some] <;> rfl) | (simp [*, errW_none, errW_some] <;> rfl), by repeat (first | (with_reducible first | exact HB.out | apply below_alloc | apply pw_below_drewN | apply below_drew1) | exact HB.out)⟩
        · rw [if_neg c62] at H
          have c62b0 : (t236 == 30) = false := beq_eq_false_iff_ne.mpr c62
          have c62b1 : (t236 != 30) = true := bne_iff_ne.mpr c62
          obtain rfl := Option.some.inj H
          go_enter Tryz.func6, Tryz.ntmps6
          go_wp2_with (first | ((with_reducible refine gate_callee (f := 16) rfl ?_); refine goesL_ (some 10) rfl rfl Tryz.func16 (by kernel_rfl) rfl #[] rfl (by (try simp only [List.map_toArray, List.map_cons, List.map_nil]); first | done | rfl | (simp only [List.length_drop, List.length_take]; rfl)) ?_; (with_reducible refine (bursarlaw03_known.calls k  true _ A2.out (Glob.below hG (by repeat (first | (with_reducible first | exact HB.out | apply below_alloc | apply pw_below_drewN | apply below_drew1) | exact HB.out)))).mono ?_); rintro e w65 ⟨rfl, hb⟩; refine ⟨_, rfl, ?_⟩; have n0_ := Aside0.mk (below_step (by repeat (first | (with_reducible first | exact HB.out | apply below_alloc | apply pw_below_drewN | apply below_drew1) | exact HB.out)) hb); clear HB; have HB := n0_; clear n0_; (try clear hb); (try clear hb2); (try clear hk); (try clear hi)) | ((with_reducible refine gate_callee (f := 17) rfl ?_); refine goesL_ (some 14) rfl rfl Tryz.func17 (by kernel_rfl) rfl #[.string a0] rfl (by (try simp only [List.map_toArray, List.map_cons, List.map_nil]); first | done | rfl | (simp only [List.length_drop, List.length_take]; rfl)) ?_; (with_reducible refine (quant_Parse.calls k a0 t235 t236 _ A4.out (Glob.below hG (by repeat (first | (with_reducible first | exact HB.out | apply below_alloc | apply pw_below_drewN | apply below_drew1) | exact HB.out)))).mono ?_); rintro e w66 ⟨rfl, hb⟩; refine ⟨_, rfl, ?_⟩; have n0_ := Aside0.mk (below_step (by repeat (first | (with_reducible first | exact HB.out | apply below_alloc | apply pw_below_drewN | apply below_drew1) | exact HB.out)) hb); clear HB; have HB := n0_; clear n0_; (try clear hb); (try clear hb2); (try clear hk); (try clear hi)))
          go_ret
          exact ⟨by first | rfl | (simp [errW_none, errW_some] <;> rfl) | (simp [*, errW_none, errW_some] <;> rfl), by repeat (first | (with_reducible first | exact HB.out | apply below_alloc | apply pw_below_drewN | apply below_drew1) | exact HB.out)⟩
      · rw [if_neg c61] at H
        have c61b0 : (t235 == 0) = false := beq_eq_false_iff_ne.mpr c61
        have c61b1 : (t235 != 0) = true := bne_iff_ne.mpr c61
        obtain rfl := Option.some.inj H
        go_enter Tryz.func6, Tryz.ntmps6
        go_wp2_with (first | ((with_reducible refine gate_callee (f := 16) rfl ?_); refine goesL_ (some 10) rfl rfl Tryz.func16 (by kernel_rfl) rfl #[] rfl (by (try simp only [List.map_toArray, List.map_cons, List.map_nil]); first | done | rfl | (simp only [List.length_drop, List.length_take]; rfl)) ?_; (with_reducible refine (bursarlaw03_known.calls k  true _ A2.out (Glob.below hG (by repeat (first | (with_reducible first | exact HB.out | apply below_alloc | apply pw_below_drewN | apply below_drew1) | exact HB.out)))).mono ?_); rintro e w67 ⟨rfl, hb⟩; refine ⟨_, rfl, ?_⟩; have n0_ := Aside0.mk (below_step (by repeat (first | (with_reducible first | exact HB.out | apply below_alloc | apply pw_below_drewN | apply below_drew1) | exact HB.out)) hb); clear HB; have HB := n0_; clear n0_; (try clear hb); (try clear hb2); (try clear hk); (try clear hi)) | ((with_reducible refine gate_callee (f := 17) rfl ?_); refine goesL_ (some 14) rfl rfl Tryz.func17 (by kernel_rfl) rfl #[.string a0] rfl (by (try simp only [List.map_toArray, List.map_cons, List.map_nil]); first | done | rfl | (simp only [List.length_drop, List.length_take]; rfl)) ?_; (with_reducible refine (quant_Parse.calls k a0 t235 t236 _ A4.out (Glob.below hG (by repeat (first | (with_reducible first | exact HB.out | apply below_alloc | apply pw_below_drewN | apply below_drew1) | exact HB.out)))).mono ?_); rintro e w68 ⟨rfl, hb⟩; refine ⟨_, rfl, ?_⟩; have n0_ := Aside0.mk (below_step (by repeat (first | (with_reducible first | exact HB.out | apply below_alloc | apply pw_below_drewN | apply below_drew1) | exact HB.out)) hb); clear HB; have HB := n0_; clear n0_; (try clear hb); (try clear hb2); (try clear hk); (try clear hi)))
        go_ret
        exact ⟨by first | rfl | (simp [errW_none, errW_some] <;> rfl) | (simp [*, errW_none, errW_some] <;> rfl), by repeat (first | (with_reducible first | exact HB.out | apply below_alloc | apply pw_below_drewN | apply below_drew1) | exact HB.out)⟩
  · replace c3 := Bool.eq_false_iff.mpr c3
    subst c3
    have H1 : (some false) = some r := by rw [if_neg (show ¬ (false = true) by decide)] at H; exact H
    clear H
    have H := H1
    clear H1
    obtain rfl := Option.some.inj H
    go_enter Tryz.func6, Tryz.ntmps6
    go_wp2_with (first | ((with_reducible refine gate_callee (f := 16) rfl ?_); refine goesL_ (some 10) rfl rfl Tryz.func16 (by kernel_rfl) rfl #[] rfl (by (try simp only [List.map_toArray, List.map_cons, List.map_nil]); first | done | rfl | (simp only [List.length_drop, List.length_take]; rfl)) ?_; (with_reducible refine (bursarlaw03_known.calls k  false _ A2.out (Glob.below hG (by repeat (first | (with_reducible first | exact HB.out | apply below_alloc | apply pw_below_drewN | apply below_drew1) | exact HB.out)))).mono ?_); rintro e w69 ⟨rfl, hb⟩; refine ⟨_, rfl, ?_⟩; have n0_ := Aside0.mk (below_step (by repeat (first | (with_reducible first | exact HB.out | apply below_alloc | apply pw_below_drewN | apply below_drew1) | exact HB.out)) hb); clear HB; have HB := n0_; clear n0_; (try clear hb); (try clear hb2); (try clear hk); (try clear hi)))
    go_ret
    exact ⟨by first | rfl | (simp [errW_none, errW_some] <;> rfl) | (simp [*, errW_none, errW_some] <;> rfl), by repeat (first | (with_reducible first | exact HB.out | apply below_alloc | apply pw_below_drewN | apply below_drew1) | exact HB.out)⟩
end Go.Proofs.YtejgbdclhlolkaaGreatDoor.Q
namespace Go.Proofs.YtejgbdclhlolkaaGreatDoor.Q
open Go.RowKit Go.Proofs.YtejgbdclhlolkaaGreatDoorW.PrintWords Go.Proofs.YtejgbdclhlolkaaGreatDoorW.PrintLast
set_option linter.unusedVariables false
set_option linter.unusedSimpArgs false
set_option maxRecDepth 100000 in
theorem known_at : bursarlaw03_known.f 60 = some true := by decide +kernel
theorem known_ev : Ev (fun k => bursarlaw03_known.f k) true := Ev.of bursarlaw03_known.mono known_at
end Go.Proofs.YtejgbdclhlolkaaGreatDoor.Q
namespace Go.Proofs.YtejgbdclhlolkaaGreatDoor.Q
open Go.RowKit Go.Proofs.YtejgbdclhlolkaaGreatDoorW.PrintWords Go.Proofs.YtejgbdclhlolkaaGreatDoorW.PrintLast Go.Proofs.YtejgbdclhlolkaaGreatDoorW.PrintMore
attribute [local go_sem] max2_int min2_int max_two min_two max_three min_three max_four min_four   -- for this text's walks alone
set_option linter.unusedVariables false
set_option linter.unusedSimpArgs false
def quant_Scale.j0 : Nat → Int → Int → Int → Bool → Option (Int × Int)
  | 0, _, _, _, _ => none
  | k + 1, x0, x1, x2, x19 => if x19 = true then (some (0, 1)) else ((bits_Mul64.f (IntKind.u64.wrap (x0)) (IntKind.u64.wrap (x1))).bind fun bt276 => ((quant_over.f k bt276.1 bt276.2 (IntKind.u64.wrap (x2))).bind fun bt278 => (some (bt278.1, bt278.2))))
def quant_Scale.f (k : Nat) (a0 : Int) (a1 : Int) (a2 : Int) : Option (Int × Int) := if a0 < 0 then (quant_Scale.j0 k a0 a1 a2 true) else (if a1 < 0 then (quant_Scale.j0 k a0 a1 a2 true) else (quant_Scale.j0 k a0 a1 a2 (decide (a2 < 1))))
theorem quant_Scale.mono_l : ∀ k, (∀ y0 y1 y2 y3, LeO (quant_Scale.j0 k y0 y1 y2 y3) (quant_Scale.j0 (k + 1) y0 y1 y2 y3))
  | 0 => fun _ _ _ _ r h => by simp [quant_Scale.j0] at h
  | k + 1 => by
    have ih0 := quant_Scale.mono_l k
    · intro y0 y1 y2 y3
      unfold quant_Scale.j0
      repeat' first
      | (with_reducible exact ih0 _ _ _ _)
      | (with_reducible exact quant_over.mono _ _ _ _)
      | (with_reducible exact LeO.refl _)
      | (with_reducible exact LeO.none _)
      | (with_reducible refine LeO.ite ?_ ?_)
      | (with_reducible refine LeO.bind ?_ (fun _ => ?_))
      | exact ih0 _ _ _ _
      | exact quant_over.mono _ _ _ _
      | exact LeO.none _
      | refine LeO.ite ?_ ?_
      | refine LeO.bind ?_ (fun _ => ?_)
theorem quant_Scale.mono : ∀ a0 a1 a2 k, LeO (quant_Scale.f k a0 a1 a2) (quant_Scale.f (k + 1) a0 a1 a2) := by
  intro a0 a1 a2 k
  have ih0 := quant_Scale.mono_l k
  unfold quant_Scale.f
  repeat' first
      | (with_reducible exact ih0 _ _ _ _)
      | (with_reducible exact quant_over.mono _ _ _ _)
      | (with_reducible exact LeO.refl _)
      | (with_reducible exact LeO.none _)
      | (with_reducible refine LeO.ite ?_ ?_)
      | (with_reducible refine LeO.bind ?_ (fun _ => ?_))
      | exact ih0 _ _ _ _
      | exact quant_over.mono _ _ _ _
      | exact LeO.none _
      | refine LeO.ite ?_ ?_
      | refine LeO.bind ?_ (fun _ => ?_)
end Go.Proofs.YtejgbdclhlolkaaGreatDoor.Q
namespace Go.Proofs.DivLaw
set_option linter.unusedVariables false
set_option linter.unusedSimpArgs false
theorem digit_is (v1 v0 u n q r : Nat) (hq : q * v1 + r = u) (h : q * v0 ≤ 4294967296 * r + n) (hge : (u * 4294967296 + n) / (v1 * 4294967296 + v0) ≤ q) (hv : 0 < v1) :
    q = (u * 4294967296 + n) / (v1 * 4294967296 + v0) := by
  refine Nat.le_antisymm ?_ hge
  rw [Nat.le_div_iff_mul_le (by omega)]
  have e : q * (v1 * 4294967296 + v0) = (q * v1) * 4294967296 + q * v0 := by rw [Nat.mul_add, Nat.mul_assoc]
  rw [e]
  generalize q * v1 = p at *
  generalize q * v0 = s at *
  omega
theorem digit_less (v1 v0 u n q r : Nat) (hq : q * v1 + r = u) (h : 4294967296 * r + n < q * v0) (hv : 0 < v1) :
    (u * 4294967296 + n) / (v1 * 4294967296 + v0) < q := by
  rw [Nat.div_lt_iff_lt_mul (by omega)]
  have e : q * (v1 * 4294967296 + v0) = (q * v1) * 4294967296 + q * v0 := by rw [Nat.mul_add, Nat.mul_assoc]
  rw [e]
  generalize q * v1 = p at *
  generalize q * v0 = s at *
  omega
theorem digit_big (v1 v0 u n : Nat) (hu : u < v1 * 4294967296 + v0) (hn : n < 4294967296) (hv : 0 < v1) :
    (u * 4294967296 + n) / (v1 * 4294967296 + v0) < 4294967296 := by
  rw [Nat.div_lt_iff_lt_mul (by omega)]
  omega
theorem guess_le (v1 v0 u : Nat) (hu : u < v1 * 4294967296 + v0) (h0 : v0 < 4294967296) (hv : 2147483648 ≤ v1) : u / v1 ≤ 4294967297 := by
  have : u / v1 < 4294967298 := by
    rw [Nat.div_lt_iff_lt_mul (by omega)]
    omega
  omega
theorem guess_ge (v1 v0 u n : Nat) (hn : n < 4294967296) (hv : 0 < v1) : (u * 4294967296 + n) / (v1 * 4294967296 + v0) ≤ u / v1 := by
  rw [Nat.le_div_iff_mul_le hv]
  have h := Nat.div_mul_le_self (u * 4294967296 + n) (v1 * 4294967296 + v0)
  generalize (u * 4294967296 + n) / (v1 * 4294967296 + v0) = q at *
  have e : q * (v1 * 4294967296 + v0) = (q * v1) * 4294967296 + q * v0 := by rw [Nat.mul_add, Nat.mul_assoc]
  rw [e] at h
  generalize q * v1 = p at *
  generalize q * v0 = s at *
  omega
theorem two_digits (V u n m q1 q0 : Nat) (hV : 0 < V) (h1 : q1 = (u * 4294967296 + n) / V) (h0 : q0 = ((u * 4294967296 + n - q1 * V) * 4294967296 + m) / V) (hm : m < 4294967296) :
    q1 * 4294967296 + q0 = (u * 18446744073709551616 + n * 4294967296 + m) / V ∧
    (u * 4294967296 + n - q1 * V) * 4294967296 + m - q0 * V = (u * 18446744073709551616 + n * 4294967296 + m) % V := by
  have hd1 : q1 * V ≤ u * 4294967296 + n := by rw [h1]; exact Nat.div_mul_le_self _ _
  have hd0 : q0 * V ≤ (u * 4294967296 + n - q1 * V) * 4294967296 + m := by rw [h0]; exact Nat.div_mul_le_self _ _
  have hl0 : (u * 4294967296 + n - q1 * V) * 4294967296 + m < q0 * V + V := by
    have := Nat.lt_div_mul_add hV (a := (u * 4294967296 + n - q1 * V) * 4294967296 + m)
    rw [← h0] at this
    exact this
  have e : (q1 * 4294967296 + q0) * V = (q1 * V) * 4294967296 + q0 * V := by rw [Nat.add_mul, Nat.mul_right_comm]
  have hN : u * 18446744073709551616 + n * 4294967296 + m = (q1 * 4294967296 + q0) * V + ((u * 4294967296 + n - q1 * V) * 4294967296 + m - q0 * V) := by
    rw [e]
    generalize q1 * V = p at *
    generalize q0 * V = s at *
    omega
  have hr : (u * 4294967296 + n - q1 * V) * 4294967296 + m - q0 * V < V := by
    generalize q1 * V = p at *
    generalize q0 * V = s at *
    omega
  constructor
  · rw [hN, Nat.mul_comm (q1 * 4294967296 + q0) V, Nat.mul_add_div hV, Nat.div_eq_of_lt hr, Nat.add_zero]
  · rw [hN, Nat.mul_comm (q1 * 4294967296 + q0) V, Nat.mul_add_mod, Nat.mod_eq_of_lt hr]
end Go.Proofs.DivLaw
namespace Go.Proofs.YtejgbdclhlolkaaGreatDoor.Q
open Go.RowKit Go.Proofs.YtejgbdclhlolkaaGreatDoorW.PrintWords Go.Proofs.YtejgbdclhlolkaaGreatDoorW.PrintLast Go.Proofs.YtejgbdclhlolkaaGreatDoorW.PrintMore Go.Proofs.DivLaw
set_option linter.unusedVariables false
set_option linter.unusedSimpArgs false
theorem u64w (x : Int) : IntKind.u64.wrap x = x % 18446744073709551616 := by simp [IntKind.wrap, IntKind.bits, IntKind.signed]
theorem u64i {x : Int} (h0 : 0 ≤ x) (h1 : x < 18446744073709551616) : IntKind.u64.wrap x = x := by rw [u64w]; omega
theorem u64n {n : Nat} (h1 : n < 18446744073709551616) : IntKind.u64.wrap (n : Int) = n := u64i (by omega) (by omega)
theorem w64i {i : Int} (h0 : -9223372036854775808 ≤ i) (h1 : i ≤ 9223372036854775807) : wrap64 i = i := by unfold wrap64; omega
theorem mul_bound {a b : Nat} (ha : a ≤ 4294967296) (hb : b < 4294967296) : a * b < 18446744073709551616 := by
  have : a * b ≤ 4294967296 * b := Nat.mul_le_mul_right _ ha
  omega
theorem rest_is (u n p y : Nat) (h : p ≤ u * 4294967296 + n) (hy : u * 4294967296 + n - p < 18446744073709551616) :
    IntKind.u64.wrap (IntKind.u64.wrap (IntKind.u64.wrap ((u : Int) * 4294967296) + (n : Int)) - IntKind.u64.wrap (p : Int)) = ((u * 4294967296 + n - p : Nat) : Int) := by
  rw [u64w, u64w, u64w, u64w]; omega
theorem div_l1 (V1 V0 R m s y q1 : Nat) (hy : y = V1 * 4294967296 + V0) (hV1 : 2147483648 ≤ V1) (hV1' : V1 < 4294967296) (hV0 : V0 < 4294967296) (hm : m < 4294967296) (hR : R < y) (hq1 : q1 < 4294967296) :
    ∀ q r : Nat, q * V1 + r = R → r < 4294967296 → (R * 4294967296 + m) / y ≤ q → q ≤ 4294967297 →
      Ev (fun k => bits_Div64.l1 k (y : Int) (s : Int) (V1 : Int) (V0 : Int) (m : Int) (q1 : Int) (r : Int) (R : Int) (q : Int))
        (((q1 * 4294967296 + (R * 4294967296 + m) / y : Nat) : Int), shr .u64 ((R * 4294967296 + m - (R * 4294967296 + m) / y * y : Nat) : Int) (s : Int)) := by
  intro q
  have hfin : ∀ g : Nat, g = (R * 4294967296 + m) / y → (if (0 : Int) ≤ (s : Int) then some (IntKind.u64.wrap ((IntKind.u64.wrap ((q1 : Int) * 4294967296)) + (g : Int)), shr .u64 (IntKind.u64.wrap ((IntKind.u64.wrap ((IntKind.u64.wrap ((R : Int) * 4294967296)) + (m : Int))) - (IntKind.u64.wrap ((g : Int) * (y : Int))))) (s : Int)) else none)
      = some (((q1 * 4294967296 + (R * 4294967296 + m) / y : Nat) : Int), shr .u64 ((R * 4294967296 + m - (R * 4294967296 + m) / y * y : Nat) : Int) (s : Int)) := by
    intro g hg
    have hle := Nat.div_mul_le_self (R * 4294967296 + m) y
    have hlt := Nat.lt_div_mul_add (a := R * 4294967296 + m) (b := y) (by omega)
    have hbig := digit_big V1 V0 R m (by omega) hm (by omega)
    rw [← hy] at hbig
    rw [← hg] at hle hlt hbig ⊢
    rw [if_pos (by omega), ← Int.natCast_mul, rest_is R m (g * y) y (by omega) (by omega), u64w, u64w]
    congr 2
    omega
  induction q with
  | zero =>
    intro r hq hr hge hle
    have hQ : 0 = (R * 4294967296 + m) / y := (Nat.le_zero.1 hge).symm
    refine Ev.step (f := fun k => bits_Div64.j4 k (y : Int) (s : Int) (V1 : Int) (V0 : Int) (m : Int) (q1 : Int) (r : Int) (R : Int) ((0 : Nat) : Int) false) (fun k => ?_) (Ev.step (f := fun _ => some _) (fun k => ?_) (Ev.now _))
    · simp only [bits_Div64.l1]
      rw [if_neg (by omega), u64w, u64w, u64w, decide_eq_false (by omega)]
    · simp only [bits_Div64.j4]
      rw [if_neg Bool.false_ne_true]
      exact hfin 0 hQ
  | succ q ih =>
    intro r hq hr hge hle
    by_cases ht : 4294967296 ≤ q + 1 ∨ 4294967296 * r + m < (q + 1) * V0
    · have hge' : (R * 4294967296 + m) / y ≤ q := by
        have : (R * 4294967296 + m) / y < q + 1 := by
          rcases ht with h | h
          · have := digit_big V1 V0 R m (by omega) hm (by omega)
            rw [← hy] at this; omega
          · have := digit_less V1 V0 R m (q + 1) r hq h (by omega)
            rw [← hy] at this; exact this
        omega
      rw [Nat.succ_mul] at hq
      refine Ev.step (f := fun k => bits_Div64.j4 k (y : Int) (s : Int) (V1 : Int) (V0 : Int) (m : Int) (q1 : Int) (r : Int) (R : Int) ((q + 1 : Nat) : Int) true) (fun k => ?_) ?_
      · simp only [bits_Div64.l1]
        by_cases h : 4294967296 ≤ q + 1
        · rw [if_pos (by omega)]
        · rw [if_neg (by omega)]
          have hb := mul_bound (a := q + 1) (b := V0) (by omega) hV0
          have h2 : 4294967296 * r + m < (q + 1) * V0 := by omega
          rw [← Int.natCast_mul, u64n hb, u64w, u64w, decide_eq_true (by omega)]
      · by_cases hbr : 4294967296 ≤ r + V1
        · have hQ : q = (R * 4294967296 + m) / y := by
            rw [hy] at hge' ⊢
            refine digit_is V1 V0 R m q (r + V1) (by omega) ?_ hge' (by omega)
            have := mul_bound (a := q) (b := V0) (by omega) hV0
            omega
          refine Ev.step (f := fun _ => some _) (fun k => ?_) (Ev.now _)
          simp only [bits_Div64.j4]
          rw [if_pos trivial, u64i (x := (r : Int) + (V1 : Int)) (by omega) (by omega), if_pos (by omega), u64i (x := ((q + 1 : Nat) : Int) - 1) (by omega) (by omega), show ((q + 1 : Nat) : Int) - 1 = (q : Int) by omega]
          exact hfin q hQ
        · refine Ev.step (f := fun k => bits_Div64.l1 k (y : Int) (s : Int) (V1 : Int) (V0 : Int) (m : Int) (q1 : Int) ((r + V1 : Nat) : Int) (R : Int) (q : Int)) (fun k => ?_) (ih (r + V1) (by omega) (by omega) hge' (by omega))
          simp only [bits_Div64.j4]
          rw [if_pos trivial, u64i (x := (r : Int) + (V1 : Int)) (by omega) (by omega), if_neg (by omega), u64i (x := ((q + 1 : Nat) : Int) - 1) (by omega) (by omega), show ((q + 1 : Nat) : Int) - 1 = (q : Int) by omega]
          rfl
    · have hQ : q + 1 = (R * 4294967296 + m) / y := by
        rw [hy] at hge ⊢
        exact digit_is V1 V0 R m (q + 1) r hq (by omega) hge (by omega)
      refine Ev.step (f := fun k => bits_Div64.j4 k (y : Int) (s : Int) (V1 : Int) (V0 : Int) (m : Int) (q1 : Int) (r : Int) (R : Int) ((q + 1 : Nat) : Int) false) (fun k => ?_) (Ev.step (f := fun _ => some _) (fun k => ?_) (Ev.now _))
      · simp only [bits_Div64.l1]
        have hb := mul_bound (a := q + 1) (b := V0) (by omega) hV0
        rw [if_neg (by omega), ← Int.natCast_mul, u64n hb, u64w, u64w, decide_eq_false (by omega)]
      · simp only [bits_Div64.j4]
        rw [if_neg Bool.false_ne_true]
        exact hfin (q + 1) hQ
theorem div_l0 {α : Type} (V1 V0 u n m s y : Nat) (hy : y = V1 * 4294967296 + V0) (hV1 : 2147483648 ≤ V1) (hV1' : V1 < 4294967296) (hV0 : V0 < 4294967296) (hn : n < 4294967296) (hu : u < y) (res : Int × Int)
    (hK : Ev (fun k => bits_Div64.j2 k (y : Int) (s : Int) (V1 : Int) (V0 : Int) (u : Int) (n : Int) (m : Int) (((u * 4294967296 + n) / y : Nat) : Int)) res) :
    ∀ q r : Nat, q * V1 + r = u → r < 4294967296 → (u * 4294967296 + n) / y ≤ q → q ≤ 4294967297 →
      Ev (fun k => bits_Div64.l0 k (y : Int) (s : Int) (V1 : Int) (V0 : Int) (u : Int) (n : Int) (m : Int) (q : Int) (r : Int)) res := by
  intro q
  induction q with
  | zero =>
    intro r hq hr hge hle
    have hQ : 0 = (u * 4294967296 + n) / y := (Nat.le_zero.1 hge).symm
    rw [← hQ] at hK
    refine Ev.step (f := fun k => bits_Div64.j1 k (y : Int) (s : Int) (V1 : Int) (V0 : Int) (u : Int) (n : Int) (m : Int) ((0 : Nat) : Int) (r : Int) false) (fun k => ?_) (Ev.step (fun k => ?_) hK)
    · simp only [bits_Div64.l0]
      rw [if_neg (by omega), u64w, u64w, u64w, decide_eq_false (by omega)]
    · simp only [bits_Div64.j1]
      rw [if_neg Bool.false_ne_true]
  | succ q ih =>
    intro r hq hr hge hle
    by_cases ht : 4294967296 ≤ q + 1 ∨ 4294967296 * r + n < (q + 1) * V0
    · have hge' : (u * 4294967296 + n) / y ≤ q := by
        have : (u * 4294967296 + n) / y < q + 1 := by
          rcases ht with h | h
          · have := digit_big V1 V0 u n (by omega) hn (by omega)
            rw [← hy] at this; omega
          · have := digit_less V1 V0 u n (q + 1) r hq h (by omega)
            rw [← hy] at this; exact this
        omega
      rw [Nat.succ_mul] at hq
      refine Ev.step (f := fun k => bits_Div64.j1 k (y : Int) (s : Int) (V1 : Int) (V0 : Int) (u : Int) (n : Int) (m : Int) ((q + 1 : Nat) : Int) (r : Int) true) (fun k => ?_) ?_
      · simp only [bits_Div64.l0]
        by_cases h : 4294967296 ≤ q + 1
        · rw [if_pos (by omega)]
        · rw [if_neg (by omega)]
          have hb := mul_bound (a := q + 1) (b := V0) (by omega) hV0
          have h2 : 4294967296 * r + n < (q + 1) * V0 := by omega
          rw [← Int.natCast_mul, u64n hb, u64w, u64w, decide_eq_true (by omega)]
      · by_cases hbr : 4294967296 ≤ r + V1
        · have hQ : q = (u * 4294967296 + n) / y := by
            rw [hy] at hge' ⊢
            refine digit_is V1 V0 u n q (r + V1) (by omega) ?_ hge' (by omega)
            have := mul_bound (a := q) (b := V0) (by omega) hV0
            omega
          rw [← hQ] at hK
          refine Ev.step (fun k => ?_) hK
          simp only [bits_Div64.j1]
          rw [if_pos trivial, u64i (x := (r : Int) + (V1 : Int)) (by omega) (by omega), if_pos (by omega), u64i (x := ((q + 1 : Nat) : Int) - 1) (by omega) (by omega), show ((q + 1 : Nat) : Int) - 1 = (q : Int) by omega]
        · refine Ev.step (f := fun k => bits_Div64.l0 k (y : Int) (s : Int) (V1 : Int) (V0 : Int) (u : Int) (n : Int) (m : Int) (q : Int) ((r + V1 : Nat) : Int)) (fun k => ?_) (ih (r + V1) (by omega) (by omega) hge' (by omega))
          simp only [bits_Div64.j1]
          rw [if_pos trivial, u64i (x := (r : Int) + (V1 : Int)) (by omega) (by omega), if_neg (by omega), u64i (x := ((q + 1 : Nat) : Int) - 1) (by omega) (by omega), show ((q + 1 : Nat) : Int) - 1 = (q : Int) by omega]
          rfl
    · have hQ : q + 1 = (u * 4294967296 + n) / y := by
        rw [hy] at hge ⊢
        exact digit_is V1 V0 u n (q + 1) r hq (by omega) hge (by omega)
      rw [← hQ] at hK
      refine Ev.step (f := fun k => bits_Div64.j1 k (y : Int) (s : Int) (V1 : Int) (V0 : Int) (u : Int) (n : Int) (m : Int) ((q + 1 : Nat) : Int) (r : Int) false) (fun k => ?_) (Ev.step (fun k => ?_) hK)
      · simp only [bits_Div64.l0]
        have hb := mul_bound (a := q + 1) (b := V0) (by omega) hV0
        rw [if_neg (by omega), ← Int.natCast_mul, u64n hb, u64w, u64w, decide_eq_false (by omega)]
      · simp only [bits_Div64.j1]
        rw [if_neg Bool.false_ne_true]
theorem div_j2 (V1 V0 u n m s y : Nat) (hy : y = V1 * 4294967296 + V0) (hV1 : 2147483648 ≤ V1) (hV1' : V1 < 4294967296) (hV0 : V0 < 4294967296) (hn : n < 4294967296) (hm : m < 4294967296) (hu : u < y) :
    Ev (fun k => bits_Div64.j2 k (y : Int) (s : Int) (V1 : Int) (V0 : Int) (u : Int) (n : Int) (m : Int) (((u * 4294967296 + n) / y : Nat) : Int))
      ((((u * 18446744073709551616 + n * 4294967296 + m) / y : Nat) : Int), shr .u64 (((u * 18446744073709551616 + n * 4294967296 + m) % y : Nat) : Int) (s : Int)) := by
  have hle := Nat.div_mul_le_self (u * 4294967296 + n) y
  have hlt := Nat.lt_div_mul_add (a := u * 4294967296 + n) (b := y) (by omega)
  have hbig := digit_big V1 V0 u n (by omega) hn (by omega)
  rw [← hy] at hbig
  have two := two_digits y u n m ((u * 4294967296 + n) / y) (((u * 4294967296 + n - (u * 4294967296 + n) / y * y) * 4294967296 + m) / y) (by omega) rfl rfl hm
  obtain ⟨q1, hq⟩ : ∃ q1, q1 = (u * 4294967296 + n) / y := ⟨_, rfl⟩
  rw [← hq] at hle hlt hbig two ⊢
  obtain ⟨R, hR⟩ : ∃ R, R = u * 4294967296 + n - q1 * y := ⟨_, rfl⟩
  rw [← hR] at two
  have hRy : R < y := by omega
  have hR1 : R / V1 * V1 + (R - R / V1 * V1) = R := by have := Nat.div_mul_le_self R V1; omega
  have hr : R - R / V1 * V1 < V1 := by have := Nat.lt_div_mul_add (a := R) (b := V1) (by omega); omega
  have hg := guess_ge V1 V0 R m hm (by omega)
  rw [← hy] at hg
  have hgl := guess_le V1 V0 R (by omega) hV0 hV1
  have key := div_l1 V1 V0 R m s y q1 hy hV1 hV1' hV0 hm hRy hbig (R / V1) (R - R / V1 * V1) hR1 (by omega) hg hgl
  rw [two.1, two.2] at key
  refine Ev.step (fun k => ?_) key
  simp only [bits_Div64.j2]
  have e1 : IntKind.u64.wrap (IntKind.u64.wrap (IntKind.u64.wrap ((u : Int) * 4294967296) + (n : Int)) - IntKind.u64.wrap ((q1 : Int) * (y : Int))) = (R : Int) := by
    rw [← Int.natCast_mul, rest_is u n (q1 * y) y hle (by omega), hR]
  rw [if_neg (by omega), e1, Int.tdiv_eq_ediv_of_nonneg (by omega), ← Int.natCast_ediv, u64n (n := R / V1) (by omega), ← Int.natCast_mul]
  have hle2 := Nat.div_mul_le_self R V1
  rw [u64n (n := R / V1 * V1) (by omega), u64i (by omega) (by omega), ← Int.natCast_sub hle2]
theorem and_mask (x : Nat) (h : x < 18446744073709551616) : Go.bits .and .u64 (x : Int) 4294967295 = ((x % 4294967296 : Nat) : Int) := by
  have h1 := (bits_nat .u64 64 (by decide) (fun n h0 h1 => by rw [u64w]; omega) x 4294967295 (by omega) (by decide)).1
  have e : x &&& 4294967295 = x % 4294967296 := Nat.and_two_pow_sub_one_eq_mod x 32
  rw [e] at h1
  exact h1
theorem or_join (a b s : Nat) (hb : b < 2 ^ s) (h : a * 2 ^ s + b < 18446744073709551616) : Go.bits .or .u64 ((a * 2 ^ s : Nat) : Int) (b : Int) = ((a * 2 ^ s + b : Nat) : Int) := by
  have h1 := (bits_nat .u64 64 (by decide) (fun n h0 h1 => by rw [u64w]; omega) (a * 2 ^ s) b (by omega) (by omega)).2
  have e : a * 2 ^ s ||| b = a * 2 ^ s + b := by rw [Nat.mul_comm, Nat.two_pow_add_eq_or_of_lt hb]
  rw [e] at h1
  exact h1
theorem shl_nat (x s : Nat) (hs : s ≤ 64) : shl .u64 (x : Int) (s : Int) = ((x * 2 ^ s % 18446744073709551616 : Nat) : Int) := by
  unfold shl
  have e : min (s : Int).toNat IntKind.u64.bits = s := by show min (s : Int).toNat 64 = s; omega
  rw [e, u64w]
  have e2 : (x : Int) * 2 ^ s = ((x * 2 ^ s : Nat) : Int) := by simp
  rw [e2]
  omega
theorem shr_nat (x s : Nat) (hs : s ≤ 64) : shr .u64 (x : Int) (s : Int) = ((x / 2 ^ s : Nat) : Int) := by
  unfold shr
  have e : min (s : Int).toNat IntKind.u64.bits = s := by show min (s : Int).toNat 64 = s; omega
  rw [e]
  have e2 : ((2 : Int) ^ s) = ((2 ^ s : Nat) : Int) := by simp
  rw [e2, ← Int.natCast_ediv]
theorem shift_sum (P T hi lo : Nat) (hPT : P * T = 18446744073709551616) (hT : 0 < T) :
    (hi * P + lo / T) * 18446744073709551616 + lo * P % 18446744073709551616 = P * (hi * 18446744073709551616 + lo) := by
  have e1 : lo * P % 18446744073709551616 = lo % T * P := by rw [← hPT, Nat.mul_comm P T, Nat.mul_mod_mul_right]
  have e2 := Nat.div_add_mod lo T
  rw [e1, ← hPT]
  generalize lo / T = a at *
  generalize lo % T = b at *
  rw [← e2]
  simp only [Nat.mul_add, Nat.add_mul]
  have : hi * P * (P * T) = P * (hi * (P * T)) := by rw [Nat.mul_comm hi P, Nat.mul_assoc]
  have : a * (P * T) = P * (T * a) := by rw [Nat.mul_comm a (P * T), Nat.mul_assoc]
  have : b * P = P * b := Nat.mul_comm b P
  omega
theorem pow_split (s : Nat) (hs : s ≤ 64) : 2 ^ s * 2 ^ (64 - s) = 18446744073709551616 := by
  rw [← Nat.pow_add, show s + (64 - s) = 64 by omega]
theorem div_ev (hi lo d : Nat) (hd : 0 < d) (hd64 : d < 18446744073709551616) (hhi : hi < d) (hlo : lo < 18446744073709551616) :
    Ev (fun k => bits_Div64.f k (hi : Int) (lo : Int) (d : Int)) ((((hi * 18446744073709551616 + lo) / d : Nat) : Int), (((hi * 18446744073709551616 + lo) % d : Nat) : Int)) := by
  by_cases h0 : hi = 0
  · subst h0
    refine Ev.congr (f := fun _ => some _) (fun k => ?_) (Ev.now _)
    unfold bits_Div64.f
    rw [if_neg (by omega), if_neg (by omega), if_pos (by omega), Int.tdiv_eq_ediv_of_nonneg (by omega), Int.tmod_eq_emod_of_nonneg (by omega), ← Int.natCast_ediv, ← Int.natCast_emod, u64n (Nat.lt_of_le_of_lt (Nat.div_le_self _ _) hlo)]
    simp
  · obtain ⟨hL1, hL2, hL3⟩ := Lib.bitLenAux_bounds 64 d (by omega) (by omega)
    have hL64 : Lib.bitLenAux 64 d ≤ 64 := by
      rcases Nat.lt_or_ge 64 (Lib.bitLenAux 64 d) with h | h
      · have := Nat.pow_le_pow_right (n := 2) (by decide) (show 64 ≤ Lib.bitLenAux 64 d - 1 by omega)
        omega
      · exact h
    have hLZ : bits_LeadingZeros64.f (d : Int) = some ((64 - Lib.bitLenAux 64 d : Nat) : Int) := by
      unfold bits_LeadingZeros64.f
      rw [if_pos ⟨by omega, by omega⟩]
      congr 1
      show (64 : Int) - (Lib.bitLenAux 64 (d : Int).toNat : Int) = _
      rw [Int.toNat_natCast]
      omega
    generalize Lib.bitLenAux 64 d = L at *
    obtain ⟨s, hs⟩ : ∃ s, s = 64 - L := ⟨_, rfl⟩
    rw [← hs] at hLZ
    have hs64 : s ≤ 63 := by omega
    have hPT := pow_split s (by omega)
    have hLs : 2 ^ (L - 1) * 2 ^ s = 9223372036854775808 := by rw [← Nat.pow_add, show L - 1 + s = 63 by omega]
    have hLs2 : 2 ^ L * 2 ^ s = 18446744073709551616 := by rw [← Nat.pow_add, show L + s = 64 by omega]
    have hy1 : 9223372036854775808 ≤ d * 2 ^ s := by rw [← hLs]; exact Nat.mul_le_mul_right _ hL2
    have hP : 0 < 2 ^ s := Nat.two_pow_pos s
    have hT : 0 < 2 ^ (64 - s) := Nat.two_pow_pos _
    have hy2 : d * 2 ^ s < 18446744073709551616 := by rw [← hLs2]; exact Nat.mul_lt_mul_of_pos_right hL3 hP
    have hloT : lo / 2 ^ (64 - s) < 2 ^ s := by rw [Nat.div_lt_iff_lt_mul hT, hPT]; exact hlo
    have hhy : hi * 2 ^ s + 2 ^ s ≤ d * 2 ^ s := by rw [← Nat.succ_mul]; exact Nat.mul_le_mul_right _ hhi
    have hsum := shift_sum (2 ^ s) (2 ^ (64 - s)) hi lo hPT hT
    have hor := or_join hi (lo / 2 ^ (64 - s)) s hloT (by omega)
    have hshl1 := shl_nat d s (by omega)
    have hshl2 := shl_nat hi s (by omega)
    have hshl3 := shl_nat lo s (by omega)
    have hshr1 := shr_nat lo (64 - s) (by omega)
    rw [Nat.mod_eq_of_lt hy2] at hshl1
    rw [Nat.mod_eq_of_lt (by omega)] at hshl2
    have hquo : (2 ^ s * (hi * 18446744073709551616 + lo)) / (d * 2 ^ s) = (hi * 18446744073709551616 + lo) / d := by rw [Nat.mul_comm d, Nat.mul_div_mul_left _ _ hP]
    have hrem : (2 ^ s * (hi * 18446744073709551616 + lo)) % (d * 2 ^ s) / 2 ^ s = (hi * 18446744073709551616 + lo) % d := by rw [Nat.mul_comm d, Nat.mul_mod_mul_left, Nat.mul_div_cancel_left _ hP]
    have hx : lo * 2 ^ s % 18446744073709551616 < 18446744073709551616 := Nat.mod_lt _ (by decide)
    obtain ⟨N, hN⟩ : ∃ N, N = hi * 18446744073709551616 + lo := ⟨_, rfl⟩
    obtain ⟨x, hxx⟩ : ∃ x, x = lo * 2 ^ s % 18446744073709551616 := ⟨_, rfl⟩
    obtain ⟨y, hyy⟩ : ∃ y, y = d * 2 ^ s := ⟨_, rfl⟩
    obtain ⟨u, huu⟩ : ∃ u, u = hi * 2 ^ s + lo / 2 ^ (64 - s) := ⟨_, rfl⟩
    rw [← hN] at hsum hquo hrem ⊢
    rw [← hxx] at hsum hshl3 hx
    rw [← hyy] at hy1 hy2 hhy hshl1 hquo hrem
    rw [← huu] at hsum hor
    have hu : u < y := by omega
    have hV1 : 2147483648 ≤ y / 4294967296 := by omega
    have hj := div_j2 (y / 4294967296) (y % 4294967296) u (x / 4294967296) (x % 4294967296) s y (Nat.div_add_mod' y 4294967296).symm hV1 (by omega) (by omega) (by omega) (by omega) hu
    rw [show u * 18446744073709551616 + x / 4294967296 * 4294967296 + x % 4294967296 = 2 ^ s * N by rw [Nat.add_assoc, Nat.div_add_mod' x 4294967296]; exact hsum, shr_nat _ s (by omega), hquo, hrem] at hj
    have hr1 : u / (y / 4294967296) * (y / 4294967296) + (u - u / (y / 4294967296) * (y / 4294967296)) = u := by have := Nat.div_mul_le_self u (y / 4294967296); omega
    have hr2 : u - u / (y / 4294967296) * (y / 4294967296) < y / 4294967296 := by have := Nat.lt_div_mul_add (a := u) (b := y / 4294967296) (by omega); omega
    have hg := guess_ge (y / 4294967296) (y % 4294967296) u (x / 4294967296) (by omega) (by omega)
    rw [Nat.div_add_mod' y 4294967296] at hg
    have hgl := guess_le (y / 4294967296) (y % 4294967296) u (by omega) (by omega) hV1
    have key := div_l0 (α := Unit) (y / 4294967296) (y % 4294967296) u (x / 4294967296) (x % 4294967296) s y (Nat.div_add_mod' y 4294967296).symm hV1 (by omega) (by omega) (by omega) hu _ hj (u / (y / 4294967296)) (u - u / (y / 4294967296) * (y / 4294967296)) hr1 (by omega) hg hgl
    refine Ev.congr (fun k => ?_) key
    unfold bits_Div64.f
    rw [if_neg (by omega), if_neg (by omega), if_neg (by omega), hLZ]
    simp only [Option.bind_some]
    have ey : ((y : Nat) : Int) / 4294967296 = ((y / 4294967296 : Nat) : Int) := by omega
    have ex : ((x : Nat) : Int) / 4294967296 = ((x / 4294967296 : Nat) : Int) := by omega
    rw [u64n (n := s) (by omega), show (64 : Int) - (s : Int) = ((64 - s : Nat) : Int) by omega, u64n (n := 64 - s) (by omega), hshl1, hshl2, hshl3, hshr1, hor, ey, ex, if_pos (by omega), if_pos (by omega), if_neg (by omega), and_mask y (by omega), and_mask x (by omega), Int.tdiv_eq_ediv_of_nonneg (by omega), ← Int.natCast_ediv, u64n (n := u / (y / 4294967296)) (by omega), ← Int.natCast_mul, u64n (n := u / (y / 4294967296) * (y / 4294967296)) (by omega), ← Int.natCast_sub (by omega), u64n (by omega)]
def ceilP (N d : Nat) : Int × Int := if (N + d - 1) / d ≤ 9223372036854775807 then ((((N + d - 1) / d : Nat) : Int), 0) else (0, 7)
theorem ceil_eq (N d : Nat) (hd : 0 < d) : (N + d - 1) / d = if 0 < N % d then N / d + 1 else N / d := by
  have h := Nat.div_add_mod N d
  have hm := Nat.mod_lt N hd
  generalize N / d = q at *
  generalize N % d = r at *
  subst h
  split
  · rw [show d * q + r + d - 1 = (r - 1) + d * (q + 1) by rw [Nat.mul_succ]; omega, Nat.add_mul_div_left _ _ hd, Nat.div_eq_of_lt (by omega)]; omega
  · rw [show d * q + r + d - 1 = (d - 1) + d * q by omega, Nat.add_mul_div_left _ _ hd, Nat.div_eq_of_lt (by omega)]; omega
theorem over_ev (hi lo d : Nat) (hd : 0 < d) (hd64 : d < 18446744073709551616) (hhi : hi < 18446744073709551616) (hlo : lo < 18446744073709551616) :
    Ev (fun k => quant_over.f k (hi : Int) (lo : Int) (d : Int)) (ceilP (hi * 18446744073709551616 + lo) d) := by
  by_cases h : d ≤ hi
  · have hbig : 18446744073709551616 ≤ (hi * 18446744073709551616 + lo + d - 1) / d := by
      rw [Nat.le_div_iff_mul_le hd]
      have : 18446744073709551616 * d ≤ 18446744073709551616 * hi := Nat.mul_le_mul_left _ h
      omega
    refine Ev.congr (f := fun _ => some _) (fun k => ?_) (Ev.now _)
    unfold quant_over.f ceilP
    rw [if_pos (by omega), if_neg (by omega)]
  · refine Ev.congr (fun k => by unfold quant_over.f; rw [if_neg (by omega)]) (Ev.bind (div_ev hi lo d hd hd64 (by omega) hlo) (Ev.congr (f := fun _ => some _) (fun k => ?_) (Ev.now _)))
    unfold ceilP
    rw [ceil_eq _ _ hd]
    have hq : (hi * 18446744073709551616 + lo) / d < 18446744073709551616 := by
      rw [Nat.div_lt_iff_lt_mul hd]
      have : 18446744073709551616 * (hi + 1) ≤ 18446744073709551616 * d := Nat.mul_le_mul_left _ (by omega)
      omega
    obtain ⟨q, hqq⟩ : ∃ q, q = (hi * 18446744073709551616 + lo) / d := ⟨_, rfl⟩
    obtain ⟨r, hrr⟩ : ∃ r, r = (hi * 18446744073709551616 + lo) % d := ⟨_, rfl⟩
    rw [← hqq] at hq
    rw [← hqq, ← hrr]
    clear hqq hrr
    simp only
    by_cases hr : 0 < r
    · rw [if_pos (by omega), if_pos hr]
      by_cases hz : q + 1 = 18446744073709551616
      · rw [show (q : Int) + 1 = 18446744073709551616 by omega, if_pos (by rw [u64w]; rfl), if_neg (by omega)]
      · rw [u64i (x := (q : Int) + 1) (by omega) (by omega), if_neg (by omega)]
        by_cases hb : q + 1 ≤ 9223372036854775807
        · rw [if_neg (by omega), if_pos hb, w64i (by omega) (by omega)]
          rfl
        · rw [if_pos (by omega), if_neg hb]
    · rw [if_neg (by omega), if_neg hr]
      by_cases hb : q ≤ 9223372036854775807
      · rw [if_neg (by omega), if_pos hb, w64i (by omega) (by omega)]
      · rw [if_pos (by omega), if_neg hb]
end Go.Proofs.YtejgbdclhlolkaaGreatDoor.Q
namespace Go.Proofs.YtejgbdclhlolkaaGreatDoor.Q
open Go.RowKit Go.Proofs.YtejgbdclhlolkaaGreatDoorW.PrintWords Go.Proofs.YtejgbdclhlolkaaGreatDoorW.PrintLast
set_option linter.unusedVariables false
set_option linter.unusedSimpArgs false
def isD (b : UInt8) : Bool := decide (48 ≤ b.toNat) && decide (b.toNat ≤ 57)
theorem contains_digit (b : UInt8) : digitsB.data.toList.contains b = isD b := by
  unfold isD digitsB
  rw [Bool.eq_iff_iff]
  simp only [List.contains_iff_mem, List.mem_cons, List.mem_nil_iff, or_false, Bool.and_eq_true, decide_eq_true_eq, ← UInt8.toNat_inj]
  simp
  omega
theorem dropWhile_nil {α : Type} (p : α → Bool) : ∀ l : List α, l.dropWhile p = [] ↔ ∀ x ∈ l, p x = true
  | [] => by simp
  | a :: l => by
    rw [List.dropWhile_cons]
    cases h : p a with
    | true => rw [if_pos rfl, dropWhile_nil p l]; simp [h]
    | false => rw [if_neg Bool.false_ne_true]; simp [h]
theorem dropWhile_head {α : Type} (p : α → Bool) : ∀ (l : List α) (a : α) (r : List α), l.dropWhile p = a :: r → p a = false
  | [], a, r, h => by simp at h
  | b :: l, a, r, h => by
    rw [List.dropWhile_cons] at h
    cases hb : p b with
    | true => rw [hb, if_pos rfl] at h; exact dropWhile_head p l a r h
    | false => rw [hb, if_neg Bool.false_ne_true] at h; injection h with h1 _; rw [← h1]; exact hb
theorem trim_nil (l : List UInt8) : Lib.trimS l digitsB.data.toList = [] ↔ ∀ b ∈ l, isD b = true := by
  have hc : (fun b => digitsB.data.toList.contains b) = isD := funext contains_digit
  unfold Lib.trimS Lib.trimLeftS Lib.trimRightS
  rw [hc, dropWhile_nil]
  constructor
  · intro h
    have hr : ∀ b ∈ l.reverse, isD b = true := by
      rw [← dropWhile_nil]
      cases hd : l.reverse.dropWhile isD with
      | nil => rfl
      | cons a r =>
        rw [hd] at h
        have h1 := h a (by simp)
        rw [dropWhile_head isD _ a r hd] at h1
        cases h1
    exact fun b hb => hr b (by simpa using hb)
  · intro h b hb
    have hr : l.reverse.dropWhile isD = [] := (dropWhile_nil isD _).2 (fun b hb => h b (by simpa using hb))
    rw [hr] at hb
    simp at hb
theorem allD_iff (s : ByteArray) : allD s = true ↔ s.data.toList ≠ [] ∧ ∀ b ∈ s.data.toList, isD b = true := by
  unfold allD
  rw [Bool.and_eq_true, ByteArray.toList_eq, Bool.not_eq_true', List.isEmpty_eq_false_iff, List.isEmpty_iff, trim_nil]
theorem allD_true {l : List UInt8} (h0 : l ≠ []) (h : ∀ b ∈ l, isD b = true) : allD ⟨l.toArray⟩ = true := (allD_iff _).2 ⟨by simpa using h0, by simpa using h⟩
theorem index_no : ∀ {l : List UInt8}, (∀ b ∈ l, b ≠ 46) → Lib.index l [46] = -1
  | [], _ => rfl
  | b :: l, h => by
    have h1 := index_no (l := l) (fun x hx => h x (by simp [hx]))
    have h2 : ([46] : List UInt8).isPrefixOf (b :: l) = false := by
      simp only [List.isPrefixOf, Bool.and_true, beq_eq_false_iff_ne]
      exact fun e => h b (by simp) e.symm
    unfold Lib.index
    rw [h2, h1]
    rfl
theorem index_at : ∀ {w : List UInt8} (r : List UInt8), (∀ b ∈ w, b ≠ 46) → Lib.index (w ++ 46 :: r) [46] = w.length
  | [], r, _ => by
    rw [List.nil_append]
    unfold Lib.index
    rw [if_pos (by simp [List.isPrefixOf])]
    rfl
  | b :: w, r, h => by
    have h1 := index_at (w := w) r (fun x hx => h x (by simp [hx]))
    have h2 : ([46] : List UInt8).isPrefixOf (b :: (w ++ 46 :: r)) = false := by
      simp only [List.isPrefixOf, Bool.and_true, beq_eq_false_iff_ne]
      exact fun e => h b (by simp) e.symm
    rw [List.cons_append]
    unfold Lib.index
    rw [h2, h1, if_neg Bool.false_ne_true, if_neg (by rw [beq_iff_eq]; omega), List.length_cons]
    omega
theorem cut_no {l : List UInt8} (h : ∀ b ∈ l, b ≠ 46) : Lib.cut l dotSep.data.toList = (l, [], false) := by
  unfold Lib.cut
  rw [show dotSep.data.toList = [46] from rfl, index_no h]
  rfl
theorem cut_dot {w : List UInt8} (r : List UInt8) (h : ∀ b ∈ w, b ≠ 46) : Lib.cut (w ++ 46 :: r) dotSep.data.toList = (w, r, true) := by
  unfold Lib.cut
  rw [show dotSep.data.toList = [46] from rfl, index_at r h, if_pos (by omega), Int.toNat_natCast, List.take_left' rfl]
  congr 2
  show (w ++ 46 :: r).drop (w.length + 1) = r
  rw [← List.drop_drop, List.drop_left' rfl]
  rfl
theorem digit_no_dot {b : UInt8} (h : isD b = true) : b ≠ 46 := fun e => by subst e; exact absurd h (by decide)
def decVal (acc : Nat) (l : List UInt8) : Nat := l.foldl (fun a c => a * 10 + (c.toNat - 48)) acc
theorem decVal_cons (acc : Nat) (c : UInt8) (r : List UInt8) : decVal acc (c :: r) = decVal (acc * 10 + (c.toNat - 48)) r := List.foldl_cons ..
theorem decVal_nil (acc : Nat) : decVal acc [] = acc := List.foldl_nil ..
theorem isD_val {c : UInt8} (h : isD c = true) : 48 ≤ c.toNat ∧ c.toNat ≤ 57 := by
  unfold isD at h
  simpa using h
theorem parse_digits (M : Nat) (hM : M = 18446744073709551615) : ∀ (l : List UInt8) (acc : Nat), (∀ b ∈ l, isD b = true) → l.length ≤ 19 → acc < 10 ^ (19 - l.length) → Lib.parseUintM M acc l = .ok (decVal acc l) ∧ decVal acc l < 10 ^ 19 := by
  intro l
  induction l with
  | nil => intro acc _ _ ha; rw [decVal_nil]; exact ⟨rfl, ha⟩
  | cons c r ih =>
    intro acc h hl ha
    have hc := isD_val (h c (by simp))
    rw [List.length_cons] at hl ha
    have h18 : 10 ^ (19 - (r.length + 1)) ≤ 10 ^ 18 := Nat.pow_le_pow_right (by decide) (by omega)
    have hp : 10 ^ (19 - r.length) = 10 ^ (19 - (r.length + 1)) * 10 := by rw [← Nat.pow_succ]; congr 1; omega
    have hstep : acc * 10 + (c.toNat - 48) < 10 ^ (19 - r.length) := by
      rw [hp]
      generalize 10 ^ (19 - (r.length + 1)) = P at *
      omega
    have key := ih (acc * 10 + (c.toNat - 48)) (fun b hb => h b (by simp [hb])) (by omega) hstep
    have h1 : ¬ 1844674407370955162 ≤ acc := by
      have e18 : (10 : Nat) ^ 18 = 1000000000000000000 := by decide
      omega
    have h2 : ¬ M < acc * 10 + (c.toNat - 48) := by
      have e18 : (10 : Nat) ^ 18 = 1000000000000000000 := by decide
      omega
    have hu : Lib.parseUintM M acc (c :: r) = Lib.parseUintM M (acc * 10 + (c.toNat - 48)) r := by
      conv => lhs; unfold Lib.parseUintM
      rw [if_pos hc, if_neg h1, if_neg h2]
    rw [hu, decVal_cons]
    exact key
theorem parse_ok (l : List UInt8) (h0 : l ≠ []) (h : ∀ b ∈ l, isD b = true) (hl : l.length ≤ 19) : Lib.parseUintB 64 l = .ok (decVal 0 l) ∧ decVal 0 l < 10 ^ 19 := by
  have := parse_digits (2 ^ 64 - 1) (by decide) l 0 h hl (Nat.pow_pos (by decide))
  unfold Lib.parseUintB
  rw [if_neg h0]
  exact this
theorem sfx_rev (text s : ByteArray) : sfxB text s = s.data.toList.reverse.isPrefixOf text.data.toList.reverse := rfl
theorem unit_of (text : ByteArray) (Q S : List UInt8) (c : UInt8) (i : Nat) (hi : i < 12) (hc : isD c = true) (hS : (unitsL[i]'hi).f0.data.toList = S) (ht : text.data.toList = Q ++ c :: S) : unitIx text = i := by
  have hr : text.data.toList.reverse = S.reverse ++ c :: Q.reverse := by rw [ht]; simp
  have hne : ∀ x : UInt8, isD x = false → (x == c) = false := fun x hx => beq_eq_false_iff_ne.2 (fun e => by rw [e, hc] at hx; cases hx)
  have n105 := hne 105 (by decide)
  have n107 := hne 107 (by decide)
  have n77 := hne 77 (by decide)
  have n71 := hne 71 (by decide)
  have n84 := hne 84 (by decide)
  have n80 := hne 80 (by decide)
  have n109 := hne 109 (by decide)
  refine unitIx_eq text i hi ?_ (fun j hj hji => ?_)
  · rw [sfx_rev, hr, hS, List.isPrefixOf_iff_prefix]
    exact List.prefix_append _ _
  · rw [sfx_rev, hr, ← hS]
    obtain rfl | rfl | rfl | rfl | rfl | rfl | rfl | rfl | rfl | rfl | rfl | rfl : i = 0 ∨ i = 1 ∨ i = 2 ∨ i = 3 ∨ i = 4 ∨ i = 5 ∨ i = 6 ∨ i = 7 ∨ i = 8 ∨ i = 9 ∨ i = 10 ∨ i = 11 := by omega
    all_goals
      obtain rfl | rfl | rfl | rfl | rfl | rfl | rfl | rfl | rfl | rfl | rfl : j = 0 ∨ j = 1 ∨ j = 2 ∨ j = 3 ∨ j = 4 ∨ j = 5 ∨ j = 6 ∨ j = 7 ∨ j = 8 ∨ j = 9 ∨ j = 10 := by omega
      all_goals first
        | (exfalso; omega)
        | simp [unitsL, List.isPrefixOf, n105, n107, n77, n71, n84, n80, n109]
theorem num_of (text : ByteArray) (P S : List UInt8) (s : ByteArray) (hs : s.data.toList = S) (ht : text.data.toList = P ++ S) : numOf text s = ⟨P.toArray⟩ := by
  unfold numOf Lib.trimSuffix
  have h : Lib.hasSuffix text.data.toList s.data.toList = true := by
    unfold Lib.hasSuffix
    rw [ht, hs, List.isSuffixOf_iff_suffix]
    exact List.suffix_append _ _
  rw [h, if_pos rfl, ht, hs, List.length_append, Nat.add_sub_cancel, List.take_left' rfl]
def numL (W D : List UInt8) (dot : Bool) : List UInt8 := if dot = true then W ++ 46 :: D else W
structure IsNum (W D : List UInt8) (dot : Bool) : Prop where
  w0 : W ≠ []
  wd : ∀ b ∈ W, isD b = true
  d0 : dot = true → D ≠ []
  dd : ∀ b ∈ D, isD b = true
  dn : dot = false → D = []
theorem num_cut {W D : List UInt8} {dot : Bool} (h : IsNum W D dot) : Lib.cut (numL W D dot) dotSep.data.toList = (W, D, dot) := by
  unfold numL
  cases dot with
  | true => rw [if_pos rfl, cut_dot D (fun b hb => digit_no_dot (h.wd b hb))]
  | false => rw [if_neg Bool.false_ne_true, cut_no (fun b hb => digit_no_dot (h.wd b hb)), h.dn rfl]
theorem num_last {W D : List UInt8} {dot : Bool} (h : IsNum W D dot) : ∃ Q c, numL W D dot = Q ++ [c] ∧ isD c = true := by
  unfold numL
  cases dot with
  | true =>
    rw [if_pos rfl]
    refine ⟨W ++ 46 :: D.dropLast, D.getLast (h.d0 rfl), ?_, h.dd _ (List.getLast_mem _)⟩
    rw [List.append_assoc, List.cons_append, List.dropLast_concat_getLast]
  | false =>
    rw [if_neg Bool.false_ne_true]
    exact ⟨W.dropLast, W.getLast h.w0, (List.dropLast_concat_getLast _).symm, h.wd _ (List.getLast_mem _)⟩
theorem unit_num (text : ByteArray) (W D S : List UInt8) (dot : Bool) (h : IsNum W D dot) (i : Nat) (hi : i < 12) (hS : (unitsL[i]'hi).f0.data.toList = S) (ht : text.data.toList = numL W D dot ++ S) : unitIx text = i := by
  obtain ⟨Q, c, hq, hc⟩ := num_last h
  refine unit_of text Q S c i hi hc hS ?_
  rw [ht, hq]; simp
theorem worth_lt (i : Nat) (hi : i < 12) : ∃ w : Nat, (unitsL[i]'hi).f1 = (w : Int) ∧ 0 < w ∧ w < 18446744073709551616 ∧ w = ((unitsL[i]'hi).f1).toNat := by
  have h : ∀ j : Fin 12, 0 < (unitsL[j.1]'j.2).f1 ∧ (unitsL[j.1]'j.2).f1 < 18446744073709551616 := by decide
  have := h ⟨i, hi⟩
  exact ⟨((unitsL[i]'hi).f1).toNat, by simp only at this; omega, by simp only at this; omega, by simp only at this; omega, rfl⟩
def parseAt (k : Nat) (text s : ByteArray) (wv : Int) : Option (Int × Int) :=
  if text.size < 4611686018427387904 ∧ (numOf text s).size ≤ text.size ∧ (wholeB (numOf text s)).size ≤ text.size ∧ (partB (numOf text s)).size ≤ text.size then
    (if goodB (numOf text s) = true then
      (match Lib.parseUintB 64 (wholeB (numOf text s) ++ partB (numOf text s)).data.toList with
        | .ok u => if u < 18446744073709551616 then quant_over.f k ((u : Int) * wv / 18446744073709551616) ((u : Int) * wv % 18446744073709551616) ((10 ^ (partB (numOf text s)).size : Nat) : Int) else none
        | _ => none)
    else some (0, 30)) else none
theorem parse_is (k : Nat) (text : ByteArray) : quant_Parse.f k text = parseAt k text (unitsL[unitIx text]'(unitIx_lt text)).f0 (unitsL[unitIx text]'(unitIx_lt text)).f1 := rfl
theorem unit_is (text : ByteArray) (i : Nat) (hi : i < 12) (h : unitIx text = i) : unitsL[unitIx text]'(unitIx_lt text) = unitsL[i]'hi := by
  have : ∀ j (hj : j < 12), j = i → unitsL[j]'hj = unitsL[i]'hi := by rintro j hj rfl; rfl
  exact this _ _ h
theorem parse_fwd (text : ByteArray) (W D S : List UInt8) (dot : Bool) (h : IsNum W D dot) (i : Nat) (hi : i < 12) (hS : (unitsL[i]'hi).f0.data.toList = S) (ht : text.data.toList = numL W D dot ++ S) (hl : W.length + D.length ≤ 19) (hsz : text.size < 4611686018427387904) :
    Ev (fun k => quant_Parse.f k text) (ceilP (decVal 0 (W ++ D) * ((unitsL[i]'hi).f1).toNat) (10 ^ D.length)) := by
  obtain ⟨wn, hw, hw0, hw64, hwn⟩ := worth_lt i hi
  have hix := unit_num text W D S dot h i hi hS ht
  have hu := unit_is text i hi hix
  have hn := num_of text (numL W D dot) S (unitsL[i]'hi).f0 hS ht
  have hW : wholeB ⟨(numL W D dot).toArray⟩ = ⟨W.toArray⟩ := by unfold wholeB; rw [List.toList_toArray, num_cut h]
  have hD : partB ⟨(numL W D dot).toArray⟩ = ⟨D.toArray⟩ := by unfold partB; rw [List.toList_toArray, num_cut h]
  have hdt : dotB ⟨(numL W D dot).toArray⟩ = dot := by unfold dotB; rw [List.toList_toArray, num_cut h]
  have hts : text.size = (numL W D dot).length + S.length := by rw [Lib.size_eq, ht, List.length_append]
  have hnl : W.length + D.length ≤ (numL W D dot).length := by
    unfold numL
    cases hd : dot with
    | true => rw [if_pos rfl, List.length_append, List.length_cons]; omega
    | false => rw [if_neg Bool.false_ne_true, h.dn hd]; simp
  have hg : goodB ⟨(numL W D dot).toArray⟩ = true := by
    unfold goodB
    rw [hW, hD, hdt, allD_true h.w0 h.wd]
    have e : decide ((⟨W.toArray⟩ : ByteArray).size + (⟨D.toArray⟩ : ByteArray).size ≤ 19) = true := decide_eq_true (by rw [Lib.size_eq, Lib.size_eq]; simpa using hl)
    rw [e]
    cases hd : dot with
    | true => rw [allD_true (h.d0 hd) h.dd]; rfl
    | false => rfl
  have hcat : ((⟨W.toArray⟩ : ByteArray) ++ (⟨D.toArray⟩ : ByteArray)).data.toList = W ++ D := by simp [ByteArray.data_append]
  have hpo := parse_ok (W ++ D) (by simp [h.w0]) (fun b hb => by rcases List.mem_append.1 hb with hb | hb; exact h.wd b hb; exact h.dd b hb) (by simpa using hl)
  have hu64 : decVal 0 (W ++ D) < 18446744073709551616 := by have := hpo.2; omega
  have hpw : (10 : Nat) ^ D.length ≤ 10 ^ 19 := Nat.pow_le_pow_right (by decide) (by omega)
  have hpw0 : 0 < (10 : Nat) ^ D.length := Nat.pow_pos (by decide)
  have hprod : decVal 0 (W ++ D) * wn < 18446744073709551616 * 18446744073709551616 := Nat.lt_of_le_of_lt (Nat.mul_le_mul_left _ (Nat.le_of_lt hw64)) (Nat.mul_lt_mul_of_pos_right hu64 (by decide))
  have hov := over_ev (decVal 0 (W ++ D) * wn / 18446744073709551616) (decVal 0 (W ++ D) * wn % 18446744073709551616) (10 ^ D.length) hpw0 (by omega) (by rw [Nat.div_lt_iff_lt_mul (by decide)]; exact hprod) (Nat.mod_lt _ (by decide))
  rw [Nat.div_add_mod' , hwn] at hov
  refine Ev.congr (fun k => ?_) hov
  rw [parse_is, hu]
  unfold parseAt
  rw [hn, hW, hD, hcat, hpo.1]
  have hsD : (⟨D.toArray⟩ : ByteArray).size = D.length := by rw [Lib.size_eq]
  have hsW : (⟨W.toArray⟩ : ByteArray).size = W.length := by rw [Lib.size_eq]
  have hsN : (⟨(numL W D dot).toArray⟩ : ByteArray).size = (numL W D dot).length := by rw [Lib.size_eq]
  rw [hsD, hsW, hsN, if_pos ⟨hsz, by omega, by omega, by omega⟩, if_pos hg]
  dsimp only
  rw [if_pos hu64, ← hwn, hw, ← Int.natCast_mul]
  rfl
end Go.Proofs.YtejgbdclhlolkaaGreatDoor.Q
namespace Go.Proofs.YtejgbdclhlolkaaGreatDoor.Q
open Go.RowKit Go.Proofs.YtejgbdclhlolkaaGreatDoorW.PrintWords Go.Proofs.YtejgbdclhlolkaaGreatDoorW.PrintLast
set_option linter.unusedVariables false
set_option linter.unusedSimpArgs false
def nd (n : Nat) : Nat := (Lib.decDigits n).length
theorem dec_small {n : Nat} (h : n < 10) : Lib.decDigits n = [UInt8.ofNat (48 + n)] := by rw [Lib.decDigits, dif_pos h]
theorem dec_big {n : Nat} (h : 10 ≤ n) : Lib.decDigits n = Lib.decDigits (n / 10) ++ [UInt8.ofNat (48 + n % 10)] := by rw [Lib.decDigits, dif_neg (by omega)]
theorem nd_small {n : Nat} (h : n < 10) : nd n = 1 := by unfold nd; rw [dec_small h]; rfl
theorem nd_big {n : Nat} (h : 10 ≤ n) : nd n = nd (n / 10) + 1 := by unfold nd; rw [dec_big h]; simp
theorem nd_pos (n : Nat) : 1 ≤ nd n := by
  by_cases h : n < 10
  · rw [nd_small h]; exact Nat.le_refl _
  · rw [nd_big (by omega)]; omega
theorem nd_mono : ∀ (m n : Nat), n ≤ m → nd n ≤ nd m := by
  intro m
  induction m using Nat.strongRecOn with
  | _ m ih =>
    intro n h
    by_cases h1 : n < 10
    · rw [nd_small h1]; exact nd_pos m
    · rw [nd_big (show 10 ≤ n by omega), nd_big (show 10 ≤ m by omega)]
      have := ih (m / 10) (by omega) (n / 10) (by omega)
      omega
theorem nd_thousand {n : Nat} (h : 1 ≤ n) : nd (1000 * n) = nd n + 3 := by
  rw [nd_big (show 10 ≤ 1000 * n by omega), show 1000 * n / 10 = 100 * n by omega, nd_big (show 10 ≤ 100 * n by omega), show 100 * n / 10 = 10 * n by omega, nd_big (show 10 ≤ 10 * n by omega), show 10 * n / 10 = n by omega]
theorem nd_le : ∀ (k n : Nat), 1 ≤ k → n < 10 ^ k → nd n ≤ k := by
  intro k
  induction k with
  | zero => intro n h; omega
  | succ k ih =>
    intro n _ h
    by_cases h1 : n < 10
    · rw [nd_small h1]; omega
    · rw [nd_big (by omega)]
      by_cases hk : k = 0
      · subst hk; simp at h; omega
      · have := ih (n / 10) (by omega) (by rw [Nat.pow_succ] at h; omega)
        omega
theorem nd19 {n : Nat} (h : n ≤ 9223372036854775807) : nd n ≤ 19 := nd_le 19 n (by decide) (by omega)
theorem dg_byte {d : Nat} (h : d < 10) : isD (UInt8.ofNat (48 + d)) = true ∧ (UInt8.ofNat (48 + d)).toNat - 48 = d := by
  have : ∀ d : Fin 10, isD (UInt8.ofNat (48 + d.1)) = true ∧ (UInt8.ofNat (48 + d.1)).toNat - 48 = d.1 := by decide
  exact this ⟨d, h⟩
theorem dec_digits (n : Nat) : ∀ b ∈ Lib.decDigits n, isD b = true := by
  induction n using Nat.strongRecOn with
  | _ n ih =>
    by_cases h : n < 10
    · rw [dec_small h]
      intro b hb
      rw [List.mem_singleton.1 hb]
      exact (dg_byte h).1
    · rw [dec_big (by omega)]
      intro b hb
      rcases List.mem_append.1 hb with hb | hb
      · exact ih (n / 10) (by omega) b hb
      · rw [List.mem_singleton.1 hb]
        exact (dg_byte (by omega)).1
theorem dec_ne (n : Nat) : Lib.decDigits n ≠ [] := fun h => by have := nd_pos n; unfold nd at this; rw [h] at this; simp at this
theorem decVal_app (l r : List UInt8) : ∀ acc, decVal acc (l ++ r) = decVal (decVal acc l) r := by
  induction l with
  | nil => intro acc; rfl
  | cons c l ih => intro acc; rw [List.cons_append, decVal_cons, decVal_cons]; exact ih _
theorem decVal_dec (n : Nat) : decVal 0 (Lib.decDigits n) = n := by
  induction n using Nat.strongRecOn with
  | _ n ih =>
    by_cases h : n < 10
    · rw [dec_small h]
      rw [decVal_cons, decVal_nil]
      rw [(dg_byte h).2]; omega
    · rw [dec_big (by omega), decVal_app, ih (n / 10) (by omega)]
      rw [decVal_cons, decVal_nil]
      rw [(dg_byte (by omega)).2]; omega
theorem numeral_list (n : Nat) : (numeral n).data.toList = Lib.decDigits n := by simp [numeral]
theorem numeral_size (n : Nat) : (numeral n).size = nd n := by rw [Lib.size_eq, numeral_list]; rfl
theorem itoa_nat (n : Nat) : itoaB (n : Int) = numeral n := by
  unfold itoaB numeral Lib.itoa
  rw [if_neg (by omega), Int.toNat_natCast]
def formG (v : Nat) : List S66 → ByteArray → ByteArray
  | [], b => b
  | u :: r, b => formG v r (if v % u.f1.toNat = 0 then numeral (v / u.f1.toNat) ++ u.f0 else b)
theorem rd66 (l : List S66) (i : Nat) (h : i < l.length) : rd_T66 l (i : Int) = l[i] := by simp [rd_T66, List.getD_eq_getElem?_getD, h]
theorem form_l0 (v : Nat) (hv : v ≤ 9223372036854775807) (l : List S66) (hl : l.length < 1000) (hw : ∀ u ∈ l, 0 < u.f1 ∧ u.f0.size < 1000) : ∀ (m i : Nat) (b : ByteArray), i + m = l.length → Ev (fun k => quant_form.l0 k (v : Int) b l (l.length : Int) (i : Int)) (formG v (l.drop i) b) := by
  intro m
  induction m with
  | zero =>
    intro i b hi
    rw [List.drop_eq_nil_of_le (by omega)]
    refine Ev.step (f := fun _ => some b) (fun k => ?_) (Ev.now _)
    simp only [quant_form.l0]
    rw [if_neg (by omega)]
  | succ m ih =>
    intro i b hi
    have hil : i < l.length := by omega
    rw [List.drop_eq_getElem_cons hil, formG]
    obtain ⟨h0, hs⟩ := hw l[i] (List.getElem_mem hil)
    have key := ih (i + 1) (if v % (l[i]).f1.toNat = 0 then numeral (v / (l[i]).f1.toNat) ++ (l[i]).f0 else b) (by omega)
    have hwi : wrap64 ((i : Int) + 1) = ((i + 1 : Nat) : Int) := by unfold wrap64; omega
    refine Ev.step (fun k => ?_) key
    simp only [quant_form.l0]
    rw [if_pos (by omega), if_pos (by omega), if_pos (by omega), rd66 l i hil, hwi]
    generalize (l[i]).f0 = s at *
    obtain ⟨w, hww⟩ : ∃ w : Nat, (l[i]).f1 = (w : Int) := ⟨(l[i]).f1.toNat, by omega⟩
    rw [hww] at h0 ⊢
    rw [if_neg (by omega), Int.tmod_eq_emod_of_nonneg (by omega), Int.tdiv_eq_ediv_of_nonneg (by omega), Int.toNat_natCast, ← Int.natCast_emod, ← Int.natCast_ediv]
    have hq : v / w ≤ v := Nat.div_le_self _ _
    clear key ih hwi
    obtain ⟨q, hqq⟩ : ∃ q, q = v / w := ⟨_, rfl⟩
    obtain ⟨r, hrr⟩ : ∃ r, r = v % w := ⟨_, rfl⟩
    rw [← hqq] at hq ⊢
    rw [← hrr]
    clear hqq hrr
    by_cases hm : r = 0
    · rw [if_pos (by omega), if_pos hm]
      have hf : strconv_FormatUint.f (IntKind.u64.wrap (q : Int)) 10 = some (numeral q) := by
        rw [u64n (by omega)]
        unfold strconv_FormatUint.f
        rw [if_pos ⟨by omega, by omega, rfl⟩, Int.toNat_natCast]
      have h19 := nd19 (n := q) (by omega)
      rw [hf, Option.bind_some, if_pos (by rw [numeral_size]; omega)]
    · rw [if_neg (by omega), if_neg hm]
theorem form_ev (v : Nat) (hv : v ≤ 9223372036854775807) (l : List S66) (hl : l.length < 1000) (hw : ∀ u ∈ l, 0 < u.f1 ∧ u.f0.size < 1000) : Ev (fun k => quant_form.f k (v : Int) l) (formG v l ⟨#[]⟩) :=
  form_l0 v hv l hl hw l.length 0 _ (by omega)
def sufB (i : Nat) : ByteArray := (unitsL.getD i ⟨⟨#[]⟩, 0⟩).f0
def wN (i : Nat) : Nat := (unitsL.getD i ⟨⟨#[]⟩, 0⟩).f1.toNat
def txt (v i : Nat) : ByteArray := numeral (v / wN i) ++ sufB i
def lenT (v i : Nat) : Nat := nd (v / wN i) + (sufB i).size
theorem txt_size (v i : Nat) : (txt v i).size = lenT v i := by unfold txt lenT; rw [ByteArray.size_append, numeral_size]
theorem tens_is (v : Nat) : formG v tensL ⟨#[]⟩ = if v % 1000000000000000000 = 0 then txt v 9 else if v % 1000000000000000 = 0 then txt v 8 else if v % 1000000000000 = 0 then txt v 7 else if v % 1000000000 = 0 then txt v 6 else if v % 1000000 = 0 then txt v 5 else ⟨#[]⟩ := rfl
theorem twos_is (v : Nat) : formG v twosL ⟨#[]⟩ = if v % 1125899906842624000 = 0 then txt v 4 else if v % 1099511627776000 = 0 then txt v 3 else if v % 1073741824000 = 0 then txt v 2 else if v % 1048576000 = 0 then txt v 1 else if v % 1024000 = 0 then txt v 0 else ⟨#[]⟩ := rfl
theorem nd_1024 {n : Nat} (h : 1 ≤ n) : nd n + 3 ≤ nd (1024 * n) := by
  have h1 := nd_thousand h
  have h2 := nd_mono (1024 * n) (1000 * n) (by omega)
  omega
theorem bytes_empty_iff (b : ByteArray) : b.toList = [] ↔ b.size = 0 := by
  rw [ByteArray.toList_eq, Lib.size_eq, List.length_eq_zero_iff]
theorem txt_ne (v i : Nat) : (txt v i).toList ≠ [] := by
  rw [Ne, bytes_empty_iff, txt_size]
  have := nd_pos (v / wN i)
  unfold lenT
  omega
def IsTens (i : Nat) : Prop := i = 11 ∨ i = 5 ∨ i = 6 ∨ i = 7 ∨ i = 8 ∨ i = 9
def IsTwos (i : Nat) : Prop := i = 0 ∨ i = 1 ∨ i = 2 ∨ i = 3 ∨ i = 4
theorem tens_min (v : Nat) (hv : 0 < v) (hm : v % 1000 = 0) : ∃ i, IsTens i ∧ tensOf (v : Int) (formG v tensL ⟨#[]⟩) = txt v i ∧ v % wN i = 0 ∧ ∀ j, IsTens j → v % wN j = 0 → lenT v i ≤ lenT v j := by
  have f9 : v % 1000000000000000000 = 0 → nd (v / 1000000000000000) = nd (v / 1000000000000000000) + 3 := fun h => by rw [show v / 1000000000000000 = 1000 * (v / 1000000000000000000) by omega]; exact nd_thousand (by omega)
  have f8 : v % 1000000000000000 = 0 → nd (v / 1000000000000) = nd (v / 1000000000000000) + 3 := fun h => by rw [show v / 1000000000000 = 1000 * (v / 1000000000000000) by omega]; exact nd_thousand (by omega)
  have f7 : v % 1000000000000 = 0 → nd (v / 1000000000) = nd (v / 1000000000000) + 3 := fun h => by rw [show v / 1000000000 = 1000 * (v / 1000000000000) by omega]; exact nd_thousand (by omega)
  have f6 : v % 1000000000 = 0 → nd (v / 1000000) = nd (v / 1000000000) + 3 := fun h => by rw [show v / 1000000 = 1000 * (v / 1000000000) by omega]; exact nd_thousand (by omega)
  have f5 : v % 1000000 = 0 → nd (v / 1000) = nd (v / 1000000) + 3 := fun h => by rw [show v / 1000 = 1000 * (v / 1000000) by omega]; exact nd_thousand (by omega)
  have d8 : v % 1000000000000000000 = 0 → v % 1000000000000000 = 0 := fun h => by omega
  have d7 : v % 1000000000000000 = 0 → v % 1000000000000 = 0 := fun h => by omega
  have d6 : v % 1000000000000 = 0 → v % 1000000000 = 0 := fun h => by omega
  have d5 : v % 1000000000 = 0 → v % 1000000 = 0 := fun h => by omega
  have e9 : lenT v 9 = nd (v / 1000000000000000000) + 1 := rfl
  have e8 : lenT v 8 = nd (v / 1000000000000000) + 1 := rfl
  have e7 : lenT v 7 = nd (v / 1000000000000) + 1 := rfl
  have e6 : lenT v 6 = nd (v / 1000000000) + 1 := rfl
  have e5 : lenT v 5 = nd (v / 1000000) + 1 := rfl
  have e11 : lenT v 11 = nd (v / 1000) + 0 := rfl
  have w9 : v % wN 9 = v % 1000000000000000000 := rfl
  have w8 : v % wN 8 = v % 1000000000000000 := rfl
  have w7 : v % wN 7 = v % 1000000000000 := rfl
  have w6 : v % wN 6 = v % 1000000000 := rfl
  have w5 : v % wN 5 = v % 1000000 := rfl
  have w11 : v % wN 11 = v % 1000 := rfl
  have hto : ∀ i, tensOf (v : Int) (txt v i) = txt v i := fun i => by unfold tensOf; rw [if_neg (txt_ne v i)]
  have h11 : tensOf (v : Int) ⟨#[]⟩ = txt v 11 := by
    unfold tensOf
    rw [if_pos ((bytes_empty_iff _).2 rfl), show ((v : Int) / 1000).toNat = v / 1000 by omega]
    unfold txt
    rw [show sufB 11 = ByteArray.empty from rfl, ByteArray.append_empty]
    rfl
  rw [tens_is]
  generalize nd (v / 1000000000000000000) = n9 at *
  generalize nd (v / 1000000000000000) = n8 at *
  generalize nd (v / 1000000000000) = n7 at *
  generalize nd (v / 1000000000) = n6 at *
  generalize nd (v / 1000000) = n5 at *
  generalize nd (v / 1000) = n11 at *
  generalize v % 1000000000000000000 = r9 at *
  generalize v % 1000000000000000 = r8 at *
  generalize v % 1000000000000 = r7 at *
  generalize v % 1000000000 = r6 at *
  generalize v % 1000000 = r5 at *
  by_cases c9 : r9 = 0
  · rw [if_pos c9, hto]
    refine ⟨9, by unfold IsTens; omega, rfl, by omega, fun j hj hd => ?_⟩
    rcases hj with rfl | rfl | rfl | rfl | rfl | rfl <;> omega
  · rw [if_neg c9]
    by_cases c8 : r8 = 0
    · rw [if_pos c8, hto]
      refine ⟨8, by unfold IsTens; omega, rfl, by omega, fun j hj hd => ?_⟩
      rcases hj with rfl | rfl | rfl | rfl | rfl | rfl <;> omega
    · rw [if_neg c8]
      by_cases c7 : r7 = 0
      · rw [if_pos c7, hto]
        refine ⟨7, by unfold IsTens; omega, rfl, by omega, fun j hj hd => ?_⟩
        rcases hj with rfl | rfl | rfl | rfl | rfl | rfl <;> omega
      · rw [if_neg c7]
        by_cases c6 : r6 = 0
        · rw [if_pos c6, hto]
          refine ⟨6, by unfold IsTens; omega, rfl, by omega, fun j hj hd => ?_⟩
          rcases hj with rfl | rfl | rfl | rfl | rfl | rfl <;> omega
        · rw [if_neg c6]
          by_cases c5 : r5 = 0
          · rw [if_pos c5, hto]
            refine ⟨5, by unfold IsTens; omega, rfl, by omega, fun j hj hd => ?_⟩
            rcases hj with rfl | rfl | rfl | rfl | rfl | rfl <;> omega
          · rw [if_neg c5, h11]
            refine ⟨11, by unfold IsTens; omega, rfl, by omega, fun j hj hd => ?_⟩
            rcases hj with rfl | rfl | rfl | rfl | rfl | rfl <;> omega
theorem twos_min (v : Nat) (hv : 0 < v) : (formG v twosL ⟨#[]⟩ = ⟨#[]⟩ ∧ ∀ j, IsTwos j → v % wN j ≠ 0) ∨ ∃ i, IsTwos i ∧ formG v twosL ⟨#[]⟩ = txt v i ∧ v % wN i = 0 ∧ ∀ j, IsTwos j → v % wN j = 0 → lenT v i ≤ lenT v j := by
  have f4 : v % 1125899906842624000 = 0 → nd (v / 1125899906842624000) + 3 ≤ nd (v / 1099511627776000) := fun h => by rw [show v / 1099511627776000 = 1024 * (v / 1125899906842624000) by omega]; exact nd_1024 (by omega)
  have f3 : v % 1099511627776000 = 0 → nd (v / 1099511627776000) + 3 ≤ nd (v / 1073741824000) := fun h => by rw [show v / 1073741824000 = 1024 * (v / 1099511627776000) by omega]; exact nd_1024 (by omega)
  have f2 : v % 1073741824000 = 0 → nd (v / 1073741824000) + 3 ≤ nd (v / 1048576000) := fun h => by rw [show v / 1048576000 = 1024 * (v / 1073741824000) by omega]; exact nd_1024 (by omega)
  have f1 : v % 1048576000 = 0 → nd (v / 1048576000) + 3 ≤ nd (v / 1024000) := fun h => by rw [show v / 1024000 = 1024 * (v / 1048576000) by omega]; exact nd_1024 (by omega)
  have d3 : v % 1125899906842624000 = 0 → v % 1099511627776000 = 0 := fun h => by omega
  have d2 : v % 1099511627776000 = 0 → v % 1073741824000 = 0 := fun h => by omega
  have d1 : v % 1073741824000 = 0 → v % 1048576000 = 0 := fun h => by omega
  have d0 : v % 1048576000 = 0 → v % 1024000 = 0 := fun h => by omega
  have e4 : lenT v 4 = nd (v / 1125899906842624000) + 2 := rfl
  have e3 : lenT v 3 = nd (v / 1099511627776000) + 2 := rfl
  have e2 : lenT v 2 = nd (v / 1073741824000) + 2 := rfl
  have e1 : lenT v 1 = nd (v / 1048576000) + 2 := rfl
  have e0 : lenT v 0 = nd (v / 1024000) + 2 := rfl
  have w4 : v % wN 4 = v % 1125899906842624000 := rfl
  have w3 : v % wN 3 = v % 1099511627776000 := rfl
  have w2 : v % wN 2 = v % 1073741824000 := rfl
  have w1 : v % wN 1 = v % 1048576000 := rfl
  have w0 : v % wN 0 = v % 1024000 := rfl
  rw [twos_is]
  generalize nd (v / 1125899906842624000) = n4 at *
  generalize nd (v / 1099511627776000) = n3 at *
  generalize nd (v / 1073741824000) = n2 at *
  generalize nd (v / 1048576000) = n1 at *
  generalize nd (v / 1024000) = n0 at *
  generalize v % 1125899906842624000 = r4 at *
  generalize v % 1099511627776000 = r3 at *
  generalize v % 1073741824000 = r2 at *
  generalize v % 1048576000 = r1 at *
  generalize v % 1024000 = r0 at *
  by_cases c4 : r4 = 0
  · rw [if_pos c4]
    refine .inr ⟨4, by unfold IsTwos; omega, rfl, by omega, fun j hj hd => ?_⟩
    rcases hj with rfl | rfl | rfl | rfl | rfl <;> omega
  · rw [if_neg c4]
    by_cases c3 : r3 = 0
    · rw [if_pos c3]
      refine .inr ⟨3, by unfold IsTwos; omega, rfl, by omega, fun j hj hd => ?_⟩
      rcases hj with rfl | rfl | rfl | rfl | rfl <;> omega
    · rw [if_neg c3]
      by_cases c2 : r2 = 0
      · rw [if_pos c2]
        refine .inr ⟨2, by unfold IsTwos; omega, rfl, by omega, fun j hj hd => ?_⟩
        rcases hj with rfl | rfl | rfl | rfl | rfl <;> omega
      · rw [if_neg c2]
        by_cases c1 : r1 = 0
        · rw [if_pos c1]
          refine .inr ⟨1, by unfold IsTwos; omega, rfl, by omega, fun j hj hd => ?_⟩
          rcases hj with rfl | rfl | rfl | rfl | rfl <;> omega
        · rw [if_neg c1]
          by_cases c0 : r0 = 0
          · rw [if_pos c0]
            refine .inr ⟨0, by unfold IsTwos; omega, rfl, by omega, fun j hj hd => ?_⟩
            rcases hj with rfl | rfl | rfl | rfl | rfl <;> omega
          · rw [if_neg c0]
            refine .inl ⟨rfl, fun j hj => ?_⟩
            rcases hj with rfl | rfl | rfl | rfl | rfl <;> omega
def pickP (t u : ByteArray) : ByteArray := if u.toList = ([] : List UInt8) then t else if u.size < t.size then u else t
def printP (v : Nat) : ByteArray :=
  if v % 1000 ≠ 0 then txt v 10 else if v = 0 then ⟨#[48]⟩ else pickP (tensOf (v : Int) (formG v tensL ⟨#[]⟩)) (formG v twosL ⟨#[]⟩)
theorem units_ok : (∀ u ∈ tensL, 0 < u.f1 ∧ u.f0.size < 1000) ∧ (∀ u ∈ twosL, 0 < u.f1 ∧ u.f0.size < 1000) := by
  constructor
  · intro u hu
    simp only [tensL, unitsL, List.drop_succ_cons, List.drop_zero, List.take_succ_cons, List.take_zero, List.mem_cons, List.mem_nil_iff, or_false] at hu
    rcases hu with rfl | rfl | rfl | rfl | rfl <;> exact ⟨by decide, by decide⟩
  · intro u hu
    simp only [twosL, unitsL, List.drop_succ_cons, List.drop_zero, List.take_succ_cons, List.take_zero, List.mem_cons, List.mem_nil_iff, or_false] at hu
    rcases hu with rfl | rfl | rfl | rfl | rfl <;> exact ⟨by decide, by decide⟩
theorem print_ev (v : Nat) (hv : v ≤ 9223372036854775807) : Ev (fun k => quant_Print.f k (v : Int)) (printP v) := by
  have ht : Int.tmod (v : Int) 1000 = ((v % 1000 : Nat) : Int) := by rw [Int.tmod_eq_emod_of_nonneg (by omega)]; omega
  unfold printP
  by_cases h1 : v % 1000 ≠ 0
  · rw [if_pos h1]
    have h19 := nd19 hv
    refine Ev.congr (f := fun _ => some (txt v 10)) (fun k => ?_) (Ev.now _)
    unfold quant_Print.f
    rw [if_neg (by omega), if_neg (by omega), ht, if_pos (by omega), itoa_nat, if_pos (by rw [numeral_size]; omega)]
    unfold txt
    rw [show wN 10 = 1 from rfl, Nat.div_one]
    rfl
  · rw [if_neg h1]
    by_cases h2 : v = 0
    · rw [if_pos h2]
      refine Ev.congr (f := fun _ => some (⟨#[48]⟩ : ByteArray)) (fun k => ?_) (Ev.now _)
      unfold quant_Print.f
      rw [if_neg (by omega), if_neg (by omega), ht, if_neg (by omega), if_pos (by omega)]
    · rw [if_neg h2]
      have hj : ∀ k, quant_Print.f k (v : Int) = ((quant_form.f k (v : Int) tensL).bind fun t => ((quant_form.f k (v : Int) twosL).bind fun u => some (pickP (tensOf (v : Int) t) u))) := by
        intro k
        unfold quant_Print.f
        rw [if_neg (by omega), if_neg (by omega), ht, if_neg (by omega), if_neg (by omega)]
        congr 1
        funext t
        congr 1
        funext u
        unfold pickP
        split
        · rfl
        · split <;> rfl
      exact Ev.congr hj (Ev.bind (form_ev v hv tensL (by decide) units_ok.1) (Ev.bind (form_ev v hv twosL (by decide) units_ok.2) (Ev.now _)))
theorem print_spec (v : Nat) : ∃ i, i < 12 ∧ v % wN i = 0 ∧ printP v = txt v i ∧ (v % 1000 ≠ 0 → i = 10) ∧ (v % 1000 = 0 → 0 < v → i ≠ 10 ∧ ∀ j, j < 12 → j ≠ 10 → v % wN j = 0 → lenT v i ≤ lenT v j) ∧ (v = 0 → i = 11) := by
  unfold printP
  by_cases h1 : v % 1000 ≠ 0
  · rw [if_pos h1]
    exact ⟨10, by decide, by rw [show wN 10 = 1 from rfl]; omega, rfl, fun _ => rfl, fun h => absurd h h1, fun h => by subst h; exact absurd rfl h1⟩
  · rw [if_neg h1]
    by_cases h2 : v = 0
    · rw [if_pos h2]
      subst h2
      refine ⟨11, by decide, by simp, ?_, fun h => absurd rfl h, fun _ h => absurd h (by decide), fun _ => rfl⟩
      unfold txt
      rw [Nat.zero_div, show sufB 11 = ByteArray.empty from rfl, ByteArray.append_empty]
      unfold numeral
      rw [dec_small (by decide)]
      rfl
    · rw [if_neg h2]
      obtain ⟨i, hi, ht, hid, hmin⟩ := tens_min v (by omega) (by omega)
      have hi12 : i < 12 ∧ i ≠ 10 := by unfold IsTens at hi; omega
      rw [ht]
      rcases twos_min v (by omega) with ⟨hu, hno⟩ | ⟨j, hj, hu, hjd, hjm⟩
      · rw [hu]
        unfold pickP
        rw [if_pos ((bytes_empty_iff _).2 rfl)]
        refine ⟨i, hi12.1, hid, rfl, fun h => absurd h (by omega), fun _ _ => ⟨hi12.2, fun j hj hj10 hd => ?_⟩, fun h => absurd h h2⟩
        have hc : IsTens j ∨ IsTwos j := by unfold IsTens IsTwos; omega
        rcases hc with hc | hc
        · exact hmin j hc hd
        · exact absurd hd (hno j hc)
      · have hj12 : j < 12 ∧ j ≠ 10 := by unfold IsTwos at hj; omega
        rw [hu]
        unfold pickP
        rw [if_neg (txt_ne v j), txt_size, txt_size]
        by_cases hlt : lenT v j < lenT v i
        · rw [if_pos hlt]
          refine ⟨j, hj12.1, hjd, rfl, fun h => absurd h (by omega), fun _ _ => ⟨hj12.2, fun m hm hm10 hd => ?_⟩, fun h => absurd h h2⟩
          have hc : IsTens m ∨ IsTwos m := by unfold IsTens IsTwos; omega
          rcases hc with hc | hc
          · have := hmin m hc hd; omega
          · exact hjm m hc hd
        · rw [if_neg hlt]
          refine ⟨i, hi12.1, hid, rfl, fun h => absurd h (by omega), fun _ _ => ⟨hi12.2, fun m hm hm10 hd => ?_⟩, fun h => absurd h h2⟩
          have hc : IsTens m ∨ IsTwos m := by unfold IsTens IsTwos; omega
          rcases hc with hc | hc
          · exact hmin m hc hd
          · have := hjm m hc hd; omega
end Go.Proofs.YtejgbdclhlolkaaGreatDoor.Q
namespace Go.Proofs.YtejgbdclhlolkaaGreatDoor.Q
open Go.RowKit Go.Proofs.YtejgbdclhlolkaaGreatDoorW.PrintWords Go.Proofs.YtejgbdclhlolkaaGreatDoorW.PrintLast
set_option linter.unusedVariables false
set_option linter.unusedSimpArgs false
theorem wN_get (i : Nat) (hi : i < 12) : ((unitsL[i]'hi).f1).toNat = wN i := by
  unfold wN
  rw [List.getD_eq_getElem?_getD, List.getElem?_eq_getElem (show i < unitsL.length from hi)]
  rfl
theorem sufB_get (i : Nat) (hi : i < 12) : (unitsL[i]'hi).f0 = sufB i := by
  unfold sufB
  rw [List.getD_eq_getElem?_getD, List.getElem?_eq_getElem (show i < unitsL.length from hi)]
  rfl
theorem wN_big (i : Nat) (hi : i < 12) (h10 : i ≠ 10) : 1000 ≤ wN i := by
  have h : ∀ j : Fin 12, j.1 ≠ 10 → 1000 ≤ wN j.1 := by decide
  exact h ⟨i, hi⟩ h10
theorem sufB_le (i : Nat) (hi : i < 12) : (sufB i).size ≤ 2 := by
  have h : ∀ j : Fin 12, (sufB j.1).size ≤ 2 := by decide
  exact h ⟨i, hi⟩
theorem isnum_dec (n : Nat) : IsNum (Lib.decDigits n) [] false := ⟨dec_ne n, dec_digits n, fun h => (by cases h), fun b hb => (by simp at hb), fun _ => rfl⟩
theorem txt_list (v i : Nat) : (txt v i).data.toList = Lib.decDigits (v / wN i) ++ (sufB i).data.toList := by
  unfold txt
  rw [ByteArray.data_append, Array.toList_append, numeral_list]
theorem ceil_one (v : Nat) (hv : v ≤ 9223372036854775807) : ceilP v 1 = ((v : Int), 0) := by
  unfold ceilP
  rw [Nat.div_one, Nat.add_sub_cancel, if_pos hv]
theorem parse_txt (v i : Nat) (hi : i < 12) (hd : v % wN i = 0) (hv : v ≤ 9223372036854775807) : Ev (fun k => quant_Parse.f k (txt v i)) ((v : Int), 0) := by
  have hq : v / wN i ≤ v := Nat.div_le_self _ _
  have h19 := nd19 (n := v / wN i) (by omega)
  have hsz : (txt v i).size < 4611686018427387904 := by
    rw [txt_size]
    unfold lenT
    have := sufB_le i hi
    omega
  have key := parse_fwd (txt v i) (Lib.decDigits (v / wN i)) [] (sufB i).data.toList false (isnum_dec _) i hi (by rw [sufB_get i hi]) (by rw [txt_list]; rfl) (by rw [List.length_nil]; exact h19) hsz
  rw [List.append_nil, decVal_dec, wN_get i hi, List.length_nil, Nat.pow_zero, Nat.div_mul_cancel (Nat.dvd_of_mod_eq_zero hd), ceil_one v hv] at key
  exact key
theorem parse_long (text : ByteArray) (W D S : List UInt8) (dot : Bool) (h : IsNum W D dot) (i : Nat) (hi : i < 12) (hS : (unitsL[i]'hi).f0.data.toList = S) (ht : text.data.toList = numL W D dot ++ S) (hl : 19 < W.length + D.length) (hsz : text.size < 4611686018427387904) :
    Ev (fun k => quant_Parse.f k text) (0, 30) := by
  have hix := unit_num text W D S dot h i hi hS ht
  have hu := unit_is text i hi hix
  have hn := num_of text (numL W D dot) S (unitsL[i]'hi).f0 hS ht
  have hW : wholeB ⟨(numL W D dot).toArray⟩ = ⟨W.toArray⟩ := by unfold wholeB; rw [List.toList_toArray, num_cut h]
  have hD : partB ⟨(numL W D dot).toArray⟩ = ⟨D.toArray⟩ := by unfold partB; rw [List.toList_toArray, num_cut h]
  have hts : text.size = (numL W D dot).length + S.length := by rw [Lib.size_eq, ht, List.length_append]
  have hnl : W.length + D.length ≤ (numL W D dot).length := by
    unfold numL
    cases hd : dot with
    | true => rw [if_pos rfl, List.length_append, List.length_cons]; omega
    | false => rw [if_neg Bool.false_ne_true, h.dn hd]; simp
  have hsD : (⟨D.toArray⟩ : ByteArray).size = D.length := by rw [Lib.size_eq]
  have hsW : (⟨W.toArray⟩ : ByteArray).size = W.length := by rw [Lib.size_eq]
  have hsN : (⟨(numL W D dot).toArray⟩ : ByteArray).size = (numL W D dot).length := by rw [Lib.size_eq]
  have hg : goodB ⟨(numL W D dot).toArray⟩ = false := by
    unfold goodB
    rw [hW, hD, hsD, hsW, decide_eq_false (by omega), Bool.and_false]
  refine Ev.congr (f := fun _ => some (0, 30)) (fun k => ?_) (Ev.now _)
  rw [parse_is, hu]
  unfold parseAt
  rw [hn, hW, hD, hsD, hsW, hsN, if_pos ⟨hsz, by omega, by omega, by omega⟩, hg, if_neg Bool.false_ne_true]
theorem cut_or (l : List UInt8) : ∃ w r d, Lib.cut l dotSep.data.toList = (w, r, d) ∧ w.length ≤ l.length ∧ r.length ≤ l.length ∧ (d = false → r = []) ∧ l = (if d = true then w ++ 46 :: r else w) := by
  by_cases h : ∀ b ∈ l, b ≠ 46
  · exact ⟨l, [], false, cut_no h, Nat.le_refl _, Nat.zero_le _, fun _ => rfl, rfl⟩
  · have : ∃ w r, l = w ++ 46 :: r ∧ ∀ b ∈ w, b ≠ 46 := by
      induction l with
      | nil => exact absurd (fun b hb => (by simp at hb)) h
      | cons a l ih =>
        by_cases ha : a = 46
        · subst ha; exact ⟨[], l, rfl, fun b hb => (by simp at hb)⟩
        · obtain ⟨w, r, e, hw⟩ := ih (fun hh => h (fun b hb => (List.mem_cons.1 hb).elim (fun e => e ▸ ha) (hh b)))
          exact ⟨a :: w, r, by rw [e]; rfl, fun b hb => (List.mem_cons.1 hb).elim (fun e => e ▸ ha) (hw b)⟩
    obtain ⟨w, r, rfl, hw⟩ := this
    exact ⟨w, r, true, cut_dot r hw, by simp, by simp; omega, fun h => (by cases h), rfl⟩
theorem trim_le (text s : ByteArray) : (numOf text s).size ≤ text.size := by
  unfold numOf Lib.trimSuffix
  rw [Lib.size_eq, Lib.size_eq text]
  split
  · simp <;> omega
  · simp
theorem parse_all (text : ByteArray) (hsz : text.size < 4611686018427387904) : Ev (fun k => quant_Parse.f k text) (0, 30) ∨ ∃ (W D : List UInt8) (dot : Bool) (i : Nat) (hi : i < 12), IsNum W D dot ∧ W.length + D.length ≤ 19 ∧ text.data.toList = numL W D dot ++ (sufB i).data.toList := by
  have hi := unitIx_lt text
  have hsf : sfxB text (unitsL[unitIx text]'hi).f0 = true := List.findIdx_getElem (p := fun u : S66 => sfxB text u.f0) (xs := unitsL) (w := hi)
  obtain ⟨s, hs⟩ : ∃ s, s = (unitsL[unitIx text]'hi).f0 := ⟨_, rfl⟩
  rw [← hs] at hsf
  have hss : s = sufB (unitIx text) := by rw [hs, sufB_get]
  have hdec : text.data.toList = (numOf text s).data.toList ++ s.data.toList := by
    unfold sfxB at hsf
    unfold numOf Lib.trimSuffix
    rw [hsf, if_pos rfl, List.toList_toArray]
    have h1 := hsf
    unfold Lib.hasSuffix at h1
    rw [List.isSuffixOf_iff_suffix] at h1
    obtain ⟨t, ht⟩ := h1
    rw [← ht, List.length_append, Nat.add_sub_cancel, List.take_left' rfl]
  obtain ⟨w, r, d, hc, hwl, hrl, hrd, hsplit⟩ := cut_or (numOf text s).data.toList
  have hW : wholeB (numOf text s) = ⟨w.toArray⟩ := by unfold wholeB; rw [hc]
  have hD : partB (numOf text s) = ⟨r.toArray⟩ := by unfold partB; rw [hc]
  have hdt : dotB (numOf text s) = d := by unfold dotB; rw [hc]
  have hnl := trim_le text s
  rw [Lib.size_eq (numOf text s)] at hnl
  have hsD : (⟨r.toArray⟩ : ByteArray).size = r.length := by rw [Lib.size_eq]
  have hsW : (⟨w.toArray⟩ : ByteArray).size = w.length := by rw [Lib.size_eq]
  by_cases hg : goodB (numOf text s) = true
  · right
    unfold goodB at hg
    rw [hW, hD, hdt, hsD, hsW] at hg
    simp only [Bool.and_eq_true, decide_eq_true_eq, Bool.or_eq_true, Bool.not_eq_true'] at hg
    obtain ⟨⟨h1, h2⟩, h3⟩ := hg
    have hw := (allD_iff _).1 h1
    rw [List.toList_toArray] at hw
    refine ⟨w, r, d, unitIx text, hi, ⟨hw.1, hw.2, fun hd => ?_, fun b hb => ?_, hrd⟩, h3, ?_⟩
    · rcases h2 with h2 | h2
      · rw [hd] at h2; cases h2
      · have := (allD_iff _).1 h2; rw [List.toList_toArray] at this; exact this.1
    · rcases h2 with h2 | h2
      · rw [hrd h2] at hb; simp at hb
      · have := (allD_iff _).1 h2; rw [List.toList_toArray] at this; exact this.2 b hb
    · rw [hdec, ← hss]
      congr 1
  · left
    refine Ev.congr (f := fun _ => some (0, 30)) (fun k => ?_) (Ev.now _)
    rw [parse_is, ← hs]
    unfold parseAt
    rw [if_pos ⟨hsz, trim_le text s, by rw [hW, hsW]; omega, by rw [hD, hsD]; omega⟩, if_neg hg]
end Go.Proofs.YtejgbdclhlolkaaGreatDoor.Q
namespace Go.Proofs.YtejgbdclhlolkaaGreatDoor.Pure
open Go.RowKit Go.Proofs.YtejgbdclhlolkaaGreatDoorW.PrintWords Go.Proofs.YtejgbdclhlolkaaGreatDoorW.PrintLast Go.Proofs.YtejgbdclhlolkaaGreatDoor.Q
set_option linter.unusedVariables false
set_option linter.unusedSimpArgs false
theorem zero_front (l : List UInt8) : decVal 0 (48 :: l) = decVal 0 l := by rw [decVal_cons]; rfl
theorem ceil_cases (N d : Nat) : ceilP N d = (0, 7) ∨ ∃ v : Nat, v ≤ 9223372036854775807 ∧ ceilP N d = ((v : Int), 0) := by
  unfold ceilP
  split
  · rename_i h
    exact .inr ⟨_, h, rfl⟩
  · exact .inl rfl
theorem QuantPlain (text : ByteArray) (hsz : text.size ≤ 140737488351232) : ∃ k, bursarlaw03_QuantPlain.f k text = some true := by
  refine Ev.rounds ?_
  refine Ev.bind known_ev (Ev.congr (fun k => if_pos rfl) ?_)
  have hp : Ev (fun k => quant_Parse.f k text) (0, 30) ∨ Ev (fun k => quant_Parse.f k text) (0, 7) ∨ ∃ v : Nat, v ≤ 9223372036854775807 ∧ Ev (fun k => quant_Parse.f k text) ((v : Int), 0) := by
    rcases parse_all text (by omega) with h | ⟨W, D, dot, i, hi, hn, hl, ht⟩
    · exact .inl h
    · have key := parse_fwd text W D (sufB i).data.toList dot hn i hi (by rw [sufB_get i hi]) ht hl (by omega)
      rcases ceil_cases (decVal 0 (W ++ D) * ((unitsL[i]'hi).f1).toNat) (10 ^ D.length) with h | ⟨v, hv, h⟩
      · rw [h] at key; exact .inr (.inl key)
      · rw [h] at key; exact .inr (.inr ⟨v, hv, key⟩)
  rcases hp with h | h | ⟨v, hv, h⟩
  · exact Ev.bind h (Ev.congr (fun k => if_neg (show ¬ ((30 : Int) = 0) by omega)) (Ev.congr (fun k => if_pos rfl) (Ev.congr (fun k => if_pos rfl) (Ev.now _))))
  · exact Ev.bind h (Ev.congr (fun k => if_neg (show ¬ ((7 : Int) = 0) by omega)) (Ev.congr (fun k => if_pos rfl) (Ev.congr (fun k => if_neg (show ¬ ((7 : Int) = 30) by omega)) (Ev.now _))))
  · obtain ⟨i, hi, hid, hpr, h10, hmin, h0⟩ := print_spec v
    have hpe := print_ev v hv
    rw [hpr] at hpe
    have hq : v / wN i ≤ v := Nat.div_le_self _ _
    have h19 := nd19 (n := v / wN i) (by omega)
    have hsb := sufB_le i hi
    have hs1 : (txt v i).size = nd (v / wN i) + (sufB i).size := txt_size v i
    have hn : IsNum (48 :: Lib.decDigits (v / wN i)) [] false := ⟨by simp, fun b hb => (List.mem_cons.1 hb).elim (fun e => by rw [e]; decide) (dec_digits _ b), fun h => (by cases h), fun b hb => (by simp at hb), fun _ => rfl⟩
    have hlist : ((⟨#[48]⟩ : ByteArray) ++ txt v i).data.toList = numL (48 :: Lib.decDigits (v / wN i)) [] false ++ (sufB i).data.toList := by
      rw [ByteArray.data_append, Array.toList_append, txt_list]
      rfl
    have hz : ((⟨#[48]⟩ : ByteArray) ++ txt v i).size < 4611686018427387904 := by
      rw [ByteArray.size_append, hs1]
      have : (⟨#[48]⟩ : ByteArray).size = 1 := rfl
      omega
    have h2 : Ev (fun k => quant_Parse.f k ((⟨#[48]⟩ : ByteArray) ++ txt v i)) ((v : Int), 0) ∨ (Ev (fun k => quant_Parse.f k ((⟨#[48]⟩ : ByteArray) ++ txt v i)) (0, 30) ∧ (txt v i).size = 20) := by
      by_cases h18 : nd (v / wN i) ≤ 18
      · left
        have key := parse_fwd _ _ _ (sufB i).data.toList false hn i hi (by rw [sufB_get i hi]) hlist (by rw [List.length_cons, List.length_nil]; exact Nat.succ_le_succ h18) hz
        rw [List.append_nil, zero_front, decVal_dec, wN_get i hi, List.length_nil, Nat.pow_zero, Nat.div_mul_cancel (Nat.dvd_of_mod_eq_zero hid), ceil_one v hv] at key
        exact key
      · right
        refine ⟨parse_long _ _ _ (sufB i).data.toList false hn i hi (by rw [sufB_get i hi]) hlist (by rw [List.length_cons, List.length_nil]; unfold nd at h18; omega) hz, ?_⟩
        have hbig : 1000000000000000000 ≤ v / wN i := by
          rcases Nat.lt_or_ge (v / wN i) 1000000000000000000 with hlt | hge
          · have := nd_le 18 (v / wN i) (by decide) hlt; omega
          · exact hge
        have hi10 : i = 10 := by
          by_cases h10 : i = 10
          · exact h10
          · have h3 := wN_big i hi h10
            have h4 := Nat.div_mul_le_self v (wN i)
            have h5 : 1000000000000000000 * 1000 ≤ v / wN i * wN i := Nat.mul_le_mul hbig h3
            omega
        rw [hs1, hi10]
        rw [hi10] at h18 h19
        have : (sufB 10).size = 1 := rfl
        omega
    refine Ev.bind h (Ev.congr (fun k => if_pos rfl) (Ev.bind hpe (Ev.bind (parse_txt v i hi hid hv) (Ev.congr (fun k => if_pos rfl) (Ev.congr (fun k => if_pos rfl) (Ev.bind hpe (Ev.congr (fun k => if_pos rfl) (Ev.congr (fun k => if_pos (by omega)) ?_))))))))
    rcases h2 with h2 | ⟨h2, h20⟩
    · exact Ev.bind h2 (Ev.congr (fun k => if_pos rfl) (Ev.congr (fun k => if_pos rfl) (Ev.now _)))
    · refine Ev.bind h2 (Ev.congr (fun k => if_neg (show ¬ ((30 : Int) = 0) by omega)) (Ev.congr (fun k => if_pos rfl) (Ev.congr (f := fun _ => some true) (fun k => ?_) (Ev.now _))))
      rw [h20]
      rfl
end Go.Proofs.YtejgbdclhlolkaaGreatDoor.Pure
namespace Go.Proofs.YtejgbdclhlolkaaGreatDoor.Q
open Go.RowKit Go.Lib Go.ChangeShapes Go.Proofs.YtejgbdclhlolkaaGreatDoorW.PrintWords Go.Proofs.YtejgbdclhlolkaaGreatDoorW.PrintLast
set_option linter.unusedVariables false
set_option linter.unusedSimpArgs false
theorem laid_one {P : Program} {w : World} {l : List (String × DataW Unit)} {n : String} {d : DataW Unit} (h : laidMetH P l w) (hl : (l.filter fun x => x.1 == n) = [(n, d)]) (hd : d.handleName? = none) : laidMet P [(n, d)] w := by
  have h1 := h.filter (fun x => x.1 == n)
  rw [hl] at h1
  have h2 := (laidMetH_iff.1 h1).1
  have e : ([(n, d)] : List (String × DataW Unit)).filter (fun x => x.2.handleName?.isNone) = [(n, d)] := by simp [List.filter_cons, hd]
  rw [e] at h2
  exact h2
theorem struct_si {H : Type} {enc : TypeId × Value → H} {P : Program} {w : World} {base : Nat} {sp : Nat → Bool} {held : Bool} {fuel : Nat} {t : TypeId} {f0 f1 : Field} {k : IntKind} {cs : List Value} {l : List UInt8} {v : Int} {p : List MemPlace}
    (ht : P.underlying t = some (.struct #[f0, f1])) (h0 : P.underlying f0.type = some .string) (h1 : P.underlying f1.type = some (.int k)) (o0 : f0.offset = 0) (o1 : f1.offset = 1) (c0 : P.cellsOf f0.type = 1) (c1 : P.cellsOf f1.type = 1) (c : P.cellsOf t = 2)
    (h : DataW.trod enc P w base sp held fuel t cs = some (.agg [.lit (.string l), .lit (.int k v)], p)) : cs = [.string ⟨l.toArray⟩, .int k v] := by
  obtain ⟨y0, y1, n, hx, hl, e0, e1⟩ := trod_struct2 ht h
  rw [o0, c0] at e0
  rw [o1, c1] at e1
  rw [c] at hl
  injection hx with hx _
  injection hx with hx
  injection hx with hx0 hx
  injection hx with hx1 _
  match cs, hl with
  | [a, b], _ =>
    simp only [List.drop_zero, List.take_succ_cons, List.take_zero, List.drop_succ_cons] at e0 e1
    obtain ⟨s, hs, rfl, _⟩ := DataW.trod_string h0 e0
    obtain ⟨z, hz, rfl, _⟩ := DataW.trod_int h1 e1
    injection hs with hs _
    injection hz with hz _
    subst hs hz
    simp only [DataW.lit.injEq, Lit.string.injEq, Lit.int.injEq, true_and] at hx0 hx1
    subst hx0 hx1
    rfl
theorem arr_at {H : Type} {enc : TypeId × Value → H} {P : Program} {w : World} {base : Nat} {sp : Nat → Bool} {held : Bool} {fuel : Nat} {t e : TypeId} {n : Nat} {cs : List Value} {ds : List (DataW H)} {p : List MemPlace}
    (ht : P.underlying t = some (.array n e)) (h : DataW.trod enc P w base sp held fuel t cs = some (.agg ds, p)) (i : Nat) (hi : i < n) : ∃ f d q, ds[i]? = some d ∧ DataW.trod enc P w base sp held f e ((cs.drop (i * P.cellsOf e)).take (P.cellsOf e)) = some (d, q) := by
  cases fuel with
  | zero => simp [DataW.trod] at h
  | succ fuel =>
    simp only [DataW.trod, ht] at h
    split at h
    · obtain ⟨xs, hm, hx⟩ := Option.map_eq_some_iff.1 h
      injection hx with hx _
      injection hx with hx
      obtain ⟨b, hb, hf⟩ := mapM_at hm i i (by simp [hi])
      exact ⟨fuel, b.1, b.2, by rw [← hx]; simp [hb], hf⟩
    · cases h
theorem units_laid {w : World} (h : laidMet Tryz.prog [("bursar/quant.units", Rows.laid_bursar_quant_units)] w) : ∀ j x, unitCells[j]? = some x → w.cell? ⟨1, j, none⟩ = some x := by
  obtain ⟨ps, ⟨g', t', cs, fuel, p, q, hg', ht', hvar, hd, _, _⟩, _⟩ := h
  obtain rfl : g' = 1 := Option.some.inj (hg'.symm.trans (by kernel_rfl))
  obtain rfl : t' = 67 := Option.some.inj (ht'.symm.trans (by kernel_rfl))
  intro j x hx
  rw [World.var?_cell hg' hvar j]
  have hj : j < 24 := (List.getElem?_eq_some_iff.1 hx).1
  obtain ⟨f, d, q', hd1, hd2⟩ := arr_at Tryz.underlying67 hd (j / 2) (by omega)
  rw [show Tryz.prog.cellsOf 66 = 2 by kernel_rfl] at hd2
  have key : ∀ (l : List UInt8) (v : Int), d = .agg [.lit (.string l), .lit (.int .u64 v)] → ((cs.toList.drop (j / 2 * 2)).take 2) = [.string ⟨l.toArray⟩, .int .u64 v] := fun l v e => by
    subst e
    exact struct_si Tryz.underlying66 Tryz.underlying9 Tryz.underlying36 rfl rfl (by kernel_rfl) (by kernel_rfl) (by kernel_rfl) hd2
  have get : ∀ (a b : Value), ((cs.toList.drop (j / 2 * 2)).take 2) = [a, b] → cs[j]? = if j % 2 = 0 then some a else some b := fun a b e => by
    have e1 : ((cs.toList.drop (j / 2 * 2)).take 2)[j % 2]? = [a, b][j % 2]? := by rw [e]
    rw [List.getElem?_take_of_lt (by omega), List.getElem?_drop, show j / 2 * 2 + j % 2 = j by omega, Array.getElem?_toList] at e1
    rw [e1]
    obtain h | h : j % 2 = 0 ∨ j % 2 = 1 := by omega
    · rw [h]; rfl
    · rw [h]; rfl
  obtain rfl | rfl | rfl | rfl | rfl | rfl | rfl | rfl | rfl | rfl | rfl | rfl | rfl | rfl | rfl | rfl | rfl | rfl | rfl | rfl | rfl | rfl | rfl | rfl : j = 0 ∨ j = 1 ∨ j = 2 ∨ j = 3 ∨ j = 4 ∨ j = 5 ∨ j = 6 ∨ j = 7 ∨ j = 8 ∨ j = 9 ∨ j = 10 ∨ j = 11 ∨ j = 12 ∨ j = 13 ∨ j = 14 ∨ j = 15 ∨ j = 16 ∨ j = 17 ∨ j = 18 ∨ j = 19 ∨ j = 20 ∨ j = 21 ∨ j = 22 ∨ j = 23 := by omega
  all_goals
    rw [get _ _ (key _ _ (Option.some.inj hd1).symm)]
    exact hx
theorem tab_laid {w : World} (h : laidMet Tryz.prog [("internal/strconv.uint64pow10", Rows.laid_internal_strconv_uint64pow10)] w) : Lib.TabIs Tryz.prog w "internal/strconv.uint64pow10" .u64 Lib.pow10Tab :=
  Lib.tabIs_of_head (g := 4) (t := 130) (e := 36) (n := 20) (by kernel_rfl) (by kernel_rfl) Tryz.underlying130 Tryz.underlying36 (by kernel_rfl) (by kernel_rfl) h
theorem glob_of {W : World} (hsh : W.ShapedOpen Tryz.prog) (h : laidMetH Tryz.prog Rows.quantSumsRow.laid W) : Glob W :=
  ⟨Tryz.laysM146.s1_3 W hsh, tab_laid (laid_one h rfl rfl), units_laid (laid_one h rfl rfl)⟩
end Go.Proofs.YtejgbdclhlolkaaGreatDoor.Q
namespace Go.Proofs.YtejgbdclhlolkaaGreatDoor.quantPlain
open Go.ChangeShapes Go.WideShapes Go.ChangeAt Go.RowKit
open Go.ChangeMaps (open_string shut_string)
set_option linter.unusedVariables false
set_option linter.unusedSimpArgs false
theorem own : ownKnob Tryz.prog.godebug = none := by kernel_rfl
set_option maxRecDepth 100000 in
theorem contract (H : Type) (enc : TypeId × Value → H) (W : World) (base : Nat) (args : Array Value) (ds gs : List (DataW H)) (before : List MemPlace)
    (hval0 : ∀ (j : Nat) t v, Tryz.f6.params[j]? = some t → args[j]? = some v → Value.okWide Tryz.prog W .any base t v)
    (hW : DataW.Whole enc Tryz.prog Tryz.f6.params.toList Rows.quantPlainSpec.vars false W args.toList ds gs before)
    (hsz0 : (DataW.weightsEach Tryz.prog (Tryz.f6.params.toList ++ (OpenSpec.ofChange Rows.quantPlainSpec).bare.plain.varTypes Tryz.prog) (ds ++ gs)).all (· ≤ reachBytes) = true)
    (hsh : W.ShapedOpen Tryz.prog)
    (hl : laidMetH Tryz.prog Rows.quantPlainRow.laid W)
    : Calls Tryz.prog 6 args W fun e W' => ∃ v, e = .returned v ∧ Rows.quantPlainSpec.post enc Tryz.prog Tryz.f6 false true false false W args v W' := by
  have hsz : (DataW.weightsEach Tryz.prog (Tryz.f6.params.toList ++ Rows.quantPlainSpec.plain.varTypes Tryz.prog) (ds ++ gs)).all (· ≤ reachBytes) = true := hsz0
  have hval : ∀ (j : Nat) t v, Tryz.f6.params[j]? = some t → args[j]? = some v → Value.okWide Tryz.prog W .any base t v := hval0
  have hW' := hW
  obtain ⟨p, q, hA0, hV, rfl, hfz, hnd⟩ := hW
  have hA : DataW.TrodAll enc Tryz.prog W 0 (fun _ => true) true Tryz.f6.params.toList args.toList ds p := hA0
  rw [Tryz.params6] at hA hval hsz
  obtain ⟨v0, vs0, d0, ds0, p0, q0, hargs, rfl, rfl, h0, r0⟩ := trodAll_cons hA
  obtain ⟨rfl, rfl, rfl⟩ := trodAll_nil r0
  obtain rfl : args = #[v0] := by cases args; simp_all
  obtain ⟨rfl, rfl⟩ := trodVars_none hV
  obtain ⟨a0, rfl, rfl, rfl, y0⟩ := open_string Tryz.underlying9 (hval 0 9 v0 rfl rfl) h0
  have w0 : a0.size ≤ 140737488351232 := by
    have z := sized_string hsz (j := 0) (t := 9) rfl rfl
    rw [Array.length_toList] at z
    exact z
  obtain ⟨k, hp⟩ := Pure.QuantPlain a0 w0
  refine (Q.bursarlaw03_QuantPlain.calls k a0 true W  hp (Q.glob_of hsh hl)).mono fun e W' ⟨he, bel⟩ => ?_
  subst he
  exact ⟨_, rfl, _, _, _, [], _, [], hW', trodAll_mk1 (shut_bool Tryz.underlying4 _), (trodAll_cons_mk (shut_string Tryz.underlying9 y0) trodAll_mk0), rfl, bel.frame _, fun h => by cases h⟩
noncomputable def tab1 : Obj → Obj
  | .cells _ t frozen => .cells (Go.Pinned.utf8FirstZ.map fun (n : Nat) => Value.int .u8 (n : Int)).toArray t frozen
  | o => o
noncomputable def laidWorld (os : Os) : World :=
  { World.doorLaid Tryz.prog 94 os with heap := (World.doorLaid Tryz.prog 94 os).heap.modify 10 tab1 }
theorem laid_met (os : Os) : laidMet Tryz.prog Rows.quantPlainRow.laid ((laidWorld os).forCall (fun _ _ => 0) ⟨#[], #[.string ByteArray.empty], []⟩).memory :=
  laidMet_of_run' 8 (by kernel_rfl) (by kernel_rfl)
theorem reads (os : Os) {H : Type} (enc : TypeId × Value → H) : ∃ places, DataW.whole enc Tryz.prog ((laidWorld os).forCall (fun _ _ => 0) ⟨#[], #[.string ByteArray.empty], []⟩).memory Tryz.f6.params.toList Rows.quantPlainSpec.vars false (#[.string ByteArray.empty] : Array Value).toList 8 = some ([.lit (.string [])], [], places) :=
  ⟨[], by kernel_rfl⟩
set_option maxRecDepth 100000 in
theorem lifted (os : Os) (started : os.Started) (H : Type) (enc : TypeId × Value → H) (F : Stop.Interp) :
    ReturnsInHanded {} Tryz.checked os 6 .any ((OpenSpec.ofChange Rows.quantPlainSpec).preRow enc Tryz.prog Tryz.f6 Rows.quantPlainRow.domain false Rows.quantPlainRow.laid) (((OpenSpec.ofChange Rows.quantPlainSpec).at F).post enc Tryz.prog Tryz.f6 false true false false) := by
  obtain ⟨places, hx⟩ := reads os enc
  refine returnsInHanded_of_row (C := Tryz.checked) (s := OpenSpec.ofChange Rows.quantPlainSpec) own started (by kernel_rfl) Tryz.func6
    (witness_row_at (enc := enc) (C := Tryz.checked) false (laidWorld os) #[.string ByteArray.empty] rfl (by kernel_rfl) (by kernel_rfl) (by kernel_rfl)
      (OpenSpec.preRow_of_cond 8 hx (by kernel_rfl) (fun k hk => by cases hk) (by kernel_rfl) (laid_met os))) ?_
  intro W base args ds gs before hval hW _ hcond hsz hl hsh _
  exact contract H enc W base args ds gs before hval hW hsz hsh hl
theorem said : Rows.QuantPlainSaid :=
  OpenClaim.holds_of_cond 6 Tryz.f6 rfl rfl rfl rfl rfl rfl rfl ⟨rfl, rfl, rfl, rfl, rfl⟩ rfl rfl rfl rfl rfl (by kernel_rfl) Tryz.func6 (by kernel_rfl)
    (of_decide_eq_true (by kernel_rfl)) (by unfold Func.isWrapper; first | (rw [if_pos (by decide +kernel)]; kernel_rfl) | (rw [if_neg (by decide +kernel)]; exact ⟨rfl, rfl⟩))
    (fun os started H enc _ F => by rw [OpenClaim.pre_eq_preRow]; exact lifted os started H enc F)
theorem plain (f : FuncId) (fn : Func) (hf : Tryz.pinned.checked.prog.funcNamed "bursar/bursarlaw03.QuantPlain" = some f) (hfn : Tryz.pinned.checked.prog.funcs[f]? = some fn) :
    true = Tryz.pinned.checked.prog.looks [] ∧ ∀ (j : Nat) t, fn.params[j]? = some t → Tryz.pinned.checked.prog.wantsStandIn t = false := by
  obtain rfl : f = 6 := Option.some.inj ((show Tryz.prog.funcNamed "bursar/bursarlaw03.QuantPlain" = some 6 by kernel_rfl).symm.trans hf) |>.symm
  obtain rfl : fn = Tryz.f6 := (Option.some.inj (Tryz.func6.symm.trans hfn)).symm
  refine ⟨by kernel_rfl, fun j t ht => ?_⟩
  rw [Tryz.params6] at ht
  have hall : ∀ x ∈ [9], Tryz.prog.wantsStandIn x = false := by
    intro x hx; simp only [List.mem_cons, List.mem_nil_iff, or_false] at hx; rcases hx with rfl <;> kernel_rfl
  exact hall t (by simpa using Array.mem_of_getElem? ht)
theorem card : Rows.QuantPlainCardSaid :=
  Claim7.holds_tied_plain_at .later [] _ _ _ _ said (fun _ h => by cases h) (by kernel_rfl) (fun _ h => by cases h) quantPlain_row_tie rfl ⟨rfl, rfl⟩ (by kernel_rfl) rfl plain (by kernel_rfl)
end Go.Proofs.YtejgbdclhlolkaaGreatDoor.quantPlain
namespace Go.Proofs.YtejgbdclhlolkaaGreatDoor
theorem quantPlain_holds : Rows.QuantPlainCardSaid := quantPlain.card
end Go.Proofs.YtejgbdclhlolkaaGreatDoor
