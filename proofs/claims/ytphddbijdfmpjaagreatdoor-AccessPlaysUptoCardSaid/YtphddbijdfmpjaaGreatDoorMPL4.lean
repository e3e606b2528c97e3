/- What the statement AccessPlaysUptoCardSaid rests on, part 4 of 6: walks and plain laws; what of the printer's words it leans on. -/
import Derived.Test.YtphddbijdfmpjaaGreatDoorProg
import Derived.Test.YtphddbijdfmpjaaGreatDoorMPL3
import Derived.ProofKit
import Derived.Shelf.SlGeneric
import Derived.Shelf.SlSortCmp.WholeK
import Derived.Ground.SlsfProg
import Derived.Ground.NamesProg
import Derived.Shelf.SlSortCmp.NoneTotal
namespace Go.Proofs.YtphddbijdfmpjaaGreatDoor.Q
open Go.RowKit Go.Proofs.YtphddbijdfmpjaaGreatDoorW.PrintWords Go.Proofs.YtphddbijdfmpjaaGreatDoorW.PrintLast Go.Proofs.YtphddbijdfmpjaaGreatDoorW.PrintMore
attribute [local go_sem] max2_int min2_int max_two min_two max_three min_three max_four min_four   -- for this text's walks alone
set_option linter.unusedVariables false
set_option linter.unusedSimpArgs false
def object_formedBinding.f (k : Nat) (a0_0 : ByteArray) (a0_1 : ByteArray) (a0_2 : ByteArray) (a0_3 : Int) : Option (Bool) := (label_Path.f k a0_0).bind fun t135 => (if t135 = 0 then ((label_Name.f a0_1).bind fun t136 => (if t136 = true then ((label_Name.f a0_2).bind fun t137 => (if t137 = true then (if a0_3 ≥ 0 then (some (decide (a0_3 ≤ 3))) else (some false)) else (some false))) else (some false))) else (some false))
theorem object_formedBinding.mono : ∀ a0 a1 a2 a3 k, LeO (object_formedBinding.f k a0 a1 a2 a3) (object_formedBinding.f (k + 1) a0 a1 a2 a3) := by
  intro a0 a1 a2 a3 k
  unfold object_formedBinding.f
  repeat' first
      | (with_reducible exact label_Path.mono _ _)
      | (with_reducible exact LeO.refl _)
      | (with_reducible exact LeO.none _)
      | (with_reducible refine LeO.ite ?_ ?_)
      | (with_reducible refine LeO.bind ?_ (fun _ => ?_))
      | exact label_Path.mono _ _
      | exact LeO.none _
      | refine LeO.ite ?_ ?_
      | refine LeO.bind ?_ (fun _ => ?_)
set_option maxHeartbeats 8000000 in
set_option maxRecDepth 100000 in
theorem object_formedBinding.calls (k : Nat) (a0_0 : ByteArray) (a0_1 : ByteArray) (a0_2 : ByteArray) (a0_3 : Int) (r : Bool) (w : World) (h : object_formedBinding.f k a0_0 a0_1 a0_2 a0_3 = some r) (hG : Glob w) :
    Calls Tryz.prog 70 #[.agg #[.string a0_0, .string a0_1, .string a0_2, .int .i64 a0_3]] w fun e w' => e = .returned (.bool r) ∧ Below w.heap.size w w' := by
  have hu28 := Tryz.underlying28
  have HB := Aside0.mk (Below.refl w.heap.size w)
  have H : ((label_Path.f k a0_0).bind fun t135 => (if t135 = 0 then ((label_Name.f a0_1).bind fun t136 => (if t136 = true then ((label_Name.f a0_2).bind fun t137 => (if t137 = true then (if a0_3 ≥ 0 then (some (decide (a0_3 ≤ 3))) else (some false)) else (some false))) else (some false))) else (some false))) = some r := h
  clear h
  replace H := Option.bind_eq_some_iff.mp H
  obtain ⟨t135, A20, H⟩ := H
  replace H : (if t135 = 0 then ((label_Name.f a0_1).bind fun t136 => (if t136 = true then ((label_Name.f a0_2).bind fun t137 => (if t137 = true then (if a0_3 ≥ 0 then (some (decide (a0_3 ≤ 3))) else (some false)) else (some false))) else (some false))) else (some false)) = some r := H
  have A2 := Aside0.mk A20
  clear A20
  by_cases c3 : t135 = 0
  · rw [if_pos c3] at H
    have c3b0 : (t135 == 0) = true := beq_iff_eq.mpr c3
    have c3b1 : (t135 != 0) = false := bne_eq_false_iff_eq.mpr c3
    clear c3
    replace H := Option.bind_eq_some_iff.mp H
    obtain ⟨t136, A40, H⟩ := H
    replace H : (if t136 = true then ((label_Name.f a0_2).bind fun t137 => (if t137 = true then (if a0_3 ≥ 0 then (some (decide (a0_3 ≤ 3))) else (some false)) else (some false))) else (some false)) = some r := H
    have A4 := Aside0.mk A40
    clear A40
    by_cases c5 : t136 = true
    · subst c5
      have H1 : ((label_Name.f a0_2).bind fun t137 => (if t137 = true then (if a0_3 ≥ 0 then (some (decide (a0_3 ≤ 3))) else (some false)) else (some false))) = some r := by rw [if_pos rfl] at H; exact H
      clear H
      have H := H1
      clear H1
      replace H := Option.bind_eq_some_iff.mp H
      obtain ⟨t137, A60, H⟩ := H
      replace H : (if t137 = true then (if a0_3 ≥ 0 then (some (decide (a0_3 ≤ 3))) else (some false)) else (some false)) = some r := H
      have A6 := Aside0.mk A60
      clear A60
      by_cases c7 : t137 = true
      · subst c7
        have H1 : (if a0_3 ≥ 0 then (some (decide (a0_3 ≤ 3))) else (some false)) = some r := by rw [if_pos rfl] at H; exact H
        clear H
        have H := H1
        clear H1
        by_cases c8 : a0_3 ≥ 0
        · rw [if_pos c8] at H
          have c8b0 : decide (0 ≤ a0_3) = true := decide_eq_true c8
          clear c8
          obtain rfl := Option.some.inj H
          go_enter Tryz.func70, Tryz.ntmps70
          go_wp2_with (first | ((with_reducible refine gate_dst (N := 1) rfl ?_); refine box_event ?hg (N := 1) ?hd (cs := #[.string a0_0, .string a0_1, .string a0_2, .int .i64 a0_3]) (t := 28) ?hr ?_; (case hd => rfl); (case hg => rfl); (case hr => first | (go_simp; done) | (go_simp; rfl)); intro gb134 hg w9 hbox hb; have n0_ := Aside0.mk (below_step (by repeat (first | (with_reducible first | exact HB.out | apply below_alloc | apply pw_below_drewN | apply below_drew1) | exact HB.out)) hb); have n1_ := Aside0.mk (hbox); have n2_ := Aside0.mk ((by rw [hg]; exact (below_size (by repeat (first | (with_reducible first | exact HB.out | apply below_alloc | apply pw_below_drewN | apply below_drew1) | exact HB.out))) : w.heap.size ≤ gb134)); have n3_ := Aside0.mk ((by rw [hg]; exact (below_size (by repeat (first | (with_reducible first | exact HB.out | apply below_alloc | apply pw_below_drewN | apply below_drew1) | exact HB.out))) : w.heap.size ≤ gb134)); clear HB; have HB := n0_; have BK134 := n1_; have GW134 := n2_; have GE134 := n3_; clear n0_ n1_ n2_ n3_; clear hb hbox hg; have hcz10_0 : w9.cell? ⟨gb134, 0, none⟩ = some (.string a0_0) := (blk_cell BK134.out 0).trans rfl; have hcz10_1 : w9.cell? ⟨gb134, 1, none⟩ = some (.string a0_1) := (blk_cell BK134.out 1).trans rfl; have hcz10_2 : w9.cell? ⟨gb134, 2, none⟩ = some (.string a0_2) := (blk_cell BK134.out 2).trans rfl; have hcz10_3 : w9.cell? ⟨gb134, 3, none⟩ = some (.int .i64 a0_3) := (blk_cell BK134.out 3).trans rfl; have hfz10_0 := blk_frozen BK134.out 0; have hfz10_1 := blk_frozen BK134.out 1; have hfz10_2 := blk_frozen BK134.out 2; have hfz10_3 := blk_frozen BK134.out 3) | ((with_reducible refine gate_callee (f := 34) rfl ?_); refine goesL_ (some 5) rfl rfl Tryz.func34 (by kernel_rfl) rfl #[.string a0_0] rfl (by (try simp only [List.map_toArray, List.map_cons, List.map_nil]); first | done | rfl | (simp only [List.length_drop, List.length_take]; rfl)) ?_; (with_reducible refine (label_Path.calls k a0_0 t135 _ A2.out (Glob.below hG (by repeat (first | (with_reducible first | exact HB.out | apply below_alloc | apply pw_below_drewN | apply below_drew1) | exact HB.out)))).mono ?_); rintro e w11 ⟨rfl, hb⟩; refine ⟨_, rfl, ?_⟩; have n0_ := Aside0.mk (blk_below (g := gb134) (o := .cells #[.string a0_0, .string a0_1, .string a0_2, .int .i64 a0_3] 28 (0, 0)) (by (with_reducible repeat (first | refine blk_drewN ?_ _ | refine blk_drew ?_ | refine blk_alloc ?_ _)); exact BK134.out) hb); have n1_ := Aside0.mk (below_step (by repeat (first | (with_reducible first | exact HB.out | apply below_alloc | apply pw_below_drewN | apply below_drew1 | refine below_set ?_ GE134.out) | exact HB.out)) hb); clear BK134; clear HB; have BK134 := n0_; have HB := n1_; clear n0_ n1_; (try clear hb); (try clear hb2); (try clear hk); (try clear hi); have hcz12_0 : w11.cell? ⟨gb134, 0, none⟩ = some (.string a0_0) := (blk_cell BK134.out 0).trans rfl; have hcz12_1 : w11.cell? ⟨gb134, 1, none⟩ = some (.string a0_1) := (blk_cell BK134.out 1).trans rfl; have hcz12_2 : w11.cell? ⟨gb134, 2, none⟩ = some (.string a0_2) := (blk_cell BK134.out 2).trans rfl; have hcz12_3 : w11.cell? ⟨gb134, 3, none⟩ = some (.int .i64 a0_3) := (blk_cell BK134.out 3).trans rfl; have hfz12_0 := blk_frozen BK134.out 0; have hfz12_1 := blk_frozen BK134.out 1; have hfz12_2 := blk_frozen BK134.out 2; have hfz12_3 := blk_frozen BK134.out 3) | (go_at_call 69; (with_reducible refine (label_Name.calls a0_1 true _ A4.out).mono ?_); rintro e w13 ⟨rfl, hb⟩; have n0_ := Aside0.mk (blk_below (g := gb134) (o := .cells #[.string a0_0, .string a0_1, .string a0_2, .int .i64 a0_3] 28 (0, 0)) (by (with_reducible repeat (first | refine blk_drewN ?_ _ | refine blk_drew ?_ | refine blk_alloc ?_ _)); exact BK134.out) hb); have n1_ := Aside0.mk (below_step (by repeat (first | (with_reducible first | exact HB.out | apply below_alloc | apply pw_below_drewN | apply below_drew1 | refine below_set ?_ GE134.out) | exact HB.out)) hb); clear BK134; clear HB; have BK134 := n0_; have HB := n1_; clear n0_ n1_; (try clear hb); (try clear hb2); (try clear hk); (try clear hi); have hcz14_0 : w13.cell? ⟨gb134, 0, none⟩ = some (.string a0_0) := (blk_cell BK134.out 0).trans rfl; have hcz14_1 : w13.cell? ⟨gb134, 1, none⟩ = some (.string a0_1) := (blk_cell BK134.out 1).trans rfl; have hcz14_2 : w13.cell? ⟨gb134, 2, none⟩ = some (.string a0_2) := (blk_cell BK134.out 2).trans rfl; have hcz14_3 : w13.cell? ⟨gb134, 3, none⟩ = some (.int .i64 a0_3) := (blk_cell BK134.out 3).trans rfl; have hfz14_0 := blk_frozen BK134.out 0; have hfz14_1 := blk_frozen BK134.out 1; have hfz14_2 := blk_frozen BK134.out 2; have hfz14_3 := blk_frozen BK134.out 3) | (go_at_call 69; (with_reducible refine (label_Name.calls a0_2 true _ A6.out).mono ?_); rintro e w15 ⟨rfl, hb⟩; have n0_ := Aside0.mk (blk_below (g := gb134) (o := .cells #[.string a0_0, .string a0_1, .string a0_2, .int .i64 a0_3] 28 (0, 0)) (by (with_reducible repeat (first | refine blk_drewN ?_ _ | refine blk_drew ?_ | refine blk_alloc ?_ _)); exact BK134.out) hb); have n1_ := Aside0.mk (below_step (by repeat (first | (with_reducible first | exact HB.out | apply below_alloc | apply pw_below_drewN | apply below_drew1 | refine below_set ?_ GE134.out) | exact HB.out)) hb); clear BK134; clear HB; have BK134 := n0_; have HB := n1_; clear n0_ n1_; (try clear hb); (try clear hb2); (try clear hk); (try clear hi); have hcz16_0 : w15.cell? ⟨gb134, 0, none⟩ = some (.string a0_0) := (blk_cell BK134.out 0).trans rfl; have hcz16_1 : w15.cell? ⟨gb134, 1, none⟩ = some (.string a0_1) := (blk_cell BK134.out 1).trans rfl; have hcz16_2 : w15.cell? ⟨gb134, 2, none⟩ = some (.string a0_2) := (blk_cell BK134.out 2).trans rfl; have hcz16_3 : w15.cell? ⟨gb134, 3, none⟩ = some (.int .i64 a0_3) := (blk_cell BK134.out 3).trans rfl; have hfz16_0 := blk_frozen BK134.out 0; have hfz16_1 := blk_frozen BK134.out 1; have hfz16_2 := blk_frozen BK134.out 2; have hfz16_3 := blk_frozen BK134.out 3))
          go_ret
          exact ⟨by first | rfl | (simp [errW_none, errW_some] <;> rfl) | (simp [*, errW_none, errW_some] <;> rfl), by repeat (first | (with_reducible first | exact HB.out | apply below_alloc | apply pw_below_drewN | apply below_drew1 | refine below_set ?_ GE134.out) | exact HB.out)⟩
        · rw [if_neg c8] at H
          have c8b0 : decide (0 ≤ a0_3) = false := decide_eq_false c8
          clear c8
          obtain rfl := Option.some.inj H
          go_enter Tryz.func70, Tryz.ntmps70
          go_wp2_with (first | ((with_reducible refine gate_dst (N := 1) rfl ?_); refine box_event ?hg (N := 1) ?hd (cs := #[.string a0_0, .string a0_1, .string a0_2, .int .i64 a0_3]) (t := 28) ?hr ?_; (case hd => rfl); (case hg => rfl); (case hr => first | (go_simp; done) | (go_simp; rfl)); intro gb134 hg w17 hbox hb; have n0_ := Aside0.mk (below_step (by repeat (first | (with_reducible first | exact HB.out | apply below_alloc | apply pw_below_drewN | apply below_drew1) | exact HB.out)) hb); have n1_ := Aside0.mk (hbox); have n2_ := Aside0.mk ((by rw [hg]; exact (below_size (by repeat (first | (with_reducible first | exact HB.out | apply below_alloc | apply pw_below_drewN | apply below_drew1) | exact HB.out))) : w.heap.size ≤ gb134)); have n3_ := Aside0.mk ((by rw [hg]; exact (below_size (by repeat (first | (with_reducible first | exact HB.out | apply below_alloc | apply pw_below_drewN | apply below_drew1) | exact HB.out))) : w.heap.size ≤ gb134)); clear HB; have HB := n0_; have BK134 := n1_; have GW134 := n2_; have GE134 := n3_; clear n0_ n1_ n2_ n3_; clear hb hbox hg; have hcz18_0 : w17.cell? ⟨gb134, 0, none⟩ = some (.string a0_0) := (blk_cell BK134.out 0).trans rfl; have hcz18_1 : w17.cell? ⟨gb134, 1, none⟩ = some (.string a0_1) := (blk_cell BK134.out 1).trans rfl; have hcz18_2 : w17.cell? ⟨gb134, 2, none⟩ = some (.string a0_2) := (blk_cell BK134.out 2).trans rfl; have hcz18_3 : w17.cell? ⟨gb134, 3, none⟩ = some (.int .i64 a0_3) := (blk_cell BK134.out 3).trans rfl; have hfz18_0 := blk_frozen BK134.out 0; have hfz18_1 := blk_frozen BK134.out 1; have hfz18_2 := blk_frozen BK134.out 2; have hfz18_3 := blk_frozen BK134.out 3) | ((with_reducible refine gate_callee (f := 34) rfl ?_); refine goesL_ (some 5) rfl rfl Tryz.func34 (by kernel_rfl) rfl #[.string a0_0] rfl (by (try simp only [List.map_toArray, List.map_cons, List.map_nil]); first | done | rfl | (simp only [List.length_drop, List.length_take]; rfl)) ?_; (with_reducible refine (label_Path.calls k a0_0 t135 _ A2.out (Glob.below hG (by repeat (first | (with_reducible first | exact HB.out | apply below_alloc | apply pw_below_drewN | apply below_drew1) | exact HB.out)))).mono ?_); rintro e w19 ⟨rfl, hb⟩; refine ⟨_, rfl, ?_⟩; have n0_ := Aside0.mk (blk_below (g := gb134) (o := .cells #[.string a0_0, .string a0_1, .string a0_2, .int .i64 a0_3] 28 (0, 0)) (by (with_reducible repeat (first | refine blk_drewN ?_ _ | refine blk_drew ?_ | refine blk_alloc ?_ _)); exact BK134.out) hb); have n1_ := Aside0.mk (below_step (by repeat (first | (with_reducible first | exact HB.out | apply below_alloc | apply pw_below_drewN | apply below_drew1 | refine below_set ?_ GE134.out) | exact HB.out)) hb); clear BK134; clear HB; have BK134 := n0_; have HB := n1_; clear n0_ n1_; (try clear hb); (try clear hb2); (try clear hk); (try clear hi); have hcz20_0 : w19.cell? ⟨gb134, 0, none⟩ = some (.string a0_0) := (blk_cell BK134.out 0).trans rfl; have hcz20_1 : w19.cell? ⟨gb134, 1, none⟩ = some (.string a0_1) := (blk_cell BK134.out 1).trans rfl; have hcz20_2 : w19.cell? ⟨gb134, 2, none⟩ = some (.string a0_2) := (blk_cell BK134.out 2).trans rfl; have hcz20_3 : w19.cell? ⟨gb134, 3, none⟩ = some (.int .i64 a0_3) := (blk_cell BK134.out 3).trans rfl; have hfz20_0 := blk_frozen BK134.out 0; have hfz20_1 := blk_frozen BK134.out 1; have hfz20_2 := blk_frozen BK134.out 2; have hfz20_3 := blk_frozen BK134.out 3) | (go_at_call 69; (with_reducible refine (label_Name.calls a0_1 true _ A4.out).mono ?_); rintro e w21 ⟨rfl, hb⟩; have n0_ := Aside0.mk (blk_below (g := gb134) (o := .cells #[.string a0_0, .string a0_1, .string a0_2, .int .i64 a0_3] 28 (0, 0)) (by (with_reducible repeat (first | refine blk_drewN ?_ _ | refine blk_drew ?_ | refine blk_alloc ?_ _)); exact BK134.out) hb); have n1_ := Aside0.mk (below_step (by repeat (first | (with_reducible first | exact HB.out | apply below_alloc | apply pw_below_drewN | apply below_drew1 | refine below_set ?_ GE134.out) | exact HB.out)) hb); clear BK134; clear HB; have BK134 := n0_; have HB := n1_; clear n0_ n1_; (try clear hb); (try clear hb2); (try clear hk); (try clear hi); have hcz22_0 : w21.cell? ⟨gb134, 0, none⟩ = some (.string a0_0) := (blk_cell BK134.out 0).trans rfl; have hcz22_1 : w21.cell? ⟨gb134, 1, none⟩ = some (.string a0_1) := (blk_cell BK134.out 1).trans rfl; have hcz22_2 : w21.cell? ⟨gb134, 2, none⟩ = some (.string a0_2) := (blk_cell BK134.out 2).trans rfl; have hcz22_3 : w21.cell? ⟨gb134, 3, none⟩ = some (.int .i64 a0_3) := (blk_cell BK134.out 3).trans rfl; have hfz22_0 := blk_frozen BK134.out 0; have hfz22_1 := blk_frozen BK134.out 1; have hfz22_2 := blk_frozen BK134.out 2; have hfz22_3 := blk_frozen BK134.out 3) | (go_at_call 69; (with_reducible refine (label_Name.calls a0_2 true _ A6.out).mono ?_); rintro e w23 ⟨rfl, hb⟩; have n0_ := Aside0.mk (blk_below (g := gb134) (o := .cells #[.string a0_0, .string a0_1, .string a0_2, .int .i64 a0_3] 28 (0, 0)) (by (with_reducible repeat (first | refine blk_drewN ?_ _ | refine blk_drew ?_ | refine blk_alloc ?_ _)); exact BK134.out) hb); have n1_ := Aside0.mk (below_step (by repeat (first | (with_reducible first | exact HB.out | apply below_alloc | apply pw_below_drewN | apply below_drew1 | refine below_set ?_ GE134.out) | exact HB.out)) hb); clear BK134; clear HB; have BK134 := n0_; have HB := n1_; clear n0_ n1_; (try clear hb); (try clear hb2); (try clear hk); (try clear hi); have hcz24_0 : w23.cell? ⟨gb134, 0, none⟩ = some (.string a0_0) := (blk_cell BK134.out 0).trans rfl; have hcz24_1 : w23.cell? ⟨gb134, 1, none⟩ = some (.string a0_1) := (blk_cell BK134.out 1).trans rfl; have hcz24_2 : w23.cell? ⟨gb134, 2, none⟩ = some (.string a0_2) := (blk_cell BK134.out 2).trans rfl; have hcz24_3 : w23.cell? ⟨gb134, 3, none⟩ = some (.int .i64 a0_3) := (blk_cell BK134.out 3).trans rfl; have hfz24_0 := blk_frozen BK134.out 0; have hfz24_1 := blk_frozen BK134.out 1; have hfz24_2 := blk_frozen BK134.out 2; have hfz24_3 := blk_frozen BK134.out 3))
          go_ret
          exact ⟨by first | rfl | (simp [errW_none, errW_some] <;> rfl) | (simp [*, errW_none, errW_some] <;> rfl), by repeat (first | (with_reducible first | exact HB.out | apply below_alloc | apply pw_below_drewN | apply below_drew1 | refine below_set ?_ GE134.out) | exact HB.out)⟩
      · replace c7 := Bool.eq_false_iff.mpr c7
        subst c7
        have H1 : (some false) = some r := by rw [if_neg (show ¬ (false = true) by decide)] at H; exact H
        clear H
        have H := H1
        clear H1
        obtain rfl := Option.some.inj H
        go_enter Tryz.func70, Tryz.ntmps70
        go_wp2_with (first | ((with_reducible refine gate_dst (N := 1) rfl ?_); refine box_event ?hg (N := 1) ?hd (cs := #[.string a0_0, .string a0_1, .string a0_2, .int .i64 a0_3]) (t := 28) ?hr ?_; (case hd => rfl); (case hg => rfl); (case hr => first | (go_simp; done) | (go_simp; rfl)); intro gb134 hg w25 hbox hb; have n0_ := Aside0.mk (below_step (by repeat (first | (with_reducible first | exact HB.out | apply below_alloc | apply pw_below_drewN | apply below_drew1) | exact HB.out)) hb); have n1_ := Aside0.mk (hbox); have n2_ := Aside0.mk ((by rw [hg]; exact (below_size (by repeat (first | (with_reducible first | exact HB.out | apply below_alloc | apply pw_below_drewN | apply below_drew1) | exact HB.out))) : w.heap.size ≤ gb134)); have n3_ := Aside0.mk ((by rw [hg]; exact (below_size (by repeat (first | (with_reducible first | exact HB.out | apply below_alloc | apply pw_below_drewN | apply below_drew1) | exact HB.out))) : w.heap.size ≤ gb134)); clear HB; have HB := n0_; have BK134 := n1_; have GW134 := n2_; have GE134 := n3_; clear n0_ n1_ n2_ n3_; clear hb hbox hg; have hcz26_0 : w25.cell? ⟨gb134, 0, none⟩ = some (.string a0_0) := (blk_cell BK134.out 0).trans rfl; have hcz26_1 : w25.cell? ⟨gb134, 1, none⟩ = some (.string a0_1) := (blk_cell BK134.out 1).trans rfl; have hcz26_2 : w25.cell? ⟨gb134, 2, none⟩ = some (.string a0_2) := (blk_cell BK134.out 2).trans rfl; have hcz26_3 : w25.cell? ⟨gb134, 3, none⟩ = some (.int .i64 a0_3) := (blk_cell BK134.out 3).trans rfl; have hfz26_0 := blk_frozen BK134.out 0; have hfz26_1 := blk_frozen BK134.out 1; have hfz26_2 := blk_frozen BK134.out 2; have hfz26_3 := blk_frozen BK134.out 3) | ((with_reducible refine gate_callee (f := 34) rfl ?_); refine goesL_ (some 5) rfl rfl Tryz.func34 (by kernel_rfl) rfl #[.string a0_0] rfl (by (try simp only [List.map_toArray, List.map_cons, List.map_nil]); first | done | rfl | (simp only [List.length_drop, List.length_take]; rfl)) ?_; (with_reducible refine (label_Path.calls k a0_0 t135 _ A2.out (Glob.below hG (by repeat (first | (with_reducible first | exact HB.out | apply below_alloc | apply pw_below_drewN | apply below_drew1) | exact HB.out)))).mono ?_); rintro e w27 ⟨rfl, hb⟩; refine ⟨_, rfl, ?_⟩; have n0_ := Aside0.mk (blk_below (g := gb134) (o := .cells #[.string a0_0, .string a0_1, .string a0_2, .int .i64 a0_3] 28 (0, 0)) (by (with_reducible repeat (first | refine blk_drewN ?_ _ | refine blk_drew ?_ | refine blk_alloc ?_ _)); exact BK134.out) hb); have n1_ := Aside0.mk (below_step (by repeat (first | (with_reducible first | exact HB.out | apply below_alloc | apply pw_below_drewN | apply below_drew1 | refine below_set ?_ GE134.out) | exact HB.out)) hb); clear BK134; clear HB; have BK134 := n0_; have HB := n1_; clear n0_ n1_; (try clear hb); (try clear hb2); (try clear hk); (try clear hi); have hcz28_0 : w27.cell? ⟨gb134, 0, none⟩ = some (.string a0_0) := (blk_cell BK134.out 0).trans rfl; have hcz28_1 : w27.cell? ⟨gb134, 1, none⟩ = some (.string a0_1) := (blk_cell BK134.out 1).trans rfl; have hcz28_2 : w27.cell? ⟨gb134, 2, none⟩ = some (.string a0_2) := (blk_cell BK134.out 2).trans rfl; have hcz28_3 : w27.cell? ⟨gb134, 3, none⟩ = some (.int .i64 a0_3) := (blk_cell BK134.out 3).trans rfl; have hfz28_0 := blk_frozen BK134.out 0; have hfz28_1 := blk_frozen BK134.out 1; have hfz28_2 := blk_frozen BK134.out 2; have hfz28_3 := blk_frozen BK134.out 3) | (go_at_call 69; (with_reducible refine (label_Name.calls a0_1 true _ A4.out).mono ?_); rintro e w29 ⟨rfl, hb⟩; have n0_ := Aside0.mk (blk_below (g := gb134) (o := .cells #[.string a0_0, .string a0_1, .string a0_2, .int .i64 a0_3] 28 (0, 0)) (by (with_reducible repeat (first | refine blk_drewN ?_ _ | refine blk_drew ?_ | refine blk_alloc ?_ _)); exact BK134.out) hb); have n1_ := Aside0.mk (below_step (by repeat (first | (with_reducible first | exact HB.out | apply below_alloc | apply pw_below_drewN | apply below_drew1 | refine below_set ?_ GE134.out) | exact HB.out)) hb); clear BK134; clear HB; have BK134 := n0_; have HB := n1_; clear n0_ n1_; (try clear hb); (try clear hb2); (try clear hk); (try clear hi); have hcz30_0 : w29.cell? ⟨gb134, 0, none⟩ = some (.string a0_0) := (blk_cell BK134.out 0).trans rfl; have hcz30_1 : w29.cell? ⟨gb134, 1, none⟩ = some (.string a0_1) := (blk_cell BK134.out 1).trans rfl; have hcz30_2 : w29.cell? ⟨gb134, 2, none⟩ = some (.string a0_2) := (blk_cell BK134.out 2).trans rfl; have hcz30_3 : w29.cell? ⟨gb134, 3, none⟩ = some (.int .i64 a0_3) := (blk_cell BK134.out 3).trans rfl; have hfz30_0 := blk_frozen BK134.out 0; have hfz30_1 := blk_frozen BK134.out 1; have hfz30_2 := blk_frozen BK134.out 2; have hfz30_3 := blk_frozen BK134.out 3) | (go_at_call 69; (with_reducible refine (label_Name.calls a0_2 false _ A6.out).mono ?_); rintro e w31 ⟨rfl, hb⟩; have n0_ := Aside0.mk (blk_below (g := gb134) (o := .cells #[.string a0_0, .string a0_1, .string a0_2, .int .i64 a0_3] 28 (0, 0)) (by (with_reducible repeat (first | refine blk_drewN ?_ _ | refine blk_drew ?_ | refine blk_alloc ?_ _)); exact BK134.out) hb); have n1_ := Aside0.mk (below_step (by repeat (first | (with_reducible first | exact HB.out | apply below_alloc | apply pw_below_drewN | apply below_drew1 | refine below_set ?_ GE134.out) | exact HB.out)) hb); clear BK134; clear HB; have BK134 := n0_; have HB := n1_; clear n0_ n1_; (try clear hb); (try clear hb2); (try clear hk); (try clear hi)))
        go_ret
        exact ⟨by first | rfl | (simp [errW_none, errW_some] <;> rfl) | (simp [*, errW_none, errW_some] <;> rfl), by repeat (first | (with_reducible first | exact HB.out | apply below_alloc | apply pw_below_drewN | apply below_drew1 | refine below_set ?_ GE134.out) | exact HB.out)⟩
    · replace c5 := Bool.eq_false_iff.mpr c5
      subst c5
      have H1 : (some false) = some r := by rw [if_neg (show ¬ (false = true) by decide)] at H; exact H
      clear H
      have H := H1
      clear H1
      obtain rfl := Option.some.inj H
      go_enter Tryz.func70, Tryz.ntmps70
      go_wp2_with (first | ((with_reducible refine gate_dst (N := 1) rfl ?_); refine box_event ?hg (N := 1) ?hd (cs := #[.string a0_0, .string a0_1, .string a0_2, .int .i64 a0_3]) (t := 28) ?hr ?_; (case hd => rfl); (case hg => rfl); (case hr => first | (go_simp; done) | (go_simp; rfl)); intro gb134 hg w32 hbox hb; have n0_ := Aside0.mk (below_step (by repeat (first | (with_reducible first | exact HB.out | apply below_alloc | apply pw_below_drewN | apply below_drew1) | exact HB.out)) hb); have n1_ := Aside0.mk (hbox); have n2_ := Aside0.mk ((by rw [hg]; exact (below_size (by repeat (first | (with_reducible first | exact HB.out | apply below_alloc | apply pw_below_drewN | apply below_drew1) | exact HB.out))) : w.heap.size ≤ gb134)); have n3_ := Aside0.mk ((by rw [hg]; exact (below_size (by repeat (first | (with_reducible first | exact HB.out | apply below_alloc | apply pw_below_drewN | apply below_drew1) | exact HB.out))) : w.heap.size ≤ gb134)); clear HB; have HB := n0_; have BK134 := n1_; have GW134 := n2_; have GE134 := n3_; clear n0_ n1_ n2_ n3_; clear hb hbox hg; have hcz33_0 : w32.cell? ⟨gb134, 0, none⟩ = some (.string a0_0) := (blk_cell BK134.out 0).trans rfl; have hcz33_1 : w32.cell? ⟨gb134, 1, none⟩ = some (.string a0_1) := (blk_cell BK134.out 1).trans rfl; have hcz33_2 : w32.cell? ⟨gb134, 2, none⟩ = some (.string a0_2) := (blk_cell BK134.out 2).trans rfl; have hcz33_3 : w32.cell? ⟨gb134, 3, none⟩ = some (.int .i64 a0_3) := (blk_cell BK134.out 3).trans rfl; have hfz33_0 := blk_frozen BK134.out 0; have hfz33_1 := blk_frozen BK134.out 1; have hfz33_2 := blk_frozen BK134.out 2; have hfz33_3 := blk_frozen BK134.out 3) | ((with_reducible refine gate_callee (f := 34) rfl ?_); refine goesL_ (some 5) rfl rfl Tryz.func34 (by kernel_rfl) rfl #[.string a0_0] rfl (by (try simp only [List.map_toArray, List.map_cons, List.map_nil]); first | done | rfl | (simp only [List.length_drop, List.length_take]; rfl)) ?_; (with_reducible refine (label_Path.calls k a0_0 t135 _ A2.out (Glob.below hG (by repeat (first | (with_reducible first | exact HB.out | apply below_alloc | apply pw_below_drewN | apply below_drew1) | exact HB.out)))).mono ?_); rintro e w34 ⟨rfl, hb⟩; refine ⟨_, rfl, ?_⟩; have n0_ := Aside0.mk (blk_below (g := gb134) (o := .cells #[.string a0_0, .string a0_1, .string a0_2, .int .i64 a0_3] 28 (0, 0)) (by (with_reducible repeat (first | refine blk_drewN ?_ _ | refine blk_drew ?_ | refine blk_alloc ?_ _)); exact BK134.out) hb); have n1_ := Aside0.mk (below_step (by repeat (first | (with_reducible first | exact HB.out | apply below_alloc | apply pw_below_drewN | apply below_drew1 | refine below_set ?_ GE134.out) | exact HB.out)) hb); clear BK134; clear HB; have BK134 := n0_; have HB := n1_; clear n0_ n1_; (try clear hb); (try clear hb2); (try clear hk); (try clear hi); have hcz35_0 : w34.cell? ⟨gb134, 0, none⟩ = some (.string a0_0) := (blk_cell BK134.out 0).trans rfl; have hcz35_1 : w34.cell? ⟨gb134, 1, none⟩ = some (.string a0_1) := (blk_cell BK134.out 1).trans rfl; have hcz35_2 : w34.cell? ⟨gb134, 2, none⟩ = some (.string a0_2) := (blk_cell BK134.out 2).trans rfl; have hcz35_3 : w34.cell? ⟨gb134, 3, none⟩ = some (.int .i64 a0_3) := (blk_cell BK134.out 3).trans rfl; have hfz35_0 := blk_frozen BK134.out 0; have hfz35_1 := blk_frozen BK134.out 1; have hfz35_2 := blk_frozen BK134.out 2; have hfz35_3 := blk_frozen BK134.out 3) | (go_at_call 69; (with_reducible refine (label_Name.calls a0_1 false _ A4.out).mono ?_); rintro e w36 ⟨rfl, hb⟩; have n0_ := Aside0.mk (blk_below (g := gb134) (o := .cells #[.string a0_0, .string a0_1, .string a0_2, .int .i64 a0_3] 28 (0, 0)) (by (with_reducible repeat (first | refine blk_drewN ?_ _ | refine blk_drew ?_ | refine blk_alloc ?_ _)); exact BK134.out) hb); have n1_ := Aside0.mk (below_step (by repeat (first | (with_reducible first | exact HB.out | apply below_alloc | apply pw_below_drewN | apply below_drew1 | refine below_set ?_ GE134.out) | exact HB.out)) hb); clear BK134; clear HB; have BK134 := n0_; have HB := n1_; clear n0_ n1_; (try clear hb); (try clear hb2); (try clear hk); (try clear hi)))
      go_ret
      exact ⟨by first | rfl | (simp [errW_none, errW_some] <;> rfl) | (simp [*, errW_none, errW_some] <;> rfl), by repeat (first | (with_reducible first | exact HB.out | apply below_alloc | apply pw_below_drewN | apply below_drew1 | refine below_set ?_ GE134.out) | exact HB.out)⟩
  · rw [if_neg c3] at H
    have c3b0 : (t135 == 0) = false := beq_eq_false_iff_ne.mpr c3
    have c3b1 : (t135 != 0) = true := bne_iff_ne.mpr c3
    obtain rfl := Option.some.inj H
    go_enter Tryz.func70, Tryz.ntmps70
    go_wp2_with (first | ((with_reducible refine gate_dst (N := 1) rfl ?_); refine box_event ?hg (N := 1) ?hd (cs := #[.string a0_0, .string a0_1, .string a0_2, .int .i64 a0_3]) (t := 28) ?hr ?_; (case hd => rfl); (case hg => rfl); (case hr => first | (go_simp; done) | (go_simp; rfl)); intro gb134 hg w37 hbox hb; have n0_ := Aside0.mk (below_step (by repeat (first | (with_reducible first | exact HB.out | apply below_alloc | apply pw_below_drewN | apply below_drew1) | exact HB.out)) hb); have n1_ := Aside0.mk (hbox); have n2_ := Aside0.mk ((by rw [hg]; exact (below_size (by repeat (first | (with_reducible first | exact HB.out | apply below_alloc | apply pw_below_drewN | apply below_drew1) | exact HB.out))) : w.heap.size ≤ gb134)); have n3_ := Aside0.mk ((by rw [hg]; exact (below_size (by repeat (first | (with_reducible first | exact HB.out | apply below_alloc | apply pw_below_drewN | apply below_drew1) | exact HB.out))) : w.heap.size ≤ gb134)); clear HB; have HB := n0_; have BK134 := n1_; have GW134 := n2_; have GE134 := n3_; clear n0_ n1_ n2_ n3_; clear hb hbox hg; have hcz38_0 : w37.cell? ⟨gb134, 0, none⟩ = some (.string a0_0) := (blk_cell BK134.out 0).trans rfl; have hcz38_1 : w37.cell? ⟨gb134, 1, none⟩ = some (.string a0_1) := (blk_cell BK134.out 1).trans rfl; have hcz38_2 : w37.cell? ⟨gb134, 2, none⟩ = some (.string a0_2) := (blk_cell BK134.out 2).trans rfl; have hcz38_3 : w37.cell? ⟨gb134, 3, none⟩ = some (.int .i64 a0_3) := (blk_cell BK134.out 3).trans rfl; have hfz38_0 := blk_frozen BK134.out 0; have hfz38_1 := blk_frozen BK134.out 1; have hfz38_2 := blk_frozen BK134.out 2; have hfz38_3 := blk_frozen BK134.out 3) | ((with_reducible refine gate_callee (f := 34) rfl ?_); refine goesL_ (some 5) rfl rfl Tryz.func34 (by kernel_rfl) rfl #[.string a0_0] rfl (by (try simp only [List.map_toArray, List.map_cons, List.map_nil]); first | done | rfl | (simp only [List.length_drop, List.length_take]; rfl)) ?_; (with_reducible refine (label_Path.calls k a0_0 t135 _ A2.out (Glob.below hG (by repeat (first | (with_reducible first | exact HB.out | apply below_alloc | apply pw_below_drewN | apply below_drew1) | exact HB.out)))).mono ?_); rintro e w39 ⟨rfl, hb⟩; refine ⟨_, rfl, ?_⟩; have n0_ := Aside0.mk (blk_below (g := gb134) (o := .cells #[.string a0_0, .string a0_1, .string a0_2, .int .i64 a0_3] 28 (0, 0)) (by (with_reducible repeat (first | refine blk_drewN ?_ _ | refine blk_drew ?_ | refine blk_alloc ?_ _)); exact BK134.out) hb); have n1_ := Aside0.mk (below_step (by repeat (first | (with_reducible first | exact HB.out | apply below_alloc | apply pw_below_drewN | apply below_drew1 | refine below_set ?_ GE134.out) | exact HB.out)) hb); clear BK134; clear HB; have BK134 := n0_; have HB := n1_; clear n0_ n1_; (try clear hb); (try clear hb2); (try clear hk); (try clear hi)))
    go_ret
    exact ⟨by first | rfl | (simp [errW_none, errW_some] <;> rfl) | (simp [*, errW_none, errW_some] <;> rfl), by repeat (first | (with_reducible first | exact HB.out | apply below_alloc | apply pw_below_drewN | apply below_drew1 | refine below_set ?_ GE134.out) | exact HB.out)⟩
end Go.Proofs.YtphddbijdfmpjaaGreatDoor.Q
namespace Go.Proofs.YtphddbijdfmpjaaGreatDoor.Wr
open Go.RowKit Go.MapRaw Go.Proofs.YtphddbijdfmpjaaGreatDoorW.PrintWords Go.Proofs.YtphddbijdfmpjaaGreatDoorW.PrintLast Go.Proofs.YtphddbijdfmpjaaGreatDoor.Q
open Go.ChangeMaps (setBlock)
set_option linter.unusedVariables false
set_option linter.unusedSimpArgs false
def formedB (b : Bnd) : Bool := decide (pathS b.path = 0) && nameB b.name && nameB b.subject && decide (b.verb ≥ 0) && decide (b.verb ≤ 3)
theorem formed_f (b : Bnd) : ∃ k, object_formedBinding.f k b.path b.name b.subject b.verb = some (formedB b) := by
  obtain ⟨K, hK⟩ := path_ev b.path
  refine ⟨K, ?_⟩
  have h : label_Path.f K b.path = _ := hK K (Nat.le_refl _)
  unfold object_formedBinding.f label_Name.f formedB
  rw [h]
  simp only [Option.bind_some]
  by_cases h1 : pathS b.path = 0 <;> simp [h1]
  by_cases h2 : nameB b.name = true <;> simp [h2]
  by_cases h3 : nameB b.subject = true <;> simp [h3]
  by_cases h4 : b.verb ≥ 0 <;> simp [h4]
theorem formed_ok (b : Bnd) (w : World) (hG : Glob w) : Calls Tryz.prog 70 #[eV b] w fun e w' => e = .returned (.bool (formedB b)) ∧ Below w.heap.size w w' := by
  obtain ⟨k, h⟩ := formed_f b
  exact object_formedBinding.calls k _ _ _ _ _ w h hG
theorem formed_small {b : Bnd} (h : formedB b = true) : b.path.size < 128 ∧ b.name.size < 128 ∧ b.subject.size < 128 ∧ 0 ≤ b.verb ∧ b.verb ≤ 3 := by
  unfold formedB at h
  simp only [Bool.and_eq_true, decide_eq_true_eq] at h
  obtain ⟨⟨⟨⟨h1, h2⟩, h3⟩, h4⟩, h5⟩ := h
  have n2 := name_size h2
  have n3 := name_size h3
  have : b.path.size ≤ 64 := by
    rcases path_cases b.path with ⟨ns, hp, _⟩ | ⟨_, hb⟩
    · exact hp.size
    · unfold pathS at h1; rw [hb] at h1; cases h1
  exact ⟨by omega, by omega, by omega, h4, h5⟩
set_option maxRecDepth 100000 in
set_option maxHeartbeats 4000000 in
theorem encode_ok (b : Bnd) (w : World) (hG : Glob w) : Calls Tryz.prog 49 #[eV b] w fun e w' => (∃ s, e = .returned (.tuple #[.string s, .int .i64 (if formedB b = true then 0 else 130)])) ∧ Below w.heap.size w w' := by
  obtain ⟨bp, bn, bs, bv⟩ := b
  have hu27 := Tryz.underlying28
  have key := formed_ok ⟨bp, bn, bs, bv⟩
  unfold eV at key ⊢
  by_cases hf : formedB ⟨bp, bn, bs, bv⟩ = true
  · obtain ⟨s1, s2, s3, v0, v3⟩ := formed_small hf
    simp only at s1 s2 s3 v0 v3
    rw [if_pos hf]
    rw [hf] at key
    have hL := hG.letterB
    have KEY := Lib.hid key
    have hwv : IntKind.u8.wrap bv = bv := by rw [IntKind.wrap_u8]; omega
    have r1 := Lib.hid (show (((headOf 66 bp bn).length + 1 + bs.size : Nat) : Int) ≤ 1048576 by simp [headOf, blen]; omega)
    have r2 := Lib.hid (show (((headOf 66 bp bn ++ [(bs.size : Int)] ++ bytesOf bs).length + 1 : Nat) : Int) ≤ 1048576 by simp [headOf, blen]; omega)
    have r3 := Lib.hid (show (headOf 66 bp bn ++ [(bs.size : Int)] ++ bytesOf bs ++ [bv]).length ≤ 8192 by simp [headOf, blen]; omega)
    have hal := (Below.refl w.heap.size w).alloc (Nat.le_refl _) (.cells #[.string bp, .string bn, .string bs, .int .i64 bv] 28)
    have hnew := blk_new w (.cells #[.string bp, .string bn, .string bs, .int .i64 bv] 28)
    have hG1 := Glob.below hG hal
    have AL := Lib.hid hal
    have NW := Lib.hid hnew
    have GL := Lib.hid hG1
    clear key hG1 hal hnew hG hL
    go_enter Tryz.func49, Tryz.ntmps49
    go_upto_region 1 with fail
    generalize w.alloc _ = w1 at AL NW GL ⊢
    have hd0 := (blk_cell NW.out 0).trans rfl
    have hd1 := (blk_cell NW.out 1).trans rfl
    have hd2 := (blk_cell NW.out 2).trans rfl
    have hd3 := (blk_cell NW.out 3).trans rfl
    go_wp2_with (first
      | (go_at_call 70; refine (KEY.out _ GL.out).mono ?_; rintro e w2 ⟨rfl, hb2⟩; have B2 := Lib.hid (AL.out.trans (below_lower hb2 AL.out.size)); have N2 := Lib.hid (blk_below NW.out hb2); have hL2 := (Glob.below GL.out hb2).letterB; have hc0 := (blk_cell N2.out 0).trans rfl; have hc1 := (blk_cell N2.out 1).trans rfl; clear hb2)
      | (go_at_call 71; refine (begun_ok _ _ _ _ s1 s2).mono ?_; rintro e w3 ⟨g, rfl, h3, hb3⟩; have W3 := Lib.hid h3; have B3 := Lib.hid hb3; have N3 := Lib.hid (blk_below N2.out hb3); have hc2 := (blk_cell N3.out 2).trans rfl; clear h3 hb3)
      | (go_at_call 72; (with_reducible refine (text_ok _ w2.heap.size g 1048576 (headOf 66 bp bn) bs s3 W3.out (Int.le_refl _) r1.out B3.out.size).mono ?_); rintro e w4 ⟨rfl, h4, hb4⟩; have W4 := Lib.hid h4; have B4 := Lib.hid (B3.out.trans hb4); have N4 := Lib.hid (blk_below N2.out (B3.out.trans hb4)); have hc3 := (blk_cell N4.out 3).trans rfl; clear h4 hb4)
      | (go_at_call 73; (with_reducible refine (byte_ok _ w2.heap.size g 1048576 _ bv W4.out (Int.le_refl _) r2.out B4.out.size).mono ?_); rintro e w5 ⟨rfl, h5, hb5⟩; have W5 := Lib.hid h5; have B5 := Lib.hid (B4.out.trans hb5); clear h5 hb5)
      | (go_at_call 74; (with_reducible refine (done_ok _ w2.heap.size g 1048576 _ W5.out r3.out).mono ?_); rintro e w6 ⟨rfl, hb6⟩; have B6 := Lib.hid (B5.out.trans (below_lower hb6 B5.out.size)); clear hb6))
    go_ret2
    exact ⟨⟨_, rfl⟩, B2.out.trans (below_lower B6.out B2.out.size)⟩
  · rw [if_neg hf]
    rw [show formedB ⟨bp, bn, bs, bv⟩ = false by simpa using hf] at key
    have KEY := Lib.hid key
    have hal := (Below.refl w.heap.size w).alloc (Nat.le_refl _) (.cells #[.string bp, .string bn, .string bs, .int .i64 bv] 28)
    have hnew := blk_new w (.cells #[.string bp, .string bn, .string bs, .int .i64 bv] 28)
    have hG1 := Glob.below hG hal
    have AL := Lib.hid hal
    have NW := Lib.hid hnew
    have GL := Lib.hid hG1
    clear key hG1 hal hnew hG
    go_enter Tryz.func49, Tryz.ntmps49
    go_upto_region 1 with fail
    generalize w.alloc _ = w1 at AL NW GL ⊢
    have hd0 := (blk_cell NW.out 0).trans rfl
    have hd1 := (blk_cell NW.out 1).trans rfl
    have hd2 := (blk_cell NW.out 2).trans rfl
    have hd3 := (blk_cell NW.out 3).trans rfl
    go_wp2_with (go_at_call 70; refine (KEY.out _ GL.out).mono ?_; rintro e w2 ⟨rfl, hb2⟩; have B2 := Lib.hid (AL.out.trans (below_lower hb2 AL.out.size)); clear hb2)
    go_ret2
    exact ⟨⟨_, rfl⟩, B2.out⟩
set_option maxRecDepth 100000 in
set_option maxHeartbeats 4000000 in
theorem valid_ok (b : Bnd) (w : World) (hG : Glob w) : Calls Tryz.prog 29 #[eV b] w fun e w' => e = .returned (.int .i64 (if formedB b = true then 0 else 130)) ∧ Below w.heap.size w w' := by
  obtain ⟨bp, bn, bs, bv⟩ := b
  have hu27 := Tryz.underlying28
  have key := encode_ok ⟨bp, bn, bs, bv⟩
  generalize (if formedB ⟨bp, bn, bs, bv⟩ = true then (0 : Int) else 130) = res at key ⊢
  unfold eV at key ⊢
  have KEY := Lib.hid key
  have hal := (Below.refl w.heap.size w).alloc (Nat.le_refl _) (.cells #[.string bp, .string bn, .string bs, .int .i64 bv] 28)
  have hnew := blk_new w (.cells #[.string bp, .string bn, .string bs, .int .i64 bv] 28)
  have hG1 := Glob.below hG hal
  have AL := Lib.hid hal
  have NW := Lib.hid hnew
  have GL := Lib.hid hG1
  clear key hG1 hal hnew hG
  go_enter Tryz.func29, Tryz.ntmps29
  go_upto_region 1 with fail
  generalize w.alloc _ = w1 at AL NW GL ⊢
  have hd0 := (blk_cell NW.out 0).trans rfl
  have hd1 := (blk_cell NW.out 1).trans rfl
  have hd2 := (blk_cell NW.out 2).trans rfl
  have hd3 := (blk_cell NW.out 3).trans rfl
  go_wp2_with (go_at_call 49; refine (KEY.out _ GL.out).mono ?_; rintro e w2 ⟨⟨s, rfl⟩, hb2⟩; have B2 := Lib.hid (AL.out.trans (below_lower hb2 AL.out.size)); clear hb2)
  go_ret
  exact ⟨rfl, B2.out⟩
end Go.Proofs.YtphddbijdfmpjaaGreatDoor.Wr
namespace Go.Proofs.YtphddbijdfmpjaaGreatDoor.Wr
open Go.RowKit Go.MapRaw Go.Proofs.YtphddbijdfmpjaaGreatDoorW.PrintWords Go.Proofs.YtphddbijdfmpjaaGreatDoorW.PrintLast Go.Proofs.YtphddbijdfmpjaaGreatDoor.Q
open Go.ChangeMaps (setBlock)
set_option linter.unusedVariables false
set_option linter.unusedSimpArgs false
structure Off (b : Nat) (w w' : World) : Prop where
  os : w'.os = w.os
  tape : w'.tape = w.tape
  output : w'.output = w.output
  size : w.heap.size ≤ w'.heap.size
  block : ∀ k, k < w.heap.size → k ≠ b → w'.heap[k]? = w.heap[k]?
theorem Off.refl (b : Nat) (w : World) : Off b w w := ⟨rfl, rfl, rfl, Nat.le_refl _, fun _ _ _ => rfl⟩
theorem Off.trans {b : Nat} {u v w : World} (h : Off b u v) (k : Off b v w) : Off b u w :=
  ⟨k.os.trans h.os, k.tape.trans h.tape, k.output.trans h.output, Nat.le_trans h.size k.size, fun i hi hn => (k.block i (Nat.lt_of_lt_of_le hi h.size) hn).trans (h.block i hi hn)⟩
theorem Off.of_below {b : Nat} {w w' : World} (h : Below w.heap.size w w') : Off b w w' := ⟨h.os, h.tape, h.output, h.size, fun k hk _ => h.block k hk⟩
theorem Off.below {b : Nat} {w w' : World} (h : Off b w w') (hb : w.heap.size ≤ b) : Below w.heap.size w w' := ⟨h.os, h.tape, h.output, h.size, fun k hk => h.block k hk (by omega)⟩
theorem Off.set (b : Nat) (w : World) (o : Obj) : Off b w (setBlock w b o) := ⟨rfl, rfl, rfl, by rw [set_size]; exact Nat.le_refl _, fun k _ hk => set_far _ _ _ _ hk⟩
structure TB (w : World) (t b : Nat) (M : Tab) : Prop where
  at_ : w.heap[t]? = some (.cells #[.map (some b)] 38 (0, 0))
  ne : t ≠ b
  holds : Holds eK eV w b M
  nodup : (M.map (·.1)).Nodup
  fits : ∀ p ∈ M, p.1 = (p.2.path, p.2.name) ∧ formedB p.2 = true
theorem TB.below {w w' : World} {t b : Nat} {M : Tab} (h : TB w t b M) (hb : Below w.heap.size w w') : TB w' t b M :=
  ⟨blk_below h.at_ hb, h.ne, Holds_move h.holds (hb.block _ (Holds_lt h.holds)), h.nodup, h.fits⟩
theorem TB.cell {w : World} {t b : Nat} {M : Tab} (h : TB w t b M) : w.cell? ⟨t, 0, none⟩ = some (.map (some b)) := (blk_cell h.at_ 0).trans rfl
theorem TB.off {w w' : World} {t b : Nat} {M M' : Tab} (h : TB w t b M) (ho : Off b w w') (hH : Holds eK eV w' b M') (hn : (M'.map (·.1)).Nodup) (hf : ∀ p ∈ M', p.1 = (p.2.path, p.2.name) ∧ formedB p.2 = true) : TB w' t b M' :=
  ⟨(ho.block _ (blk_lt h.at_) h.ne).trans h.at_, h.ne, hH, hn, hf⟩
theorem TB.belowB {B : Nat} {w w' : World} {t b : Nat} {M : Tab} (h : TB w t b M) (hb : Below B w w') (ht : t < B) (hb' : b < B) : TB w' t b M :=
  ⟨(hb.block t ht).trans h.at_, h.ne, Holds_move h.holds (hb.block b hb'), h.nodup, h.fits⟩
theorem TB.lt {w : World} {t b : Nat} {M : Tab} (h : TB w t b M) : t < w.heap.size ∧ b < w.heap.size := ⟨blk_lt h.at_, Holds_lt h.holds⟩
set_option maxHeartbeats 4000000 in
theorem newT_ok (w : World) : Calls Tryz.prog 4 #[] w fun e w' => ∃ t b, e = .returned (.pointer (some ⟨t, 0, none⟩)) ∧ TB w' t b [] ∧ w.heap.size ≤ t ∧ w.heap.size ≤ b ∧ Below w.heap.size w w' := by
  have hu66 := Tryz.underlying36
  have hmk : (Instr.makeMap 36 none).run Tryz.prog w = .ok (.map (some w.heap.size)) (w.alloc (.map #[] 0)) := rfl
  go_enter Tryz.func4, Tryz.ntmps4
  go_wp2
  go_ret
  have hs : (w.alloc (.map #[] 0)).heap.size = w.heap.size + 1 := by simp
  have hb0 : (w.alloc (.map #[] 0)).heap[w.heap.size]? = some (.map #[] 0) := heap_alloc_new w _
  have h1 := heap_alloc_new (w.alloc (.map #[] 0)) (.cells #[.map (some w.heap.size)] 38)
  rw [hs] at h1
  refine ⟨_, w.heap.size, rfl, ⟨h1, ?_, ⟨#[], 0, (heap_alloc_old _ _ (by rw [hs]; omega)).trans hb0, ⟨rfl, by simp, by simp⟩⟩, by simp, by simp⟩, ?_, Nat.le_refl _, ((Below.refl _ _).alloc (Nat.le_refl _) _).alloc ?_ _⟩
  all_goals (first | omega | (rw [hs]; omega))
end Go.Proofs.YtphddbijdfmpjaaGreatDoor.Wr
namespace Go.Proofs.YtphddbijdfmpjaaGreatDoor.Wr
open Go.RowKit Go.MapRaw Go.Proofs.YtphddbijdfmpjaaGreatDoorW.PrintWords Go.Proofs.YtphddbijdfmpjaaGreatDoorW.PrintLast Go.Proofs.YtphddbijdfmpjaaGreatDoor.Q
open Go.ChangeMaps (setBlock)
set_option linter.unusedVariables false
set_option linter.unusedSimpArgs false
def setE (M : Tab) (b : Bnd) : Int := if formedB b = true then (if (getA (b.path, b.name) M).isNone = true ∧ 16 ≤ cnt b.path M then 194 else 0) else 130
def setM (M : Tab) (b : Bnd) : Tab := if setE M b = 0 then putA (b.path, b.name) b M else M
theorem put_mem {k : Key} {v : Bnd} {x : Key × Bnd} : ∀ {M : Tab}, x ∈ putA k v M → x = (k, v) ∨ x ∈ M
  | [], h => by simp [putA] at h; exact .inl h
  | p :: r, h => by
    unfold putA at h
    by_cases e : p.1 = k
    · rw [if_pos e] at h
      rcases List.mem_cons.1 h with h | h
      · exact .inl h
      · exact .inr (List.mem_cons_of_mem _ h)
    · rw [if_neg e] at h
      rcases List.mem_cons.1 h with h | h
      · exact .inr (by rw [h]; exact List.mem_cons_self)
      · exact (put_mem h).elim .inl fun h => .inr (List.mem_cons_of_mem _ h)
theorem setM_nodup {M : Tab} (b : Bnd) (h : (M.map (·.1)).Nodup) : ((setM M b).map (·.1)).Nodup := by
  unfold setM
  split
  · exact nodup_put _ _ M h
  · exact h
theorem setM_fits {M : Tab} (b : Bnd) (h : ∀ p ∈ M, p.1 = (p.2.path, p.2.name) ∧ formedB p.2 = true) : ∀ p ∈ setM M b, p.1 = (p.2.path, p.2.name) ∧ formedB p.2 = true := by
  unfold setM
  split
  · rename_i h0
    intro p hp
    rcases put_mem hp with rfl | hp
    · refine ⟨rfl, ?_⟩
      by_cases hf : formedB b = true
      · exact hf
      · unfold setE at h0; rw [if_neg hf] at h0; cases h0
    · exact h p hp
  · exact h
set_option maxRecDepth 100000 in
set_option maxHeartbeats 8000000 in
theorem set_ok (w : World) (t b : Nat) (M : Tab) (bd : Bnd) (hT : TB w t b M) (hG : Glob w) (hM : M.length ≤ 2513169434843) :
    Calls Tryz.prog 10 #[.pointer (some ⟨t, 0, none⟩), eV bd] w fun e w' => e = .returned (.int .i64 (setE M bd)) ∧ TB w' t b (setM M bd) ∧ Off b w w' := by
  obtain ⟨bp, bn, bs, bv⟩ := bd
  have hu27 := Tryz.underlying28
  have hu70 := Tryz.underlying52
  have key := valid_ok ⟨bp, bn, bs, bv⟩
  have hsl := setM_nodup (M := M) ⟨bp, bn, bs, bv⟩ hT.nodup
  have hsf := setM_fits (M := M) ⟨bp, bn, bs, bv⟩ hT.fits
  by_cases hf : formedB ⟨bp, bn, bs, bv⟩ = true
  · rw [if_pos hf] at key
    have hE : setE M ⟨bp, bn, bs, bv⟩ = if (getA (bp, bn) M).isNone = true ∧ 16 ≤ cnt bp M then 194 else 0 := by unfold setE; rw [if_pos hf]
    unfold eV at key ⊢
    have KEY := Lib.hid key
    have hal := (Below.refl w.heap.size w).alloc (Nat.le_refl _) (.cells #[.string bp, .string bn, .string bs, .int .i64 bv] 28)
    have hnew := blk_new w (.cells #[.string bp, .string bn, .string bs, .int .i64 bv] 28)
    have hG1 := Glob.below hG hal
    have hT1 := TB.below hT hal
    have AL := Lib.hid hal
    have NW := Lib.hid hnew
    have GL := Lib.hid hG1
    have TL := Lib.hid hT1
    have HE := Lib.hid hE
    have HM := Lib.hid hM
    have HSL := Lib.hid hsl
    have HSF := Lib.hid hsf
    clear key hG1 hal hnew hG hT1 hT hE hM hsl hsf hf
    go_enter Tryz.func10, Tryz.ntmps10
    go_upto_region 1 with fail
    generalize w.alloc _ = w1 at AL NW GL TL ⊢
    have hd0 := (blk_cell NW.out 0).trans rfl
    have hd1 := (blk_cell NW.out 1).trans rfl
    have hd2 := (blk_cell NW.out 2).trans rfl
    have hd3 := (blk_cell NW.out 3).trans rfl
    go_upto_region 4 with (go_at_call 29; refine (KEY.out _ GL.out).mono ?_; rintro e w2 ⟨rfl, hb2⟩; have B2 := Lib.hid (AL.out.trans (below_lower hb2 AL.out.size)); have N2 := Lib.hid (blk_below NW.out hb2); have T2 := Lib.hid (TB.below TL.out hb2); have he0 := (blk_cell N2.out 0).trans rfl; have he1 := (blk_cell N2.out 1).trans rfl; have he2 := (blk_cell N2.out 2).trans rfl; have he3 := (blk_cell N2.out 3).trans rfl; clear hb2)
    have hal3 := B2.out.alloc (Nat.le_trans (Nat.le_refl _) B2.out.size) (.cells #[.string bp, .string bn] 52)
    have hb3 := (Below.refl w2.heap.size w2).alloc (Nat.le_refl _) (.cells #[.string bp, .string bn] 52)
    have hT3 := TB.below T2.out hb3
    have hN3 := blk_below N2.out hb3
    have hP3 := blk_new w2 (.cells #[.string bp, .string bn] 52)
    have AL3 := Lib.hid hal3
    have TL3 := Lib.hid hT3
    have NW3 := Lib.hid hN3
    have NP3 := Lib.hid hP3
    have HPP := Lib.hid B2.out.size
    obtain ⟨pp, hpp⟩ : ∃ pp, pp = w2.heap.size := ⟨_, rfl⟩
    rw [← hpp] at NP3 HPP ⊢
    clear hal3 hb3 hT3 hN3 hP3 hpp T2 N2 B2 AL TL NW GL
    generalize w2.alloc _ = w3 at AL3 TL3 NW3 NP3 ⊢
    clear hd0 hd1 hd2 hd3 he0 he1 he2 he3
    have hz := Tryz.zeroValue28 w3
    have hlk := fun w' (h : Holds eK eV w' b M) => h.lookup kind_pl (fun a => ⟨a, rfl⟩) eqPl_iff 36 28 Tryz.underlying36 (bp, bn) _ (Tryz.zeroValue28 w') true
    obtain ⟨c, hc⟩ : ∃ c : Bnd, ∀ w', Holds eK eV w' b M → (Instr.lookup 36 (.map (some b)) (.agg #[.string bp, .string bn]) true).run Tryz.prog w' = .ok (.tuple #[.agg #[.string c.path, .string c.name, .string c.subject, .int .i64 c.verb], .bool (getA (bp, bn) M).isSome]) w' := by
      refine ⟨(getA (bp, bn) M).getD ⟨⟨#[]⟩, ⟨#[]⟩, ⟨#[]⟩, 0⟩, fun w' h => (hlk w' h).trans ?_⟩
      cases getA (bp, bn) M <;> rfl
    obtain ⟨there, hth⟩ : ∃ x, x = (getA (bp, bn) M).isSome := ⟨_, rfl⟩
    rw [← hth] at hc
    have HC := Lib.hid hc
    have HTH := Lib.hid hth
    clear hz hlk hc hth
    obtain ⟨cp, cn, cs, cv⟩ := c
    refine start_ (n := 12) (S := fun w' => w'.cell? ⟨t, 0, none⟩ = some (.map (some b)) ∧ w'.cell? ⟨pp, 0, none⟩ = some (.string bp) ∧ w'.cell? ⟨pp, 1, none⟩ = some (.string bn) ∧ (Instr.lookup 36 (.map (some b)) (.agg #[.string bp, .string bn]) true).run Tryz.prog w' = .ok (.tuple #[.agg #[.string cp, .string cn, .string cs, .int .i64 cv], .bool there]) w') (ds := []) (bl 0 12) (by kernel_rfl) rfl rfl ⟨TL3.out.cell, (blk_cell NP3.out 0).trans rfl, (blk_cell NP3.out 1).trans rfl, HC.out _ (Holds_move TL3.out.holds rfl)⟩ (fun hHeld => ?_)
    have hwd := drew_below w3
    have hT4 := TB.below TL3.out hwd
    have hN4 := blk_below NW3.out hwd
    have hP4 := blk_below NP3.out hwd
    have hA4 := AL3.out.trans (below_lower hwd AL3.out.size)
    have T4 := Lib.hid hT4
    have N4 := Lib.hid hN4
    have P4 := Lib.hid hP4
    have A4 := Lib.hid hA4
    clear hwd hT4 hN4 hP4 hA4 TL3 NW3 NP3 AL3
    generalize w3.drew = wd at T4 N4 P4 A4 hHeld ⊢
    refine pure_ (i := 0) (N := some 17) (v := ?_) (a' := ?_) (bl 1 11) rfl rfl (by kernel_rfl) (fun _ _ _ h => h) (Or.inl ⟨by rfl, ?_⟩) ?_ ?_
    rotate_left
    · intro w'
      go_simp
      with_reducible rfl
    rotate_left
    · simp only [Act.put, List.setIfInBounds_toArray, List.set_cons_zero, List.set_cons_succ, i64_w, i32_w]
      rfl
    refine pure_ (i := 1) (N := some 18) (v := ?_) (a' := ?_) (bl 2 10) rfl rfl (by kernel_rfl) (fun _ _ _ h => h) (Or.inl ⟨by rfl, ?_⟩) ?_ ?_
    rotate_left
    · intro w'
      go_simp
      with_reducible rfl
    rotate_left
    · simp only [Act.put, List.setIfInBounds_toArray, List.set_cons_zero, List.set_cons_succ, i64_w, i32_w]
      rfl
    refine pure_ (i := 2) (N := some 19) (v := ?_) (a' := ?_) (bl 3 9) rfl rfl (by kernel_rfl) (fun _ _ _ h => h) (Or.inl ⟨by rfl, ?_⟩) ?_ ?_
    rotate_left
    · intro w'
      go_simp
      with_reducible rfl
    rotate_left
    · simp only [Act.put, List.setIfInBounds_toArray, List.set_cons_zero, List.set_cons_succ, i64_w, i32_w]
      rfl
    refine take_ (i := 3) (N := some 20) (v := ?_) (a' := ?_) (bl 4 8) rfl rfl (by kernel_rfl) (fun _ _ _ h => h) (Or.inl ⟨by rfl, ?_⟩) hHeld ?_ ?_
    rotate_left
    · rintro w' ⟨s0, s1, s2, s3⟩
      go_simp
      with_reducible rfl
    rotate_left
    · simp only [Act.put, List.setIfInBounds_toArray, List.set_cons_zero, List.set_cons_succ, i64_w, i32_w]
      rfl
    refine take_ (i := 4) (N := some 21) (v := ?_) (a' := ?_) (bl 5 7) rfl rfl (by kernel_rfl) (fun _ _ _ h => h) (Or.inl ⟨by rfl, ?_⟩) hHeld ?_ ?_
    rotate_left
    · rintro w' ⟨s0, s1, s2, s3⟩
      go_simp
      with_reducible rfl
    rotate_left
    · simp only [Act.put, List.setIfInBounds_toArray, List.set_cons_zero, List.set_cons_succ, i64_w, i32_w]
      rfl
    refine take_ (i := 5) (N := some 22) (v := ?_) (a' := ?_) (bl 6 6) rfl rfl (by kernel_rfl) (fun _ _ _ h => h) (Or.inl ⟨by rfl, ?_⟩) hHeld ?_ ?_
    rotate_left
    · rintro w' ⟨s0, s1, s2, s3⟩
      go_simp
      with_reducible rfl
    rotate_left
    · simp only [Act.put, List.setIfInBounds_toArray, List.set_cons_zero, List.set_cons_succ, i64_w, i32_w]
      rfl
    refine pure_ (i := 6) (N := some 16) (v := ?_) (a' := ?_) (bl 7 5) rfl rfl (by kernel_rfl) (fun _ _ _ h => h) (Or.inl ⟨by rfl, ?_⟩) ?_ ?_
    rotate_left
    · intro w'
      go_simp
      with_reducible rfl
    rotate_left
    · simp only [Act.put, List.setIfInBounds_toArray, List.set_cons_zero, List.set_cons_succ, i64_w, i32_w]
      rfl
    refine pure_ (i := 7) (N := some 23) (v := ?_) (a' := ?_) (bl 8 4) rfl rfl (by kernel_rfl) (fun _ _ _ h => h) (Or.inl ⟨by rfl, ?_⟩) ?_ ?_
    rotate_left
    · intro w'
      go_simp
      with_reducible rfl
    rotate_left
    · simp only [Act.put, List.setIfInBounds_toArray, List.set_cons_zero, List.set_cons_succ, i64_w, i32_w]
      rfl
    refine pure_ (i := 8) (N := some 24) (v := ?_) (a' := ?_) (bl 9 3) rfl rfl (by kernel_rfl) (fun _ _ _ h => h) (Or.inl ⟨by rfl, ?_⟩) ?_ ?_
    rotate_left
    · intro w'
      go_simp
      with_reducible rfl
    rotate_left
    · simp only [Act.put, List.setIfInBounds_toArray, List.set_cons_zero, List.set_cons_succ, i64_w, i32_w]
      rfl
    refine one_ (i := 9) (N := some 6) (bl 10 2) rfl rfl (by kernel_rfl) (by decide) (fun K hK => ?_)
    refine value_ (v := .pointer (some ⟨wd.heap.size, 0, none⟩)) (w1 := wd.alloc (.cells #[.string ⟨#[]⟩, .string ⟨#[]⟩, .string ⟨#[]⟩, .int .i64 0] 28)) (by rfl) rfl ?_ ?_
    · go_simp
    have hal5 := (Below.refl wd.heap.size wd).alloc (Nat.le_refl _) (.cells #[.string ⟨#[]⟩, .string ⟨#[]⟩, .string ⟨#[]⟩, .int .i64 0] 28)
    have hT5 := TB.below T4.out hal5
    have hN5 := blk_below N4.out hal5
    have hP5 := blk_below P4.out hal5
    have hA5 := A4.out.trans (below_lower hal5 A4.out.size)
    have hQ5 := blk_new wd (.cells #[.string ⟨#[]⟩, .string ⟨#[]⟩, .string ⟨#[]⟩, .int .i64 0] 28)
    have T5 := Lib.hid hT5
    have N5 := Lib.hid hN5
    have P5 := Lib.hid hP5
    have A5 := Lib.hid hA5
    have Q5 := Lib.hid hQ5
    have HQ := Lib.hid (show t < wd.heap.size ∧ b < wd.heap.size ∧ w.heap.size < wd.heap.size ∧ pp < wd.heap.size from ⟨T4.out.lt.1, T4.out.lt.2, blk_lt N4.out, blk_lt P4.out⟩)
    have HA := Lib.hid A4.out.size
    obtain ⟨qq, hqq⟩ : ∃ qq, qq = wd.heap.size := ⟨_, rfl⟩
    rw [← hqq] at Q5 HQ HA ⊢
    clear hal5 hT5 hN5 hP5 hA5 hQ5 hqq T4 N4 P4 A4
    generalize wd.alloc _ = w5 at T5 N5 P5 A5 Q5 ⊢
    refine hK.out _ _ ⟨T5.out.cell, (blk_cell P5.out 0).trans rfl, (blk_cell P5.out 1).trans rfl, HC.out _ T5.out.holds⟩ (fun hHeld => ?_)
    clear hK K
    refine norm_ (a' := ?_) ?_ ?_
    rotate_left
    · show Act.put _ (some 6) _ = _
      simp only [Act.put, List.setIfInBounds_toArray, List.set_cons_zero, List.set_cons_succ, i64_w, i32_w]
      rfl
    refine one_ (i := 10) (N := none) (bl 11 1) rfl rfl (by kernel_rfl) (by decide) (fun K hK => ?_)
    have hf0 := blk_frozen Q5.out 0
    have hf1 := blk_frozen Q5.out 1
    have hf2 := blk_frozen Q5.out 2
    have hf3 := blk_frozen Q5.out 3
    have hcs0 := (blk_cell Q5.out 0).trans rfl
    have hcs1 := (blk_cell Q5.out 1).trans rfl
    have hcs2 := (blk_cell Q5.out 2).trans rfl
    have hcs3 := (blk_cell Q5.out 3).trans rfl
    refine skip_ (w1 := ?_) (by rfl) rfl ?_ ?_
    rotate_left
    · go_simp
      rfl
    have hbq := ((((Below.refl qq w5).setCell (p := ⟨qq, 0, none⟩) (Nat.le_refl qq) (.string cp)).setCell (p := ⟨qq, 1, none⟩) (Nat.le_refl qq) (.string cn)).setCell (p := ⟨qq, 2, none⟩) (Nat.le_refl qq) (.string cs)).setCell (p := ⟨qq, 3, none⟩) (Nat.le_refl qq) (.int .i64 cv)
    have T6 := Lib.hid (T5.out.belowB hbq HQ.out.1 HQ.out.2.1)
    have N6 := Lib.hid ((hbq.block _ HQ.out.2.2.1).trans N5.out)
    have P6 := Lib.hid ((hbq.block _ HQ.out.2.2.2).trans P5.out)
    have A6 := Lib.hid (A5.out.trans (below_lower hbq (Nat.le_of_lt HQ.out.2.2.1)))
    clear hf0 hf1 hf2 hf3 hcs0 hcs1 hcs2 hcs3 hbq T5 N5 P5 A5 Q5
    generalize World.setCell _ _ _ = w6 at T6 N6 P6 A6 ⊢
    refine hK.out _ _ ⟨T6.out.cell, (blk_cell P6.out 0).trans rfl, (blk_cell P6.out 1).trans rfl, HC.out _ T6.out.holds⟩ (fun hHeld => ?_)
    clear hK K
    refine pure_ (i := 11) (N := some 7) (v := ?_) (a' := ?_) (bl 12 0) rfl rfl (by kernel_rfl) (fun _ _ _ h => h) (Or.inl ⟨by rfl, ?_⟩) ?_ ?_
    rotate_left
    · intro w'
      go_simp
      with_reducible rfl
    rotate_left
    · simp only [Act.put, List.setIfInBounds_toArray, List.set_cons_zero, List.set_cons_succ, i64_w, i32_w]
      rfl
    refine done_ (by kernel_rfl) ?_
    clear hHeld HC HQ HA
    have hd0 := (blk_cell N6.out 0).trans rfl
    have hd1 := (blk_cell N6.out 1).trans rfl
    have hd2 := (blk_cell N6.out 2).trans rfl
    have hd3 := (blk_cell N6.out 3).trans rfl
    have hmany := many_ok w6 t b M bp T6.out.cell T6.out.holds HM.out
    have MANY := Lib.hid hmany
    clear hmany
    cases there
    · by_cases h16 : 16 ≤ cnt bp M
      · have hdec : decide ((cnt bp M : Int) ≥ 16) = true := decide_eq_true (by omega)
        have H16 := Lib.hid h16
        clear h16
        go_wp2_with (go_at_call 30; refine MANY.out.mono ?_; rintro e w7 ⟨rfl, hb7⟩; have B7 := Lib.hid hb7; clear hb7)
        go_ret
        have e1 : setE M ⟨bp, bn, bs, bv⟩ = 194 := by rw [HE.out, if_pos ⟨by simpa using HTH.out.symm, H16.out⟩]
        have e2 : setM M ⟨bp, bn, bs, bv⟩ = M := by unfold setM; rw [e1, if_neg (by decide)]
        exact ⟨by rw [e1] <;> rfl, by rw [e2]; exact T6.out.below B7.out, Off.of_below (A6.out.trans (below_lower B7.out A6.out.size))⟩
      · have hdec : decide ((cnt bp M : Int) ≥ 16) = false := decide_eq_false (by omega)
        have H16 := Lib.hid h16
        clear h16
        go_upto_region 7 with (go_at_call 30; refine MANY.out.mono ?_; rintro e w7 ⟨rfl, hb7⟩; have B7 := Lib.hid hb7; clear hb7)
        have T7 := Lib.hid (T6.out.below B7.out)
        have N7 := Lib.hid (blk_below N6.out B7.out)
        have P7 := Lib.hid (blk_below P6.out B7.out)
        have A7 := Lib.hid (A6.out.trans (below_lower B7.out A6.out.size))
        clear T6 N6 P6 A6 B7 MANY hdec
        have hE0 : setE M ⟨bp, bn, bs, bv⟩ = 0 := by rw [HE.out, if_neg (fun h => H16.out h.2)]
        have hM0 : setM M ⟨bp, bn, bs, bv⟩ = putA (bp, bn) ⟨bp, bn, bs, bv⟩ M := by unfold setM; rw [if_pos hE0]
        have HM0 := Lib.hid hM0
        have HE0 := Lib.hid hE0
        clear hE0 hM0 hd0 hd1 hd2 hd3
        refine start_ (n := 7) (S := fun w' => w'.cell? ⟨t, 0, none⟩ = some (.map (some b)) ∧ w'.cell? ⟨pp, 0, none⟩ = some (.string bp) ∧ w'.cell? ⟨pp, 1, none⟩ = some (.string bn) ∧ w'.cell? ⟨w.heap.size, 0, none⟩ = some (.string bp) ∧ w'.cell? ⟨w.heap.size, 1, none⟩ = some (.string bn) ∧ w'.cell? ⟨w.heap.size, 2, none⟩ = some (.string bs) ∧ w'.cell? ⟨w.heap.size, 3, none⟩ = some (.int .i64 bv)) (ds := [6]) (bl 0 7) (by kernel_rfl) rfl rfl ⟨T7.out.cell, (blk_cell P7.out 0).trans rfl, (blk_cell P7.out 1).trans rfl, (blk_cell N7.out 0).trans rfl, (blk_cell N7.out 1).trans rfl, (blk_cell N7.out 2).trans rfl, (blk_cell N7.out 3).trans rfl⟩ (fun hHeld => ?_)
        have hwd := drew_below w7
        have T8 := Lib.hid (TB.below T7.out hwd)
        have A8 := Lib.hid (A7.out.trans (below_lower hwd A7.out.size))
        clear hwd T7 N7 P7 A7
        generalize w7.drew = wd at T8 A8 hHeld ⊢
        refine pure_ (i := 0) (N := some 34) (v := ?_) (a' := ?_) (bl 1 6) rfl rfl (by kernel_rfl) (fun _ _ _ h => h) (Or.inl ⟨by rfl, ?_⟩) ?_ ?_
        rotate_left
        · intro w'
          go_simp
          with_reducible rfl
        rotate_left
        · simp only [Act.put, List.setIfInBounds_toArray, List.set_cons_zero, List.set_cons_succ, i64_w, i32_w]
          rfl
        refine pure_ (i := 1) (N := some 35) (v := ?_) (a' := ?_) (bl 2 5) rfl rfl (by kernel_rfl) (fun _ _ _ h => h) (Or.inl ⟨by rfl, ?_⟩) ?_ ?_
        rotate_left
        · intro w'
          go_simp
          with_reducible rfl
        rotate_left
        · simp only [Act.put, List.setIfInBounds_toArray, List.set_cons_zero, List.set_cons_succ, i64_w, i32_w]
          rfl
        refine pure_ (i := 2) (N := some 36) (v := ?_) (a' := ?_) (bl 3 4) rfl rfl (by kernel_rfl) (fun _ _ _ h => h) (Or.inl ⟨by rfl, ?_⟩) ?_ ?_
        rotate_left
        · intro w'
          go_simp
          with_reducible rfl
        rotate_left
        · simp only [Act.put, List.setIfInBounds_toArray, List.set_cons_zero, List.set_cons_succ, i64_w, i32_w]
          rfl
        refine take_ (i := 3) (N := some 37) (v := ?_) (a' := ?_) (bl 4 3) rfl rfl (by kernel_rfl) (fun _ _ _ h => h) (Or.inl ⟨by rfl, ?_⟩) hHeld ?_ ?_
        rotate_left
        · rintro w' ⟨s0, s1, s2, s3, s4, s5, s6⟩
          go_simp
          with_reducible rfl
        rotate_left
        · simp only [Act.put, List.setIfInBounds_toArray, List.set_cons_zero, List.set_cons_succ, i64_w, i32_w]
          rfl
        refine take_ (i := 4) (N := some 38) (v := ?_) (a' := ?_) (bl 5 2) rfl rfl (by kernel_rfl) (fun _ _ _ h => h) (Or.inl ⟨by rfl, ?_⟩) hHeld ?_ ?_
        rotate_left
        · rintro w' ⟨s0, s1, s2, s3, s4, s5, s6⟩
          go_simp
          with_reducible rfl
        rotate_left
        · simp only [Act.put, List.setIfInBounds_toArray, List.set_cons_zero, List.set_cons_succ, i64_w, i32_w]
          rfl
        refine take_ (i := 5) (N := some 39) (v := ?_) (a' := ?_) (bl 6 1) rfl rfl (by kernel_rfl) (fun _ _ _ h => h) (Or.inl ⟨by rfl, ?_⟩) hHeld ?_ ?_
        rotate_left
        · rintro w' ⟨s0, s1, s2, s3, s4, s5, s6⟩
          go_simp
          with_reducible rfl
        rotate_left
        · simp only [Act.put, List.setIfInBounds_toArray, List.set_cons_zero, List.set_cons_succ, i64_w, i32_w]
          rfl
        refine last_ (i := 6) (N := none) (bl 7 0) rfl rfl (by kernel_rfl) (by decide) (fun K hK => ?_)
        have hup := T8.out.holds.update (P := Tryz.prog) kind_pl (fun a => ⟨a, rfl⟩) eqPl_iff 36 28 Tryz.underlying36 (bp, bn) ⟨bp, bn, bs, bv⟩
        obtain ⟨o, hrun, hho⟩ := hup
        have HHO := Lib.hid hho
        clear hho
        unfold eK eV at hrun
        refine skip_ (w1 := setBlock wd b o) (by rfl) rfl ?_ ?_
        · go_simp
        refine hK.out _ _ ?_
        clear hK K hrun
        refine done_ (by kernel_rfl) ?_
        have TF := Lib.hid (TB.off T8.out (Off.set b wd o) HHO.out (by rw [← HM0.out]; exact HSL.out) (by rw [← HM0.out]; exact HSF.out))
        have OF := Lib.hid ((Off.of_below (b := b) A8.out).trans (Off.set b wd o))
        clear T8 A8 HHO
        generalize setBlock wd b o = wz at TF OF ⊢
        go_wp2
        go_ret
        exact ⟨by rw [HE0.out] <;> rfl, by rw [HM0.out]; exact TF.out, OF.out⟩
    · go_upto_region 7 with fail
      have T7 := Lib.hid T6.out
      have N7 := Lib.hid N6.out
      have P7 := Lib.hid P6.out
      have A7 := Lib.hid A6.out
      clear T6 N6 P6 A6 MANY
      obtain ⟨w7, hw7⟩ : ∃ w7, w7 = w6 := ⟨_, rfl⟩
      rw [← hw7] at T7 N7 P7 A7 ⊢
      clear hw7
      have hE0 : setE M ⟨bp, bn, bs, bv⟩ = 0 := by rw [HE.out, if_neg (fun h => by have h1 := HTH.out; have h2 := h.1; rw [Option.isNone_iff_eq_none] at h2; rw [h2] at h1; cases h1)]
      have hM0 : setM M ⟨bp, bn, bs, bv⟩ = putA (bp, bn) ⟨bp, bn, bs, bv⟩ M := by unfold setM; rw [if_pos hE0]
      have HM0 := Lib.hid hM0
      have HE0 := Lib.hid hE0
      clear hE0 hM0 hd0 hd1 hd2 hd3
      refine start_ (n := 7) (S := fun w' => w'.cell? ⟨t, 0, none⟩ = some (.map (some b)) ∧ w'.cell? ⟨pp, 0, none⟩ = some (.string bp) ∧ w'.cell? ⟨pp, 1, none⟩ = some (.string bn) ∧ w'.cell? ⟨w.heap.size, 0, none⟩ = some (.string bp) ∧ w'.cell? ⟨w.heap.size, 1, none⟩ = some (.string bn) ∧ w'.cell? ⟨w.heap.size, 2, none⟩ = some (.string bs) ∧ w'.cell? ⟨w.heap.size, 3, none⟩ = some (.int .i64 bv)) (ds := [6]) (bl 0 7) (by kernel_rfl) rfl rfl ⟨T7.out.cell, (blk_cell P7.out 0).trans rfl, (blk_cell P7.out 1).trans rfl, (blk_cell N7.out 0).trans rfl, (blk_cell N7.out 1).trans rfl, (blk_cell N7.out 2).trans rfl, (blk_cell N7.out 3).trans rfl⟩ (fun hHeld => ?_)
      have hwd := drew_below w7
      have T8 := Lib.hid (TB.below T7.out hwd)
      have A8 := Lib.hid (A7.out.trans (below_lower hwd A7.out.size))
      clear hwd T7 N7 P7 A7
      generalize w7.drew = wd at T8 A8 hHeld ⊢
      refine pure_ (i := 0) (N := some 34) (v := ?_) (a' := ?_) (bl 1 6) rfl rfl (by kernel_rfl) (fun _ _ _ h => h) (Or.inl ⟨by rfl, ?_⟩) ?_ ?_
      rotate_left
      · intro w'
        go_simp
        with_reducible rfl
      rotate_left
      · simp only [Act.put, List.setIfInBounds_toArray, List.set_cons_zero, List.set_cons_succ, i64_w, i32_w]
        rfl
      refine pure_ (i := 1) (N := some 35) (v := ?_) (a' := ?_) (bl 2 5) rfl rfl (by kernel_rfl) (fun _ _ _ h => h) (Or.inl ⟨by rfl, ?_⟩) ?_ ?_
      rotate_left
      · intro w'
        go_simp
        with_reducible rfl
      rotate_left
      · simp only [Act.put, List.setIfInBounds_toArray, List.set_cons_zero, List.set_cons_succ, i64_w, i32_w]
        rfl
      refine pure_ (i := 2) (N := some 36) (v := ?_) (a' := ?_) (bl 3 4) rfl rfl (by kernel_rfl) (fun _ _ _ h => h) (Or.inl ⟨by rfl, ?_⟩) ?_ ?_
      rotate_left
      · intro w'
        go_simp
        with_reducible rfl
      rotate_left
      · simp only [Act.put, List.setIfInBounds_toArray, List.set_cons_zero, List.set_cons_succ, i64_w, i32_w]
        rfl
      refine take_ (i := 3) (N := some 37) (v := ?_) (a' := ?_) (bl 4 3) rfl rfl (by kernel_rfl) (fun _ _ _ h => h) (Or.inl ⟨by rfl, ?_⟩) hHeld ?_ ?_
      rotate_left
      · rintro w' ⟨s0, s1, s2, s3, s4, s5, s6⟩
        go_simp
        with_reducible rfl
      rotate_left
      · simp only [Act.put, List.setIfInBounds_toArray, List.set_cons_zero, List.set_cons_succ, i64_w, i32_w]
        rfl
      refine take_ (i := 4) (N := some 38) (v := ?_) (a' := ?_) (bl 5 2) rfl rfl (by kernel_rfl) (fun _ _ _ h => h) (Or.inl ⟨by rfl, ?_⟩) hHeld ?_ ?_
      rotate_left
      · rintro w' ⟨s0, s1, s2, s3, s4, s5, s6⟩
        go_simp
        with_reducible rfl
      rotate_left
      · simp only [Act.put, List.setIfInBounds_toArray, List.set_cons_zero, List.set_cons_succ, i64_w, i32_w]
        rfl
      refine take_ (i := 5) (N := some 39) (v := ?_) (a' := ?_) (bl 6 1) rfl rfl (by kernel_rfl) (fun _ _ _ h => h) (Or.inl ⟨by rfl, ?_⟩) hHeld ?_ ?_
      rotate_left
      · rintro w' ⟨s0, s1, s2, s3, s4, s5, s6⟩
        go_simp
        with_reducible rfl
      rotate_left
      · simp only [Act.put, List.setIfInBounds_toArray, List.set_cons_zero, List.set_cons_succ, i64_w, i32_w]
        rfl
      refine last_ (i := 6) (N := none) (bl 7 0) rfl rfl (by kernel_rfl) (by decide) (fun K hK => ?_)
      have hup := T8.out.holds.update (P := Tryz.prog) kind_pl (fun a => ⟨a, rfl⟩) eqPl_iff 36 28 Tryz.underlying36 (bp, bn) ⟨bp, bn, bs, bv⟩
      obtain ⟨o, hrun, hho⟩ := hup
      have HHO := Lib.hid hho
      clear hho
      unfold eK eV at hrun
      refine skip_ (w1 := setBlock wd b o) (by rfl) rfl ?_ ?_
      · go_simp
      refine hK.out _ _ ?_
      clear hK K hrun
      refine done_ (by kernel_rfl) ?_
      have TF := Lib.hid (TB.off T8.out (Off.set b wd o) HHO.out (by rw [← HM0.out]; exact HSL.out) (by rw [← HM0.out]; exact HSF.out))
      have OF := Lib.hid ((Off.of_below (b := b) A8.out).trans (Off.set b wd o))
      clear T8 A8 HHO
      generalize setBlock wd b o = wz at TF OF ⊢
      go_wp2
      go_ret
      exact ⟨by rw [HE0.out] <;> rfl, by rw [HM0.out]; exact TF.out, OF.out⟩
  · rw [if_neg hf] at key
    have hE : setE M ⟨bp, bn, bs, bv⟩ = 130 := by unfold setE; rw [if_neg hf]
    have hM0 : setM M ⟨bp, bn, bs, bv⟩ = M := by unfold setM; rw [hE, if_neg (by decide)]
    rw [hE, hM0]
    clear hE hM0 hsl hsf hM hf
    unfold eV at key ⊢
    have KEY := Lib.hid key
    have hal := (Below.refl w.heap.size w).alloc (Nat.le_refl _) (.cells #[.string bp, .string bn, .string bs, .int .i64 bv] 28)
    have hnew := blk_new w (.cells #[.string bp, .string bn, .string bs, .int .i64 bv] 28)
    have hG1 := Glob.below hG hal
    have hT1 := TB.below hT hal
    have AL := Lib.hid hal
    have NW := Lib.hid hnew
    have GL := Lib.hid hG1
    have TL := Lib.hid hT1
    clear key hG1 hal hnew hG hT1 hT
    go_enter Tryz.func10, Tryz.ntmps10
    go_upto_region 1 with fail
    generalize w.alloc _ = w1 at AL NW GL TL ⊢
    have hd0 := (blk_cell NW.out 0).trans rfl
    have hd1 := (blk_cell NW.out 1).trans rfl
    have hd2 := (blk_cell NW.out 2).trans rfl
    have hd3 := (blk_cell NW.out 3).trans rfl
    go_wp2_with (go_at_call 29; refine (KEY.out _ GL.out).mono ?_; rintro e w2 ⟨rfl, hb2⟩; have B2 := Lib.hid hb2; clear hb2)
    go_ret
    exact ⟨rfl, TL.out.below B2.out, Off.of_below (AL.out.trans (below_lower B2.out AL.out.size))⟩
end Go.Proofs.YtphddbijdfmpjaaGreatDoor.Wr
namespace Go.Proofs.YtphddbijdfmpjaaGreatDoor.Wr
open Go.RowKit Go.MapRaw Go.Proofs.YtphddbijdfmpjaaGreatDoorW.PrintWords Go.Proofs.YtphddbijdfmpjaaGreatDoorW.PrintLast Go.Proofs.YtphddbijdfmpjaaGreatDoor.Q
open Go.ChangeMaps (setBlock)
set_option linter.unusedVariables false
set_option linter.unusedSimpArgs false
def dropE (M : Tab) (path name : ByteArray) : Int := if pathS path = 0 then (if (getA (path, name) M).isSome = true then 0 else 191) else 41
def dropM (M : Tab) (path name : ByteArray) : Tab := if dropE M path name = 0 then delA (path, name) M else M
theorem del_mem {k : Key} {x : Key × Bnd} {M : Tab} (h : x ∈ delA k M) : x ∈ M := del_sub k M x h
theorem path_ok (s : ByteArray) (w : World) (hG : Glob w) : Calls Tryz.prog 34 #[.string s] w fun e w' => e = .returned (.int .i64 (pathS s)) ∧ Below w.heap.size w w' := by
  obtain ⟨k, h⟩ := path_ev s
  exact label_Path.calls k _ _ w (h k (Nat.le_refl _)) hG
set_option maxRecDepth 100000 in
set_option maxHeartbeats 4000000 in
theorem drop_ok (w : World) (t b : Nat) (M : Tab) (dp dn : ByteArray) (hT : TB w t b M) (hG : Glob w) :
    Calls Tryz.prog 12 #[.pointer (some ⟨t, 0, none⟩), .string dp, .string dn] w fun e w' => e = .returned (.int .i64 (dropE M dp dn)) ∧ TB w' t b (dropM M dp dn) ∧ Off b w w' := by
  have hu70 := Tryz.underlying52
  have hu27 := Tryz.underlying28
  have key := path_ok dp w hG
  rcases line_cases dp with ⟨hp, _⟩ | ⟨hp, _⟩
  · rw [hp] at key
    have hE : dropE M dp dn = if (getA (dp, dn) M).isSome = true then 0 else 191 := by unfold dropE; rw [if_pos hp]
    have hlk := fun w' (h : Holds eK eV w' b M) => h.lookup kind_pl (fun a => ⟨a, rfl⟩) eqPl_iff 36 28 Tryz.underlying36 (dp, dn) _ (Tryz.zeroValue28 w') true
    obtain ⟨c, hc⟩ : ∃ c : Bnd, ∀ w', Holds eK eV w' b M → (Instr.lookup 36 (.map (some b)) (.agg #[.string dp, .string dn]) true).run Tryz.prog w' = .ok (.tuple #[.agg #[.string c.path, .string c.name, .string c.subject, .int .i64 c.verb], .bool (getA (dp, dn) M).isSome]) w' := by
      refine ⟨(getA (dp, dn) M).getD ⟨⟨#[]⟩, ⟨#[]⟩, ⟨#[]⟩, 0⟩, fun w' h => (hlk w' h).trans ?_⟩
      cases getA (dp, dn) M <;> rfl
    obtain ⟨there, hth⟩ : ∃ x, x = (getA (dp, dn) M).isSome := ⟨_, rfl⟩
    rw [← hth] at hc hE
    have HC := Lib.hid hc
    have HE := Lib.hid hE
    have KEY := Lib.hid key
    have TL := Lib.hid hT
    clear hlk hc hth hE key hG hT hp
    obtain ⟨cp, cn, cs, cv⟩ := c
    go_enter Tryz.func12, Tryz.ntmps12
    go_upto_region 3 with (go_at_call 34; refine KEY.out.mono ?_; rintro e w2 ⟨rfl, hb2⟩; have B2 := Lib.hid hb2; have T2 := Lib.hid (TL.out.below hb2); clear hb2)
    have hc0 := T2.out.cell
    have hrun := HC.out _ T2.out.holds
    go_upto_region 4 with fail
    have hbq := (Below.refl w2.heap.size w2).alloc (Nat.le_refl _) (.cells #[.string cp, .string cn, .string cs, .int .i64 cv] 28)
    have B3 := Lib.hid (B2.out.trans (below_lower hbq B2.out.size))
    have T3 := Lib.hid (T2.out.below hbq)
    clear hbq T2 B2 TL hc0 hrun
    generalize w2.alloc _ = w3 at T3 B3 ⊢
    have hc0 := T3.out.cell
    cases there
    · go_wp2
      go_ret
      have e2 : dropM M dp dn = M := by unfold dropM; rw [HE.out, if_neg (by decide)]
      exact ⟨by rw [HE.out] <;> rfl, by rw [e2]; exact T3.out, Off.of_below B3.out⟩
    · have hdel := T3.out.holds.delete (P := Tryz.prog) kind_pl (fun a => ⟨a, rfl⟩) eqPl_iff 36 28 0 52 Tryz.underlying36 (dp, dn)
      obtain ⟨o, hrun, hho⟩ := hdel
      have HHO := Lib.hid hho
      clear hho
      unfold eK at hrun
      go_wp2
      go_ret
      have e2 : dropM M dp dn = delA (dp, dn) M := by unfold dropM; rw [HE.out, if_pos (by decide)]
      exact ⟨by rw [HE.out] <;> rfl, by rw [e2]; exact TB.off T3.out (Off.set b w3 o) HHO.out (nodup_del _ M T3.out.nodup) (fun p hp => T3.out.fits p (del_mem hp)), (Off.of_below B3.out).trans (Off.set b w3 o)⟩
  · rw [hp] at key
    have hE : dropE M dp dn = 41 := by unfold dropE; rw [hp, if_neg (by decide)]
    have hM0 : dropM M dp dn = M := by unfold dropM; rw [hE, if_neg (by decide)]
    rw [hE, hM0]
    have KEY := Lib.hid key
    have TL := Lib.hid hT
    clear hE hM0 hp key hG hT
    go_enter Tryz.func12, Tryz.ntmps12
    go_wp2_with (go_at_call 34; refine KEY.out.mono ?_; rintro e w2 ⟨rfl, hb2⟩; have B2 := Lib.hid hb2; have T2 := Lib.hid (TL.out.below hb2); clear hb2)
    go_ret
    exact ⟨rfl, T2.out, Off.of_below B2.out⟩
end Go.Proofs.YtphddbijdfmpjaaGreatDoor.Wr
namespace Go.Proofs.YtphddbijdfmpjaaGreatDoor.Wr
open Go.RowKit Go.MapRaw Go.Proofs.YtphddbijdfmpjaaGreatDoorW.PrintWords Go.Proofs.YtphddbijdfmpjaaGreatDoorW.PrintLast Go.Proofs.YtphddbijdfmpjaaGreatDoor.Q
open Go.ChangeMaps (setBlock)
set_option linter.unusedVariables false
set_option linter.unusedSimpArgs false
theorem Off.set_high {b : Nat} {u w : World} (h : Off b u w) {r : Nat} (hr : u.heap.size ≤ r) (o : Obj) : Off b u (setBlock w r o) :=
  ⟨h.os, h.tape, h.output, by rw [set_size]; exact h.size, fun k hk hn => by rw [set_far _ _ _ _ (by omega)]; exact h.block k hk hn⟩
theorem Off.drew {b : Nat} {u w : World} (h : Off b u w) : Off b u w.drew := ⟨h.os, h.tape, h.output, h.size, h.block⟩
theorem Off.alloc {b : Nat} {u w : World} (h : Off b u w) (o : Obj) : Off b u (w.alloc o) := h.trans (Off.of_below ((Below.refl _ _).alloc (Nat.le_refl _) o))
instance memKey (k : Key) (l : List Key) : Decidable (k ∈ l) := decidable_of_iff (l.any (fun y => decide (y = k)) = true) (by simp)
def keepM (path : ByteArray) (L M : Tab) : Tab := M.filter fun x => decide (x.1.1 ≠ path ∨ x.1 ∈ List.map (fun y : Key × Bnd => y.1) L)
def leaveM (path : ByteArray) (M : Tab) : Tab := M.filter fun x => decide (x.1.1 ≠ path)
theorem keep_all (path : ByteArray) (M : Tab) : keepM path M M = M := by
  unfold keepM
  rw [List.filter_eq_self]
  intro x hx
  rw [decide_eq_true_eq]
  exact .inr (List.mem_map_of_mem (f := fun y : Key × Bnd => y.1) hx)
theorem keep_nil (path : ByteArray) (M : Tab) : keepM path [] M = leaveM path M := by
  unfold keepM leaveM
  apply List.filter_congr
  intro x _
  simp
theorem del_filter (k : Key) : ∀ M : Tab, (M.map (·.1)).Nodup → delA k M = M.filter fun x => decide (x.1 ≠ k)
  | [], _ => rfl
  | p :: r, h => by
    rw [List.map_cons, List.nodup_cons] at h
    unfold delA
    by_cases e : p.1 = k
    · rw [if_pos e, List.filter_cons, if_neg (by simp [e])]
      refine (List.filter_eq_self.2 fun x hx => ?_).symm
      rw [decide_eq_true_eq]
      intro e2
      refine h.1 ?_
      rw [e, ← e2]
      exact List.mem_map_of_mem (f := fun y : Key × Bnd => y.1) hx
    · rw [if_neg e, List.filter_cons, if_pos (by simpa using e), del_filter k r h.2]
theorem keep_far {path : ByteArray} {M A B : Tab} {p : Key × Bnd} (h : p.1.1 ≠ path) : keepM path (A ++ p :: B) M = keepM path (A ++ B) M := by
  unfold keepM
  apply List.filter_congr
  intro x _
  rw [decide_eq_decide]
  simp only [List.map_append, List.map_cons, List.mem_append, List.mem_cons]
  constructor
  · rintro (e | e | e | e)
    · exact .inl e
    · exact .inr (.inl e)
    · exact .inl (by rw [e]; exact h)
    · exact .inr (.inr e)
  · rintro (e | e | e)
    · exact .inl e
    · exact .inr (.inl e)
    · exact .inr (.inr (.inr e))
theorem keep_hit {path : ByteArray} {M A B : Tab} {p : Key × Bnd} (hM : (M.map (·.1)).Nodup) (h : p.1.1 = path) (hn : p.1 ∉ (A ++ B).map (·.1)) : delA p.1 (keepM path (A ++ p :: B) M) = keepM path (A ++ B) M := by
  have hs : ((keepM path (A ++ p :: B) M).map (·.1)).Nodup := ((List.filter_sublist (l := M)).map _).nodup hM
  rw [del_filter _ _ hs]
  unfold keepM
  rw [List.filter_filter]
  apply List.filter_congr
  intro x _
  rw [Bool.eq_iff_iff, Bool.and_eq_true]
  simp only [decide_eq_true_eq]
  constructor
  · rintro ⟨h1, h2 | h2⟩
    · exact .inl h2
    · rw [List.map_append, List.map_cons, List.mem_append, List.mem_cons] at h2
      rw [List.map_append, List.mem_append]
      exact .inr (h2.elim .inl fun h2 => h2.elim (fun e => absurd e h1) .inr)
  · intro h1
    refine ⟨fun e => ?_, ?_⟩
    · rcases h1 with h1 | h1
      · exact h1 (by rw [e]; exact h)
      · rw [e] at h1; exact hn h1
    · rcases h1 with h1 | h1
      · exact .inl h1
      · rw [List.map_append, List.mem_append] at h1
        rw [List.map_append, List.map_cons, List.mem_append, List.mem_cons]
        exact .inr (h1.elim .inl fun h1 => .inr (.inr h1))
theorem nodup_out {A B : Tab} {p : Key × Bnd} (h : ((A ++ p :: B).map (·.1)).Nodup) : p.1 ∉ (A ++ B).map (·.1) ∧ ((A ++ B).map (·.1)).Nodup := by
  rw [List.map_append, List.map_cons] at h
  have h2 := (List.perm_middle (l₁ := A.map (·.1)) (l₂ := B.map (·.1)) (a := p.1)).nodup_iff.1 h
  rw [List.nodup_cons] at h2
  rw [List.map_append]
  exact h2
theorem leave_sub {path : ByteArray} {M : Tab} {x : Key × Bnd} (h : x ∈ leaveM path M) : x ∈ M := (List.mem_filter.1 h).1
set_option maxRecDepth 100000 in
set_option maxHeartbeats 4000000 in
theorem leave_ok (w : World) (t b : Nat) (M : Tab) (path : ByteArray) (hT : TB w t b M) (hM : M.length ≤ 2513169434843) :
    Calls Tryz.prog 14 #[.pointer (some ⟨t, 0, none⟩), .string path] w fun e w' => e = .returned (.int .i64 (cnt path M : Nat)) ∧ TB w' t b (leaveM path M) ∧ Off b w w' := by
  have hu70 := Tryz.underlying52
  obtain ⟨o, hr, hR⟩ := hT.holds.range (P := Tryz.prog) (T := 36) (eT := 28) (kT := 52) Tryz.underlying36
  have HR := Lib.hid hR
  have HM := Lib.hid hM
  have HT := Lib.hid hT
  have ht := hT.cell
  clear hT hR hM
  go_enter Tryz.func14, Tryz.ntmps14
  go_upto_region 3 with fail
  have hb1 : Off b w (w.alloc o) := (Off.refl b w).alloc o
  have HB1 := Lib.hid hb1
  have HRA := Aside0.mk HR.out
  clear hb1 hr
  generalize w.alloc o = w1 at HB1 HRA ⊢
  obtain ⟨r, hrr⟩ : ∃ r, r = w.heap.size := ⟨_, rfl⟩
  have HRR := Lib.hid hrr
  rw [← hrr] at HRA ⊢
  clear hrr ht HR
  go_loopg [5] M.length (fun g v5 wr => ∃ (n : Nat) (L : Tab), v5 = .int .i64 (n : Int) ∧ L.length ≤ g ∧ Aside0 (n + cnt path L = cnt path M) ∧ Aside0 (n ≤ M.length ∧ n + L.length ≤ M.length) ∧ Aside0 ((L.map (·.1)).Nodup) ∧ Aside0 (Ranging eK eV wr b r (keepM path L M) L) ∧ Aside0 (Off b w wr))
  case atStart => exact ⟨0, M, rfl, Nat.le_refl _, ⟨Nat.zero_add _⟩, ⟨by omega⟩, ⟨HT.out.nodup⟩, ⟨by rw [keep_all]; exact HRA.out⟩, ⟨HB1.out⟩⟩
  case round =>
    obtain ⟨n, L, rfl, hg, HC, HN, HND, HRg, HBw⟩ := hrel
    rcases HRg.out.next (P := Tryz.prog) 0 with ⟨hL, hrun⟩ | ⟨A, p, B, hL, wd, o2, hwd, hrun, hat⟩
    · subst hL
      go_wp2
      go_ret
      exact ⟨by have := HC.out; simp only [cnt, Nat.add_zero] at this; (rw [this] <;> rfl), TB.off HT.out HBw.out (by rw [← keep_nil]; exact HRg.out.holds) (((List.filter_sublist (l := M)).map _).nodup HT.out.nodup) (fun p hp => HT.out.fits p (leave_sub hp)), HBw.out⟩
    · subst hL
      cases gk with
      | zero => simp at hg
      | succ g =>
        have hent := hat.entry (P := Tryz.prog)
        have hbs : Off b w (setBlock wd r o2) := Off.set_high (by rcases hwd with rfl | rfl; exact HBw.out; exact HBw.out.drew) (by have := HRR.out; omega) o2
        have HBS := Lib.hid hbs
        have HAT := Lib.hid hat
        clear hbs hat hwd
        unfold eK eV at hrun hent
        generalize setBlock wd r o2 = w2 at HBS HAT hrun hent
        obtain ⟨⟨kp, kn⟩, bv⟩ := p
        have hnd := nodup_out HND.out
        have HN1 := Lib.hid hnd.1
        have HN2 := Lib.hid hnd.2
        clear hnd
        by_cases hp : kp = path
        · subst hp
          go_upto_region 6 with fail
          have hT3 : TB (w2.alloc (.cells #[.string kp, .string kn] 52)) t b (keepM kp (A ++ ((kp, kn), bv) :: B) M) := TB.off HT.out (HBS.out.alloc _) (Holds_alloc HAT.out.on.holds _) (((List.filter_sublist (l := M)).map _).nodup HT.out.nodup) (fun p hp => HT.out.fits p (List.mem_filter.1 hp).1)
          have hK3 := blk_new w2 (.cells #[.string kp, .string kn] 52)
          have hA3 := HAT.out.move (heap_alloc_old w2 (.cells #[.string kp, .string kn] 52) (Ranging_lt HAT.out.on).1) (heap_alloc_old w2 (.cells #[.string kp, .string kn] 52) (Ranging_lt HAT.out.on).2)
          have hO3 := HBS.out.alloc (.cells #[.string kp, .string kn] 52)
          have T3 := Lib.hid hT3
          have K3 := Lib.hid hK3
          have A3 := Lib.hid hA3
          have O3 := Lib.hid hO3
          clear hT3 hK3 hA3 hO3 HBS HAT hrun hent
          obtain ⟨kk, hkk⟩ : ∃ kk, kk = w2.heap.size := ⟨_, rfl⟩
          rw [← hkk] at K3 ⊢
          clear hkk
          generalize w2.alloc _ = w3 at T3 K3 A3 O3 ⊢
          refine start_ (n := 6) (S := fun w' => w'.cell? ⟨t, 0, none⟩ = some (.map (some b)) ∧ w'.cell? ⟨kk, 0, none⟩ = some (.string kp) ∧ w'.cell? ⟨kk, 1, none⟩ = some (.string kn)) (ds := [5]) (bl 0 6) (by kernel_rfl) rfl rfl ⟨T3.out.cell, (blk_cell K3.out 0).trans rfl, (blk_cell K3.out 1).trans rfl⟩ (fun hHeld => ?_)
          have A4 := Lib.hid (A3.out.move (w' := w3.drew) rfl rfl)
          have O4 := Lib.hid O3.out.drew
          clear A3 O3 T3 K3
          generalize w3.drew = w4 at A4 O4 hHeld ⊢
          refine pure_ (i := 0) (N := some 20) (v := ?_) (a' := ?_) (bl 1 5) rfl rfl (by kernel_rfl) (fun _ _ _ h => h) (Or.inl ⟨by rfl, ?_⟩) ?_ ?_
          rotate_left
          · intro w'
            go_simp
            with_reducible rfl
          rotate_left
          · simp only [Act.put, List.setIfInBounds_toArray, List.set_cons_zero, List.set_cons_succ, i64_w, i32_w]
            rfl
          refine pure_ (i := 1) (N := some 21) (v := ?_) (a' := ?_) (bl 2 4) rfl rfl (by kernel_rfl) (fun _ _ _ h => h) (Or.inl ⟨by rfl, ?_⟩) ?_ ?_
          rotate_left
          · intro w'
            go_simp
            with_reducible rfl
          rotate_left
          · simp only [Act.put, List.setIfInBounds_toArray, List.set_cons_zero, List.set_cons_succ, i64_w, i32_w]
            rfl
          refine pure_ (i := 2) (N := some 22) (v := ?_) (a' := ?_) (bl 3 3) rfl rfl (by kernel_rfl) (fun _ _ _ h => h) (Or.inl ⟨by rfl, ?_⟩) ?_ ?_
          rotate_left
          · intro w'
            go_simp
            with_reducible rfl
          rotate_left
          · simp only [Act.put, List.setIfInBounds_toArray, List.set_cons_zero, List.set_cons_succ, i64_w, i32_w]
            rfl
          refine take_ (i := 3) (N := some 23) (v := ?_) (a' := ?_) (bl 4 2) rfl rfl (by kernel_rfl) (fun _ _ _ h => h) (Or.inl ⟨by rfl, ?_⟩) hHeld ?_ ?_
          rotate_left
          · rintro w' ⟨s0, s1, s2⟩
            go_simp
            with_reducible rfl
          rotate_left
          · simp only [Act.put, List.setIfInBounds_toArray, List.set_cons_zero, List.set_cons_succ, i64_w, i32_w]
            rfl
          refine take_ (i := 4) (N := some 24) (v := ?_) (a' := ?_) (bl 5 1) rfl rfl (by kernel_rfl) (fun _ _ _ h => h) (Or.inl ⟨by rfl, ?_⟩) hHeld ?_ ?_
          rotate_left
          · rintro w' ⟨s0, s1, s2⟩
            go_simp
            with_reducible rfl
          rotate_left
          · simp only [Act.put, List.setIfInBounds_toArray, List.set_cons_zero, List.set_cons_succ, i64_w, i32_w]
            rfl
          refine last_ (i := 5) (N := none) (bl 6 0) rfl rfl (by kernel_rfl) (by decide) (fun K hK => ?_)
          obtain ⟨o5, hrun, hR5⟩ := A4.out.delete (P := Tryz.prog) kind_pl (fun a => ⟨a, rfl⟩) eqPl_iff 36 28 0 52 Tryz.underlying36 HN1.out
          rw [keep_hit HT.out.nodup rfl HN1.out] at hR5
          have HR5 := Lib.hid hR5
          clear hR5
          unfold eK at hrun
          refine value_ (v := .tuple #[]) (w1 := setBlock w4 b o5) (by rfl) rfl ?_ ?_
          · go_simp
          refine hK.out _ _ ?_
          clear hK K hrun
          refine norm_ (a' := ?_) ?_ ?_
          rotate_left
          · show Act.put _ none _ = _
            rfl
          refine done_ (by kernel_rfl) ?_
          have O5 := Lib.hid (O4.out.trans (Off.set b w4 o5))
          clear O4 A4
          generalize setBlock w4 b o5 = w5 at HR5 O5 ⊢
          go_wp2
          go_roundg g
          case measure => omega
          case rel => exact ⟨n + 1, A ++ B, by (have h1 := HN.out.1; have h2 := HM.out; rw [w64 n (by omega)]), by simp at hg ⊢; omega, ⟨by have := HC.out; rw [cnt_app] at this ⊢; simp only [cnt, if_pos] at this; omega⟩, ⟨by have := HN.out; simp at this ⊢; omega⟩, ⟨HN2.out⟩, ⟨HR5.out⟩, ⟨O5.out⟩⟩
        · have hpe : (kp.toList == path.toList) = false := by
            rw [toList_beq, Bool.eq_false_iff, Ne, ba_beq]; exact hp
          go_wp2
          go_roundg g
          case measure => omega
          case rel => exact ⟨n, A ++ B, rfl, by simp at hg ⊢; omega, ⟨by have := HC.out; rw [cnt_app] at this ⊢; simp only [cnt, if_neg hp] at this; omega⟩, ⟨by have := HN.out; simp at this ⊢; omega⟩, ⟨HN2.out⟩, ⟨by rw [← keep_far (p := ((kp, kn), bv)) hp]; exact Ranging_alloc HAT.out.on _⟩, ⟨HBS.out.alloc _⟩⟩
end Go.Proofs.YtphddbijdfmpjaaGreatDoor.Wr
namespace Go.Proofs.YtphddbijdfmpjaaGreatDoor.Q
open Go.RowKit Go.Proofs.YtphddbijdfmpjaaGreatDoorW.PrintWords Go.Proofs.YtphddbijdfmpjaaGreatDoorW.PrintLast Go.Proofs.YtphddbijdfmpjaaGreatDoorW.PrintMore
attribute [local go_sem] max2_int min2_int max_two min_two max_three min_three max_four min_four   -- for this text's walks alone
set_option linter.unusedVariables false
set_option linter.unusedSimpArgs false
def access_isVerb.f (a0 : Int) : Option (Bool) := if a0 ≥ 0 then (some (decide (a0 ≤ 3))) else (some false)
set_option maxHeartbeats 8000000 in
set_option maxRecDepth 100000 in
theorem access_isVerb.calls (a0 : Int) (r : Bool) (w : World) (h : access_isVerb.f a0 = some r) :
    Calls Tryz.prog 37 #[.int .i64 a0] w fun e w' => e = .returned (.bool r) ∧ Drawn0 w w' := by
  have H : (if a0 ≥ 0 then (some (decide (a0 ≤ 3))) else (some false)) = some r := h
  clear h
  by_cases c2 : a0 ≥ 0
  · rw [if_pos c2] at H
    have c2b0 : decide (0 ≤ a0) = true := decide_eq_true c2
    clear c2
    obtain rfl := Option.some.inj H
    go_enter Tryz.func37, Tryz.ntmps37
    go_wp2
    go_ret
    exact ⟨by first | rfl | (simp; done) | (simp [*]; done), by repeat (first | exact Drawn0.refl _ | apply Drawn0.step)⟩
  · rw [if_neg c2] at H
    have c2b0 : decide (0 ≤ a0) = false := decide_eq_false c2
    clear c2
    obtain rfl := Option.some.inj H
    go_enter Tryz.func37, Tryz.ntmps37
    go_wp2
    go_ret
    exact ⟨by first | rfl | (simp; done) | (simp [*]; done), by repeat (first | exact Drawn0.refl _ | apply Drawn0.step)⟩
end Go.Proofs.YtphddbijdfmpjaaGreatDoor.Q
namespace Go.Proofs.YtphddbijdfmpjaaGreatDoor.Wr
open Go.RowKit Go.MapRaw Go.Proofs.YtphddbijdfmpjaaGreatDoorW.PrintWords Go.Proofs.YtphddbijdfmpjaaGreatDoorW.PrintLast Go.Proofs.YtphddbijdfmpjaaGreatDoor.Q
open Go.ChangeMaps (setBlock)
set_option linter.unusedVariables false
set_option linter.unusedSimpArgs false
def zb : Bnd := ⟨⟨#[]⟩, ⟨#[]⟩, ⟨#[]⟩, 0⟩
def BestAt (M : Tab) (s : ByteArray) (v : Int) (q : ByteArray) (c : Bnd) : Prop := (∃ x ∈ M, x.2 = c ∧ Mat s v q x) ∧ ∀ x ∈ M, Mat s v q x → Op.bytesLess x.2.name.toList c.name.toList = false
def WhyIs (M : Tab) (s : ByteArray) (v : Int) (p : ByteArray) (c : Bnd) (fd : Bool) : Prop :=
  (fd = false ∧ c = zb ∧ whyB M s v p = false) ∨ (fd = true ∧ isV v = true ∧ ∃ A q B, (lineS p).1 = A ++ q :: B ∧ (∀ a ∈ A, hasAt M s v a = false) ∧ BestAt M s v q c)
theorem WhyIs.found {M : Tab} {s : ByteArray} {v : Int} {p : ByteArray} {c : Bnd} {fd : Bool} (h : WhyIs M s v p c fd) : fd = whyB M s v p := by
  rcases h with ⟨rfl, _, h⟩ | ⟨rfl, hv, A, q, B, hl, _, ⟨x, hx, _, hm⟩, _⟩
  · exact h.symm
  · refine ((whyB_iff M s v p).2 ⟨(isV_iff v).1 hv, q, ?_, x, hx, hm⟩).symm
    rw [hl]; simp
structure Best (M L : Tab) (s : ByteArray) (v : Int) (q : ByteArray) (c : Bnd) (fd : Bool) : Prop where
  seen : ∀ x ∈ M, Mat s v q x → x ∈ L ∨ (fd = true ∧ Op.bytesLess x.2.name.toList c.name.toList = false)
  is : fd = true → ∃ x ∈ M, x.2 = c ∧ Mat s v q x
  not : fd = false → c = zb
theorem Best.start (M : Tab) (s : ByteArray) (v : Int) (q : ByteArray) : Best M M s v q zb false :=
  ⟨fun x hx _ => .inl hx, fun h => (by cases h), fun _ => rfl⟩
theorem Best.skip {M A B : Tab} {x : Key × Bnd} {s : ByteArray} {v : Int} {q : ByteArray} {c : Bnd} {fd : Bool} (h : Best M (A ++ x :: B) s v q c fd) (hx : Mat s v q x → fd = true ∧ Op.bytesLess x.2.name.toList c.name.toList = false) : Best M (A ++ B) s v q c fd :=
  ⟨fun y hy hm => (by
    rcases h.seen y hy hm with hl | hl
    · rcases List.mem_append.1 hl with hl | hl
      · exact .inl (List.mem_append.2 (.inl hl))
      · rcases List.mem_cons.1 hl with rfl | hl
        · exact .inr (hx hm)
        · exact .inl (List.mem_append.2 (.inr hl))
    · exact .inr hl), h.is, h.not⟩
theorem Best.take {M A B : Tab} {x : Key × Bnd} {s : ByteArray} {v : Int} {q : ByteArray} {c : Bnd} {fd : Bool} (h : Best M (A ++ x :: B) s v q c fd) (hxM : x ∈ M) (hm : Mat s v q x) (hx : fd = true → Op.bytesLess x.2.name.toList c.name.toList = true) : Best M (A ++ B) s v q x.2 true :=
  ⟨fun y hy hmy => (by
    rcases h.seen y hy hmy with hl | ⟨hf, hl⟩
    · rcases List.mem_append.1 hl with hl | hl
      · exact .inl (List.mem_append.2 (.inl hl))
      · rcases List.mem_cons.1 hl with rfl | hl
        · exact .inr ⟨rfl, less_irrefl _⟩
        · exact .inl (List.mem_append.2 (.inr hl))
    · refine .inr ⟨rfl, ?_⟩
      cases hb : Op.bytesLess y.2.name.toList x.2.name.toList with
      | false => rfl
      | true => rw [less_trans _ _ _ hb (hx hf)] at hl; cases hl), fun _ => ⟨x, hxM, rfl, hm⟩, fun h => (by cases h)⟩
theorem Best.found {M : Tab} {s : ByteArray} {v : Int} {q : ByteArray} {c : Bnd} (h : Best M [] s v q c true) : BestAt M s v q c :=
  ⟨h.is rfl, fun x hx hm => ((h.seen x hx hm).resolve_left (by simp)).2⟩
theorem Best.none {M : Tab} {s : ByteArray} {v : Int} {q : ByteArray} {c : Bnd} (h : Best M [] s v q c false) : hasAt M s v q = false := by
  rw [Bool.eq_false_iff]
  intro hh
  obtain ⟨x, hx, hm⟩ := (hasAt_iff M s v q).1 hh
  rcases h.seen x hx hm with hl | ⟨hl, _⟩
  · cases hl
  · cases hl
theorem Ranging_mem {w : World} {b r : Nat} {M L : Tab} (h : Ranging eK eV w b r M L) : ∀ x ∈ L, ∃ y ∈ M, eK x.1 = eK y.1 ∧ eV x.2 = eV y.2 := by
  obtain ⟨es, c, s, seen, c0, h1, h2, h3, h4, h5, h6, h7⟩ := h
  intro x hx
  have hm : (eK x.1, eV x.2) ∈ L.map (fun p => (eK p.1, eV p.2)) := List.mem_map.2 ⟨x, hx, rfl⟩
  rw [← h7] at hm
  obtain ⟨e, he, hk⟩ := List.mem_map.1 hm
  have : kv e ∈ M.map (fun p => (eK p.1, eV p.2)) := by
    rw [← h2.list]; exact List.mem_map.2 ⟨e, (List.mem_filter.1 he).1, rfl⟩
  obtain ⟨y, hy, hyk⟩ := List.mem_map.1 this
  rw [hk] at hyk
  exact ⟨y, hy, (congrArg Prod.fst hyk).symm, (congrArg Prod.snd hyk).symm⟩
theorem eK_inj {p q : Key} (h : eK p = eK q) : p = q := (eqPl_iff p q).1 (by rw [← h]; exact (eqPl_iff p p).2 rfl)
theorem eV_inj {b c : Bnd} (h : eV b = eV c) : b = c := by
  obtain ⟨b1, b2, b3, b4⟩ := b
  obtain ⟨c1, c2, c3, c4⟩ := c
  unfold eV at h
  simp only [Value.agg.injEq, Array.mk.injEq, List.cons.injEq, Value.string.injEq, Value.int.injEq, and_true, true_and] at h
  obtain ⟨h1, h2, h3, h4⟩ := h
  rw [h1, h2, h3, h4]
theorem Ranging_in {w : World} {b r : Nat} {M L : Tab} (h : Ranging eK eV w b r M L) {x : Key × Bnd} (hx : x ∈ L) : x ∈ M := by
  obtain ⟨y, hy, h1, h2⟩ := Ranging_mem h x hx
  rw [show x = y from Prod.ext (eK_inj h1) (eV_inj h2)]
  exact hy
theorem results_cell_row_tmp {P : Program} {fn : Func} {p u : Tmp} {ty : TypeId} (h : fn.results = #[.cell p ty, .tmp u]) (tmps : Array Value) (w : World) (g : Nat) (t : TypeId) (cs : Array Value) (fr : Nat × Nat) (d : TypeDesc)
    (hp : tmps.getD p undef = .pointer (some ⟨g, 0, none⟩)) (hg : w.heap[g]? = some (.cells cs t fr))
    (hu : P.underlying ty = some d) (hd : (match d with | .struct _ | .array _ _ => true | _ => false) = true) (hi : (P.info? ty).map (·.size) = some cs.size) :
    (results fn tmps).run P w = .ok (.tuple #[.agg cs, tmps.getD u undef]) w := by
  have hp' : tmps[p]?.getD undef = .pointer (some ⟨g, 0, none⟩) := by simpa using hp
  simp [results, h, hp', asAddr, run_loadVar_row w g t ty cs fr d hg hu hd hi, Sem.run_bind]
theorem line_ok (s : ByteArray) (w : World) (hG : Glob w) : Calls Tryz.prog 38 #[.string s] w fun e w' => ∃ v0_ : Value, e = .returned (.tuple #[v0_, .int .i64 (lineS s).2]) ∧ Kd.R Kd.string 9 w' w.heap.size (fun _ => True) v0_ (lineS s).1 ∧ Below w.heap.size w w' := by
  obtain ⟨k, h⟩ := line_ev s
  exact label_Line.calls k _ _ _ w (h k (Nat.le_refl _)) hG
theorem verb_ok (v : Int) (w : World) : Calls Tryz.prog 37 #[.int .i64 v] w fun e w' => e = .returned (.bool (isV v)) ∧ Below w.heap.size w w' := by
  refine (access_isVerb.calls v (isV v) w ?_).mono (fun e w' h => ⟨h.1, h.2.below⟩)
  unfold access_isVerb.f isV
  by_cases h : v ≥ 0
  · rw [if_pos h, decide_eq_true h, Bool.true_and]
  · rw [if_neg h, decide_eq_false h, Bool.false_and]
end Go.Proofs.YtphddbijdfmpjaaGreatDoor.Wr
namespace Go.Proofs.YtphddbijdfmpjaaGreatDoor.Wr
open Go.RowKit Go.MapRaw Go.Proofs.YtphddbijdfmpjaaGreatDoorW.PrintWords Go.Proofs.YtphddbijdfmpjaaGreatDoorW.PrintLast Go.Proofs.YtphddbijdfmpjaaGreatDoor.Q
open Go.ChangeMaps (setBlock)
set_option linter.unusedVariables false
set_option linter.unusedSimpArgs false
theorem blk_put4 {w : World} {g : Nat} {a0 a1 a2 a3 b0 b1 b2 b3 : Value} (h : w.heap[g]? = some (.cells #[a0, a1, a2, a3] 28 (0, 0))) :
    ((((w.setCell ⟨g, 0, none⟩ b0).setCell ⟨g, 1, none⟩ b1).setCell ⟨g, 2, none⟩ b2).setCell ⟨g, 3, none⟩ b3).heap[g]? = some (.cells #[b0, b1, b2, b3] 28 (0, 0)) :=
  blk_put (blk_put (blk_put (blk_put h 0 b0 rfl) 1 b1 rfl) 2 b2 rfl) 3 b3 rfl
theorem below_put4 {B : Nat} {u w : World} {g : Nat} {b0 b1 b2 b3 : Value} (h : Below B u w) (hg : B ≤ g) :
    Below B u ((((w.setCell ⟨g, 0, none⟩ b0).setCell ⟨g, 1, none⟩ b1).setCell ⟨g, 2, none⟩ b2).setCell ⟨g, 3, none⟩ b3) :=
  (((h.setCell (p := ⟨g, 0, none⟩) hg b0).setCell (p := ⟨g, 1, none⟩) hg b1).setCell (p := ⟨g, 2, none⟩) hg b2).setCell (p := ⟨g, 3, none⟩) hg b3
theorem heap_put4 {w : World} {g k : Nat} {b0 b1 b2 b3 : Value} (hk : k ≠ g) :
    ((((w.setCell ⟨g, 0, none⟩ b0).setCell ⟨g, 1, none⟩ b1).setCell ⟨g, 2, none⟩ b2).setCell ⟨g, 3, none⟩ b3).heap[k]? = w.heap[k]? := by
  rw [Below.heap_setCell _ _ _ _ hk, Below.heap_setCell _ _ _ _ hk, Below.heap_setCell _ _ _ _ hk, Below.heap_setCell _ _ _ _ hk]
set_option maxRecDepth 100000 in
set_option maxHeartbeats 8000000 in
theorem why_ok (w : World) (t b : Nat) (M : Tab) (s : ByteArray) (v : Int) (p : ByteArray) (hT : TB w t b M) (hG : Glob w) :
    Calls Tryz.prog 16 #[.pointer (some ⟨t, 0, none⟩), .string s, .int .i64 v, .string p] w fun e w' => (∃ c fd, e = .returned (.tuple #[eV c, .bool fd]) ∧ WhyIs M s v p c fd) ∧ Below w.heap.size w w' := by
  have hu27 := Tryz.underlying28
  have hu70 := Tryz.underlying52
  have key := verb_ok v
  have hal := (Below.refl w.heap.size w).alloc (Nat.le_refl _) (.cells #[.string ⟨#[]⟩, .string ⟨#[]⟩, .string ⟨#[]⟩, .int .i64 0] 28)
  have hnew := blk_new w (.cells #[.string ⟨#[]⟩, .string ⟨#[]⟩, .string ⟨#[]⟩, .int .i64 0] 28)
  have hG1 := Glob.below hG hal
  have hT1 := TB.below hT hal
  have AL := Lib.hid hal
  have NW := Lib.hid hnew
  have GL := Lib.hid hG1
  have TL := Lib.hid hT1
  clear hal hnew hG1 hT1 hT hG
  cases hv : isV v with
  | false =>
    have HV := Lib.hid hv
    rw [hv] at key
    have KEY := Lib.hid key
    clear key hv
    go_enter Tryz.func16, Tryz.ntmps16
    go_upto_region 1 with fail
    generalize w.alloc _ = w1 at AL NW GL TL ⊢
    go_upto_region 2 with (go_at_call 37; refine (KEY.out _).mono ?_; rintro e w2 ⟨rfl, hb2⟩; have B2 := Lib.hid (AL.out.trans (below_lower hb2 AL.out.size)); have N2 := Lib.hid (blk_below NW.out hb2); clear hb2)
    have hc0 := (blk_cell N2.out 0).trans rfl
    have hc1 := (blk_cell N2.out 1).trans rfl
    have hc2 := (blk_cell N2.out 2).trans rfl
    have hc3 := (blk_cell N2.out 3).trans rfl
    have hf0 := blk_frozen N2.out 0
    have hf1 := blk_frozen N2.out 1
    have hf2 := blk_frozen N2.out 2
    have hf3 := blk_frozen N2.out 3
    go_wp2
    have Z3 := Lib.hid (blk_put4 (b0 := .string ⟨#[]⟩) (b1 := .string ⟨#[]⟩) (b2 := .string ⟨#[]⟩) (b3 := .int .i64 0) N2.out)
    have B3 := Lib.hid (below_put4 (b0 := .string ⟨#[]⟩) (b1 := .string ⟨#[]⟩) (b2 := .string ⟨#[]⟩) (b3 := .int .i64 0) B2.out (Nat.le_refl _))
    clear hc0 hc1 hc2 hc3 hf0 hf1 hf2 hf3
    generalize World.setCell _ _ _ = w3 at Z3 B3 ⊢
    (try simp only [Exit.inBlock, Exit.then])
    refine bodyPost_ret (results_cell_row_tmp rfl _ _ w.heap.size 28 _ (0, 0) _ rfl Z3.out hu27 rfl (by kernel_rfl)) rfl ?_
    exact ⟨⟨zb, false, rfl, .inl ⟨rfl, rfl, by unfold whyB; rw [HV.out, Bool.false_and]⟩⟩, B3.out⟩
  | true =>
    have HV := Lib.hid hv
    rw [hv] at key
    have KEY := Lib.hid key
    have LN := Lib.hid (line_ok p)
    clear key hv
    go_enter Tryz.func16, Tryz.ntmps16
    go_upto_region 1 with fail
    generalize w.alloc _ = w1 at AL NW GL TL ⊢
    go_upto_region 3 with (go_at_call 37; refine (KEY.out _).mono ?_; rintro e w2 ⟨rfl, hb2⟩; have B2 := Lib.hid (AL.out.trans (below_lower hb2 AL.out.size)); have N2 := Lib.hid (blk_below NW.out hb2); have T2 := Lib.hid (TB.below TL.out hb2); have G2 := Lib.hid (Glob.below GL.out hb2); clear hb2)
    go_upto_region 5 with (go_at_call 38; refine (LN.out _ G2.out).mono ?_; rintro e w3 ⟨v0, rfl, hr, hb3⟩; obtain ⟨A0, c0, rfl⟩ := Kd.R_slice hr; have C3 := Aside0.mk (Kd.R_reads' hr).2.2; have B3 := Lib.hid (B2.out.trans (below_lower hb3 B2.out.size)); have N3 := Lib.hid (blk_below N2.out hb3); have T3 := Lib.hid (TB.below T2.out hb3); clear hb3 hr)
    clear AL NW GL TL B2 N2 T2 G2 KEY LN
    generalize (lineS p).2 = le
    obtain ⟨l, hl⟩ : ∃ l, l = (lineS p).1 := ⟨_, rfl⟩
    have HLL := Lib.hid (line_len p)
    rw [← hl] at C3 HLL ⊢
    have HL := Lib.hid hl
    clear hl
    go_loopg [29] l.length (fun g v29 wr => ∃ (i : Nat), v29 = .int .i64 (i : Int) ∧ Aside0 (i + g = l.length) ∧ Aside0 (∀ a ∈ l.take i, hasAt M s v a = false) ∧ Aside0 (Below w3.heap.size w3 wr))
    case atStart => exact ⟨0, rfl, ⟨by omega⟩, ⟨by simp⟩, ⟨Below.refl _ _⟩⟩
    case round =>
      obtain ⟨i, rfl, HG, HN, HBw⟩ := hrel
      by_cases hi : i < l.length
      · have hfc := Kd.at_string (Kd.C_below C3.out HBw.out) (i : Int) (by omega) (by omega)
        obtain ⟨ad, e115, hx115⟩ := hfc
        cases e115
        obtain ⟨q, hq⟩ : ∃ q, q = rdOf ByteArray.empty l (i : Int) := ⟨_, rfl⟩
        rw [← hq, Int.toNat_natCast] at hx115
        have HQ := Lib.hid (show l.take (i + 1) = l.take i ++ [q] ∧ l = l.take i ++ q :: l.drop (i + 1) by rw [hq, rd_at _ i hi]; exact ⟨List.take_succ_eq_append_getElem hi, by conv => lhs; rw [← List.take_append_drop i l, List.drop_eq_getElem_cons hi]⟩)
        clear hq
        have p115 : (0 ≤ (i : Int)) = True := eq_true (by omega)
        have q115 : ((i : Int) < (l.length : Int)) = True := eq_true (by omega)
        have qd : decide ((i : Int) < (l.length : Int)) = true := decide_eq_true (by omega)
        obtain ⟨g0, rfl⟩ : ∃ g0, gk = g0 + 1 := ⟨gk - 1, by have := HG.out; omega⟩
        have HI := Lib.hid hi
        clear hi
        go_upto_region 9 with fail
        have hbl := (Below.refl wr.heap.size wr).alloc (Nat.le_refl _) (.cells #[.string ⟨#[]⟩, .string ⟨#[]⟩, .string ⟨#[]⟩, .int .i64 0] 28)
        have B4 := Lib.hid (HBw.out.trans (below_lower hbl HBw.out.size))
        have T4 := Lib.hid (TB.belowB T3.out B4.out T3.out.lt.1 T3.out.lt.2)
        have Z4 := Lib.hid (blk_new wr (.cells #[.string ⟨#[]⟩, .string ⟨#[]⟩, .string ⟨#[]⟩, .int .i64 0] 28))
        obtain ⟨bb, hbb⟩ : ∃ bb, bb = wr.heap.size := ⟨_, rfl⟩
        have HBB := Lib.hid (show w3.heap.size ≤ bb by rw [hbb]; exact HBw.out.size)
        rw [← hbb] at Z4 ⊢
        clear hbl hx115 p115 q115 qd hbb
        generalize wr.alloc _ = w4 at B4 T4 Z4 ⊢
        obtain ⟨o4, hr4, hR4⟩ := T4.out.holds.range (P := Tryz.prog) (T := 36) (eT := 28) (kT := 52) Tryz.underlying36
        have hc4 := T4.out.cell
        have R4 := Aside0.mk hR4
        clear hR4
        go_upto_region 10 with fail
        have B5 := Aside0.mk (B4.out.alloc B4.out.size o4)
        have Z5 := Aside0.mk (blk_alloc Z4.out o4)
        obtain ⟨rr, hrr⟩ : ∃ rr, rr = w4.heap.size := ⟨_, rfl⟩
        have HRR := Lib.hid (show bb < rr by rw [hrr]; exact blk_lt Z4.out)
        rw [← hrr] at R4 ⊢
        clear hr4 hc4 hrr B4 T4 Z4
        generalize w4.alloc o4 = w5 at R4 B5 Z5 ⊢
        go_loopg [15] M.length (fun g v15 wq => ∃ (c : Bnd) (fd : Bool) (L : Tab), v15 = .bool fd ∧ L.length ≤ g ∧ Aside0 (Ranging eK eV wq b rr M L) ∧ Aside0 (wq.heap[bb]? = some (.cells #[.string c.path, .string c.name, .string c.subject, .int .i64 c.verb] 28 (0, 0))) ∧ Aside0 (Below w3.heap.size w3 wq) ∧ Aside0 (Best M L s v q c fd))
        case atStart => exact ⟨zb, false, M, rfl, Nat.le_refl _, R4, Z5, B5, ⟨Best.start M s v q⟩⟩
        case round =>
          clear R4 Z5 B5
          obtain ⟨c, fd, L, rfl, hg, HRg, HZ, HB, HBest⟩ := hrel
          rcases HRg.out.next (P := Tryz.prog) 0 with ⟨hL, hrun⟩ | ⟨A, pr, B, hL, wd, o2, hwd, hrun, hat⟩
          · subst hL
            cases fd with
            | false =>
              go_wp2
              go_roundg g0
              case measure => omega
              case rel => exact ⟨i + 1, by (have := HI.out; have := HLL.out; rw [w64 i (by omega)]), ⟨by have := HG.out; omega⟩, ⟨by rw [HQ.out.1]; intro a ha; rcases List.mem_append.1 ha with ha | ha; exact HN.out a ha; rw [List.mem_singleton.1 ha]; exact HBest.out.none⟩, HB⟩
            | true =>
              have N4 := Lib.hid ((HB.out.block _ (blk_lt N3.out)).trans N3.out)
              have hb0 := (blk_cell HZ.out 0).trans rfl
              have hb1 := (blk_cell HZ.out 1).trans rfl
              have hb2 := (blk_cell HZ.out 2).trans rfl
              have hb3 := (blk_cell HZ.out 3).trans rfl
              have hc0 := (blk_cell N4.out 0).trans rfl
              have hc1 := (blk_cell N4.out 1).trans rfl
              have hc2 := (blk_cell N4.out 2).trans rfl
              have hc3 := (blk_cell N4.out 3).trans rfl
              have hf0 := blk_frozen N4.out 0
              have hf1 := blk_frozen N4.out 1
              have hf2 := blk_frozen N4.out 2
              have hf3 := blk_frozen N4.out 3
              go_wp2
              have Z4 := Lib.hid (blk_put4 (b0 := .string c.path) (b1 := .string c.name) (b2 := .string c.subject) (b3 := .int .i64 c.verb) N4.out)
              have B4 := Lib.hid (below_put4 (b0 := .string c.path) (b1 := .string c.name) (b2 := .string c.subject) (b3 := .int .i64 c.verb) (B3.out.trans (below_lower HB.out B3.out.size)) (Nat.le_refl _))
              clear hc0 hc1 hc2 hc3 hf0 hf1 hf2 hf3 hb0 hb1 hb2 hb3
              generalize World.setCell _ _ _ = w6 at Z4 B4 ⊢
              (try simp only [Exit.inBlock, Exit.then])
              refine bodyPost_ret (results_cell_row_tmp rfl _ _ w.heap.size 28 _ (0, 0) _ rfl Z4.out hu27 rfl (by kernel_rfl)) rfl ?_
              refine ⟨⟨c, true, rfl, .inr ⟨rfl, HV.out, l.take i, q, l.drop (i + 1), ?_, HN.out, HBest.out.found⟩⟩, B4.out⟩
              rw [← HL.out]; exact HQ.out.2
          · subst hL
            cases gk with
            | zero => simp at hg
            | succ g =>
              have hent := hat.entry (P := Tryz.prog)
              have hbs : Below w3.heap.size w3 (setBlock wd rr o2) := by
                have hd : Below w3.heap.size w3 wd := by rcases hwd with rfl | rfl; exact HB.out; exact below_drew1 HB.out
                exact ⟨hd.os, hd.tape, hd.output, by rw [set_size]; exact hd.size, fun k hk => by rw [set_far _ _ _ _ (by have := HBB.out; have := HRR.out; omega)]; exact hd.block k hk⟩
              have hzs : (setBlock wd rr o2).heap[bb]? = some (.cells #[.string c.path, .string c.name, .string c.subject, .int .i64 c.verb] 28 (0, 0)) := by
                rw [set_far _ _ _ _ (by have := HRR.out; omega)]
                rcases hwd with rfl | rfl <;> exact HZ.out
              have hin := Ranging_in HRg.out (x := pr) (by simp)
              have HBS := Lib.hid hbs
              have HZS := Lib.hid hzs
              have HAT := Lib.hid hat
              have HIN := Lib.hid hin
              clear hbs hat hwd hzs hin HRg HZ HB
              unfold eK eV at hrun hent
              generalize setBlock wd rr o2 = w6 at HBS HZS HAT hrun hent
              obtain ⟨⟨kp, kn⟩, ⟨vp, vn, vs, vv⟩⟩ := pr
              go_upto_region 12 with fail
              have A7 := Aside0.mk (Ranging_alloc (Ranging_alloc HAT.out.on (.cells #[.string kp, .string kn] 52)) (.cells #[.string vp, .string vn, .string vs, .int .i64 vv] 28))
              have B7 := Aside0.mk ((HBS.out.alloc HBS.out.size (.cells #[.string kp, .string kn] 52)).alloc (HBS.out.alloc HBS.out.size (.cells #[.string kp, .string kn] 52)).size (.cells #[.string vp, .string vn, .string vs, .int .i64 vv] 28))
              have Z7 := Aside0.mk (blk_alloc (blk_alloc HZS.out (.cells #[.string kp, .string kn] 52)) (.cells #[.string vp, .string vn, .string vs, .int .i64 vv] 28))
              have K7 := Aside0.mk (blk_alloc (blk_new w6 (.cells #[.string kp, .string kn] 52)) (.cells #[.string vp, .string vn, .string vs, .int .i64 vv] 28))
              have V7 := Aside0.mk (blk_new (w6.alloc (.cells #[.string kp, .string kn] 52)) (.cells #[.string vp, .string vn, .string vs, .int .i64 vv] 28))
              rw [show (w6.alloc (.cells #[.string kp, .string kn] 52)).heap.size = w6.heap.size + 1 by simp] at V7
              obtain ⟨kk, hkk⟩ : ∃ kk, kk = w6.heap.size := ⟨_, rfl⟩
              obtain ⟨vb, hvb⟩ : ∃ vb, vb = w6.heap.size + 1 := ⟨_, rfl⟩
              rw [← hvb] at V7
              rw [← hkk] at K7
              rw [← hkk, show kk + 1 = vb by rw [hkk, hvb]]
              clear hkk hvb HAT HBS HZS hrun hent
              generalize World.alloc (World.alloc _ _) _ = w7 at A7 B7 Z7 K7 V7 ⊢
              have hk0 := (blk_cell K7.out 0).trans rfl
              have hv0 := (blk_cell V7.out 0).trans rfl
              have hv1 := (blk_cell V7.out 1).trans rfl
              have hv2 := (blk_cell V7.out 2).trans rfl
              have hv3 := (blk_cell V7.out 3).trans rfl
              have hb1 := (blk_cell Z7.out 1).trans rfl
              by_cases c1 : kp = q
              rotate_left
              · have e1 : (kp.toList == q.toList) = false := by rw [toList_beq, Bool.eq_false_iff, Ne, ba_beq]; exact c1
                go_wp2
                go_roundg g
                case measure => omega
                case rel => exact ⟨c, fd, A ++ B, rfl, by simp at hg ⊢; omega, A7, Z7, B7, ⟨HBest.out.skip (fun hm => absurd hm.1 c1)⟩⟩
              by_cases c2 : vs = s
              rotate_left
              · have e1 : (kp.toList == q.toList) = true := by rw [toList_beq, ba_beq]; exact c1
                have e2 : (vs.toList == s.toList) = false := by rw [toList_beq, Bool.eq_false_iff, Ne, ba_beq]; exact c2
                go_wp2
                go_roundg g
                case measure => omega
                case rel => exact ⟨c, fd, A ++ B, rfl, by simp at hg ⊢; omega, A7, Z7, B7, ⟨HBest.out.skip (fun hm => absurd hm.2.1 c2)⟩⟩
              by_cases c3 : v ≤ vv
              rotate_left
              · have e1 : (kp.toList == q.toList) = true := by rw [toList_beq, ba_beq]; exact c1
                have e2 : (vs.toList == s.toList) = true := by rw [toList_beq, ba_beq]; exact c2
                have e3 : decide (vv ≥ v) = false := decide_eq_false c3
                go_wp2
                go_roundg g
                case measure => omega
                case rel => exact ⟨c, fd, A ++ B, rfl, by simp at hg ⊢; omega, A7, Z7, B7, ⟨HBest.out.skip (fun hm => absurd hm.2.2 (by first | exact c3 | exact Int.not_le.2 c3))⟩⟩
              have e1 : (kp.toList == q.toList) = true := by rw [toList_beq, ba_beq]; exact c1
              have e2 : (vs.toList == s.toList) = true := by rw [toList_beq, ba_beq]; exact c2
              have e3 : decide (vv ≥ v) = true := decide_eq_true c3
              subst c2
              have hb0 := (blk_cell Z7.out 0).trans rfl
              have hb2 := (blk_cell Z7.out 2).trans rfl
              have hb3 := (blk_cell Z7.out 3).trans rfl
              have hf0 := blk_frozen Z7.out 0
              have hf1 := blk_frozen Z7.out 1
              have hf2 := blk_frozen Z7.out 2
              have hf3 := blk_frozen Z7.out 3
              cases fd with
              | false =>
                go_wp2
                go_roundg g
                case measure => omega
                case rel => exact ⟨⟨vp, vn, _, vv⟩, true, A ++ B, rfl, by simp at hg ⊢; omega, ⟨A7.out.move (heap_put4 (by have := HBB.out; have := T3.out.lt.2; omega)) (heap_put4 (by have := HRR.out; omega))⟩, ⟨blk_put4 Z7.out⟩, ⟨below_put4 B7.out HBB.out⟩, ⟨HBest.out.take HIN.out ⟨c1, rfl, c3⟩ (fun h => (by cases h))⟩⟩
              | true =>
                cases e4 : Op.bytesLess vn.toList c.name.toList with
                | true =>
                  go_wp2
                  go_roundg g
                  case measure => omega
                  case rel => exact ⟨⟨vp, vn, _, vv⟩, true, A ++ B, rfl, by simp at hg ⊢; omega, ⟨A7.out.move (heap_put4 (by have := HBB.out; have := T3.out.lt.2; omega)) (heap_put4 (by have := HRR.out; omega))⟩, ⟨blk_put4 Z7.out⟩, ⟨below_put4 B7.out HBB.out⟩, ⟨HBest.out.take HIN.out ⟨c1, rfl, c3⟩ (fun _ => e4)⟩⟩
                | false =>
                  go_wp2
                  go_roundg g
                  case measure => omega
                  case rel => exact ⟨c, true, A ++ B, rfl, by simp at hg ⊢; omega, A7, Z7, B7, ⟨HBest.out.skip (fun hm => ⟨rfl, e4⟩)⟩⟩
      · have qd : decide ((i : Int) < (l.length : Int)) = false := decide_eq_false (by omega)
        have HI := Lib.hid hi
        clear hi
        have N4 := Lib.hid ((HBw.out.block _ (blk_lt N3.out)).trans N3.out)
        have hc0 := (blk_cell N4.out 0).trans rfl
        have hc1 := (blk_cell N4.out 1).trans rfl
        have hc2 := (blk_cell N4.out 2).trans rfl
        have hc3 := (blk_cell N4.out 3).trans rfl
        have hf0 := blk_frozen N4.out 0
        have hf1 := blk_frozen N4.out 1
        have hf2 := blk_frozen N4.out 2
        have hf3 := blk_frozen N4.out 3
        go_wp2
        have Z4 := Lib.hid (blk_put4 (b0 := .string ⟨#[]⟩) (b1 := .string ⟨#[]⟩) (b2 := .string ⟨#[]⟩) (b3 := .int .i64 0) N4.out)
        have B4 := Lib.hid (below_put4 (b0 := .string ⟨#[]⟩) (b1 := .string ⟨#[]⟩) (b2 := .string ⟨#[]⟩) (b3 := .int .i64 0) (B3.out.trans (below_lower HBw.out B3.out.size)) (Nat.le_refl _))
        clear hc0 hc1 hc2 hc3 hf0 hf1 hf2 hf3
        generalize World.setCell _ _ _ = w4 at Z4 B4 ⊢
        (try simp only [Exit.inBlock, Exit.then])
        refine bodyPost_ret (results_cell_row_tmp rfl _ _ w.heap.size 28 _ (0, 0) _ rfl Z4.out hu27 rfl (by kernel_rfl)) rfl ?_
        refine ⟨⟨zb, false, rfl, .inl ⟨rfl, rfl, ?_⟩⟩, B4.out⟩
        unfold whyB
        rw [HV.out, Bool.true_and, ← HL.out, List.any_eq_false]
        intro a ha
        rw [HN.out a (by rw [List.take_of_length_le (by have := HI.out; omega)]; exact ha)]
        decide
end Go.Proofs.YtphddbijdfmpjaaGreatDoor.Wr
namespace Go.Proofs.YtphddbijdfmpjaaGreatDoor.Wr
open Go.RowKit Go.MapRaw Go.Proofs.YtphddbijdfmpjaaGreatDoorW.PrintWords Go.Proofs.YtphddbijdfmpjaaGreatDoorW.PrintLast Go.Proofs.YtphddbijdfmpjaaGreatDoor.Q
open Go.ChangeMaps (setBlock)
set_option linter.unusedVariables false
set_option linter.unusedSimpArgs false
theorem root_list : ([114, 111, 111, 116] : List UInt8) = rootS.toList := by rw [ByteArray.toList_eq]; rfl
set_option maxRecDepth 100000 in
set_option maxHeartbeats 8000000 in
theorem may_ok (w : World) (t b : Nat) (M : Tab) (s : ByteArray) (v : Int) (p : ByteArray) (hT : TB w t b M) (hG : Glob w) :
    Calls Tryz.prog 18 #[.pointer (some ⟨t, 0, none⟩), .string s, .int .i64 v, .string p] w fun e w' => e = .returned (.bool (mayB M s v p)) ∧ Below w.heap.size w w' := by
  have hu27 := Tryz.underlying28
  by_cases hs : s = rootS
  · have hM : mayB M s v p = (isV v && decide (pathS p = 0)) := by unfold mayB; rw [if_pos hs]
    rw [hM]
    have hr : (s.toList == ([114, 111, 111, 116] : List UInt8)) = true := by rw [root_list, toList_beq, ba_beq]; exact hs
    have key := verb_ok v
    have hp := path_ok p
    have GL := Lib.hid hG
    clear hM hT hs hG
    cases hv : isV v with
    | false =>
      rw [hv] at key
      have KEY := Lib.hid key
      clear hp key hv
      go_enter Tryz.func18, Tryz.ntmps18
      go_wp2_with (go_at_call 37; refine (KEY.out _).mono ?_; rintro e w2 ⟨rfl, hb2⟩; have B2 := Lib.hid hb2; clear hb2)
      go_ret
      exact ⟨rfl, B2.out⟩
    | true =>
      rw [hv] at key
      have KEY := Lib.hid key
      have PK := Lib.hid hp
      clear hp key hv
      rcases line_cases p with ⟨h0, _⟩ | ⟨h0, _⟩
      · rw [h0] at PK ⊢
        go_enter Tryz.func18, Tryz.ntmps18
        go_wp2_with (first | (go_at_call 37; refine (KEY.out _).mono ?_; rintro e w2 ⟨rfl, hb2⟩; have B2 := Lib.hid hb2; clear hb2) | (go_at_call 34; refine (PK.out _ (Glob.below GL.out B2.out)).mono ?_; rintro e w3 ⟨rfl, hb3⟩; have B3 := Lib.hid (B2.out.trans (below_lower hb3 B2.out.size)); clear hb3))
        go_ret
        exact ⟨rfl, B3.out⟩
      · rw [h0] at PK ⊢
        go_enter Tryz.func18, Tryz.ntmps18
        go_wp2_with (first | (go_at_call 37; refine (KEY.out _).mono ?_; rintro e w2 ⟨rfl, hb2⟩; have B2 := Lib.hid hb2; clear hb2) | (go_at_call 34; refine (PK.out _ (Glob.below GL.out B2.out)).mono ?_; rintro e w3 ⟨rfl, hb3⟩; have B3 := Lib.hid (B2.out.trans (below_lower hb3 B2.out.size)); clear hb3))
        go_ret
        exact ⟨rfl, B3.out⟩
  · have hM : mayB M s v p = whyB M s v p := by unfold mayB; rw [if_neg hs]
    rw [hM]
    have hr : (s.toList == ([114, 111, 111, 116] : List UInt8)) = false := by rw [root_list, toList_beq, Bool.eq_false_iff, Ne, ba_beq]; exact hs
    have KEY := Lib.hid (why_ok w t b M s v p hT hG)
    clear hM hT hs hG
    go_enter Tryz.func18, Tryz.ntmps18
    go_wp2_with (go_at_call 16; refine KEY.out.mono ?_; rintro e w2 ⟨⟨⟨cp, cn, cs, cv⟩, fd, rfl, hw⟩, hb2⟩; have HF := Lib.hid hw.found; have B2 := Lib.hid hb2; unfold eV; clear hb2 hw)
    go_ret
    exact ⟨by rw [← HF.out] <;> rfl, B2.out.trans (below_lower ((Below.refl _ _).alloc (Nat.le_refl _) _) B2.out.size)⟩
end Go.Proofs.YtphddbijdfmpjaaGreatDoor.Wr
namespace Go.Proofs.YtphddbijdfmpjaaGreatDoor.Wr
open Go.RowKit Go.MapRaw Go.Proofs.YtphddbijdfmpjaaGreatDoorW.PrintWords Go.Proofs.YtphddbijdfmpjaaGreatDoorW.PrintLast Go.Proofs.YtphddbijdfmpjaaGreatDoor.Q
open Go.ChangeMaps (setBlock)
set_option linter.unusedVariables false
set_option linter.unusedSimpArgs false
structure OpV where
  two : Bool
  kind : Int
  verb : Int
  b : Bnd
  path : ByteArray
  name : ByteArray
  subject : ByteArray
def oCells (o : OpV) : List Value := [.bool o.two, .int .i64 o.kind, .int .i64 o.verb, .string o.b.path, .string o.b.name, .string o.b.subject, .int .i64 o.b.verb, .string o.path, .string o.name, .string o.subject]
def eO (o : OpV) : Value := .agg #[.bool o.two, .int .i64 o.kind, .int .i64 o.verb, .string o.b.path, .string o.b.name, .string o.b.subject, .int .i64 o.b.verb, .string o.path, .string o.name, .string o.subject]
end Go.Proofs.YtphddbijdfmpjaaGreatDoor.Wr
namespace Go.Proofs.YtphddbijdfmpjaaGreatDoor.Q
open Go.RowKit Go.Proofs.YtphddbijdfmpjaaGreatDoorW.PrintWords Go.Proofs.YtphddbijdfmpjaaGreatDoorW.PrintLast Go.ChangeShapes Go.Proofs.YtphddbijdfmpjaaGreatDoor.Wr
set_option linter.unusedVariables false
set_option linter.unusedSimpArgs false
def k27 : Kd Bnd := Kd.iso (Kd.pair Kd.string (Kd.pair Kd.string (Kd.pair Kd.string (Kd.int .i64)))) (fun b => (b.path, b.name, b.subject, b.verb))
def k29 : Kd OpV := Kd.iso (Kd.pair Kd.bool (Kd.pair (Kd.int .i64) (Kd.pair (Kd.int .i64) (Kd.pair k27 (Kd.pair Kd.string (Kd.pair Kd.string Kd.string)))))) (fun o => (o.two, o.kind, o.verb, o.b, o.path, o.name, o.subject))
theorem k29_cells {w : World} {o : OpV} {c : List Value} (h : k29.K w o c) : c = oCells o := by
  obtain ⟨c0, d0, rfl, h0, c1, d1, rfl, h1, c2, d2, rfl, h2, c3, d3, rfl, ⟨b0, e0, rfl, g0, b1, e1, rfl, g1, b2, e2, rfl, g2, g3⟩, c4, d4, rfl, h4, c5, d5, rfl, h5, h6⟩ := h
  have h0' : c0 = [.bool o.two] := h0
  have h1' : c1 = [.int .i64 o.kind] := h1
  have h2' : c2 = [.int .i64 o.verb] := h2
  have g0' : b0 = [.string o.b.path] := g0
  have g1' : b1 = [.string o.b.name] := g1
  have g2' : b2 = [.string o.b.subject] := g2
  have g3' : e2 = [.int .i64 o.b.verb] := g3
  have h4' : c4 = [.string o.path] := h4
  have h5' : c5 = [.string o.name] := h5
  have h6' : d5 = [.string o.subject] := h6
  subst h0' h1' h2' g0' g1' g2' g3' h4' h5' h6'
  rfl
theorem add_off (ad : Addr) (n j : Nat) (hj : j ≠ 0) : ad.add (n + j) = ⟨(ad.add n).block, (ad.add n).off + j, none⟩ := by
  unfold Addr.add
  by_cases hn : n = 0
  · subst hn; simp [hj]
  · simp [hn, Nat.add_assoc]
theorem op_at {w : World} {A : Option Addr} {l : List OpV} (h : k29.C w A l.length l) (i : Nat) (hi : i < l.length) : ∃ ad, A = some ad ∧ w.cell? (ad.add (i * 10)) = some (.bool l[i].two) ∧ ∀ j u, j ≠ 0 → (oCells l[i])[j]? = some u → w.cell? ⟨(ad.add (i * 10)).block, (ad.add (i * 10)).off + j, none⟩ = some u := by
  obtain ⟨ad, c, hA, _, hK, hc⟩ := Kd.C_get h l[i] (i : Int) (by omega) (by omega)
  have hg : l.getD (i : Int).toNat l[i] = l[i] := by rw [Int.toNat_natCast]; simp [hi]
  rw [hg] at hK
  have := k29_cells hK
  subst this
  refine ⟨ad, hA, ?_, fun j u hj hu => ?_⟩
  · have := hc 0 _ rfl
    rw [Int.toNat_natCast] at this
    exact this
  · have := hc j u hu
    rw [Int.toNat_natCast] at this
    rw [← add_off _ _ _ hj]
    exact this
def StrD {H : Type} (x : DataW H) (s : ByteArray) : Prop := x = .lit (.string s.data.toList) ∧ s.size ≤ maxLen
def IntD {H : Type} (x : DataW H) (n : Int) : Prop := x = .lit (.int .i64 n) ∧ (Lit.int .i64 n).wf = true
def BnD {H : Type} (x : DataW H) (b : Bnd) : Prop := ∃ l, x = .agg l ∧ ∃ y r, l = y :: r ∧ StrD y b.path ∧ ∃ y r1, r = y :: r1 ∧ StrD y b.name ∧ ∃ y r2, r1 = y :: r2 ∧ StrD y b.subject ∧ ∃ y, r2 = [y] ∧ IntD y b.verb
def OpD {H : Type} (x : DataW H) (o : OpV) : Prop := ∃ l, x = .agg l ∧ ∃ y r, l = y :: r ∧ y = .lit (.bool o.two) ∧ ∃ y r1, r = y :: r1 ∧ IntD y o.kind ∧ ∃ y r2, r1 = y :: r2 ∧ IntD y o.verb ∧ ∃ y r3, r2 = y :: r3 ∧ BnD y o.b ∧ ∃ y r4, r3 = y :: r4 ∧ StrD y o.path ∧ ∃ y r5, r4 = y :: r5 ∧ StrD y o.name ∧ ∃ y, r5 = [y] ∧ StrD y o.subject
section
variable {H : Type} {enc : TypeId × Value → H} {w : World} {base : Nat} {spare : Nat → Bool} {held : Bool}
theorem opens27 : Opens enc Tryz.prog w base spare held 28 k27 BnD :=
  opens_struct (fun b : Bnd => (b.path, b.name, b.subject, b.verb)) (fun a => ⟨a.1, a.2.1, a.2.2.1, a.2.2.2⟩) (fun _ => rfl) Tryz.underlying28 (by kernel_rfl)
    (opens_cons rfl (by kernel_rfl) (opens_string Tryz.underlying9) (opens_cons rfl (by kernel_rfl) (opens_string Tryz.underlying9) (opens_cons rfl (by kernel_rfl) (opens_string Tryz.underlying9) (opens_one rfl (by kernel_rfl) (opens_int Tryz.underlying3)))))
theorem opens29 : Opens enc Tryz.prog w base spare held 30 k29 OpD :=
  opens_struct (fun o : OpV => (o.two, o.kind, o.verb, o.b, o.path, o.name, o.subject)) (fun a => ⟨a.1, a.2.1, a.2.2.1, a.2.2.2.1, a.2.2.2.2.1, a.2.2.2.2.2.1, a.2.2.2.2.2.2⟩) (fun _ => rfl) Tryz.underlying30 (by kernel_rfl)
    (opens_cons rfl (by kernel_rfl) (opens_bool Tryz.underlying4) (opens_cons rfl (by kernel_rfl) (opens_int Tryz.underlying3) (opens_cons rfl (by kernel_rfl) (opens_int Tryz.underlying3)
      (opens_cons rfl (by kernel_rfl) opens27 (opens_cons rfl (by kernel_rfl) (opens_string Tryz.underlying9) (opens_cons rfl (by kernel_rfl) (opens_string Tryz.underlying9) (opens_one rfl (by kernel_rfl) (opens_string Tryz.underlying9))))))))
end
end Go.Proofs.YtphddbijdfmpjaaGreatDoor.Q
namespace Go.Proofs
open Go.Shelf
def Tryz.sortB_ren : Go.Shelf.Ren := ⟨fun | 6 => 23 | 15 => 46 | 14 => 45 | 28 => 65 | 29 => 66 | 20 => 57 | 21 => 58 | 22 => 59 | 23 => 60 | 24 => 61 | 25 => 62 | 26 => 63 | 27 => 64 | 46 => 81 | 47 => 82 | 48 => 83 | 49 => 84 | 50 => 85 | 57 => 95 | n => n, fun | 22 => 33 | 24 => 28 | 25 => 58 | 3 => 3 | 39 => 71 | 0 => 0 | 53 => 88 | 55 => 90 | 4 => 4 | 46 => 81 | 45 => 80 | 50 => 85 | 5 => 5 | 9 => 9 | 66 => 102 | 70 => 106 | 76 => 117 | 77 => 118 | n => n, fun | n => n⟩
theorem Tryz.sortB : Go.Proofs.SlLaysF0.n6 Tryz.prog Tryz.sortB_ren := {
  mixed := by kernel_rfl
  f6 := ⟨Tryz.f23.name, by decide, Tryz.func23.trans (congrArg some (by kernel_rfl))⟩
  f14 := ⟨Tryz.f45.name, by decide, Tryz.func45.trans (congrArg some (by kernel_rfl))⟩
  f15 := Tryz.func46.trans (congrArg some (by kernel_rfl))
  f20 := ⟨Tryz.f57.name, by decide, Tryz.func57.trans (congrArg some (by kernel_rfl))⟩
  f21 := ⟨Tryz.f58.name, by decide, Tryz.func58.trans (congrArg some (by kernel_rfl))⟩
  f22 := ⟨Tryz.f59.name, by decide, Tryz.func59.trans (congrArg some (by kernel_rfl))⟩
  f23 := ⟨Tryz.f60.name, by decide, Tryz.func60.trans (congrArg some (by kernel_rfl))⟩
  f24 := ⟨Tryz.f61.name, by decide, Tryz.func61.trans (congrArg some (by kernel_rfl))⟩
  f25 := ⟨Tryz.f62.name, by decide, Tryz.func62.trans (congrArg some (by kernel_rfl))⟩
  f26 := ⟨Tryz.f63.name, by decide, Tryz.func63.trans (congrArg some (by kernel_rfl))⟩
  f27 := ⟨Tryz.f64.name, by decide, Tryz.func64.trans (congrArg some (by kernel_rfl))⟩
  f28 := Tryz.func65.trans (congrArg some (by kernel_rfl))
  f29 := Tryz.func66.trans (congrArg some (by kernel_rfl))
  f46 := ⟨Tryz.f81.name, by decide, Tryz.func81.trans (congrArg some (by kernel_rfl))⟩
  f47 := Tryz.func82.trans (congrArg some (by kernel_rfl))
  f48 := Tryz.func83.trans (congrArg some (by kernel_rfl))
  f49 := ⟨Tryz.f84.name, by decide, Tryz.func84.trans (congrArg some (by kernel_rfl))⟩
  f50 := ⟨Tryz.f85.name, by decide, Tryz.func85.trans (congrArg some (by kernel_rfl))⟩
  f57 := ⟨Tryz.f95.name, by decide, Tryz.func95.trans (congrArg some (by kernel_rfl))⟩
  t0 := Tryz.underlying0
  a0 := Tryz.isAgg0
  z0 := Tryz.sizeOf0
  v0 := Tryz.zeroValue0
  t3 := Tryz.underlying3
  a3 := Tryz.isAgg3
  z3 := Tryz.sizeOf3
  v3 := Tryz.zeroValue3
  t4 := Tryz.underlying4
  a4 := Tryz.isAgg4
  z4 := Tryz.sizeOf4
  v4 := Tryz.zeroValue4
  t5 := Tryz.underlying5
  a5 := Tryz.isAgg5
  z5 := Tryz.sizeOf5
  v5 := Tryz.zeroValue5
  t9 := Tryz.underlying9
  a9 := Tryz.isAgg9
  z9 := Tryz.sizeOf9
  v9 := Tryz.zeroValue9
  t22 := Tryz.underlying33
  a22 := Tryz.isAgg33
  z22 := Tryz.sizeOf33
  v22 := Tryz.zeroValue33
  t25 := Tryz.underlying58
  a25 := Tryz.isAgg58
  z25 := Tryz.sizeOf58
  v25 := Tryz.zeroValue58
  t39 := Tryz.underlying71
  a39 := Tryz.isAgg71
  z39 := Tryz.sizeOf71
  v39 := Tryz.zeroValue71
  t45 := Tryz.underlying80
  a45 := Tryz.isAgg80
  z45 := Tryz.sizeOf80
  v45 := Tryz.zeroValue80
  t46 := Tryz.underlying81
  a46 := Tryz.isAgg81
  z46 := Tryz.sizeOf81
  v46 := Tryz.zeroValue81
  t50 := Tryz.underlying85
  a50 := Tryz.isAgg85
  z50 := Tryz.sizeOf85
  v50 := Tryz.zeroValue85
  t53 := Tryz.underlying88
  a53 := Tryz.isAgg88
  z53 := Tryz.sizeOf88
  v53 := Tryz.zeroValue88
  t55 := Tryz.underlying90
  a55 := Tryz.isAgg90
  z55 := Tryz.sizeOf90
  v55 := Tryz.zeroValue90
  t66 := Tryz.underlying102
  a66 := Tryz.isAgg102
  z66 := Tryz.sizeOf102
  v66 := Tryz.zeroValue102
  t70 := Tryz.underlying106
  a70 := Tryz.isAgg106
  z70 := Tryz.sizeOf106
  v70 := Tryz.zeroValue106
  t76 := Tryz.underlying117
  a76 := Tryz.isAgg117
  z76 := Tryz.sizeOf117
  v76 := Tryz.zeroValue117
  t77 := Tryz.underlying118
  a77 := Tryz.isAgg118
  z77 := Tryz.sizeOf118
  v77 := Tryz.zeroValue118 }
end Go.Proofs
namespace Go.Proofs.YtphddbijdfmpjaaGreatDoor.Q
open Go.RowKit Go.Lib Go.Sort Go.Shelf Go.Proofs.YtphddbijdfmpjaaGreatDoorW.PrintWords Go.Proofs.YtphddbijdfmpjaaGreatDoorW.PrintLast Go.Proofs.YtphddbijdfmpjaaGreatDoor.Wr
set_option linter.unusedVariables false
set_option linter.unusedSimpArgs false
instance : Inhabited Bnd := ⟨zb⟩
def encB (x : Bnd) : List Value := [.string x.path, .string x.name, .string x.subject, .int .i64 x.verb]
theorem ltB (x y : Bnd) : ltOf cmpB x y = decide (cmpB x y < 0) := rfl
theorem swoB : SWO (ltOf cmpB) where
  irrefl x := by rw [ltB, ordB.self]; rfl
  trans x y z h1 h2 := by
    rw [ltB, decide_eq_true_eq] at *
    exact ordB.lt_le h1 (by omega)
  ntrans x y z h1 h2 := by
    rw [ltB, decide_eq_false_iff_not] at *
    have e1 := ordB.neg x y
    have e2 := ordB.neg y z
    have e3 := ordB.neg x z
    have := ordB.le z y x (by omega) (by omega)
    omega
theorem glob_size {w : World} (h : Glob w) : 2 ≤ w.heap.size := by
  obtain ⟨m, hm⟩ := h.maxLen
  by_cases h1 : 1 < w.heap.size
  · exact h1
  · have : w.heap[1]? = none := Array.getElem?_eq_none (by omega)
    simp [World.cell?, this] at hm
theorem glob_grown {w w' : World} {g : Nat} (h : Glob w) (hg : w.grownBy w' (some g)) (h2 : 2 ≤ g) : Glob w' := by
  have hs := glob_size h
  obtain ⟨m, hm⟩ := h.maxLen
  refine ⟨⟨m, ?_⟩, ?_⟩
  · rw [World.cell?_of_block (w := w) (hg.block 1 (by omega) (fun e => by cases e; omega))]; exact hm
  · rw [World.cell?_of_block (w := w) (hg.block 0 (by omega) (fun e => by cases e; omega))]; exact h.letterB
theorem flat_get {xs : List Bnd} {t : Nat} (ht : t < xs.length * 4) : (flatK encB 4 xs.toArray).toList[t]? = (encB (xs.getD (t / 4) zb))[t % 4]? := by
  have hj : t / 4 < xs.length := by omega
  have h1 : (flatK encB 4 xs.toArray).toList[t]? = some ((encB (xs.toArray[t / 4]!))[t % 4]!) := by
    rw [Array.getElem?_toList]
    simp [flatK, ht]
  have h2 : xs.toArray[t / 4]! = xs.getD (t / 4) zb := by
    simp [List.getD_eq_getElem?_getD, hj]
  rw [h1, h2]
  have h3 : t % 4 = 0 ∨ t % 4 = 1 ∨ t % 4 = 2 ∨ t % 4 = 3 := by omega
  rcases h3 with h3 | h3 | h3 | h3 <;> rw [h3] <;> rfl
theorem flat_len (xs : List Bnd) : (flatK encB 4 xs.toArray).toList.length = xs.length * 4 := by simp
theorem k27_openM {w : World} {base : Nat} {ok : Nat → Prop} {x : Bnd} {cs : List Value} (h : k27.M w base ok x cs) : cs = encB x := by
  obtain ⟨b0, e0, rfl, g0, b1, e1, rfl, g1, b2, e2, rfl, g2, g3⟩ := h
  have g0' : b0 = [.string x.path] := g0
  have g1' : b1 = [.string x.name] := g1
  have g2' : b2 = [.string x.subject] := g2
  have g3' : e2 = [.int .i64 x.verb] := g3
  subst g0' g1' g2' g3'
  rfl
theorem k27_mkM (w : World) (base : Nat) (ok : Nat → Prop) (x : Bnd) : k27.M w base ok x (encB x) :=
  ⟨[.string x.path], [.string x.name, .string x.subject, .int .i64 x.verb], rfl, rfl, [.string x.name], [.string x.subject, .int .i64 x.verb], rfl, rfl, [.string x.subject], [.int .i64 x.verb], rfl, rfl, rfl⟩
theorem inner27 {w : World} {base : Nat} {ok : Nat → Prop} {xs : List Bnd} {inner : List Value} (h : Reps (k27.M w base ok) 4 xs inner) : inner = (flatK encB 4 xs.toArray).toList := by
  apply List.ext_getElem?
  intro t
  by_cases ht : t < xs.length * 4
  · have hj : t / 4 < xs.length := by omega
    have hk := k27_openM (h.2 (t / 4) _ (List.getElem?_eq_getElem hj))
    have h1 : inner[t]? = ((inner.drop (t / 4 * 4)).take 4)[t % 4]? := by
      rw [List.getElem?_take_of_lt (by omega), List.getElem?_drop]
      congr 1
      omega
    rw [h1, hk, flat_get ht]
    simp [encB, List.getD_eq_getElem?_getD, hj]
  · rw [List.getElem?_eq_none (by rw [h.1]; omega), List.getElem?_eq_none (by rw [flat_len]; omega)]
theorem reps27 (w : World) (base : Nat) (ok : Nat → Prop) (xs : List Bnd) : Reps (k27.M w base ok) 4 xs (flatK encB 4 xs.toArray).toList := by
  refine ⟨flat_len xs, fun j p hj => ?_⟩
  obtain ⟨hl, rfl⟩ := List.getElem?_eq_some_iff.1 hj
  have e : (((flatK encB 4 xs.toArray).toList.drop (j * 4)).take 4) = encB xs[j] := by
    apply List.ext_getElem?
    intro t
    by_cases ht : t < 4
    · rw [List.getElem?_take_of_lt ht, List.getElem?_drop, flat_get (by omega)]
      have h1 : (j * 4 + t) / 4 = j := by omega
      have h2 : (j * 4 + t) % 4 = t := by omega
      rw [h1, h2]
      simp [List.getD_eq_getElem?_getD, hl]
    · rw [List.getElem?_take_eq_none (by omega), List.getElem?_eq_none (by simp [encB]; omega)]
  rw [e]
  exact k27_mkM w base ok _
theorem holds27 {w : World} {g : Nat} {cur : Array Value} {e : TypeId} {xs : List Bnd} (hb : w.heap[g]? = some (.cells cur e (0, 0))) (ht : cur.toList.take (xs.length * 4) = (flatK encB 4 xs.toArray).toList) : HoldsK encB 4 w g 0 xs.toArray := by
  unfold HoldsK
  intro j hj
  have hj' : j < xs.length * 4 := by simpa using hj
  refine ⟨?_, by simp [World.frozen?, hb]⟩
  have h1 : (cur.toList.take (xs.length * 4))[j]? = (flatK encB 4 xs.toArray).toList[j]? := by rw [ht]
  rw [List.getElem?_take_of_lt hj'] at h1
  simp only [World.cell?, hb, Nat.zero_add]
  simp only [Option.isSome_none, Bool.false_eq_true, if_false]
  rw [← Array.getElem?_toList, h1, Array.getElem?_toList, Array.getElem?_eq_getElem hj, getElem!_pos _ j hj]
  rfl
theorem heap27 {w : World} {g n : Nat} {os : Array Obj} {cur : Array Value} {e : TypeId} {fr : Nat × Nat} (d : Array Bnd) (hb : w.heap[g]? = some (.cells cur e fr)) :
    (sortWorldK encB 4 w g 0 n d os).heap[g]? = some (.cells (putCells id 0 (flatK encB 4 d) cur) e fr) := by
  have hg : g < w.heap.size := (Array.getElem?_eq_some_iff.1 hb).1
  unfold sortWorldK putRowK
  rw [heap_grow_old _ _ (by simpa using hg)]
  simp [putRow, mapBlock, Sort.ahead, Array.getElem?_modify, hb, onCells]
theorem grown27 {w : World} {g n : Nat} {os : Array Obj} (d : Array Bnd) : w.grownBy (sortWorldK encB 4 w g 0 n d os) (some g) := by
  unfold sortWorldK putRowK
  refine ⟨rfl, rfl, rfl, by simp, fun k hk hne => ?_⟩
  rw [heap_grow_old _ _ (by simpa using hk)]
  have : g ≠ k := fun e => hne (by rw [e])
  simp [putRow, mapBlock, Sort.ahead, Array.getElem?_modify, this]
theorem take27 (cur : Array Value) (ts : List Bnd) (h : ts.length * 4 ≤ cur.size) : (putCells id 0 (flatK encB 4 ts.toArray) cur).toList.take (ts.length * 4) = (flatK encB 4 ts.toArray).toList := by
  apply List.ext_getElem?
  intro j
  by_cases hj : j < ts.length * 4
  · rw [List.getElem?_take_of_lt hj, Array.getElem?_toList, Array.getElem?_toList]
    simp [putCells, hj, show j < cur.size by omega]
  · rw [List.getElem?_take_eq_none (by omega), List.getElem?_eq_none (by rw [flat_len]; omega)]
theorem cmpLaysB (blk size : Nat) (w : World) (hG : Glob w) (h2 : 2 ≤ blk) : CmpLays Tryz.prog 24 #[] encB 4 cmpB blk 0 size w := by
  intro m os dk _ x y
  refine (cmp_ok x y _ (glob_grown hG (grown27 dk) h2)).mono ?_
  rintro e w' ⟨rfl, q, os', rfl⟩
  exact ⟨rfl, q, os', rfl⟩
theorem sort_calls (blk cap : Nat) (d : Array Bnd) (w : World) (hG : Glob w) (h2 : 2 ≤ blk) (hH : HoldsK encB 4 w blk 0 d) (hblk : blk < w.heap.size) (hsz : d.size < 4611686018427387904) :
    Calls Tryz.prog 23 #[.slice (some ⟨blk, 0, none⟩) d.size cap, .func (.func 24) #[] #[]] w fun e w' => e = .returned (.tuple #[]) ∧ ∃ d' n os, PermIn 0 d.size d d' ∧ SortedIn (ltOf cmpB) 0 d.size d' ∧ w' = sortWorldK encB 4 w blk 0 n d' os := by
  have eg : ∀ args w, (callFunc 24 args).run Tryz.prog w = .ok (.enter 24 args) w := enters_of Tryz.func24 (by kernel_rfl) rfl
  exact AnyQ.slices_SortFunc Tryz.sortB 4 Tryz.isAgg28 Tryz.sizeOf28 encB (fun _ => rfl) (fun x v hv => by simp [encB] at hv; rcases hv with rfl | rfl | rfl | rfl <;> rfl) cmpB swoB 24 #[] blk 0 cap d w eg (cmpLaysB blk d.size w hG h2) hH hblk hsz
def Rising (l : List Bnd) : Prop := l.Pairwise fun a b => cmpB a b ≤ 0
theorem sorted_is {xs : List Bnd} {d' : Array Bnd} (hp : PermIn 0 xs.toArray.size xs.toArray d') (hs : SortedIn (ltOf cmpB) 0 xs.toArray.size d') : d'.toList.Perm xs ∧ Rising d'.toList := by
  have hsz : d'.size = xs.length := by have := hp.1; simpa using this
  refine ⟨?_, ?_⟩
  · have := hp.2.2
    have e1 : d'.extract 0 xs.toArray.size = d' := by
      have : xs.toArray.size = d'.size := by simp [hsz]
      rw [this]
      exact Array.extract_size
    have e2 : xs.toArray.extract 0 xs.toArray.size = xs.toArray := Array.extract_size
    rw [e1, e2] at this
    simpa using this
  · unfold Rising
    rw [List.pairwise_iff_getElem]
    intro i j hi hj hij
    have := hs i j (Nat.zero_le _) hij (by simpa [hsz] using hj)
    rw [ltB, decide_eq_false_iff_not] at this
    have h3 : ¬ cmpB d'.toList[j] d'.toList[i] < 0 := by
      simpa [getElem!_pos, show i < d'.size by simpa using hi, show j < d'.size by simpa using hj] using this
    have := ordB.neg d'.toList[i] d'.toList[j]
    omega
theorem sort_row {w : World} {base : Nat} {ok : Nat → Prop} {v : Value} {xs : List Bnd} (HR : Kd.R k27 28 w base ok v xs) (hG : Glob w) (hb2 : 2 ≤ base) (hl : xs.length ≤ 2513169434843) :
    Calls Tryz.prog 23 #[v, .func (.func 24) #[] #[]] w fun e w' => e = .returned (.tuple #[]) ∧ ∃ L, L.Perm xs ∧ Rising L ∧ Kd.R k27 28 w' base ok v L ∧ w.grownBy w' v.ownBlock := by
  obtain ⟨h0, inner, ho, hi⟩ := HR
  rcases ho.2 with ⟨rfl, hn⟩ | ⟨g, cap, cur, rfl, hg, hb, h1, h2, h3, h4⟩
  · obtain rfl := List.eq_nil_of_length_eq_zero hn
    refine Calls.mono (AnyF.slices_SortFunc_none Tryz.sortB none 0 (.func (.func 24) #[] #[]) w) ?_
    rintro e w' ⟨rfl, rfl⟩
    exact ⟨rfl, [], .refl _, .nil, Kd.R_nil _ _ _ _ _, ⟨rfl, rfl, rfl, Nat.le_refl _, fun _ _ _ => rfl⟩⟩
  · have hin := inner27 hi
    have hH := holds27 hb (h4.trans hin)
    have hlt : g < w.heap.size := (Array.getElem?_eq_some_iff.1 hb).1
    have hc := sort_calls g cap xs.toArray w hG (by omega) hH hlt (by simp; omega)
    simp only [List.size_toArray] at hc
    refine hc.mono ?_
    rintro e w' ⟨rfl, d', n, os, hP, hS, rfl⟩
    have hd := sorted_is (by simpa using hP) (by simpa using hS)
    obtain ⟨L, hL⟩ : ∃ L, L = d'.toList := ⟨_, rfl⟩
    rw [← hL] at hd
    have hlen := hd.1.length_eq
    have hda : d' = L.toArray := by rw [hL]
    refine ⟨rfl, L, hd.1, hd.2, ⟨h0, (flatK encB 4 L.toArray).toList, ⟨flat_len L, .inr ⟨g, cap, _, by rw [hlen], hg, heap27 d' hb, by omega, h2, by simp [putCells, h3], ?_⟩⟩, reps27 _ _ _ L⟩, grown27 d'⟩
    rw [hda]
    exact take27 cur L (by rw [h3]; show L.length * 4 ≤ cap * 4; omega)
end Go.Proofs.YtphddbijdfmpjaaGreatDoor.Q
namespace Go.Proofs.YtphddbijdfmpjaaGreatDoor.Q
open Go.RowKit Go.MapRaw Go.Proofs.YtphddbijdfmpjaaGreatDoorW.PrintWords Go.Proofs.YtphddbijdfmpjaaGreatDoorW.PrintLast Go.Proofs.YtphddbijdfmpjaaGreatDoor.Wr
open Go.ChangeMaps (setBlock)
set_option linter.unusedVariables false
set_option linter.unusedSimpArgs false
theorem info27 : (Tryz.prog.info? 28).map (fun i => (i.zero, i.size, i.bytes)) = some (some (.agg #[.string ⟨#[]⟩, .string ⟨#[]⟩, .string ⟨#[]⟩, .int .i64 0]), 4, 56) := by kernel_rfl
theorem perm_step (xs : List Bnd) (A B : Tab) (p : Key × Bnd) : ((xs ++ [p.2]) ++ (A ++ B).map fun p => p.2).Perm (xs ++ (A ++ p :: B).map fun p => p.2) := by
  rw [List.append_assoc]
  refine List.Perm.append_left _ ?_
  rw [List.map_append, List.map_append, List.map_cons]
  simp only [List.cons_append, List.nil_append]
  exact List.perm_middle.symm
def ListSays (M : Tab) (w : World) (e : Ending) (w' : World) : Prop := ∃ v L, e = .returned v ∧ L.Perm (M.map fun p => p.2) ∧ Rising L ∧ Kd.R k27 28 w' w.heap.size (fun _ => True) v L ∧ Below w.heap.size w w'
set_option maxRecDepth 100000 in
set_option maxHeartbeats 8000000 in
theorem list_ok (w : World) (t b : Nat) (M : Tab) (hT : TB w t b M) (hG : Glob w) (hM : M.length ≤ 2513169434843) :
    Calls Tryz.prog 8 #[.pointer (some ⟨t, 0, none⟩)] w fun e w' => ListSays M w e w' := by
  have hu27 := Tryz.underlying28
  obtain ⟨o, hr, hR⟩ := hT.holds.range (P := Tryz.prog) (T := 36) (eT := 28) (kT := 52) Tryz.underlying36
  have HRA := Aside0.mk hR
  have HM := Lib.hid hM
  have HT := Lib.hid hT
  have GL := Lib.hid hG
  have ht := hT.cell
  clear hT hR hM hG
  go_enter Tryz.func8, Tryz.ntmps8
  go_upto_region 3 with fail
  have HB1 := Aside0.mk ((Below.refl w.heap.size w).alloc (Nat.le_refl _) o)
  clear hr ht
  generalize w.alloc o = w1 at HB1 HRA ⊢
  obtain ⟨rr, hrr⟩ : ∃ rr, rr = w.heap.size := ⟨_, rfl⟩
  have HRR := Lib.hid hrr
  rw [← hrr] at HRA ⊢
  clear hrr
  go_loopg [3] M.length (fun g v3 wr => ∃ (xs : List Bnd) (L : Tab), L.length ≤ g ∧ Aside0 ((xs ++ L.map fun p => p.2).Perm (M.map fun p => p.2)) ∧ Aside0 (Kd.R k27 28 wr w.heap.size (fun k => k ≠ rr ∧ k ≠ b) v3 xs) ∧ Aside0 (Ranging eK eV wr b rr M L) ∧ Aside0 (Below w.heap.size w wr))
  case atStart => exact ⟨[], M, Nat.le_refl _, ⟨.refl _⟩, ⟨Kd.R_nil _ _ _ _ _⟩, HRA, HB1⟩
  case round =>
    clear HRA HB1
    obtain ⟨xs, L, hg, HP, HR, HRg, HB⟩ := hrel
    rcases HRg.out.next (P := Tryz.prog) 0 with ⟨hL, hrun⟩ | ⟨A, p, B, hL, wd, o2, hwd, hrun, hat⟩
    · subst hL
      have HLEN := Lib.hid (show xs.length ≤ 2513169434843 by have := HP.out.length_eq; simp at this; have := HM.out; omega)
      have SORT := Lib.hid (sort_row HR.out (GL.out.below HB.out) (glob_size GL.out) HLEN.out)
      go_wp2_with (go_at_call 23; refine SORT.out.mono ?_; rintro e w4 ⟨rfl, L2, hP2, hS2, hR2, hg2⟩; have HP2 := Lib.hid hP2; have HS2 := Lib.hid hS2; have HR2 := Lib.hid hR2; have HG2 := Lib.hid hg2; clear hP2 hS2 hR2 hg2)
      go_ret
      exact ⟨_, L2, rfl, HP2.out.trans (by have := HP.out; simpa using this), HS2.out, Kd.R_mono HR2.out (fun _ _ => trivial), HB.out.grown HG2.out HB.out.size (fun j hj => own_base HR.out.2.choose_spec.1 j hj)⟩
    · subst hL
      cases gk with
      | zero => simp at hg
      | succ g =>
        have hent := hat.entry (P := Tryz.prog)
        have hbs : Below w.heap.size w (setBlock wd rr o2) := below_setBlock (by rcases hwd with rfl | rfl; exact HB.out; exact below_drew1 HB.out) (by have := HRR.out; omega)
        have hrs : Kd.R k27 28 (setBlock wd rr o2) w.heap.size (fun k => k ≠ rr ∧ k ≠ b) u3 xs := Kd.R_move HR.out (fun k hk => by rw [set_far _ _ _ _ hk.1]; rcases hwd with rfl | rfl <;> rfl)
        have HBS := Lib.hid hbs
        have HRS := Lib.hid hrs
        have HAT := Lib.hid hat
        have HLX := Lib.hid (show xs.length ≤ 2513169434843 by have := HP.out.length_eq; simp at this; have := HM.out; omega)
        have HPN := Lib.hid (show ((xs ++ [p.2]) ++ (A ++ B).map fun p => p.2).Perm (M.map fun p => p.2) from (by
          refine List.Perm.trans ?_ HP.out
          exact perm_step xs A B p))
        clear hbs hat hwd hrs HRg HB HR HP
        unfold eK eV at hrun hent
        generalize setBlock wd rr o2 = w2 at HBS HRS HAT hrun hent
        obtain ⟨⟨kp, kn⟩, ⟨vp, vn, vs, vv⟩⟩ := p
        go_upto_region 5 with fail
        have HB3 := Aside0.mk (HBS.out.alloc HBS.out.size (.cells #[.string vp, .string vn, .string vs, .int .i64 vv] 28))
        have HR3 := Aside0.mk (Kd.R_alloc HRS.out (.cells #[.string vp, .string vn, .string vs, .int .i64 vv] 28))
        have HA3 := Aside0.mk (Ranging_alloc HAT.out.on (.cells #[.string vp, .string vn, .string vs, .int .i64 vv] 28))
        have HV3 := Aside0.mk (blk_new w2 (.cells #[.string vp, .string vn, .string vs, .int .i64 vv] 28))
        obtain ⟨vb, hvb⟩ : ∃ vb, vb = w2.heap.size := ⟨_, rfl⟩
        rw [← hvb] at HV3 ⊢
        clear hvb HBS HRS HAT hrun hent
        generalize w2.alloc _ = w3 at HB3 HR3 HA3 HV3 ⊢
        have hv0 := (blk_cell HV3.out 0).trans rfl
        have hv1 := (blk_cell HV3.out 1).trans rfl
        have hv2 := (blk_cell HV3.out 2).trans rfl
        have hv3 := (blk_cell HV3.out 3).trans rfl
        have HLT := Lib.hid (Ranging_lt HA3.out)
        go_wp2_with (first
          | ((with_reducible refine gate_builtin (b := .append) (xs := #[.tmp 15, .tmp 17]) rfl ?_); at_builtin; refine Kd.R_append k27 (w0 := w) w.heap.size rfl (.tmp 15) (.tmp 17) 33 28 (.agg #[.string ⟨#[]⟩, .string ⟨#[]⟩, .string ⟨#[]⟩, .int .i64 0]) 56 rfl Tryz.underlying33 info27 rfl (by decide) (by omega) u3 xs ⟨vp, vn, vs, vv⟩ [.string vp, .string vn, .string vs, .int .i64 vv] (fun k => k ≠ rr ∧ k ≠ b) (fun _ => False) rfl rfl ?aP (fun _ hk => hk.elim) ?aF ?aO ?aB ?aS ?aL ?_; (case aP => exact k27_mkM _ _ _ ⟨vp, vn, vs, vv⟩); (case aB => exact HB3.out); (case aF => exact (fun k hk => by have := HLT.out; constructor <;> omega)); (case aO => exact HR3.out); (case aS => exact HB3.out.size); (case aL => have := HLX.out; omega);
                intro v2 w4 ho hb2 hg2 hat2; have HO4 := Aside0.mk ho; have HB4 := Aside0.mk hb2; have HG4 := Lib.hid hg2; clear ho hb2 hg2 hat2))
        have HRG4 := Aside0.mk (HA3.out.move (HG4.out.block b HLT.out.1 (fun e => (HR3.out.1 b e.symm).2 rfl)) (HG4.out.block rr HLT.out.2 (fun e => (HR3.out.1 rr e.symm).1 rfl)))
        go_roundg g
        case measure => omega
        case rel => exact ⟨xs ++ [⟨vp, vn, vs, vv⟩], A ++ B, by simp at hg ⊢; omega, ⟨HPN.out⟩, HO4, HRG4, HB4⟩
end Go.Proofs.YtphddbijdfmpjaaGreatDoor.Q
namespace Go.Proofs.YtphddbijdfmpjaaGreatDoor.Q
open Go.RowKit Go.MapRaw Go.Proofs.YtphddbijdfmpjaaGreatDoorW.PrintWords Go.Proofs.YtphddbijdfmpjaaGreatDoorW.PrintLast Go.Proofs.YtphddbijdfmpjaaGreatDoor.Wr
open Go.ChangeMaps (setBlock)
set_option linter.unusedVariables false
set_option linter.unusedSimpArgs false
theorem k27_cells {w : World} {x : Bnd} {c : List Value} (h : k27.K w x c) : c = encB x := by
  obtain ⟨b0, e0, rfl, g0, b1, e1, rfl, g1, b2, e2, rfl, g2, g3⟩ := h
  have g0' : b0 = [.string x.path] := g0
  have g1' : b1 = [.string x.name] := g1
  have g2' : b2 = [.string x.subject] := g2
  have g3' : e2 = [.int .i64 x.verb] := g3
  subst g0' g1' g2' g3'
  rfl
theorem bnd_at {w : World} {A : Option Addr} {l : List Bnd} (h : k27.C w A l.length l) (i : Nat) (hi : i < l.length) : ∃ ad, A = some ad ∧ w.cell? (ad.add (i * 4)) = some (.string l[i].path) ∧ ∀ j u, j ≠ 0 → (encB l[i])[j]? = some u → w.cell? ⟨(ad.add (i * 4)).block, (ad.add (i * 4)).off + j, none⟩ = some u := by
  obtain ⟨ad, c, hA, _, hK, hc⟩ := Kd.C_get h l[i] (i : Int) (by omega) (by omega)
  have hg : l.getD (i : Int).toNat l[i] = l[i] := by rw [Int.toNat_natCast]; simp [hi]
  rw [hg] at hK
  have := k27_cells hK
  subst this
  refine ⟨ad, hA, ?_, fun j u hj hu => ?_⟩
  · have := hc 0 _ rfl
    rw [Int.toNat_natCast] at this
    exact this
  · have := hc j u hu
    rw [Int.toNat_natCast] at this
    rw [← add_off _ _ _ hj]
    exact this
end Go.Proofs.YtphddbijdfmpjaaGreatDoor.Q
namespace Go.Proofs.YtphddbijdfmpjaaGreatDoor.Q
open Go.RowKit Go.MapRaw Go.Proofs.YtphddbijdfmpjaaGreatDoorW.PrintWords Go.Proofs.YtphddbijdfmpjaaGreatDoorW.PrintLast Go.Proofs.YtphddbijdfmpjaaGreatDoor.Wr
open Go.ChangeMaps (setBlock)
set_option linter.unusedVariables false
set_option linter.unusedSimpArgs false
theorem eqA27 (d : Nat) (w : World) (x0 y0 x1 y1 x2 y2 : ByteArray) (x3 y3 : Int) : (Op.equalIn (d + 2) 28 (.agg #[.string x0, .string x1, .string x2, .int .i64 x3]) (.agg #[.string y0, .string y1, .string y2, .int .i64 y3])).run Tryz.prog w = .ok (x0.toList == y0.toList && (x1.toList == y1.toList && (x2.toList == y2.toList && x3 == y3))) w := by
  refine eqA_of Tryz.underlying28 (by kernel_rfl) ?_
  refine eqf_cons (by rfl) (by go_simp; rfl) (by go_simp; rfl) (by go_simp) ?_
  refine eqf_cons (by rfl) (by go_simp; rfl) (by go_simp; rfl) (by go_simp) ?_
  refine eqf_cons (by rfl) (by go_simp; rfl) (by go_simp; rfl) (by go_simp) ?_
  exact eqf_last (by rfl) (by go_simp; rfl) (by go_simp; rfl) (by go_simp)
def eqBnd (a b : Bnd) : Bool := a.path.toList == b.path.toList && (a.name.toList == b.name.toList && (a.subject.toList == b.subject.toList && a.verb == b.verb))
theorem eqBnd_iff (a b : Bnd) : eqBnd a b = true ↔ a = b := by
  obtain ⟨a1, a2, a3, a4⟩ := a
  obtain ⟨b1, b2, b3, b4⟩ := b
  unfold eqBnd
  simp only [Bool.and_eq_true, toList_beq, ba_beq, beq_iff_eq, Bnd.mk.injEq]
def sameB : List Bnd → List Bnd → Bool
  | [], [] => true
  | a :: x, b :: y => eqBnd a b && sameB x y
  | _, _ => false
theorem sameB_iff : ∀ x y : List Bnd, sameB x y = true ↔ x = y
  | [], [] => by simp [sameB]
  | [], _ :: _ => by simp [sameB]
  | _ :: _, [] => by simp [sameB]
  | a :: x, b :: y => by simp only [sameB, Bool.and_eq_true, eqBnd_iff, sameB_iff x y, List.cons.injEq]
theorem sameB_len : ∀ {x y : List Bnd}, x.length ≠ y.length → sameB x y = false
  | [], [], h => absurd rfl h
  | [], _ :: _, _ => rfl
  | _ :: _, [], _ => rfl
  | a :: x, b :: y, h => by
    unfold sameB
    rw [sameB_len (fun e => h (by simp [e])), Bool.and_false]
attribute [local go_sem high] eqA27
set_option maxRecDepth 100000 in
set_option maxHeartbeats 16000000 in
theorem same_ok (A B : Option Addr) (c d : Nat) (x y : List Bnd) (w : World) (hx : k27.C w A x.length x) (hy : k27.C w B y.length y) (hl : x.length ≤ 2513169434843) :
    Calls Tryz.prog 7 #[.slice A x.length c, .slice B y.length d] w fun e w' => e = .returned (.bool (sameB x y)) ∧ Below w.heap.size w w' := by
  have hu27 := Tryz.underlying28
  obtain ⟨res, hres⟩ : ∃ res, res = sameB x y := ⟨_, rfl⟩
  rw [← hres]
  have HRES := Lib.hid hres
  have HX := Aside0.mk hx
  have HY := Aside0.mk hy
  have HLL := Lib.hid hl
  clear hx hy hl hres
  by_cases hne : x.length = y.length
  rotate_left
  · have e1 : ((x.length : Int) != (y.length : Int)) = true := bne_iff_ne.2 (by omega)
    have e1n : (x.length != y.length) = true := bne_iff_ne.2 hne
    have HNE := Lib.hid hne
    clear hne
    go_enter Tryz.func7, Tryz.ntmps7
    go_wp2
    go_ret
    exact ⟨by rw [HRES.out, sameB_len HNE.out] <;> rfl, Below.refl _ _⟩
  have e1 : ((x.length : Int) != (y.length : Int)) = false := bne_eq_false_iff_eq.2 (by omega)
  have HNE := Lib.hid hne
  clear hne
  go_enter Tryz.func7, Tryz.ntmps7
  go_upto_region 4 with fail
  clear e1
  go_loopg [5] x.length (fun g v5 wr => ∃ (i : Nat), v5 = .int .i64 (i : Int) ∧ Aside0 (i + g = x.length) ∧ Aside0 (sameB (x.drop i) (y.drop i) = res) ∧ Aside0 (Below w.heap.size w wr))
  case atStart => exact ⟨0, rfl, ⟨by omega⟩, ⟨by rw [List.drop_zero, List.drop_zero]; exact HRES.out.symm⟩, ⟨Below.refl _ _⟩⟩
  case round =>
    obtain ⟨i, rfl, HI, HS, HB⟩ := hrel
    by_cases hi : i < x.length
    rotate_left
    · have q1 : decide ((i : Int) < (x.length : Int)) = false := decide_eq_false (by omega)
      have q1n : decide (i < x.length) = false := decide_eq_false hi
      have HD := Lib.hid (show x.drop i = [] ∧ y.drop i = [] from ⟨List.drop_of_length_le (by omega), List.drop_of_length_le (by have := HNE.out; omega)⟩)
      clear hi
      go_wp2
      go_ret
      exact ⟨by rw [← HS.out, HD.out.1, HD.out.2] <;> rfl, HB.out⟩
    have hj : i < y.length := by have := HNE.out; omega
    have q1 : decide ((i : Int) < (x.length : Int)) = true := decide_eq_true (by omega)
    have q1n : decide (i < x.length) = true := decide_eq_true hi
    have p1 : (0 ≤ (i : Int)) = True := eq_true (by omega)
    have p2 : ((i : Int) < (x.length : Int)) = True := eq_true (by omega)
    have p3 : ((i : Int) < (y.length : Int)) = True := eq_true (by omega)
    obtain ⟨ad, hA, hx0, hx⟩ := bnd_at (Kd.C_below HX.out HB.out) i hi
    cases hA
    obtain ⟨ae, hA, hy0, hy⟩ := bnd_at (Kd.C_below HY.out HB.out) i hj
    cases hA
    have HDX := Lib.hid (And.intro (List.drop_eq_getElem_cons hi) (List.drop_eq_getElem_cons hj))
    obtain ⟨g0, rfl⟩ : ∃ g0, gk = g0 + 1 := ⟨gk - 1, by have := HI.out; omega⟩
    have HLT := Lib.hid hi
    generalize x[i] = xx at hx0 hx HDX
    generalize y[i] = yy at hy0 hy HDX
    obtain ⟨xp, xn, xs, xv⟩ := xx
    obtain ⟨yp, yn, ys, yv⟩ := yy
    have hx1 := hx 1 (.string xn) (by decide) rfl
    have hx2 := hx 2 (.string xs) (by decide) rfl
    have hx3 := hx 3 (.int .i64 xv) (by decide) rfl
    have hy1 := hy 1 (.string yn) (by decide) rfl
    have hy2 := hy 2 (.string ys) (by decide) rfl
    have hy3 := hy 3 (.int .i64 yv) (by decide) rfl
    clear hi hj hx hy
    have HST := Lib.hid (show sameB (x.drop i) (y.drop i) = (eqBnd ⟨xp, xn, xs, xv⟩ ⟨yp, yn, ys, yv⟩ && sameB (x.drop (i + 1)) (y.drop (i + 1))) by rw [HDX.out.1, HDX.out.2]; rfl)
    obtain ⟨q, hq⟩ : ∃ q, q = eqBnd ⟨xp, xn, xs, xv⟩ ⟨yp, yn, ys, yv⟩ := ⟨_, rfl⟩
    rw [← hq] at HST
    have hq2 : (!xp.toList == yp.toList || (!xn.toList == yn.toList || (!xs.toList == ys.toList || !xv == yv))) = !q := by rw [hq]; unfold eqBnd; simp only [Bool.not_and]
    have HQ := Lib.hid hq2
    clear hq hq2
    go_upto_region 6 with fail
    refine start_ (n := 9) (S := fun w' => w'.cell? (ad.add (i * 4)) = some (.string xp) ∧ w'.cell? ⟨(ad.add (i * 4)).block, (ad.add (i * 4)).off + 1, none⟩ = some (.string xn) ∧ w'.cell? ⟨(ad.add (i * 4)).block, (ad.add (i * 4)).off + 2, none⟩ = some (.string xs) ∧ w'.cell? ⟨(ad.add (i * 4)).block, (ad.add (i * 4)).off + 3, none⟩ = some (.int .i64 xv) ∧ w'.cell? (ae.add (i * 4)) = some (.string yp) ∧ w'.cell? ⟨(ae.add (i * 4)).block, (ae.add (i * 4)).off + 1, none⟩ = some (.string yn) ∧ w'.cell? ⟨(ae.add (i * 4)).block, (ae.add (i * 4)).off + 2, none⟩ = some (.string ys) ∧ w'.cell? ⟨(ae.add (i * 4)).block, (ae.add (i * 4)).off + 3, none⟩ = some (.int .i64 yv)) (ds := []) #[false, false, false, false, false, false, false, false, false] (by kernel_rfl) rfl rfl ⟨hx0, hx1, hx2, hx3, hy0, hy1, hy2, hy3⟩ (fun hHeld => ?_)
    have B4 := Aside0.mk (below_drew1 HB.out)
    generalize World.drew _ = w4 at B4 hHeld ⊢
    refine pure_ (i := 0) (N := some 17) (v := ?_) (a' := ?_) #[true, false, false, false, false, false, false, false, false] rfl rfl (by kernel_rfl) (fun _ _ _ h => h) (Or.inl ⟨by rfl, ?_⟩) ?_ ?_
    rotate_left
    · intro w'
      go_simp
      with_reducible rfl
    rotate_left
    · simp only [Act.put, List.setIfInBounds_toArray, List.set_cons_zero, List.set_cons_succ, i64_w, i32_w]
      rfl
    refine pure_ (i := 1) (N := some 18) (v := ?_) (a' := ?_) #[true, true, false, false, false, false, false, false, false] rfl rfl (by kernel_rfl) (fun _ _ _ h => h) (Or.inl ⟨by rfl, ?_⟩) ?_ ?_
    rotate_left
    · intro w'
      go_simp
      with_reducible rfl
    rotate_left
    · simp only [Act.put, List.setIfInBounds_toArray, List.set_cons_zero, List.set_cons_succ, i64_w, i32_w]
      rfl
    refine pure_ (i := 2) (N := some 19) (v := ?_) (a' := ?_) #[true, true, true, false, false, false, false, false, false] rfl rfl (by kernel_rfl) (fun _ _ _ h => h) (Or.inl ⟨by rfl, ?_⟩) ?_ ?_
    rotate_left
    · intro w'
      go_simp
      with_reducible rfl
    rotate_left
    · simp only [Act.put, List.setIfInBounds_toArray, List.set_cons_zero, List.set_cons_succ, i64_w, i32_w]
      rfl
    refine take_ (i := 3) (N := some 20) (v := ?_) (a' := ?_) #[true, true, true, true, false, false, false, false, false] rfl rfl (by kernel_rfl) (fun _ _ _ h => h) (Or.inl ⟨by rfl, ?_⟩) hHeld ?_ ?_
    rotate_left
    · rintro w' ⟨s0, s1, s2, s3, s4, s5, s6, s7⟩
      go_simp
      with_reducible rfl
    rotate_left
    · simp only [Act.put, List.setIfInBounds_toArray, List.set_cons_zero, List.set_cons_succ, i64_w, i32_w]
      rfl
    refine pure_ (i := 4) (N := some 21) (v := ?_) (a' := ?_) #[true, true, true, true, true, false, false, false, false] rfl rfl (by kernel_rfl) (fun _ _ _ h => h) (Or.inl ⟨by rfl, ?_⟩) ?_ ?_
    rotate_left
    · intro w'
      go_simp
      with_reducible rfl
    rotate_left
    · simp only [Act.put, List.setIfInBounds_toArray, List.set_cons_zero, List.set_cons_succ, i64_w, i32_w]
      rfl
    refine pure_ (i := 5) (N := some 22) (v := ?_) (a' := ?_) #[true, true, true, true, true, true, false, false, false] rfl rfl (by kernel_rfl) (fun _ _ _ h => h) (Or.inl ⟨by rfl, ?_⟩) ?_ ?_
    rotate_left
    · intro w'
      go_simp
      with_reducible rfl
    rotate_left
    · simp only [Act.put, List.setIfInBounds_toArray, List.set_cons_zero, List.set_cons_succ, i64_w, i32_w]
      rfl
    refine pure_ (i := 6) (N := some 23) (v := ?_) (a' := ?_) #[true, true, true, true, true, true, true, false, false] rfl rfl (by kernel_rfl) (fun _ _ _ h => h) (Or.inl ⟨by rfl, ?_⟩) ?_ ?_
    rotate_left
    · intro w'
      go_simp
      with_reducible rfl
    rotate_left
    · simp only [Act.put, List.setIfInBounds_toArray, List.set_cons_zero, List.set_cons_succ, i64_w, i32_w]
      rfl
    refine take_ (i := 7) (N := some 24) (v := ?_) (a' := ?_) #[true, true, true, true, true, true, true, true, false] rfl rfl (by kernel_rfl) (fun _ _ _ h => h) (Or.inl ⟨by rfl, ?_⟩) hHeld ?_ ?_
    rotate_left
    · rintro w' ⟨s0, s1, s2, s3, s4, s5, s6, s7⟩
      go_simp
      with_reducible rfl
    rotate_left
    · simp only [Act.put, List.setIfInBounds_toArray, List.set_cons_zero, List.set_cons_succ, i64_w, i32_w]
      rfl
    refine pure_ (i := 8) (N := some 25) (v := ?_) (a' := ?_) #[true, true, true, true, true, true, true, true, true] rfl rfl (by kernel_rfl) (fun _ _ _ h => h) (Or.inl ⟨by rfl, ?_⟩) ?_ ?_
    rotate_left
    · intro w'
      go_simp
      with_reducible rfl
    rotate_left
    · simp only [Act.put, List.setIfInBounds_toArray, List.set_cons_zero, List.set_cons_succ, i64_w, i32_w]
      rfl
    refine done_ (by kernel_rfl) ?_
    rw [HQ.out]
    clear hx0 hx1 hx2 hx3 hy0 hy1 hy2 hy3 hHeld
    cases q with
    | true =>
      go_wp2
      go_roundg g0
      case measure => omega
      case rel => exact ⟨i + 1, congrArg (Value.int .i64) (by rw [w64 i (by have := HLT.out; have := HLL.out; omega)]), ⟨by have := HI.out; omega⟩, ⟨by rw [← HS.out, HST.out, Bool.true_and]⟩, B4⟩
    | false =>
      go_wp2
      go_ret
      exact ⟨by rw [← HS.out, HST.out, Bool.false_and] <;> rfl, B4.out⟩
end Go.Proofs.YtphddbijdfmpjaaGreatDoor.Q
namespace Go.Proofs.YtphddbijdfmpjaaGreatDoor.Wr
open Go.RowKit Go.MapRaw Go.Proofs.YtphddbijdfmpjaaGreatDoorW.PrintWords Go.Proofs.YtphddbijdfmpjaaGreatDoorW.PrintLast Go.Proofs.YtphddbijdfmpjaaGreatDoor.Q Go.Proofs.YtphddbijdfmpjaaGreatDoor.Pl
set_option linter.unusedVariables false
set_option linter.unusedSimpArgs false
theorem getA_mem {k : Key} : ∀ {M : Tab}, (getA k M).isSome = true ↔ k ∈ M.map (fun x => x.1)
  | [] => by simp [getA]
  | p :: r => by
    unfold getA
    by_cases e : p.1 = k
    · rw [if_pos e]; simp [e]
    · rw [if_neg e, getA_mem, List.map_cons, List.mem_cons]
      exact ⟨.inr, fun h => h.elim (fun h => absurd h.symm e) id⟩
end Go.Proofs.YtphddbijdfmpjaaGreatDoor.Wr
namespace Go.Proofs.YtphddbijdfmpjaaGreatDoor.Q
open Go.RowKit Go.MapRaw Go.Proofs.YtphddbijdfmpjaaGreatDoorW.PrintWords Go.Proofs.YtphddbijdfmpjaaGreatDoorW.PrintLast Go.Proofs.YtphddbijdfmpjaaGreatDoor.Wr Go.Proofs.YtphddbijdfmpjaaGreatDoor.Pl
set_option linter.unusedVariables false
set_option linter.unusedSimpArgs false
def keyB (b : Bnd) : Key := (b.path, b.name)
def cntB (q : ByteArray) : List Bnd → Nat
  | [] => 0
  | b :: r => (if b.path = q then 1 else 0) + cntB q r
theorem cntB_app (q : ByteArray) : ∀ x y : List Bnd, cntB q (x ++ y) = cntB q x + cntB q y
  | [], y => by simp [cntB]
  | b :: r, y => by simp only [List.cons_append, cntB, cntB_app q r y]; omega
theorem cntB_perm (q : ByteArray) {x y : List Bnd} (h : x.Perm y) : cntB q x = cntB q y := by
  induction h with
  | nil => rfl
  | cons a _ ih => simp only [cntB, ih]
  | swap a b l => simp only [cntB]; omega
  | trans _ _ ih1 ih2 => exact ih1.trans ih2
theorem cntB_tab (q : ByteArray) : ∀ M : Tab, (∀ x ∈ M, x.1 = keyB x.2) → cntB q (M.map fun p => p.2) = cnt q M
  | [], _ => rfl
  | x :: r, h => by
    have hx := h x (by simp)
    simp only [List.map_cons, cntB, cnt, cntB_tab q r (fun y hy => h y (by simp [hy]))]
    rw [hx]; rfl
structure Fit (m : List Bnd) : Prop where
  formed : ∀ b ∈ m, formedB b = true
  apart : (m.map keyB).Nodup
  few : ∀ q, cntB q m ≤ 16
theorem Fit.perm {m n : List Bnd} (h : Fit m) (hp : m.Perm n) : Fit n :=
  ⟨fun b hb => h.formed b (hp.mem_iff.2 hb), (hp.map keyB).nodup_iff.1 h.apart, fun q => by rw [← cntB_perm q hp]; exact h.few q⟩
def tag (b : Bnd) : Key × Bnd := (keyB b, b)
theorem put_new {k : Key} {v : Bnd} : ∀ {M : Tab}, k ∉ M.map (fun x => x.1) → putA k v M = M ++ [(k, v)]
  | [], _ => rfl
  | p :: r, h => by
    simp only [List.map_cons, List.mem_cons, not_or] at h
    unfold putA
    rw [if_neg (fun e => h.1 e.symm), put_new h.2]
    rfl
theorem getA_out {k : Key} {M : Tab} : (getA k M).isSome = true ↔ k ∈ M.map (fun x => x.1) := getA_mem
theorem path_inj {a b : ByteArray} (ha : pathS a = 0) (hb : pathS b = 0) (h : (splitS a).1 = (splitS b).1) : a = b := by
  rcases path_cases a with ⟨na, h1, e1⟩ | ⟨_, e1⟩
  · rcases path_cases b with ⟨nb, h2, e2⟩ | ⟨_, e2⟩
    · rw [e1, e2] at h
      have h' : na.map toB = nb.map toB := h
      have hn : na = nb := by
        rw [← map_list na, ← map_list nb, h']
      rw [s_of h1, s_of h2, hn]
    · unfold pathS at hb; rw [e2] at hb; cases hb
  · unfold pathS at ha; rw [e1] at ha; cases ha
theorem formed_path {b : Bnd} (h : formedB b = true) : pathS b.path = 0 := by
  unfold formedB at h
  simp only [Bool.and_eq_true, decide_eq_true_eq] at h
  exact h.1.1.1.1
theorem cmpB_key {a b : Bnd} (ha : formedB a = true) (hb : formedB b = true) (h : cmpB a b = 0) : keyB a = keyB b := by
  unfold cmpB at h
  by_cases e : cmpL (splitS a.path).1 (splitS b.path).1 = 0
  · rw [if_neg (by omega)] at h
    have h1 := path_inj (formed_path ha) (formed_path hb) (cmpL_zero e)
    have h2 := cmpS_zero h
    unfold keyB
    rw [h1, h2]
  · rw [if_pos (by omega)] at h; omega
theorem key_inj {m : List Bnd} (h : (m.map keyB).Nodup) {a b : Bnd} (ha : a ∈ m) (hb : b ∈ m) (e : keyB a = keyB b) : a = b := by
  induction m with
  | nil => cases ha
  | cons x r ih =>
    rw [List.map_cons, List.nodup_cons] at h
    rcases List.mem_cons.1 ha with h1 | h1
    · rcases List.mem_cons.1 hb with h2 | h2
      · rw [h1, h2]
      · exact absurd (List.mem_map.2 ⟨b, h2, by rw [← h1]; exact e.symm⟩) h.1
    · rcases List.mem_cons.1 hb with h2 | h2
      · exact absurd (List.mem_map.2 ⟨a, h1, by rw [← h2]; exact e⟩) h.1
      · exact ih h.2 h1 h2
theorem cntB_take_succ (q : ByteArray) {l : List Bnd} {i : Nat} (h : i < l.length) : cntB q (l.take (i + 1)) = cntB q (l.take i) + (if l[i].path = q then 1 else 0) := by
  rw [List.take_succ_eq_append_getElem h, cntB_app]
  simp [cntB]
end Go.Proofs.YtphddbijdfmpjaaGreatDoor.Q
namespace Go.Proofs.YtphddbijdfmpjaaGreatDoor.Q
open Go.RowKit Go.MapRaw Go.Proofs.YtphddbijdfmpjaaGreatDoorW.PrintWords Go.Proofs.YtphddbijdfmpjaaGreatDoorW.PrintLast Go.Proofs.YtphddbijdfmpjaaGreatDoor.Wr Go.Proofs.YtphddbijdfmpjaaGreatDoor.Pl
set_option linter.unusedVariables false
set_option linter.unusedSimpArgs false
def aheadP (a b : ByteArray) : Bool := decide (cmpL (splitS a).1 (splitS b).1 < 0)
def aheadB (b x : Bnd) : Bool := aheadP b.path x.path || (decide (b.path = x.path) && Op.bytesLess b.name.toList x.name.toList)
theorem aheadB_iff {b x : Bnd} (hb : formedB b = true) (hx : formedB x = true) : aheadB b x = true ↔ cmpB b x < 0 := by
  unfold aheadB aheadP cmpB
  simp only [Bool.or_eq_true, Bool.and_eq_true, decide_eq_true_eq]
  by_cases e : cmpL (splitS b.path).1 (splitS x.path).1 = 0
  · rw [if_neg (by omega)]
    have hp : b.path = x.path := path_inj (formed_path hb) (formed_path hx) (cmpL_zero e)
    rw [cmpS_lt]
    constructor
    · rintro (h | h)
      · omega
      · exact h.2
    · intro h; exact .inr ⟨hp, h⟩
  · rw [if_pos (by omega)]
    constructor
    · rintro (h | h)
      · exact h
      · exact absurd (by rw [h.1]; exact ordL.self _) e
    · exact .inl
def insF (b : Bnd) : Bool → List Bnd → List Bnd
  | done, [] => if done then [] else [b]
  | done, x :: r => if (!done && aheadB b x) = true then b :: x :: insF b true r else x :: insF b done r
theorem insF_done (b : Bnd) : ∀ L, insF b true L = L
  | [] => rfl
  | x :: r => by
    show (if (!true && aheadB b x) = true then _ else x :: insF b true r) = _
    rw [if_neg (by simp), insF_done b r]
theorem insF_perm (b : Bnd) : ∀ L, (insF b false L).Perm (b :: L)
  | [] => .refl _
  | x :: r => by
    unfold insF
    split
    · rw [insF_done]
    · exact (List.Perm.cons x (insF_perm b r)).trans (List.Perm.swap b x r)
theorem insF_rising {b : Bnd} (hb : formedB b = true) : ∀ {L : List Bnd}, (∀ x ∈ L, formedB x = true) → Rising L → Rising (insF b false L)
  | [], _, _ => List.pairwise_singleton _ _
  | x :: r, hf, h => by
    have h' := List.pairwise_cons.1 h
    unfold insF
    split
    · rename_i hc
      rw [insF_done]
      have hlt : cmpB b x < 0 := (aheadB_iff hb (hf x (by simp))).1 (by simpa using hc)
      refine List.pairwise_cons.2 ⟨fun y hy => ?_, h⟩
      rcases List.mem_cons.1 hy with rfl | hy
      · omega
      · exact ordB.le b x y (by omega) (h'.1 y hy)
    · rename_i hc
      have hge : cmpB x b ≤ 0 := by
        have := ordB.neg b x
        have : ¬ cmpB b x < 0 := fun e => hc (by simpa using (aheadB_iff hb (hf x (by simp))).2 e)
        omega
      refine List.pairwise_cons.2 ⟨fun y hy => ?_, insF_rising hb (fun z hz => hf z (by simp [hz])) h'.2⟩
      rcases List.mem_cons.1 ((insF_perm b r).mem_iff.1 hy) with rfl | hy
      · exact hge
      · exact h'.1 y hy
structure Same (M : Tab) (L : List Bnd) : Prop where
  perm : L.Perm (M.map fun p => p.2)
  rise : Rising L
  keys : ∀ p ∈ M, p.1 = (p.2.path, p.2.name) ∧ formedB p.2 = true
  nodup : (M.map fun x => x.1).Nodup
theorem Same.kper {M : Tab} {L : List Bnd} (h : Same M L) : (L.map keyB).Perm (M.map fun x => x.1) := by
  have := h.perm.map Q.keyB
  rw [List.map_map] at this
  rw [show M.map (fun x => x.1) = M.map (Q.keyB ∘ fun p => p.2) from List.map_congr_left fun x hx => (h.keys x hx).1]
  exact this
theorem Same.formed {M : Tab} {L : List Bnd} (h : Same M L) : ∀ b ∈ L, formedB b = true := fun b hb => by
  obtain ⟨x, hx, rfl⟩ := List.mem_map.1 (h.perm.mem_iff.1 hb)
  exact (h.keys x hx).2
theorem Same.cnt {M : Tab} {L : List Bnd} (h : Same M L) (q : ByteArray) : cntB q L = Wr.cnt q M := by
  rw [cntB_perm q h.perm, cntB_tab q M (fun x hx => (h.keys x hx).1)]
theorem Same.has {M : Tab} {L : List Bnd} (h : Same M L) (k : Key) : (getA k M).isSome = true ↔ k ∈ L.map Q.keyB := by
  rw [getA_out]
  exact h.kper.mem_iff.symm
theorem Same.list {M : Tab} {L : List Bnd} (h : Same M L) {y : List Bnd} (hp : y.Perm (M.map fun p => p.2)) (hy : Rising y) : y = L := by
  have hpl : y.Perm L := hp.trans h.perm.symm
  have hap : (L.map Q.keyB).Nodup := h.kper.nodup_iff.2 h.nodup
  refine List.Perm.eq_of_pairwise (le := fun a b => cmpB a b ≤ 0) ?_ hy h.rise hpl
  intro a b ha hb h1 h2
  have ha' : a ∈ L := hpl.mem_iff.1 ha
  have := ordB.neg a b
  exact key_inj hap ha' hb (cmpB_key (h.formed a ha') (h.formed b hb) (by omega))
theorem Same.nil : Same [] [] := ⟨.refl _, List.Pairwise.nil, (fun p hp => absurd hp (by simp)), List.Pairwise.nil⟩
def rSetE (L : List Bnd) (b : Bnd) : Int := if formedB b = true then (if 16 ≤ cntB b.path L then 194 else 0) else 130
theorem Same.setE {M : Tab} {L : List Bnd} (h : Same M L) {b : Bnd} (hn : Q.keyB b ∉ L.map Q.keyB) : Wr.setE M b = rSetE L b := by
  unfold Wr.setE rSetE
  rw [h.cnt]
  by_cases hf : formedB b = true
  · rw [if_pos hf, if_pos hf]
    have hg : (getA (b.path, b.name) M).isNone = true := by
      rw [Option.isNone_iff_eq_none, ← Option.not_isSome_iff_eq_none]
      exact fun e => hn ((h.has _).1 e)
    simp [hg]
  · rw [if_neg hf, if_neg hf]
theorem Same.set {M : Tab} {L : List Bnd} (h : Same M L) {b : Bnd} (hn : Q.keyB b ∉ L.map Q.keyB) (h0 : rSetE L b = 0) : Same (setM M b) (insF b false L) := by
  have hf : formedB b = true := by
    unfold rSetE at h0
    by_cases hf : formedB b = true
    · exact hf
    · rw [if_neg hf] at h0; cases h0
  have hk : (b.path, b.name) ∉ M.map (fun x => x.1) := fun e => hn (h.kper.mem_iff.2 e)
  have hm : setM M b = M ++ [((b.path, b.name), b)] := by
    unfold setM
    rw [if_pos (by rw [h.setE hn, h0]), put_new hk]
  rw [hm]
  refine ⟨?_, insF_rising hf h.formed h.rise, ?_, ?_⟩
  · rw [List.map_append]
    refine (insF_perm b L).trans ?_
    refine (List.Perm.cons b h.perm).trans ?_
    simpa using (List.perm_append_singleton b (M.map fun p => p.2)).symm
  · intro p hp
    rcases List.mem_append.1 hp with hp | hp
    · exact h.keys p hp
    · simp only [List.mem_singleton] at hp; subst hp; exact ⟨rfl, hf⟩
  · rw [List.map_append, List.nodup_append]
    refine ⟨h.nodup, by simp, ?_⟩
    intro x hx y hy
    simp only [List.map_cons, List.map_nil, List.mem_singleton] at hy
    subst hy
    exact fun e => hk (e ▸ hx)
def idxB (q n : ByteArray) : Nat → List Bnd → Int
  | _, [] => -1
  | i, b :: r => if b.path = q ∧ b.name = n then (i : Int) else idxB q n (i + 1) r
theorem idxB_iff (q n : ByteArray) : ∀ (L : List Bnd) (i : Nat), 0 ≤ idxB q n i L ↔ (q, n) ∈ L.map keyB
  | [], i => by simp [idxB]
  | b :: r, i => by
    unfold idxB
    rw [List.map_cons, List.mem_cons]
    by_cases h : b.path = q ∧ b.name = n
    · rw [if_pos h]
      exact ⟨fun _ => .inl (by unfold keyB; rw [h.1, h.2]), fun _ => by omega⟩
    · rw [if_neg h, idxB_iff q n r]
      refine ⟨.inr, fun e => e.elim (fun e => absurd ?_ h) id⟩
      unfold keyB at e
      injection e with e1 e2
      exact ⟨e1.symm, e2.symm⟩
theorem cntB_len (q : ByteArray) : ∀ L, cntB q L ≤ L.length
  | [] => Nat.le_refl _
  | b :: r => by have := cntB_len q r; unfold cntB; simp only [List.length_cons]; split <;> omega
theorem insF_len (b : Bnd) (L : List Bnd) : (insF b false L).length = L.length + 1 := by rw [(insF_perm b L).length_eq]; rfl
end Go.Proofs.YtphddbijdfmpjaaGreatDoor.Q
namespace Go.Proofs.YtphddbijdfmpjaaGreatDoor.Q
open Go.RowKit Go.Proofs.YtphddbijdfmpjaaGreatDoorW.PrintWords Go.Proofs.YtphddbijdfmpjaaGreatDoorW.PrintLast Go.Proofs.YtphddbijdfmpjaaGreatDoorW.PrintMore
attribute [local go_sem] max2_int min2_int max_two min_two max_three min_three max_four min_four   -- for this text's walks alone
set_option linter.unusedVariables false
set_option linter.unusedSimpArgs false
mutual
def bursarref04_Name.j0 : Nat → ByteArray → Bool → Option (Bool)
  | 0, _, _ => none
  | k + 1, x0, x25 => if x25 = true then (some false) else (bursarref04_Name.l0 k x0 0)
def bursarref04_Name.l0 : Nat → ByteArray → Int → Option (Bool)
  | 0, _, _ => none
  | k + 1, x0, x3 => if x3 < (x0.size : Int) then (if 0 ≤ x3 then (if (bt x0 x3) ≥ 97 then (if ((bt x0 x3) ≤ 122) then (bursarref04_Name.l0 k x0 (wrap64 (x3 + 1))) else (if (bt x0 x3) ≥ 48 then (if ((bt x0 x3) ≤ 57) then (bursarref04_Name.l0 k x0 (wrap64 (x3 + 1))) else (if (bt x0 x3) = 45 then (bursarref04_Name.l0 k x0 (wrap64 (x3 + 1))) else (some false))) else (if (bt x0 x3) = 45 then (bursarref04_Name.l0 k x0 (wrap64 (x3 + 1))) else (some false)))) else (if (bt x0 x3) ≥ 48 then (if ((bt x0 x3) ≤ 57) then (bursarref04_Name.l0 k x0 (wrap64 (x3 + 1))) else (if (bt x0 x3) = 45 then (bursarref04_Name.l0 k x0 (wrap64 (x3 + 1))) else (some false))) else (if (bt x0 x3) = 45 then (bursarref04_Name.l0 k x0 (wrap64 (x3 + 1))) else (some false)))) else (none)) else (some true)
end
def bursarref04_Name.f (k : Nat) (a0 : ByteArray) : Option (Bool) := if (a0.size : Int) < 1 then (bursarref04_Name.j0 k a0 true) else (if (a0.size : Int) > 32 then (bursarref04_Name.j0 k a0 true) else (if 0 < (a0.size : Int) then (if (bt a0 0) = 45 then (bursarref04_Name.j0 k a0 true) else (if 0 ≤ (wrap64 ((a0.size : Int) - 1)) then (if (wrap64 ((a0.size : Int) - 1)) < (a0.size : Int) then (bursarref04_Name.j0 k a0 ((bt a0 (wrap64 ((a0.size : Int) - 1))) == 45)) else (none)) else (none))) else (none)))
theorem bursarref04_Name.mono_l : ∀ k, (∀ y0 y1, LeO (bursarref04_Name.j0 k y0 y1) (bursarref04_Name.j0 (k + 1) y0 y1)) ∧ (∀ y0 y1, LeO (bursarref04_Name.l0 k y0 y1) (bursarref04_Name.l0 (k + 1) y0 y1))
  | 0 => ⟨fun _ _ r h => by simp [bursarref04_Name.j0] at h, fun _ _ r h => by simp [bursarref04_Name.l0] at h⟩
  | k + 1 => by
    obtain ⟨ih0, ih1⟩ := bursarref04_Name.mono_l k
    refine ⟨?_, ?_⟩
    · intro y0 y1
      unfold bursarref04_Name.j0
      repeat' first
      | (with_reducible exact ih0 _ _)
      | (with_reducible exact ih1 _ _)
      | (with_reducible exact LeO.refl _)
      | (with_reducible exact LeO.none _)
      | (with_reducible refine LeO.ite ?_ ?_)
      | (with_reducible refine LeO.bind ?_ (fun _ => ?_))
      | exact ih0 _ _
      | exact ih1 _ _
      | exact LeO.none _
      | refine LeO.ite ?_ ?_
      | refine LeO.bind ?_ (fun _ => ?_)
    · intro y0 y1
      unfold bursarref04_Name.l0
      repeat' first
      | (with_reducible exact ih0 _ _)
      | (with_reducible exact ih1 _ _)
      | (with_reducible exact LeO.refl _)
      | (with_reducible exact LeO.none _)
      | (with_reducible refine LeO.ite ?_ ?_)
      | (with_reducible refine LeO.bind ?_ (fun _ => ?_))
      | exact ih0 _ _
      | exact ih1 _ _
      | exact LeO.none _
      | refine LeO.ite ?_ ?_
      | refine LeO.bind ?_ (fun _ => ?_)
theorem bursarref04_Name.mono : ∀ a0 k, LeO (bursarref04_Name.f k a0) (bursarref04_Name.f (k + 1) a0) := by
  intro a0 k
  obtain ⟨ih0, ih1⟩ := bursarref04_Name.mono_l k
  unfold bursarref04_Name.f
  repeat' first
      | (with_reducible exact ih0 _ _)
      | (with_reducible exact ih1 _ _)
      | (with_reducible exact LeO.refl _)
      | (with_reducible exact LeO.none _)
      | (with_reducible refine LeO.ite ?_ ?_)
      | (with_reducible refine LeO.bind ?_ (fun _ => ?_))
      | exact ih0 _ _
      | exact ih1 _ _
      | exact LeO.none _
      | refine LeO.ite ?_ ?_
      | refine LeO.bind ?_ (fun _ => ?_)
set_option maxHeartbeats 8000000 in
set_option maxRecDepth 100000 in
theorem bursarref04_Name.calls (k : Nat) (a0 : ByteArray) (r : Bool) (w : World) (h : bursarref04_Name.f k a0 = some r) :
    Calls Tryz.prog 76 #[.string a0] w fun e w' => e = .returned (.bool r) ∧ Drawn0 w w' := by
  have H : (if (a0.size : Int) < 1 then (bursarref04_Name.j0 k a0 true) else (if (a0.size : Int) > 32 then (bursarref04_Name.j0 k a0 true) else (if 0 < (a0.size : Int) then (if (bt a0 0) = 45 then (bursarref04_Name.j0 k a0 true) else (if 0 ≤ (wrap64 ((a0.size : Int) - 1)) then (if (wrap64 ((a0.size : Int) - 1)) < (a0.size : Int) then (bursarref04_Name.j0 k a0 ((bt a0 (wrap64 ((a0.size : Int) - 1))) == 45)) else (none)) else (none))) else (none)))) = some r := h
  clear h
  have HC2 := Aside0.mk H
  clear H
  go_enter Tryz.func76, Tryz.ntmps76
  go_upto_region 1 with (fail)
  go_cut [25] (fun v25 wc => ∃ (kq : Nat) (x25_1 : Bool), v25 = .bool x25_1 ∧ Aside0 (bursarref04_Name.j0 kq a0 x25_1 = some r) ∧ Aside0 (kq ≤ k) ∧ Drawn0 w wc)
  case first =>
    have H := HC2.out
    clear HC2
    by_cases c3 : (a0.size : Int) < 1
    · rw [if_pos c3] at H
      have c3b0 : decide ((a0.size : Int) < 1) = true := decide_eq_true c3
      have c3b1 : decide (a0.size < 1) = true := decide_eq_true (by omega)
      clear c3
      (first | rw [c3b0] | (simp only [i64_w, i32_w]; rw [c3b0]) | skip)
      have H' := Aside0.mk H
      clear H
      go_wp2
      go_meet
      case rel => exact ⟨_, (true), (by first | rfl | (simp; done) | (simp [*]; done) | (simp; rw [Bool.eq_iff_iff]; simp; done) | (rw [Bool.eq_iff_iff]; simp; done)), H', ⟨by first | omega | exact Nat.le_refl _⟩, by repeat (first | exact Drawn0.refl _ | apply Drawn0.step)⟩
    · rw [if_neg c3] at H
      have c3b0 : decide ((a0.size : Int) < 1) = false := decide_eq_false c3
      have c3b1 : decide (a0.size < 1) = false := decide_eq_false (by omega)
      clear c3
      (first | rw [c3b0] | (simp only [i64_w, i32_w]; rw [c3b0]) | skip)
      by_cases c4 : (a0.size : Int) > 32
      · rw [if_pos c4] at H
        have c4b0 : decide (32 < (a0.size : Int)) = true := decide_eq_true c4
        have c4b1 : decide (32 < a0.size) = true := decide_eq_true (by omega)
        clear c4
        have H' := Aside0.mk H
        clear H
        go_wp2
        go_meet
        case rel => exact ⟨_, (true), (by first | rfl | (simp; done) | (simp [*]; done) | (simp; rw [Bool.eq_iff_iff]; simp; done) | (rw [Bool.eq_iff_iff]; simp; done)), H', ⟨by first | omega | exact Nat.le_refl _⟩, by repeat (first | exact Drawn0.refl _ | apply Drawn0.step)⟩
      · rw [if_neg c4] at H
        have c4b0 : decide (32 < (a0.size : Int)) = false := decide_eq_false c4
        have c4b1 : decide (32 < a0.size) = false := decide_eq_false (by omega)
        clear c4
        by_cases c5 : 0 < (a0.size : Int)
        · rw [if_pos c5] at H
          have c5b0 : decide (0 < (a0.size : Int)) = true := decide_eq_true c5
          have c5b1 : decide (0 < a0.size) = true := decide_eq_true (by omega)
          clear c5
          by_cases c7 : (bt a0 0) = 45
          · rw [if_pos c7] at H
            have c7b0 : ((bt a0 0) == 45) = true := beq_iff_eq.mpr c7
            have c7b1 : ((bt a0 0) != 45) = false := bne_eq_false_iff_eq.mpr c7
            clear c7
            have H' := Aside0.mk H
            clear H
            have p6 : 0 ≤ (0 : Int) := (by omega)
            have q6 : 0 < a0.size := (by have : (0 : Int) < (a0.size : Int) := of_decide_eq_true (by first | (with_reducible assumption) | assumption); omega)
            have hx6 : ∀ h : 0 < a0.size, ((a0[0]'h).toNat : Int) = bt a0 0 := bt_at a0 0
            clear p6
            have qi6 : (0 < (a0.size : Int)) = True := eq_true (of_decide_eq_true (by first | (with_reducible assumption) | assumption))
            replace q6 := eq_true q6
            go_wp2
            go_meet
            case rel => exact ⟨_, (true), (by first | rfl | (simp; done) | (simp [*]; done) | (simp; rw [Bool.eq_iff_iff]; simp; done) | (rw [Bool.eq_iff_iff]; simp; done)), H', ⟨by first | omega | exact Nat.le_refl _⟩, by repeat (first | exact Drawn0.refl _ | apply Drawn0.step)⟩
          · rw [if_neg c7] at H
            have c7b0 : ((bt a0 0) == 45) = false := beq_eq_false_iff_ne.mpr c7
            have c7b1 : ((bt a0 0) != 45) = true := bne_iff_ne.mpr c7
            obtain ⟨ji8, hji8⟩ : ∃ j_ : Int, (wrap64 ((a0.size : Int) - 1)) = j_ := ⟨_, rfl⟩
            replace H : (if 0 ≤ (ji8) then (if (ji8) < (a0.size : Int) then (bursarref04_Name.j0 k a0 ((bt a0 (ji8)) == 45)) else (none)) else (none)) = some r := by first | (rw [hji8] at H; exact H) | (simp only [hji8] at H ⊢; exact H)
            have hji8w : (IntKind.i64.wrap ((a0.size : Int) - 1)) = ji8 := (i64_w _).trans hji8
            by_cases c9 : 0 ≤ (ji8)
            · rw [if_pos c9] at H
              have c9b0 : decide (0 ≤ (ji8)) = true := decide_eq_true c9
              clear c9
              by_cases c10 : (ji8) < (a0.size : Int)
              · rw [if_pos c10] at H
                have c10b0 : decide ((ji8) < (a0.size : Int)) = true := decide_eq_true c10
                clear c10
                have H' := Aside0.mk H
                clear H
                have p6 : 0 ≤ (0 : Int) := (by omega)
                have q6 : 0 < a0.size := (by have : (0 : Int) < (a0.size : Int) := of_decide_eq_true (by first | (with_reducible assumption) | assumption); omega)
                have hx6 : ∀ h : 0 < a0.size, ((a0[0]'h).toNat : Int) = bt a0 0 := bt_at a0 0
                clear p6
                have qi6 : (0 < (a0.size : Int)) = True := eq_true (of_decide_eq_true (by first | (with_reducible assumption) | assumption))
                replace q6 := eq_true q6
                have p11 : 0 ≤ ((ji8) : Int) := of_decide_eq_true (by first | (with_reducible assumption) | assumption)
                have q11 : (ji8) < (a0.size : Int) := of_decide_eq_true (by first | (with_reducible assumption) | assumption)
                have hx11 := bt_at a0 (ji8)
                replace p11 := eq_true p11
                replace q11 := eq_true q11
                go_wp2
                go_meet
                case rel => exact ⟨_, (((bt a0 (ji8)) == 45)), (by first | rfl | (simp; done) | (simp only [← hji8] <;> (first | rfl | simp)) | (simp [*]; done)), H', ⟨by first | omega | exact Nat.le_refl _⟩, by repeat (first | exact Drawn0.refl _ | apply Drawn0.step)⟩
              · rw [if_neg c10] at H
                exact absurd H (by simp)
            · rw [if_neg c9] at H
              exact absurd H (by simp)
        · rw [if_neg c5] at H
          exact absurd H (by simp)
  case rest =>
    clear HC2
    try clear c1
    try clear p1
    try clear q1
    try clear hx1
    try clear p2
    try clear c3
    try clear c3b0
    try clear c3b1
    try clear c4
    try clear c4b0
    try clear c4b1
    try clear c5
    try clear c5b0
    try clear c5b1
    try clear p6
    try clear q6
    try clear hx6
    try clear qi6
    try clear c7
    try clear c7b0
    try clear c7b1
    try clear c9
    try clear c9b0
    try clear c10
    try clear c10b0
    try clear p11
    try clear q11
    try clear hx11
    try clear p11
    try clear p6
    try clear q11
    try clear q6
    obtain ⟨kq, x25_1, rfl, HA, HJ1, ⟨mc1, rfl⟩⟩ := hcut
    cases kq with
    | zero => exact absurd HA.out (by simp [bursarref04_Name.j0])
    | succ kj1 =>
      have H := HA.out
      clear HA
      simp only [bursarref04_Name.j0] at H
      by_cases c12 : x25_1 = true
      · subst c12
        have H1 : (some false) = some r := by rw [if_pos rfl] at H; exact H
        clear H
        have H := H1
        clear H1
        obtain rfl := Option.some.inj H
        go_wp2
        go_ret
        exact ⟨by first | rfl | (simp; done) | (simp [*]; done), by repeat (first | exact Drawn0.refl _ | apply Drawn0.step)⟩
      · replace c12 := Bool.eq_false_iff.mpr c12
        subst c12
        have H1 : (bursarref04_Name.l0 kj1 a0 0) = some r := by rw [if_neg (show ¬ (false = true) by decide)] at H; exact H
        clear H
        have H := H1
        clear H1
        have H' := Aside0.mk H
        clear H
        go_wp2
        go_loopg [3] kj1 (fun kq v3 w' => ∃ (x3_2 : Int), v3 = .int .i64 x3_2 ∧ Aside0 (bursarref04_Name.l0 kq a0 x3_2 = some r) ∧ Aside0 (kq ≤ kj1) ∧ Drawn0 w w')
        case atStart => exact ⟨(0), (by first | rfl | (simp; done) | (simp [*]; done) | (simp; rw [Bool.eq_iff_iff]; simp; done) | (rw [Bool.eq_iff_iff]; simp; done)), H', ⟨Nat.le_refl _⟩, by repeat (first | exact Drawn0.refl _ | apply Drawn0.step)⟩
        case round =>
          clear H'
          try clear c1
          try clear p1
          try clear q1
          try clear hx1
          try clear p2
          try clear c3
          try clear c3b0
          try clear c3b1
          try clear c4
          try clear c4b0
          try clear c4b1
          try clear c5
          try clear c5b0
          try clear c5b1
          try clear p6
          try clear q6
          try clear hx6
          try clear qi6
          try clear c7
          try clear c7b0
          try clear c7b1
          try clear c9
          try clear c9b0
          try clear c10
          try clear c10b0
          try clear p11
          try clear q11
          try clear hx11
          try clear c12
          try clear p1
          try clear p11
          try clear p2
          try clear p6
          try clear q1
          try clear q11
          try clear q6
          obtain ⟨x3_2, rfl, HA, HK2, ⟨m2, rfl⟩⟩ := hrel
          cases gk with
          | zero => exact absurd HA.out (by simp [bursarref04_Name.l0])
          | succ k2 =>
            have H := HA.out
            clear HA
            simp only [bursarref04_Name.l0] at H
            by_cases c13 : x3_2 < (a0.size : Int)
            · rw [if_pos c13] at H
              have c13b0 : decide (x3_2 < (a0.size : Int)) = true := decide_eq_true c13
              clear c13
              by_cases c14 : 0 ≤ x3_2
              · rw [if_pos c14] at H
                have c14b0 : decide (0 ≤ x3_2) = true := decide_eq_true c14
                clear c14
                by_cases c16 : (bt a0 x3_2) ≥ 97
                · rw [if_pos c16] at H
                  have c16b0 : decide (97 ≤ (bt a0 x3_2)) = true := decide_eq_true c16
                  clear c16
                  by_cases c17 : ((bt a0 x3_2) ≤ 122)
                  · rw [if_pos c17] at H
                    have c17b0 : decide ((bt a0 x3_2) ≤ 122) = true := decide_eq_true c17
                    clear c17
                    have H' := Aside0.mk H
                    clear H
                    have p15 : 0 ≤ (x3_2 : Int) := of_decide_eq_true (by first | (with_reducible assumption) | assumption)
                    have q15 : x3_2 < (a0.size : Int) := of_decide_eq_true (by first | (with_reducible assumption) | assumption)
                    have hx15 := bt_at a0 x3_2
                    replace p15 := eq_true p15
                    replace q15 := eq_true q15
                    go_wp2
                    go_roundg k2
                    case measure => have := HJ1.out; have := HK2.out; omega
                    case rel => exact ⟨(wrap64 (x3_2 + 1)), (by first | rfl | (simp; done) | (simp [*]; done) | (simp; rw [Bool.eq_iff_iff]; simp; done) | (rw [Bool.eq_iff_iff]; simp; done)), H', ⟨by have := HJ1.out; have := HK2.out; omega⟩, by repeat (first | exact Drawn0.refl _ | apply Drawn0.step)⟩
                  · rw [if_neg c17] at H
                    have c17b0 : decide ((bt a0 x3_2) ≤ 122) = false := decide_eq_false c17
                    clear c17
                    by_cases c18 : (bt a0 x3_2) ≥ 48
                    · rw [if_pos c18] at H
                      have c18b0 : decide (48 ≤ (bt a0 x3_2)) = true := decide_eq_true c18
                      clear c18
                      by_cases c19 : ((bt a0 x3_2) ≤ 57)
                      · rw [if_pos c19] at H
                        have c19b0 : decide ((bt a0 x3_2) ≤ 57) = true := decide_eq_true c19
                        clear c19
                        have H' := Aside0.mk H
                        clear H
                        have p15 : 0 ≤ (x3_2 : Int) := of_decide_eq_true (by first | (with_reducible assumption) | assumption)
                        have q15 : x3_2 < (a0.size : Int) := of_decide_eq_true (by first | (with_reducible assumption) | assumption)
                        have hx15 := bt_at a0 x3_2
                        replace p15 := eq_true p15
                        replace q15 := eq_true q15
                        go_wp2
                        go_roundg k2
                        case measure => have := HJ1.out; have := HK2.out; omega
                        case rel => exact ⟨(wrap64 (x3_2 + 1)), (by first | rfl | (simp; done) | (simp [*]; done) | (simp; rw [Bool.eq_iff_iff]; simp; done) | (rw [Bool.eq_iff_iff]; simp; done)), H', ⟨by have := HJ1.out; have := HK2.out; omega⟩, by repeat (first | exact Drawn0.refl _ | apply Drawn0.step)⟩
                      · rw [if_neg c19] at H
                        have c19b0 : decide ((bt a0 x3_2) ≤ 57) = false := decide_eq_false c19
                        clear c19
                        by_cases c20 : (bt a0 x3_2) = 45
                        · rw [if_pos c20] at H
                          have c20b0 : ((bt a0 x3_2) == 45) = true := beq_iff_eq.mpr c20
                          have c20b1 : ((bt a0 x3_2) != 45) = false := bne_eq_false_iff_eq.mpr c20
                          clear c20
                          have H' := Aside0.mk H
                          clear H
                          have p15 : 0 ≤ (x3_2 : Int) := of_decide_eq_true (by first | (with_reducible assumption) | assumption)
                          have q15 : x3_2 < (a0.size : Int) := of_decide_eq_true (by first | (with_reducible assumption) | assumption)
                          have hx15 := bt_at a0 x3_2
                          replace p15 := eq_true p15
                          replace q15 := eq_true q15
                          go_wp2
                          go_roundg k2
                          case measure => have := HJ1.out; have := HK2.out; omega
                          case rel => exact ⟨(wrap64 (x3_2 + 1)), (by first | rfl | (simp; done) | (simp [*]; done) | (simp; rw [Bool.eq_iff_iff]; simp; done) | (rw [Bool.eq_iff_iff]; simp; done)), H', ⟨by have := HJ1.out; have := HK2.out; omega⟩, by repeat (first | exact Drawn0.refl _ | apply Drawn0.step)⟩
                        · rw [if_neg c20] at H
                          have c20b0 : ((bt a0 x3_2) == 45) = false := beq_eq_false_iff_ne.mpr c20
                          have c20b1 : ((bt a0 x3_2) != 45) = true := bne_iff_ne.mpr c20
                          obtain rfl := Option.some.inj H
                          have p15 : 0 ≤ (x3_2 : Int) := of_decide_eq_true (by first | (with_reducible assumption) | assumption)
                          have q15 : x3_2 < (a0.size : Int) := of_decide_eq_true (by first | (with_reducible assumption) | assumption)
                          have hx15 := bt_at a0 x3_2
                          replace p15 := eq_true p15
                          replace q15 := eq_true q15
                          go_wp2
                          go_ret
                          exact ⟨by first | rfl | (simp; done) | (simp [*]; done), by repeat (first | exact Drawn0.refl _ | apply Drawn0.step)⟩
                    · rw [if_neg c18] at H
                      have c18b0 : decide (48 ≤ (bt a0 x3_2)) = false := decide_eq_false c18
                      clear c18
                      by_cases c21 : (bt a0 x3_2) = 45
                      · rw [if_pos c21] at H
                        have c21b0 : ((bt a0 x3_2) == 45) = true := beq_iff_eq.mpr c21
                        have c21b1 : ((bt a0 x3_2) != 45) = false := bne_eq_false_iff_eq.mpr c21
                        clear c21
                        have H' := Aside0.mk H
                        clear H
                        have p15 : 0 ≤ (x3_2 : Int) := of_decide_eq_true (by first | (with_reducible assumption) | assumption)
                        have q15 : x3_2 < (a0.size : Int) := of_decide_eq_true (by first | (with_reducible assumption) | assumption)
                        have hx15 := bt_at a0 x3_2
                        replace p15 := eq_true p15
                        replace q15 := eq_true q15
                        go_wp2
                        go_roundg k2
                        case measure => have := HJ1.out; have := HK2.out; omega
                        case rel => exact ⟨(wrap64 (x3_2 + 1)), (by first | rfl | (simp; done) | (simp [*]; done) | (simp; rw [Bool.eq_iff_iff]; simp; done) | (rw [Bool.eq_iff_iff]; simp; done)), H', ⟨by have := HJ1.out; have := HK2.out; omega⟩, by repeat (first | exact Drawn0.refl _ | apply Drawn0.step)⟩
                      · rw [if_neg c21] at H
                        have c21b0 : ((bt a0 x3_2) == 45) = false := beq_eq_false_iff_ne.mpr c21
                        have c21b1 : ((bt a0 x3_2) != 45) = true := bne_iff_ne.mpr c21
                        obtain rfl := Option.some.inj H
                        have p15 : 0 ≤ (x3_2 : Int) := of_decide_eq_true (by first | (with_reducible assumption) | assumption)
                        have q15 : x3_2 < (a0.size : Int) := of_decide_eq_true (by first | (with_reducible assumption) | assumption)
                        have hx15 := bt_at a0 x3_2
                        replace p15 := eq_true p15
                        replace q15 := eq_true q15
                        go_wp2
                        go_ret
                        exact ⟨by first | rfl | (simp; done) | (simp [*]; done), by repeat (first | exact Drawn0.refl _ | apply Drawn0.step)⟩
                · rw [if_neg c16] at H
                  have c16b0 : decide (97 ≤ (bt a0 x3_2)) = false := decide_eq_false c16
                  clear c16
                  by_cases c22 : (bt a0 x3_2) ≥ 48
                  · rw [if_pos c22] at H
                    have c22b0 : decide (48 ≤ (bt a0 x3_2)) = true := decide_eq_true c22
                    clear c22
                    by_cases c23 : ((bt a0 x3_2) ≤ 57)
                    · rw [if_pos c23] at H
                      have c23b0 : decide ((bt a0 x3_2) ≤ 57) = true := decide_eq_true c23
                      clear c23
                      have H' := Aside0.mk H
                      clear H
                      have p15 : 0 ≤ (x3_2 : Int) := of_decide_eq_true (by first | (with_reducible assumption) | assumption)
                      have q15 : x3_2 < (a0.size : Int) := of_decide_eq_true (by first | (with_reducible assumption) | assumption)
                      have hx15 := bt_at a0 x3_2
                      replace p15 := eq_true p15
                      replace q15 := eq_true q15
                      go_wp2
                      go_roundg k2
                      case measure => have := HJ1.out; have := HK2.out; omega
                      case rel => exact ⟨(wrap64 (x3_2 + 1)), (by first | rfl | (simp; done) | (simp [*]; done) | (simp; rw [Bool.eq_iff_iff]; simp; done) | (rw [Bool.eq_iff_iff]; simp; done)), H', ⟨by have := HJ1.out; have := HK2.out; omega⟩, by repeat (first | exact Drawn0.refl _ | apply Drawn0.step)⟩
                    · rw [if_neg c23] at H
                      have c23b0 : decide ((bt a0 x3_2) ≤ 57) = false := decide_eq_false c23
                      clear c23
                      by_cases c24 : (bt a0 x3_2) = 45
                      · rw [if_pos c24] at H
                        have c24b0 : ((bt a0 x3_2) == 45) = true := beq_iff_eq.mpr c24
                        have c24b1 : ((bt a0 x3_2) != 45) = false := bne_eq_false_iff_eq.mpr c24
                        clear c24
                        have H' := Aside0.mk H
                        clear H
                        have p15 : 0 ≤ (x3_2 : Int) := of_decide_eq_true (by first | (with_reducible assumption) | assumption)
                        have q15 : x3_2 < (a0.size : Int) := of_decide_eq_true (by first | (with_reducible assumption) | assumption)
                        have hx15 := bt_at a0 x3_2
                        replace p15 := eq_true p15
                        replace q15 := eq_true q15
                        go_wp2
                        go_roundg k2
                        case measure => have := HJ1.out; have := HK2.out; omega
                        case rel => exact ⟨(wrap64 (x3_2 + 1)), (by first | rfl | (simp; done) | (simp [*]; done) | (simp; rw [Bool.eq_iff_iff]; simp; done) | (rw [Bool.eq_iff_iff]; simp; done)), H', ⟨by have := HJ1.out; have := HK2.out; omega⟩, by repeat (first | exact Drawn0.refl _ | apply Drawn0.step)⟩
                      · rw [if_neg c24] at H
                        have c24b0 : ((bt a0 x3_2) == 45) = false := beq_eq_false_iff_ne.mpr c24
                        have c24b1 : ((bt a0 x3_2) != 45) = true := bne_iff_ne.mpr c24
                        obtain rfl := Option.some.inj H
                        have p15 : 0 ≤ (x3_2 : Int) := of_decide_eq_true (by first | (with_reducible assumption) | assumption)
                        have q15 : x3_2 < (a0.size : Int) := of_decide_eq_true (by first | (with_reducible assumption) | assumption)
                        have hx15 := bt_at a0 x3_2
                        replace p15 := eq_true p15
                        replace q15 := eq_true q15
                        go_wp2
                        go_ret
                        exact ⟨by first | rfl | (simp; done) | (simp [*]; done), by repeat (first | exact Drawn0.refl _ | apply Drawn0.step)⟩
                  · rw [if_neg c22] at H
                    have c22b0 : decide (48 ≤ (bt a0 x3_2)) = false := decide_eq_false c22
                    clear c22
                    by_cases c25 : (bt a0 x3_2) = 45
                    · rw [if_pos c25] at H
                      have c25b0 : ((bt a0 x3_2) == 45) = true := beq_iff_eq.mpr c25
                      have c25b1 : ((bt a0 x3_2) != 45) = false := bne_eq_false_iff_eq.mpr c25
                      clear c25
                      have H' := Aside0.mk H
                      clear H
                      have p15 : 0 ≤ (x3_2 : Int) := of_decide_eq_true (by first | (with_reducible assumption) | assumption)
                      have q15 : x3_2 < (a0.size : Int) := of_decide_eq_true (by first | (with_reducible assumption) | assumption)
                      have hx15 := bt_at a0 x3_2
                      replace p15 := eq_true p15
                      replace q15 := eq_true q15
                      go_wp2
                      go_roundg k2
                      case measure => have := HJ1.out; have := HK2.out; omega
                      case rel => exact ⟨(wrap64 (x3_2 + 1)), (by first | rfl | (simp; done) | (simp [*]; done) | (simp; rw [Bool.eq_iff_iff]; simp; done) | (rw [Bool.eq_iff_iff]; simp; done)), H', ⟨by have := HJ1.out; have := HK2.out; omega⟩, by repeat (first | exact Drawn0.refl _ | apply Drawn0.step)⟩
                    · rw [if_neg c25] at H
                      have c25b0 : ((bt a0 x3_2) == 45) = false := beq_eq_false_iff_ne.mpr c25
                      have c25b1 : ((bt a0 x3_2) != 45) = true := bne_iff_ne.mpr c25
                      obtain rfl := Option.some.inj H
                      have p15 : 0 ≤ (x3_2 : Int) := of_decide_eq_true (by first | (with_reducible assumption) | assumption)
                      have q15 : x3_2 < (a0.size : Int) := of_decide_eq_true (by first | (with_reducible assumption) | assumption)
                      have hx15 := bt_at a0 x3_2
                      replace p15 := eq_true p15
                      replace q15 := eq_true q15
                      go_wp2
                      go_ret
                      exact ⟨by first | rfl | (simp; done) | (simp [*]; done), by repeat (first | exact Drawn0.refl _ | apply Drawn0.step)⟩
              · rw [if_neg c14] at H
                exact absurd H (by simp)
            · rw [if_neg c13] at H
              have c13b0 : decide (x3_2 < (a0.size : Int)) = false := decide_eq_false c13
              clear c13
              obtain rfl := Option.some.inj H
              go_wp2
              go_ret
              exact ⟨by first | rfl | (simp; done) | (simp [*]; done), by repeat (first | exact Drawn0.refl _ | apply Drawn0.step)⟩
end Go.Proofs.YtphddbijdfmpjaaGreatDoor.Q
namespace Go.Proofs.YtphddbijdfmpjaaGreatDoor.Q
open Go.RowKit Go.Proofs.YtphddbijdfmpjaaGreatDoorW.PrintWords Go.Proofs.YtphddbijdfmpjaaGreatDoorW.PrintLast Go.Proofs.YtphddbijdfmpjaaGreatDoorW.PrintMore
attribute [local go_sem] max2_int min2_int max_two min_two max_three min_three max_four min_four   -- for this text's walks alone
set_option linter.unusedVariables false
set_option linter.unusedSimpArgs false
def bursarref04_pieces.l0 : Nat → ByteArray → Int → List ByteArray → Int → Int → Option (List ByteArray)
  | 0, _, _, _, _, _ => none
  | k + 1, x0, x1, x5, x6, x7 => if x7 ≤ (x0.size : Int) then (if x7 = (x0.size : Int) then (if 0 ≤ x6 then (if x6 ≤ x7 then (if x5.length < 8796093022208 then (bursarref04_pieces.l0 k x0 x1 (x5 ++ [x0.extract (x6 : Int).toNat (x7 : Int).toNat]) (wrap64 (x7 + 1)) (wrap64 (x7 + 1))) else (none)) else (none)) else (none)) else (if 0 ≤ x7 then (if x7 < (x0.size : Int) then (if (bt x0 x7) = x1 then (if 0 ≤ x6 then (if x6 ≤ x7 then (if x5.length < 8796093022208 then (bursarref04_pieces.l0 k x0 x1 (x5 ++ [x0.extract (x6 : Int).toNat (x7 : Int).toNat]) (wrap64 (x7 + 1)) (wrap64 (x7 + 1))) else (none)) else (none)) else (none)) else (bursarref04_pieces.l0 k x0 x1 x5 x6 (wrap64 (x7 + 1)))) else (none)) else (none))) else (some x5)
def bursarref04_pieces.f (k : Nat) (a0 : ByteArray) (a1 : Int) : Option (List ByteArray) := bursarref04_pieces.l0 k a0 a1 ([] : List ByteArray) 0 0
theorem bursarref04_pieces.mono_l : ∀ k, (∀ y0 y1 y2 y3 y4, LeO (bursarref04_pieces.l0 k y0 y1 y2 y3 y4) (bursarref04_pieces.l0 (k + 1) y0 y1 y2 y3 y4))
  | 0 => fun _ _ _ _ _ r h => by simp [bursarref04_pieces.l0] at h
  | k + 1 => by
    have ih0 := bursarref04_pieces.mono_l k
    · intro y0 y1 y2 y3 y4
      unfold bursarref04_pieces.l0
      repeat' first
      | (with_reducible exact ih0 _ _ _ _ _)
      | (with_reducible exact LeO.refl _)
      | (with_reducible exact LeO.none _)
      | (with_reducible refine LeO.ite ?_ ?_)
      | (with_reducible refine LeO.bind ?_ (fun _ => ?_))
      | exact ih0 _ _ _ _ _
      | exact LeO.none _
      | refine LeO.ite ?_ ?_
      | refine LeO.bind ?_ (fun _ => ?_)
theorem bursarref04_pieces.mono : ∀ a0 a1 k, LeO (bursarref04_pieces.f k a0 a1) (bursarref04_pieces.f (k + 1) a0 a1) := by
  intro a0 a1 k
  have ih0 := bursarref04_pieces.mono_l k
  unfold bursarref04_pieces.f
  repeat' first
      | (with_reducible exact ih0 _ _ _ _ _)
      | (with_reducible exact LeO.refl _)
      | (with_reducible exact LeO.none _)
      | (with_reducible refine LeO.ite ?_ ?_)
      | (with_reducible refine LeO.bind ?_ (fun _ => ?_))
      | exact ih0 _ _ _ _ _
      | exact LeO.none _
      | refine LeO.ite ?_ ?_
      | refine LeO.bind ?_ (fun _ => ?_)
set_option maxHeartbeats 8000000 in
set_option maxRecDepth 100000 in
theorem bursarref04_pieces.calls (k : Nat) (a0 : ByteArray) (a1 : Int) (r : List ByteArray) (w : World) (h : bursarref04_pieces.f k a0 a1 = some r) :
    Calls Tryz.prog 77 #[.string a0, .int .u8 a1] w fun e w' => ∃ v0_ : Value, e = .returned (v0_) ∧ Kd.R Kd.string 9 w' w.heap.size (fun _ => True) v0_ r ∧ Below w.heap.size w w' := by
  have HB := Aside0.mk (Below.refl w.heap.size w)
  have H : (bursarref04_pieces.l0 k a0 a1 ([] : List ByteArray) 0 0) = some r := h
  clear h
  have H' := Aside0.mk H
  clear H
  go_enter Tryz.func77, Tryz.ntmps77
  go_wp2
  go_loopg [5, 6, 7] k (fun kq v5 v6 v7 w' => ∃ (x5_1 : List ByteArray) (x6_1 : Int) (x7_1 : Int), v6 = .int .i64 x6_1 ∧ v7 = .int .i64 x7_1 ∧ Aside0 (bursarref04_pieces.l0 kq a0 a1 x5_1 x6_1 x7_1 = some r) ∧ Aside0 (kq ≤ k) ∧ Aside0 (Kd.R Kd.string 9 w' w.heap.size (fun _ => True) v5 x5_1) ∧ Aside0 (Below w.heap.size w w'))
  case atStart => exact ⟨(([] : List ByteArray)), (0), (0), (by first | rfl | (simp; done) | (simp [*]; done) | (simp; rw [Bool.eq_iff_iff]; simp; done) | (rw [Bool.eq_iff_iff]; simp; done)), (by first | rfl | (simp; done) | (simp [*]; done) | (simp; rw [Bool.eq_iff_iff]; simp; done) | (rw [Bool.eq_iff_iff]; simp; done)), H', ⟨Nat.le_refl _⟩, ⟨by first | exact Kd.R_nil _ _ _ _ _ | exact Kd.N_nil _ _ _ _ _ | exact Kd.V_nil _ _ _ _ _ | exact Kd.Q_nil _ _ _ _ _ | exact Kd.S_nil _ _ _ _ _⟩, ⟨by repeat (first | (with_reducible first | exact HB.out | apply below_alloc | apply pw_below_drewN | apply below_drew1) | exact HB.out)⟩⟩
  case round =>
    clear H'
    try clear p2
    obtain ⟨x5_1, x6_1, x7_1, rfl, rfl, HA, HK1, HO_5, HB⟩ := hrel
    cases gk with
    | zero => exact absurd HA.out (by simp [bursarref04_pieces.l0])
    | succ k1 =>
      have H := HA.out
      clear HA
      simp only [bursarref04_pieces.l0] at H
      by_cases c3 : x7_1 ≤ (a0.size : Int)
      · rw [if_pos c3] at H
        have c3b0 : decide (x7_1 ≤ (a0.size : Int)) = true := decide_eq_true c3
        clear c3
        by_cases c4 : x7_1 = (a0.size : Int)
        · rw [if_pos c4] at H
          have c4b0 : (x7_1 == (a0.size : Int)) = true := beq_iff_eq.mpr c4
          have c4b1 : (x7_1 != (a0.size : Int)) = false := bne_eq_false_iff_eq.mpr c4
          clear c4
          by_cases c5 : 0 ≤ x6_1
          · rw [if_pos c5] at H
            have c5b0 := eq_true c5
            have c5b1 : decide (0 ≤ x6_1) = true := decide_eq_true c5
            clear c5
            by_cases c6 : x6_1 ≤ x7_1
            · rw [if_pos c6] at H
              have c6b0 := eq_true c6
              have c6b1 : decide (x6_1 ≤ x7_1) = true := decide_eq_true c6
              clear c6
              have c7b0 := eq_true (of_decide_eq_true (by first | (with_reducible assumption) | assumption) : x7_1 ≤ (a0.size : Int))
              by_cases c8 : x5_1.length < 8796093022208
              · rw [if_pos c8] at H
                have LMc8 := Aside0.mk c8
                clear c8
                obtain ⟨y138, hy138⟩ : ∃ y_ : List ByteArray, y_ = (x5_1 ++ [a0.extract (x6_1 : Int).toNat (x7_1 : Int).toNat]) := ⟨_, rfl⟩
                replace H : (bursarref04_pieces.l0 k1 a0 a1 y138 (wrap64 (x7_1 + 1)) (wrap64 (x7_1 + 1))) = some r := by first | (rw [hy138]; with_reducible exact H) | (have H2_ := (Option.bind_some _ _).symm.trans H; rw [hy138]; with_reducible exact H2_) | (have H2_ := (Option.bind_some _ _).symm.trans H; with_reducible exact H2_) | with_reducible exact H | (rw [hy138]; exact H) | exact H
                have Ny138 := Aside0.mk hy138
                clear hy138
                have H' := Aside0.mk H
                clear H
                go_wp2_with (first | ((with_reducible refine gate_builtin (b := .append) (xs := #[.tmp 25, .tmp 30]) rfl ?_); at_builtin; refine Kd.R_append Kd.string (w0 := w) w.heap.size rfl (.tmp 25) (.tmp 30) 49 9 (.string ⟨#[]⟩) 16 rfl Tryz.underlying49 info9 rfl (by decide) (by omega) u5 x5_1 (a0.extract (x6_1 : Int).toNat (x7_1 : Int).toNat) [.string (a0.extract (x6_1 : Int).toNat (x7_1 : Int).toNat)] (fun _ => True) (fun _ => False) rfl rfl ?aP (fun _ hk => hk.elim) ?aF ?aO ?aB ?aS ?aL ?_; (case aP => exact rfl); (case aB => exact (by repeat (first | (with_reducible first | exact HB.out | apply below_alloc | apply pw_below_drewN | apply below_drew1) | exact HB.out))); (case aF => exact (fun _ _ => trivial)); (case aO => exact (by (with_reducible repeat (first | apply Kd.R_alloc | apply Kd.R_drewN | apply Kd.R_drew)); exact HO_5.out)); (case aS => exact (below_size (by repeat (first | (with_reducible first | exact HB.out | apply below_alloc | apply pw_below_drewN | apply below_drew1) | exact HB.out)))); (case aL => have := LMc8.out; omega); intro v139 w9 ho hb hg hat; rw [← Ny138.out] at ho; have n0_ := Aside0.mk (hb); have n1_ := Aside0.mk (ho); clear HB; clear HO_5; have HB := n0_; have HO140 := n1_; clear n0_ n1_; clear ho hb hg hat))
                go_roundg k1
                case measure => have := HK1.out; omega
                case rel => exact ⟨(y138), (wrap64 (x7_1 + 1)), (wrap64 (x7_1 + 1)), (by first | rfl | (simp; done) | (simp [*]; done) | (simp; rw [Bool.eq_iff_iff]; simp; done) | (rw [Bool.eq_iff_iff]; simp; done)), (by first | rfl | (simp; done) | (simp [*]; done) | (simp; rw [Bool.eq_iff_iff]; simp; done) | (rw [Bool.eq_iff_iff]; simp; done)), H', ⟨by have := HK1.out; omega⟩, ⟨by (with_reducible repeat (first | apply Kd.R_alloc | apply Kd.R_drewN | apply Kd.R_drew)); exact HO140.out⟩, ⟨by repeat (first | (with_reducible first | exact HB.out | apply below_alloc | apply pw_below_drewN | apply below_drew1) | exact HB.out)⟩⟩
              · rw [if_neg c8] at H
                exact absurd H (by simp)
            · rw [if_neg c6] at H
              exact absurd H (by simp)
          · rw [if_neg c5] at H
            exact absurd H (by simp)
        · rw [if_neg c4] at H
          have c4b0 : (x7_1 == (a0.size : Int)) = false := beq_eq_false_iff_ne.mpr c4
          have c4b1 : (x7_1 != (a0.size : Int)) = true := bne_iff_ne.mpr c4
          by_cases c10 : 0 ≤ x7_1
          · rw [if_pos c10] at H
            have c10b0 : decide (0 ≤ x7_1) = true := decide_eq_true c10
            clear c10
            by_cases c11 : x7_1 < (a0.size : Int)
            · rw [if_pos c11] at H
              have c11b0 : decide (x7_1 < (a0.size : Int)) = true := decide_eq_true c11
              clear c11
              by_cases c13 : (bt a0 x7_1) = a1
              · rw [if_pos c13] at H
                have c13b0 : ((bt a0 x7_1) == a1) = true := beq_iff_eq.mpr c13
                have c13b1 : ((bt a0 x7_1) != a1) = false := bne_eq_false_iff_eq.mpr c13
                clear c13
                by_cases c14 : 0 ≤ x6_1
                · rw [if_pos c14] at H
                  have c14b0 := eq_true c14
                  have c14b1 : decide (0 ≤ x6_1) = true := decide_eq_true c14
                  clear c14
                  by_cases c15 : x6_1 ≤ x7_1
                  · rw [if_pos c15] at H
                    have c15b0 := eq_true c15
                    have c15b1 : decide (x6_1 ≤ x7_1) = true := decide_eq_true c15
                    clear c15
                    have c16b0 := eq_true (of_decide_eq_true (by first | (with_reducible assumption) | assumption) : x7_1 ≤ (a0.size : Int))
                    by_cases c17 : x5_1.length < 8796093022208
                    · rw [if_pos c17] at H
                      have LMc17 := Aside0.mk c17
                      clear c17
                      obtain ⟨y141, hy141⟩ : ∃ y_ : List ByteArray, y_ = (x5_1 ++ [a0.extract (x6_1 : Int).toNat (x7_1 : Int).toNat]) := ⟨_, rfl⟩
                      replace H : (bursarref04_pieces.l0 k1 a0 a1 y141 (wrap64 (x7_1 + 1)) (wrap64 (x7_1 + 1))) = some r := by first | (rw [hy141]; with_reducible exact H) | (have H2_ := (Option.bind_some _ _).symm.trans H; rw [hy141]; with_reducible exact H2_) | (have H2_ := (Option.bind_some _ _).symm.trans H; with_reducible exact H2_) | with_reducible exact H | (rw [hy141]; exact H) | exact H
                      have Ny141 := Aside0.mk hy141
                      clear hy141
                      have H' := Aside0.mk H
                      clear H
                      have p12 : 0 ≤ (x7_1 : Int) := of_decide_eq_true (by first | (with_reducible assumption) | assumption)
                      have q12 : x7_1 < (a0.size : Int) := of_decide_eq_true (by first | (with_reducible assumption) | assumption)
                      have hx12 := bt_at a0 x7_1
                      replace p12 := eq_true p12
                      replace q12 := eq_true q12
                      go_wp2_with (first | ((with_reducible refine gate_builtin (b := .append) (xs := #[.tmp 25, .tmp 30]) rfl ?_); at_builtin; refine Kd.R_append Kd.string (w0 := w) w.heap.size rfl (.tmp 25) (.tmp 30) 49 9 (.string ⟨#[]⟩) 16 rfl Tryz.underlying49 info9 rfl (by decide) (by omega) u5 x5_1 (a0.extract (x6_1 : Int).toNat (x7_1 : Int).toNat) [.string (a0.extract (x6_1 : Int).toNat (x7_1 : Int).toNat)] (fun _ => True) (fun _ => False) rfl rfl ?aP (fun _ hk => hk.elim) ?aF ?aO ?aB ?aS ?aL ?_; (case aP => exact rfl); (case aB => exact (by repeat (first | (with_reducible first | exact HB.out | apply below_alloc | apply pw_below_drewN | apply below_drew1) | exact HB.out))); (case aF => exact (fun _ _ => trivial)); (case aO => exact (by (with_reducible repeat (first | apply Kd.R_alloc | apply Kd.R_drewN | apply Kd.R_drew)); exact HO_5.out)); (case aS => exact (below_size (by repeat (first | (with_reducible first | exact HB.out | apply below_alloc | apply pw_below_drewN | apply below_drew1) | exact HB.out)))); (case aL => have := LMc17.out; omega); intro v142 w18 ho hb hg hat; rw [← Ny141.out] at ho; have n0_ := Aside0.mk (hb); have n1_ := Aside0.mk (ho); clear HB; clear HO_5; have HB := n0_; have HO143 := n1_; clear n0_ n1_; clear ho hb hg hat))
                      go_roundg k1
                      case measure => have := HK1.out; omega
                      case rel => exact ⟨(y141), (wrap64 (x7_1 + 1)), (wrap64 (x7_1 + 1)), (by first | rfl | (simp; done) | (simp [*]; done) | (simp; rw [Bool.eq_iff_iff]; simp; done) | (rw [Bool.eq_iff_iff]; simp; done)), (by first | rfl | (simp; done) | (simp [*]; done) | (simp; rw [Bool.eq_iff_iff]; simp; done) | (rw [Bool.eq_iff_iff]; simp; done)), H', ⟨by have := HK1.out; omega⟩, ⟨by (with_reducible repeat (first | apply Kd.R_alloc | apply Kd.R_drewN | apply Kd.R_drew)); exact HO143.out⟩, ⟨by repeat (first | (with_reducible first | exact HB.out | apply below_alloc | apply pw_below_drewN | apply below_drew1) | exact HB.out)⟩⟩
                    · rw [if_neg c17] at H
                      exact absurd H (by simp)
                  · rw [if_neg c15] at H
                    exact absurd H (by simp)
                · rw [if_neg c14] at H
                  exact absurd H (by simp)
              · rw [if_neg c13] at H
                have c13b0 : ((bt a0 x7_1) == a1) = false := beq_eq_false_iff_ne.mpr c13
                have c13b1 : ((bt a0 x7_1) != a1) = true := bne_iff_ne.mpr c13
                have H' := Aside0.mk H
                clear H
                have p12 : 0 ≤ (x7_1 : Int) := of_decide_eq_true (by first | (with_reducible assumption) | assumption)
                have q12 : x7_1 < (a0.size : Int) := of_decide_eq_true (by first | (with_reducible assumption) | assumption)
                have hx12 := bt_at a0 x7_1
                replace p12 := eq_true p12
                replace q12 := eq_true q12
                go_wp2
                go_roundg k1
                case measure => have := HK1.out; omega
                case rel => exact ⟨(x5_1), (x6_1), (wrap64 (x7_1 + 1)), (by first | rfl | (simp; done) | (simp [*]; done) | (simp; rw [Bool.eq_iff_iff]; simp; done) | (rw [Bool.eq_iff_iff]; simp; done)), (by first | rfl | (simp; done) | (simp [*]; done) | (simp; rw [Bool.eq_iff_iff]; simp; done) | (rw [Bool.eq_iff_iff]; simp; done)), H', ⟨by have := HK1.out; omega⟩, ⟨by (with_reducible repeat (first | apply Kd.R_alloc | apply Kd.R_drewN | apply Kd.R_drew)); exact HO_5.out⟩, ⟨by repeat (first | (with_reducible first | exact HB.out | apply below_alloc | apply pw_below_drewN | apply below_drew1) | exact HB.out)⟩⟩
            · rw [if_neg c11] at H
              exact absurd H (by simp)
          · rw [if_neg c10] at H
            exact absurd H (by simp)
      · rw [if_neg c3] at H
        have c3b0 : decide (x7_1 ≤ (a0.size : Int)) = false := decide_eq_false c3
        clear c3
        obtain rfl := Option.some.inj H
        go_wp2
        go_ret
        exact ⟨_, by first | rfl | (simp [errW_none, errW_some] <;> rfl) | (simp [*, errW_none, errW_some] <;> rfl), by (with_reducible repeat (first | apply Kd.R_alloc | apply Kd.R_drewN | apply Kd.R_drew)); exact HO_5.out, by repeat (first | (with_reducible first | exact HB.out | apply below_alloc | apply pw_below_drewN | apply below_drew1) | exact HB.out)⟩
end Go.Proofs.YtphddbijdfmpjaaGreatDoor.Q
namespace Go.Proofs.YtphddbijdfmpjaaGreatDoor.Q
open Go.RowKit Go.Proofs.YtphddbijdfmpjaaGreatDoorW.PrintWords Go.Proofs.YtphddbijdfmpjaaGreatDoorW.PrintLast Go.Proofs.YtphddbijdfmpjaaGreatDoorW.PrintMore
attribute [local go_sem] max2_int min2_int max_two min_two max_three min_three max_four min_four   -- for this text's walks alone
set_option linter.unusedVariables false
set_option linter.unusedSimpArgs false
mutual
def bursarref04_Split.j0 : Nat → List ByteArray → Bool → Option (List ByteArray × Int)
  | 0, _, _ => none
  | k + 1, x4, x29 => if x29 = true then (some (([] : List ByteArray), 41)) else (bursarref04_Split.l0 k x4 1)
def bursarref04_Split.l0 : Nat → List ByteArray → Int → Option (List ByteArray × Int)
  | 0, _, _ => none
  | k + 1, x4, x5 => if x5 < (x4.length : Int) then (if 0 ≤ x5 then ((bursarref04_Name.f k (rdOf ByteArray.empty x4 x5)).bind fun t149 => (if t149 = true then (bursarref04_Split.l0 k x4 (wrap64 (x5 + 1))) else (some (([] : List ByteArray), 41)))) else (none)) else (if 1 ≤ (x4.length : Int) then (some ((x4.drop (1 : Int).toNat), 0)) else (none))
end
def bursarref04_Split.f (k : Nat) (a0 : ByteArray) : Option (List ByteArray × Int) := if a0.toList = ([47] : List UInt8) then (some (([] : List ByteArray), 0)) else ((bursarref04_pieces.f k a0 47).bind fun t144 => (if (a0.size : Int) > 64 then (bursarref04_Split.j0 k t144 true) else (if (t144.length : Int) < 2 then (bursarref04_Split.j0 k t144 true) else (if (t144.length : Int) > 9 then (bursarref04_Split.j0 k t144 true) else (if 0 < (t144.length : Int) then (bursarref04_Split.j0 k t144 ((rdOf ByteArray.empty t144 0).toList != ([] : List UInt8))) else (none))))))
theorem bursarref04_Split.mono_l : ∀ k, (∀ y0 y1, LeO (bursarref04_Split.j0 k y0 y1) (bursarref04_Split.j0 (k + 1) y0 y1)) ∧ (∀ y0 y1, LeO (bursarref04_Split.l0 k y0 y1) (bursarref04_Split.l0 (k + 1) y0 y1))
  | 0 => ⟨fun _ _ r h => by simp [bursarref04_Split.j0] at h, fun _ _ r h => by simp [bursarref04_Split.l0] at h⟩
  | k + 1 => by
    obtain ⟨ih0, ih1⟩ := bursarref04_Split.mono_l k
    refine ⟨?_, ?_⟩
    · intro y0 y1
      unfold bursarref04_Split.j0
      repeat' first
      | (with_reducible exact ih0 _ _)
      | (with_reducible exact ih1 _ _)
      | (with_reducible exact bursarref04_Name.mono _ _)
      | (with_reducible exact bursarref04_pieces.mono _ _ _)
      | (with_reducible exact LeO.refl _)
      | (with_reducible exact LeO.none _)
      | (with_reducible refine LeO.ite ?_ ?_)
      | (with_reducible refine LeO.bind ?_ (fun _ => ?_))
      | exact ih0 _ _
      | exact ih1 _ _
      | exact bursarref04_Name.mono _ _
      | exact bursarref04_pieces.mono _ _ _
      | exact LeO.none _
      | refine LeO.ite ?_ ?_
      | refine LeO.bind ?_ (fun _ => ?_)
    · intro y0 y1
      unfold bursarref04_Split.l0
      repeat' first
      | (with_reducible exact ih0 _ _)
      | (with_reducible exact ih1 _ _)
      | (with_reducible exact bursarref04_Name.mono _ _)
      | (with_reducible exact bursarref04_pieces.mono _ _ _)
      | (with_reducible exact LeO.refl _)
      | (with_reducible exact LeO.none _)
      | (with_reducible refine LeO.ite ?_ ?_)
      | (with_reducible refine LeO.bind ?_ (fun _ => ?_))
      | exact ih0 _ _
      | exact ih1 _ _
      | exact bursarref04_Name.mono _ _
      | exact bursarref04_pieces.mono _ _ _
      | exact LeO.none _
      | refine LeO.ite ?_ ?_
      | refine LeO.bind ?_ (fun _ => ?_)
theorem bursarref04_Split.mono : ∀ a0 k, LeO (bursarref04_Split.f k a0) (bursarref04_Split.f (k + 1) a0) := by
  intro a0 k
  obtain ⟨ih0, ih1⟩ := bursarref04_Split.mono_l k
  unfold bursarref04_Split.f
  repeat' first
      | (with_reducible exact ih0 _ _)
      | (with_reducible exact ih1 _ _)
      | (with_reducible exact bursarref04_Name.mono _ _)
      | (with_reducible exact bursarref04_pieces.mono _ _ _)
      | (with_reducible exact LeO.refl _)
      | (with_reducible exact LeO.none _)
      | (with_reducible refine LeO.ite ?_ ?_)
      | (with_reducible refine LeO.bind ?_ (fun _ => ?_))
      | exact ih0 _ _
      | exact ih1 _ _
      | exact bursarref04_Name.mono _ _
      | exact bursarref04_pieces.mono _ _ _
      | exact LeO.none _
      | refine LeO.ite ?_ ?_
      | refine LeO.bind ?_ (fun _ => ?_)
set_option maxHeartbeats 8000000 in
set_option maxRecDepth 100000 in
theorem bursarref04_Split.calls (k : Nat) (a0 : ByteArray) (r1 : List ByteArray) (r2 : Int) (w : World) (h : bursarref04_Split.f k a0 = some (r1, r2)) :
    Calls Tryz.prog 52 #[.string a0] w fun e w' => ∃ v0_ : Value, e = .returned (.tuple #[v0_, .int .i64 r2]) ∧ Kd.Q Kd.string 9 w' w.heap.size (fun _ => True) v0_ r1 ∧ Below w.heap.size w w' := by
  have HB := Aside0.mk (Below.refl w.heap.size w)
  have H : (if a0.toList = ([47] : List UInt8) then (some (([] : List ByteArray), 0)) else ((bursarref04_pieces.f k a0 47).bind fun t144 => (if (a0.size : Int) > 64 then (bursarref04_Split.j0 k t144 true) else (if (t144.length : Int) < 2 then (bursarref04_Split.j0 k t144 true) else (if (t144.length : Int) > 9 then (bursarref04_Split.j0 k t144 true) else (if 0 < (t144.length : Int) then (bursarref04_Split.j0 k t144 ((rdOf ByteArray.empty t144 0).toList != ([] : List UInt8))) else (none))))))) = some (r1, r2) := h
  clear h
  by_cases c2 : a0.toList = ([47] : List UInt8)
  · rw [if_pos c2] at H
    have c2b0 : (a0.toList == ([47] : List UInt8)) = true := beq_iff_eq.mpr c2
    have c2b1 : (a0.toList != ([47] : List UInt8)) = false := bne_eq_false_iff_eq.mpr c2
    clear c2
    simp only [Option.some.injEq, Prod.mk.injEq] at H
    obtain ⟨rfl, rfl⟩ := H
    go_enter Tryz.func52, Tryz.ntmps52
    go_wp2
    go_ret2
    exact ⟨_, by first | rfl | (simp [errW_none, errW_some] <;> rfl) | (simp [*, errW_none, errW_some] <;> rfl), Kd.Q_of_R (by first | exact Kd.R_nil _ _ _ _ _ | exact Kd.N_nil _ _ _ _ _ | exact Kd.V_nil _ _ _ _ _ | exact Kd.Q_nil _ _ _ _ _ | exact Kd.S_nil _ _ _ _ _), by repeat (first | (with_reducible first | exact HB.out | apply below_alloc | apply pw_below_drewN | apply below_drew1) | exact HB.out)⟩
  · rw [if_neg c2] at H
    have c2b0 : (a0.toList == ([47] : List UInt8)) = false := beq_eq_false_iff_ne.mpr c2
    have c2b1 : (a0.toList != ([47] : List UInt8)) = true := bne_iff_ne.mpr c2
    replace H := Option.bind_eq_some_iff.mp H
    obtain ⟨t144, A30, H⟩ := H
    replace H : (if (a0.size : Int) > 64 then (bursarref04_Split.j0 k t144 true) else (if (t144.length : Int) < 2 then (bursarref04_Split.j0 k t144 true) else (if (t144.length : Int) > 9 then (bursarref04_Split.j0 k t144 true) else (if 0 < (t144.length : Int) then (bursarref04_Split.j0 k t144 ((rdOf ByteArray.empty t144 0).toList != ([] : List UInt8))) else (none))))) = some (r1, r2) := H
    have A3 := Aside0.mk A30
    clear A30
    have HC4 := Aside0.mk H
    clear H
    go_enter Tryz.func52, Tryz.ntmps52
    go_upto_region 4 with (first | ((with_reducible refine gate_callee (f := 77) rfl ?_); refine goesL_ (some 10) rfl rfl Tryz.func77 (by kernel_rfl) rfl #[.string a0, .int .u8 47] rfl (by (try simp only [List.map_toArray, List.map_cons, List.map_nil]); first | done | rfl | (simp only [List.length_drop, List.length_take]; rfl)) ?_; (with_reducible refine (bursarref04_pieces.calls k a0 47 t144 _ A3.out).mono ?_); rintro e w5 ⟨v145, rfl, ho0, hb⟩; refine ⟨_, rfl, ?_⟩; have n0_ := Aside0.mk (Kd.R_lower ho0 (below_size (by repeat (first | (with_reducible first | exact HB.out | apply below_alloc | apply pw_below_drewN | apply below_drew1) | exact HB.out)))); have n1_ := Aside0.mk (below_step (by repeat (first | (with_reducible first | exact HB.out | apply below_alloc | apply pw_below_drewN | apply below_drew1) | exact HB.out)) hb); clear HB; have HO146 := n0_; have HB := n1_; clear n0_ n1_; (try clear hb); (try clear hb2); (try clear hk); (try clear hi); (try clear ho0)))
    (try simp only [Act.put, List.setIfInBounds_toArray, List.set_cons_zero, List.set_cons_succ])
    go_cut [29] (fun v29 wc => ∃ (kq : Nat) (x29_3 : Bool), v29 = .bool x29_3 ∧ Aside0 (bursarref04_Split.j0 kq t144 x29_3 = some (r1, r2)) ∧ Aside0 (kq ≤ k) ∧ Aside0 (Kd.R Kd.string 9 wc w.heap.size (fun _ => True) v145 t144) ∧ Aside0 (Below w.heap.size w wc))
    case first =>
      have H := HC4.out
      clear HC4
      by_cases c6 : (a0.size : Int) > 64
      · rw [if_pos c6] at H
        have c6b0 : decide (64 < (a0.size : Int)) = true := decide_eq_true c6
        have c6b1 : decide (64 < a0.size) = true := decide_eq_true (by omega)
        clear c6
        (first | rw [c6b0] | (simp only [i64_w, i32_w]; rw [c6b0]) | skip)
        have H' := Aside0.mk H
        clear H
        go_wp2
        go_meet
        case rel => exact ⟨_, (true), (by first | rfl | (simp; done) | (simp [*]; done) | (simp; rw [Bool.eq_iff_iff]; simp; done) | (rw [Bool.eq_iff_iff]; simp; done)), H', ⟨by first | omega | exact Nat.le_refl _⟩, ⟨by (with_reducible repeat (first | apply Kd.R_alloc | apply Kd.R_drewN | apply Kd.R_drew)); exact HO146.out⟩, ⟨by repeat (first | (with_reducible first | exact HB.out | apply below_alloc | apply pw_below_drewN | apply below_drew1) | exact HB.out)⟩⟩
      · rw [if_neg c6] at H
        have c6b0 : decide (64 < (a0.size : Int)) = false := decide_eq_false c6
        have c6b1 : decide (64 < a0.size) = false := decide_eq_false (by omega)
        clear c6
        (first | rw [c6b0] | (simp only [i64_w, i32_w]; rw [c6b0]) | skip)
        by_cases c7 : (t144.length : Int) < 2
        · rw [if_pos c7] at H
          have c7b0 : decide ((t144.length : Int) < 2) = true := decide_eq_true c7
          have c7b1 : decide (t144.length < 2) = true := decide_eq_true (by omega)
          clear c7
          have H' := Aside0.mk H
          clear H
          obtain ⟨Ao8, co8, eo8⟩ := Kd.R_slice HO146.out
          subst eo8
          go_wp2
          go_meet
          case rel => exact ⟨_, (true), (by first | rfl | (simp; done) | (simp [*]; done) | (simp; rw [Bool.eq_iff_iff]; simp; done) | (rw [Bool.eq_iff_iff]; simp; done)), H', ⟨by first | omega | exact Nat.le_refl _⟩, ⟨by (with_reducible repeat (first | apply Kd.R_alloc | apply Kd.R_drewN | apply Kd.R_drew)); exact HO146.out⟩, ⟨by repeat (first | (with_reducible first | exact HB.out | apply below_alloc | apply pw_below_drewN | apply below_drew1) | exact HB.out)⟩⟩
        · rw [if_neg c7] at H
          have c7b0 : decide ((t144.length : Int) < 2) = false := decide_eq_false c7
          have c7b1 : decide (t144.length < 2) = false := decide_eq_false (by omega)
          clear c7
          by_cases c9 : (t144.length : Int) > 9
          · rw [if_pos c9] at H
            have c9b0 : decide (9 < (t144.length : Int)) = true := decide_eq_true c9
            have c9b1 : decide (9 < t144.length) = true := decide_eq_true (by omega)
            clear c9
            have H' := Aside0.mk H
            clear H
            obtain ⟨Ao10, co10, eo10⟩ := Kd.R_slice HO146.out
            subst eo10
            go_wp2
            go_meet
            case rel => exact ⟨_, (true), (by first | rfl | (simp; done) | (simp [*]; done) | (simp; rw [Bool.eq_iff_iff]; simp; done) | (rw [Bool.eq_iff_iff]; simp; done)), H', ⟨by first | omega | exact Nat.le_refl _⟩, ⟨by (with_reducible repeat (first | apply Kd.R_alloc | apply Kd.R_drewN | apply Kd.R_drew)); exact HO146.out⟩, ⟨by repeat (first | (with_reducible first | exact HB.out | apply below_alloc | apply pw_below_drewN | apply below_drew1) | exact HB.out)⟩⟩
          · rw [if_neg c9] at H
            have c9b0 : decide (9 < (t144.length : Int)) = false := decide_eq_false c9
            have c9b1 : decide (9 < t144.length) = false := decide_eq_false (by omega)
            clear c9
            by_cases c11 : 0 < (t144.length : Int)
            · rw [if_pos c11] at H
              have c11b0 : decide (0 < (t144.length : Int)) = true := decide_eq_true c11
              have c11b1 : decide (0 < t144.length) = true := decide_eq_true (by omega)
              clear c11
              have H' := Aside0.mk H
              clear H
              obtain ⟨Ao12, co12, eo12⟩ := Kd.R_slice HO146.out
              subst eo12
              have p147 : 0 ≤ (0 : Int) := (by omega)
              have q147 : 0 < (t144.length : Int) := of_decide_eq_true (by first | (with_reducible assumption) | assumption)
              obtain ⟨ad147, e147, hx147_0⟩ := Kd.at_string (Kd.R_reads' HO146.out).2.2 0 p147 q147
              cases e147
              have qi147 : (0 < t144.length) = True := eq_true (by omega)
              (try rw [show ((0 : Int)).toNat = 0 from rfl] at hx147_0)
              (try rw [Addr.add_zero'] at hx147_0)
              replace p147 := eq_true p147
              replace q147 := eq_true q147
              go_wp2
              go_meet
              case rel => exact ⟨_, (((rdOf ByteArray.empty t144 0).toList != ([] : List UInt8))), (by first | rfl | (simp; done) | (simp [*]; done) | (simp; rw [Bool.eq_iff_iff]; simp; done) | (rw [Bool.eq_iff_iff]; simp; done)), H', ⟨by first | omega | exact Nat.le_refl _⟩, ⟨by (with_reducible repeat (first | apply Kd.R_alloc | apply Kd.R_drewN | apply Kd.R_drew)); exact HO146.out⟩, ⟨by repeat (first | (with_reducible first | exact HB.out | apply below_alloc | apply pw_below_drewN | apply below_drew1) | exact HB.out)⟩⟩
            · rw [if_neg c11] at H
              exact absurd H (by simp)
    case rest =>
      clear HC4
      try clear c1
      try clear p1
      try clear q1
      try clear hx1
      try clear qi1
      try clear c2
      try clear c2b0
      try clear c2b1
      try clear p2
      try clear c5
      try clear c6
      try clear c6b0
      try clear c6b1
      try clear c7
      try clear c7b0
      try clear c7b1
      try clear c9
      try clear c9b0
      try clear c9b1
      try clear c11
      try clear c11b0
      try clear c11b1
      try clear hx147_0
      try clear p147
      try clear q147
      obtain ⟨kq, x29_3, rfl, HA, HJ3, HO_4, HB⟩ := hcut
      cases kq with
      | zero => exact absurd HA.out (by simp [bursarref04_Split.j0])
      | succ kj3 =>
        have H := HA.out
        clear HA
        simp only [bursarref04_Split.j0] at H
        by_cases c13 : x29_3 = true
        · subst c13
          have H1 : (some (([] : List ByteArray), 41)) = some (r1, r2) := by rw [if_pos rfl] at H; exact H
          clear H
          have H := H1
          clear H1
          simp only [Option.some.injEq, Prod.mk.injEq] at H
          obtain ⟨rfl, rfl⟩ := H
          go_wp2
          go_ret2
          exact ⟨_, by first | rfl | (simp [errW_none, errW_some] <;> rfl) | (simp [*, errW_none, errW_some] <;> rfl), Kd.Q_of_R (by first | exact Kd.R_nil _ _ _ _ _ | exact Kd.N_nil _ _ _ _ _ | exact Kd.V_nil _ _ _ _ _ | exact Kd.Q_nil _ _ _ _ _ | exact Kd.S_nil _ _ _ _ _), by repeat (first | (with_reducible first | exact HB.out | apply below_alloc | apply pw_below_drewN | apply below_drew1) | exact HB.out)⟩
        · replace c13 := Bool.eq_false_iff.mpr c13
          subst c13
          have H1 : (bursarref04_Split.l0 kj3 t144 1) = some (r1, r2) := by rw [if_neg (show ¬ (false = true) by decide)] at H; exact H
          clear H
          have H := H1
          clear H1
          have H' := Aside0.mk H
          clear H
          go_wp2
          go_loopg [5] kj3 (fun kq v5 w' => ∃ (x5_2 : Int), v5 = .int .i64 x5_2 ∧ Aside0 (bursarref04_Split.l0 kq t144 x5_2 = some (r1, r2)) ∧ Aside0 (kq ≤ kj3) ∧ Aside0 (Kd.R Kd.string 9 w' w.heap.size (fun _ => True) v145 t144) ∧ Aside0 (Below w.heap.size w w'))
          case atStart => exact ⟨(1), (by first | rfl | (simp; done) | (simp [*]; done) | (simp; rw [Bool.eq_iff_iff]; simp; done) | (rw [Bool.eq_iff_iff]; simp; done)), H', ⟨Nat.le_refl _⟩, ⟨by (with_reducible repeat (first | apply Kd.R_alloc | apply Kd.R_drewN | apply Kd.R_drew)); exact HO_4.out⟩, ⟨by repeat (first | (with_reducible first | exact HB.out | apply below_alloc | apply pw_below_drewN | apply below_drew1) | exact HB.out)⟩⟩
          case round =>
            clear H'
            try clear c1
            try clear p1
            try clear q1
            try clear hx1
            try clear qi1
            try clear c2
            try clear c2b0
            try clear c2b1
            try clear p2
            try clear c5
            try clear c6
            try clear c6b0
            try clear c6b1
            try clear c7
            try clear c7b0
            try clear c7b1
            try clear c9
            try clear c9b0
            try clear c9b1
            try clear c11
            try clear c11b0
            try clear c11b1
            try clear c13
            try clear hx147_0
            try clear p1
            try clear p147
            try clear p2
            try clear q1
            try clear q147
            obtain ⟨x5_2, rfl, HA, HK2, HO_4, HB⟩ := hrel
            cases gk with
            | zero => exact absurd HA.out (by simp [bursarref04_Split.l0])
            | succ k2 =>
              have H := HA.out
              clear HA
              simp only [bursarref04_Split.l0] at H
              by_cases c14 : x5_2 < (t144.length : Int)
              · rw [if_pos c14] at H
                have c14b0 : decide (x5_2 < (t144.length : Int)) = true := decide_eq_true c14
                clear c14
                by_cases c15 : 0 ≤ x5_2
                · rw [if_pos c15] at H
                  have c15b0 : decide (0 ≤ x5_2) = true := decide_eq_true c15
                  clear c15
                  replace H := Option.bind_eq_some_iff.mp H
                  obtain ⟨t149, A160, H⟩ := H
                  replace H : (if t149 = true then (bursarref04_Split.l0 k2 t144 (wrap64 (x5_2 + 1))) else (some (([] : List ByteArray), 41))) = some (r1, r2) := H
                  have A16 := Aside0.mk A160
                  clear A160
                  by_cases c17 : t149 = true
                  · subst c17
                    have H1 : (bursarref04_Split.l0 k2 t144 (wrap64 (x5_2 + 1))) = some (r1, r2) := by rw [if_pos rfl] at H; exact H
                    clear H
                    have H := H1
                    clear H1
                    have H' := Aside0.mk H
                    clear H
                    obtain ⟨Ao18, co18, eo18⟩ := Kd.R_slice HO_4.out
                    subst eo18
                    have p148 : 0 ≤ (x5_2 : Int) := of_decide_eq_true (by first | (with_reducible assumption) | assumption)
                    have q148 : x5_2 < (t144.length : Int) := of_decide_eq_true (by first | (with_reducible assumption) | assumption)
                    obtain ⟨ad148, e148, hx148_0⟩ := Kd.at_string (Kd.R_reads' HO_4.out).2.2 x5_2 p148 q148
                    cases e148
                    replace p148 := eq_true p148
                    replace q148 := eq_true q148
                    go_wp2_with (first | ((with_reducible refine gate_callee (f := 76) rfl ?_); refine goesL_ (some 40) rfl rfl Tryz.func76 (by kernel_rfl) rfl #[.string (rdOf ByteArray.empty t144 x5_2)] rfl (by (try simp only [List.map_toArray, List.map_cons, List.map_nil]); first | done | rfl | (simp only [List.length_drop, List.length_take]; rfl)) ?_; (with_reducible refine (bursarref04_Name.calls k2 (rdOf ByteArray.empty t144 x5_2) true _ A16.out).mono ?_); rintro e w' ⟨rfl, ⟨nd, rfl⟩⟩; refine ⟨_, rfl, ?_⟩))
                    go_roundg k2
                    case measure => have := HJ3.out; have := HK2.out; omega
                    case rel => exact ⟨(wrap64 (x5_2 + 1)), (by first | rfl | (simp; done) | (simp [*]; done) | (simp; rw [Bool.eq_iff_iff]; simp; done) | (rw [Bool.eq_iff_iff]; simp; done)), H', ⟨by have := HJ3.out; have := HK2.out; omega⟩, ⟨by (with_reducible repeat (first | apply Kd.R_alloc | apply Kd.R_drewN | apply Kd.R_drew)); exact HO_4.out⟩, ⟨by repeat (first | (with_reducible first | exact HB.out | apply below_alloc | apply pw_below_drewN | apply below_drew1) | exact HB.out)⟩⟩
                  · replace c17 := Bool.eq_false_iff.mpr c17
                    subst c17
                    have H1 : (some (([] : List ByteArray), 41)) = some (r1, r2) := by rw [if_neg (show ¬ (false = true) by decide)] at H; exact H
                    clear H
                    have H := H1
                    clear H1
                    simp only [Option.some.injEq, Prod.mk.injEq] at H
                    obtain ⟨rfl, rfl⟩ := H
                    obtain ⟨Ao19, co19, eo19⟩ := Kd.R_slice HO_4.out
                    subst eo19
                    have p148 : 0 ≤ (x5_2 : Int) := of_decide_eq_true (by first | (with_reducible assumption) | assumption)
                    have q148 : x5_2 < (t144.length : Int) := of_decide_eq_true (by first | (with_reducible assumption) | assumption)
                    obtain ⟨ad148, e148, hx148_0⟩ := Kd.at_string (Kd.R_reads' HO_4.out).2.2 x5_2 p148 q148
                    cases e148
                    replace p148 := eq_true p148
                    replace q148 := eq_true q148
                    go_wp2_with (first | ((with_reducible refine gate_callee (f := 76) rfl ?_); refine goesL_ (some 40) rfl rfl Tryz.func76 (by kernel_rfl) rfl #[.string (rdOf ByteArray.empty t144 x5_2)] rfl (by (try simp only [List.map_toArray, List.map_cons, List.map_nil]); first | done | rfl | (simp only [List.length_drop, List.length_take]; rfl)) ?_; (with_reducible refine (bursarref04_Name.calls k2 (rdOf ByteArray.empty t144 x5_2) false _ A16.out).mono ?_); rintro e w' ⟨rfl, ⟨nd, rfl⟩⟩; refine ⟨_, rfl, ?_⟩))
                    go_ret2
                    exact ⟨_, by first | rfl | (simp [errW_none, errW_some] <;> rfl) | (simp [*, errW_none, errW_some] <;> rfl), Kd.Q_of_R (by first | exact Kd.R_nil _ _ _ _ _ | exact Kd.N_nil _ _ _ _ _ | exact Kd.V_nil _ _ _ _ _ | exact Kd.Q_nil _ _ _ _ _ | exact Kd.S_nil _ _ _ _ _), by repeat (first | (with_reducible first | exact HB.out | apply below_alloc | apply pw_below_drewN | apply below_drew1) | exact HB.out)⟩
                · rw [if_neg c15] at H
                  exact absurd H (by simp)
              · rw [if_neg c14] at H
                have c14b0 : decide (x5_2 < (t144.length : Int)) = false := decide_eq_false c14
                clear c14
                by_cases c20 : 1 ≤ (t144.length : Int)
                · rw [if_pos c20] at H
                  have c20b0 := eq_true c20
                  have c20b1 : decide (1 ≤ (t144.length : Int)) = true := decide_eq_true c20
                  clear c20
                  obtain ⟨y150, hy150⟩ : ∃ y_ : List ByteArray, y_ = (t144.drop (1 : Int).toNat) := ⟨_, rfl⟩
                  replace H : (some (y150, 0)) = some (r1, r2) := by first | (rw [hy150]; with_reducible exact H) | (have H2_ := (Option.bind_some _ _).symm.trans H; rw [hy150]; with_reducible exact H2_) | (have H2_ := (Option.bind_some _ _).symm.trans H; with_reducible exact H2_) | with_reducible exact H | (rw [hy150]; exact H) | exact H
                  have Ny150 := Aside0.mk hy150
                  clear hy150
                  simp only [Option.some.injEq, Prod.mk.injEq] at H
                  obtain ⟨rfl, rfl⟩ := H
                  obtain ⟨Ao21, co21, eo21⟩ := Kd.R_slice HO_4.out
                  subst eo21
                  have q22 : (1 : Int) ≤ ((t144.length : Int) : Int) := of_decide_eq_true (by first | (with_reducible assumption) | assumption)
                  obtain ⟨i022, hi022, _, hsz22, _⟩ := info_parts info9
                  have hcut22 := cut_from (P := Tryz.prog) 49 9 .i64 Tryz.underlying49 hi022 1 hsz22 Ao21 t144.length co21 1 (by omega) q22
                  have hr22 := Kd.Q_drop (k := (1 : Int).toNat) (Kd.Q_of_R HO_4.out) (by omega)
                  obtain ⟨A22, hA22⟩ : ∃ A1, A1 = (if co21 = (1 : Int).toNat then Ao21 else (Ao21 : Option Addr).map (·.add ((1 : Int).toNat * 1))) := ⟨_, rfl⟩
                  obtain ⟨c22, hc22⟩ : ∃ c1, c1 = co21 - (1 : Int).toNat := ⟨_, rfl⟩
                  have hy22 : y150.length = t144.length - (1 : Int).toNat := (by rw [Ny150.out, List.length_drop])
                  rw [← Ny150.out] at hr22
                  rw [← hy22, ← hA22, ← hc22] at hcut22
                  replace hr22 : Kd.Q Kd.string 9 wr w.heap.size (fun _ => True) (.slice A22 y150.length c22) y150 := (by rw [hA22, hc22, hy22]; exact hr22)
                  have HE22 : Aside0 ((Value.slice A22 y150.length c22).ownBlock = (.slice Ao21 t144.length co21 : Value).ownBlock) := ⟨by rw [hA22]; split <;> (cases (Ao21 : Option Addr) <;> rfl)⟩
                  clear hy22 hi022 hsz22 HO_4 hA22 hc22
                  have HO152 := Aside0.mk hr22
                  clear hr22
                  replace q22 := eq_true q22
                  go_wp2
                  go_ret2
                  exact ⟨_, by first | rfl | (simp [errW_none, errW_some] <;> rfl) | (simp [*, errW_none, errW_some] <;> rfl), by (with_reducible repeat (first | apply Kd.Q_alloc | apply Kd.Q_drewN | apply Kd.Q_drew)); exact HO152.out, by repeat (first | (with_reducible first | exact HB.out | apply below_alloc | apply pw_below_drewN | apply below_drew1) | exact HB.out)⟩
                · rw [if_neg c20] at H
                  exact absurd H (by simp)
end Go.Proofs.YtphddbijdfmpjaaGreatDoor.Q
namespace Go.Proofs.YtphddbijdfmpjaaGreatDoor.Q
open Go.RowKit Go.Proofs.YtphddbijdfmpjaaGreatDoorW.PrintWords Go.Proofs.YtphddbijdfmpjaaGreatDoorW.PrintLast Go.Proofs.YtphddbijdfmpjaaGreatDoor.Pl
set_option linter.unusedVariables false
set_option linter.unusedSimpArgs false
theorem nstep (k : Nat) (s : ByteArray) (i : Nat) (h : i < s.size) : bursarref04_Name.l0 (k + 1) s (i : Int) = if okByte (s[i]'h) = true then bursarref04_Name.l0 k s (wrap64 ((i : Int) + 1)) else some false := by
  have hb := bt_get s i h
  have hok := ok_iff (s[i]'h)
  rw [plB_iff, hb] at hok
  simp only [bursarref04_Name.l0]
  rw [if_pos (by omega), if_pos (by omega)]
  by_cases ho : okByte (s[i]'h) = true
  · rw [if_pos ho]
    have := hok.1 ho
    repeat' split
    all_goals first | rfl | (exfalso; omega)
  · rw [if_neg ho]
    have hn := fun h => ho (hok.2 h)
    repeat' split
    all_goals first | rfl | (exfalso; exact hn (by omega))
theorem nloop (s : ByteArray) (hs : s.size ≤ 1048576) (d : Nat) : ∀ i : Nat, i + d = s.size → Ev (fun k => bursarref04_Name.l0 k s (i : Int)) ((s.data.toList.drop i).all okByte) := by
  induction d with
  | zero =>
    intro i hi
    refine Ev.step (f := fun _ => some true) (fun k => ?_) ?_
    · simp only [bursarref04_Name.l0]; rw [if_neg (by omega)]
    · rw [List.drop_of_length_le (by rw [size_list]; omega)]; exact Ev.now true
  | succ d ih =>
    intro i hi
    have hlt : i < s.size := by omega
    have hl : i < s.data.toList.length := by rw [size_list]; exact hlt
    have hd : s.data.toList.drop i = s[i]'hlt :: s.data.toList.drop (i + 1) := List.drop_eq_getElem_cons hl
    rw [hd, List.all_cons]
    cases ho : okByte (s[i]'hlt) with
    | true =>
      rw [Bool.true_and]
      refine Ev.step (fun k => ?_) (ih (i + 1) (by omega))
      rw [nstep k s i hlt, if_pos ho, w64 i (by omega)]
    | false =>
      refine Ev.step (f := fun _ => some false) (fun k => ?_) (Ev.now false)
      rw [nstep k s i hlt, if_neg (by rw [ho]; decide)]
theorem name_ev (s : ByteArray) : Ev (fun k => bursarref04_Name.f k s) (nameB s) := by
  have hfalse : Ev (fun k => bursarref04_Name.j0 k s true) false := Ev.step (f := fun _ => some false) (fun k => by simp [bursarref04_Name.j0]) (Ev.now false)
  by_cases h1 : s.size < 1
  · rw [nameB_false (.inl h1)]
    refine Ev.congr (f := fun k => bursarref04_Name.j0 k s true) (fun k => ?_) hfalse
    unfold bursarref04_Name.f; rw [if_pos (by omega)]
  by_cases h2 : 32 < s.size
  · rw [nameB_false (.inr (.inl h2))]
    refine Ev.congr (f := fun k => bursarref04_Name.j0 k s true) (fun k => ?_) hfalse
    unfold bursarref04_Name.f; rw [if_neg (by omega), if_pos (by omega)]
  by_cases h3 : bt s 0 = 45
  · rw [nameB_false (.inr (.inr (.inl h3)))]
    refine Ev.congr (f := fun k => bursarref04_Name.j0 k s true) (fun k => ?_) hfalse
    unfold bursarref04_Name.f; rw [if_neg (by omega), if_neg (by omega), if_pos (by omega), if_pos h3]
  have hw : wrap64 ((s.size : Int) - 1) = (s.size : Int) - 1 := by unfold wrap64; omega
  by_cases h4 : bt s ((s.size : Int) - 1) = 45
  · rw [nameB_false (.inr (.inr (.inr (.inl h4))))]
    refine Ev.congr (f := fun k => bursarref04_Name.j0 k s true) (fun k => ?_) hfalse
    unfold bursarref04_Name.f
    rw [if_neg (by omega), if_neg (by omega), if_pos (by omega), if_neg h3, hw, if_pos (by omega), if_pos (by omega), h4]; rfl
  have hv : nameB s = s.data.toList.all okByte := by
    cases h : s.data.toList.all okByte with
    | true => exact nameB_true (by omega) (by omega) h3 h4 h
    | false => exact nameB_false (.inr (.inr (.inr (.inr h))))
  rw [hv]
  refine Ev.congr (f := fun k => bursarref04_Name.j0 k s false) (fun k => ?_) ?_
  · unfold bursarref04_Name.f
    have e : (bt s ((s.size : Int) - 1) == 45) = false := by rw [beq_eq_false_iff_ne]; exact h4
    rw [if_neg (by omega), if_neg (by omega), if_pos (by omega), if_neg h3, hw, if_pos (by omega), if_pos (by omega), e]
  · refine Ev.step (f := fun k => bursarref04_Name.l0 k s 0) (fun k => by simp [bursarref04_Name.j0]) ?_
    exact nloop s (by omega) s.size 0 (by omega)
theorem ploop (s : ByteArray) (c : UInt8) (hs : s.size ≤ 1048576) (d : Nat) : ∀ (i f : Nat) (acc : List ByteArray), i + d = s.size → f ≤ i → acc.length ≤ i →
    Ev (fun k => bursarref04_pieces.l0 k s (c.toNat : Int) acc (f : Int) (i : Int)) (acc ++ (rest c s f i).map toB) := by
  induction d with
  | zero =>
    intro i f acc hi hf ha
    refine Ev.step (f := fun k => bursarref04_pieces.l0 k s (c.toNat : Int) (acc ++ [s.extract f i]) (((i + 1 : Nat)) : Int) (((i + 1 : Nat)) : Int)) (fun k => ?_) ?_
    · simp only [bursarref04_pieces.l0]
      rw [if_pos (by omega), if_pos (by omega), if_pos (by omega), if_pos (by omega), if_pos (by omega), w64 i (by omega), Int.toNat_natCast, Int.toNat_natCast]
    · refine Ev.step (f := fun _ => some (acc ++ [s.extract f i])) (fun k => ?_) ?_
      · simp only [bursarref04_pieces.l0]; rw [if_neg (by omega)]
      · have e : rest c s f i = [(s.data.toList.take i).drop f] := by
          unfold rest
          rw [List.drop_of_length_le (by rw [size_list]; omega)]
          simp [pcs]
        rw [e, List.map_cons, List.map_nil, ← ext_list, toB_of]
        exact Ev.now _
  | succ d ih =>
    intro i f acc hi hf ha
    have hlt : i < s.size := by omega
    have hb := bt_get s i hlt
    by_cases hc : s[i]'hlt = c
    · have e : rest c s f i = ((s.data.toList.take i).drop f) :: rest c s (i + 1) (i + 1) := by
        unfold rest
        rw [drop_cons s i hlt, hc, pcs_hit]
        cases hp : pcs c (s.data.toList.drop (i + 1)) with
        | nil => exact absurd hp (pcs_ne _ _)
        | cons p r => simp [hp]
      refine Ev.step (f := fun k => bursarref04_pieces.l0 k s (c.toNat : Int) (acc ++ [s.extract f i]) (((i + 1 : Nat)) : Int) (((i + 1 : Nat)) : Int)) (fun k => ?_) ?_
      · simp only [bursarref04_pieces.l0]
        rw [if_pos (by omega), if_neg (by omega), if_pos (by omega), if_pos (by omega), if_pos (by rw [← hb, hc]), if_pos (by omega), if_pos (by omega), if_pos (by omega), w64 i (by omega), Int.toNat_natCast, Int.toNat_natCast]
      · rw [e, List.map_cons, ← ext_list, toB_of]
        have := ih (i + 1) (i + 1) (acc ++ [s.extract f i]) (by omega) (by omega) (by simp; omega)
        simpa using this
    · have e : rest c s f i = rest c s f (i + 1) := by
        obtain ⟨p, r, h1, h2⟩ := pcs_cons c (s[i]'hlt) (s.data.toList.drop (i + 1)) hc
        unfold rest
        rw [drop_cons s i hlt, h2, h1, take_drop_succ s f i hf hlt]
        simp
      rw [e]
      refine Ev.step (fun k => ?_) (ih (i + 1) f acc (by omega) (by omega) (by omega))
      have hne : ¬ bt s (i : Int) = (c.toNat : Int) := fun h => hc (by rw [← hb] at h; exact UInt8.toNat_inj.1 (by omega))
      simp only [bursarref04_pieces.l0]
      rw [if_pos (by omega), if_neg (by omega), if_pos (by omega), if_pos (by omega), if_neg hne, w64 i (by omega)]
theorem pieces_ev (s : ByteArray) (c : UInt8) (hs : s.size ≤ 1048576) : Ev (fun k => bursarref04_pieces.f k s (c.toNat : Int)) ((pcs c s.data.toList).map toB) := by
  have h := ploop s c hs s.size 0 0 [] (by omega) (by omega) (by simp)
  have e : rest c s 0 0 = pcs c s.data.toList := by
    unfold rest
    simp only [List.drop_zero, List.take_zero]
    cases hp : pcs c s.data.toList with
    | nil => exact absurd hp (pcs_ne _ _)
    | cons p r => simp
  rw [e, List.nil_append] at h
  exact h
theorem rsloop (l : List (List UInt8)) (hl : l.length ≤ 2000000) (h1 : 1 ≤ l.length) (d : Nat) : ∀ i : Nat, i + d = l.length → 1 ≤ i →
    Ev (fun k => bursarref04_Split.l0 k (l.map toB) (i : Int)) (if (l.drop i).all nameL = true then ((l.drop 1).map toB, 0) else ([], 41)) := by
  induction d with
  | zero =>
    intro i hi _
    rw [List.drop_of_length_le (by omega)]
    refine Ev.step (f := fun _ => some ((l.drop 1).map toB, 0)) (fun k => ?_) (Ev.now _)
    simp only [bursarref04_Split.l0]
    rw [if_neg (by simp; omega), if_pos (by simp; omega)]
    simp
  | succ d ih =>
    intro i hi h0
    have hlt : i < l.length := by omega
    rw [drop_at l i hlt, List.all_cons]
    refine Ev.step (fun k => ?_) (Ev.bind (name_ev (toB l[i])) (f := fun k t => if t = true then bursarref04_Split.l0 k (l.map toB) ((i + 1 : Nat) : Int) else some ([], 41)) ?_)
    · simp only [bursarref04_Split.l0]
      rw [if_pos (by simp; omega), if_pos (by omega), rd_map l i hlt, w64 i (by omega)]
    · show Ev (fun k => if nameL l[i] = true then _ else _) _
      cases hn : nameL l[i] with
      | true =>
        have := ih (i + 1) (by omega) (by omega)
        simpa using this
      | false => simpa using Ev.now (([], 41) : List ByteArray × Int)
theorem splitS_long (s : ByteArray) (hr : s.data.toList ≠ [47]) (h : s.size > 64) : splitS s = ([], 41) := by
  unfold splitS
  rw [if_neg hr]
  cases hl : s.data.toList with
  | nil => rfl
  | cons c r => exact if_neg (fun h' => by omega)
theorem refSplit_ev (s : ByteArray) (hs : s.size ≤ 1048576) : Ev (fun k => bursarref04_Split.f k s) (splitS s) := by
  have hbad : ∀ l, Ev (fun k => bursarref04_Split.j0 k l true) ([], 41) := fun l => Ev.step (f := fun _ => some ([], 41)) (fun k => by simp [bursarref04_Split.j0]) (Ev.now _)
  by_cases hr : s.data.toList = [47]
  · unfold splitS
    rw [if_pos hr]
    refine Ev.congr (f := fun _ => some ([], 0)) (fun k => ?_) (Ev.now _)
    unfold bursarref04_Split.f; rw [if_pos (lit_list.2 hr)]
  have hp := pieces_ev s 47 hs
  have hlen := pcs_length_le 47 s.data.toList
  rw [size_list] at hlen
  refine Ev.congr (f := fun k => (bursarref04_pieces.f k s 47).bind fun t => if (s.size : Int) > 64 then bursarref04_Split.j0 k t true else if (t.length : Int) < 2 then bursarref04_Split.j0 k t true else if (t.length : Int) > 9 then bursarref04_Split.j0 k t true else if 0 < (t.length : Int) then bursarref04_Split.j0 k t ((rdOf ByteArray.empty t 0).toList != ([] : List UInt8)) else none) (fun k => ?_) ?_
  · unfold bursarref04_Split.f; rw [if_neg (fun h => hr (lit_list.1 h))]
  refine Ev.bind hp ?_
  simp only [List.length_map]
  by_cases h64 : s.size > 64
  · rw [splitS_long s hr h64]
    refine Ev.congr (fun k => ?_) (hbad ((pcs 47 s.data.toList).map toB))
    rw [if_pos (by omega)]
  unfold splitS
  rw [if_neg hr]
  cases hl : s.data.toList with
  | nil =>
    refine Ev.congr (fun k => ?_) (hbad ((pcs 47 []).map toB))
    rw [if_neg (by omega), if_pos (by simp [pcs])]
  | cons c r =>
    by_cases hc : c = 47
    · subst hc
      rw [pcs_hit]
      have hn1 : 1 ≤ (pcs 47 r).length := by
        cases h : pcs 47 r with
        | nil => exact absurd h (pcs_ne _ _)
        | cons _ _ => simp
      by_cases h8 : (pcs 47 r).length ≤ 8
      · have h := rsloop ([] :: pcs 47 r) (by simp; omega) (by simp) (pcs 47 r).length 1 (by simp; omega) (by omega)
        simp only [List.drop_succ_cons, List.drop_zero] at h
        have e : (if (47 : UInt8) = 47 ∧ s.size ≤ 64 ∧ (pcs 47 r).length ≤ 8 ∧ (pcs 47 r).all nameL = true then ((pcs 47 r).map toB, (0 : Int)) else ([], 41)) = (if (pcs 47 r).all nameL = true then ((pcs 47 r).map toB, (0 : Int)) else ([], 41)) := by
          by_cases ha : (pcs 47 r).all nameL = true
          · rw [if_pos ⟨rfl, by omega, h8, ha⟩, if_pos ha]
          · rw [if_neg (fun h => ha h.2.2.2), if_neg ha]
        show Ev _ (if (47 : UInt8) = 47 ∧ s.size ≤ 64 ∧ (pcs 47 r).length ≤ 8 ∧ (pcs 47 r).all nameL = true then ((pcs 47 r).map toB, (0 : Int)) else ([], 41))
        rw [e]
        refine Ev.congr (f := fun k => bursarref04_Split.j0 k (([] :: pcs 47 r).map toB) false) (fun k => ?_) (Ev.step (fun k => ?_) h)
        · have e0 : ((rdOf ByteArray.empty (([] :: pcs 47 r).map toB) 0).toList != ([] : List UInt8)) = false := by
            have := rd_map ([] :: pcs 47 r) 0 (by simp)
            rw [show (0 : Int) = ((0 : Nat) : Int) from rfl, this, ByteArray.toList_eq]
            rfl
          rw [if_neg (by omega), if_neg (by simp; omega), if_neg (by simp; omega), if_pos (by simp), e0]
        · simp [bursarref04_Split.j0]
      · show Ev _ (if (47 : UInt8) = 47 ∧ s.size ≤ 64 ∧ (pcs 47 r).length ≤ 8 ∧ (pcs 47 r).all nameL = true then ((pcs 47 r).map toB, (0 : Int)) else ([], 41))
        rw [if_neg (fun h => h8 h.2.2.1)]
        refine Ev.congr (fun k => ?_) (hbad (([] :: pcs 47 r).map toB))
        rw [if_neg (by omega), if_neg (by simp; omega), if_pos (by simp; omega)]
    · show Ev _ (if c = 47 ∧ s.size ≤ 64 ∧ (pcs 47 r).length ≤ 8 ∧ (pcs 47 r).all nameL = true then ((pcs 47 r).map toB, (0 : Int)) else ([], 41))
      rw [if_neg (fun h => hc h.1)]
      obtain ⟨p, q, h1, h2⟩ := pcs_cons 47 c r hc
      rw [h2]
      by_cases hq2 : ((c :: p) :: q).length < 2
      · refine Ev.congr (fun k => ?_) (hbad (((c :: p) :: q).map toB))
        rw [if_neg (by omega), if_pos (by omega)]
      by_cases hq9 : ((c :: p) :: q).length > 9
      · refine Ev.congr (fun k => ?_) (hbad (((c :: p) :: q).map toB))
        rw [if_neg (by omega), if_neg (by omega), if_pos (by omega)]
      · refine Ev.congr (fun k => ?_) (hbad (((c :: p) :: q).map toB))
        have e0 : ((rdOf ByteArray.empty (((c :: p) :: q).map toB) 0).toList != ([] : List UInt8)) = true := by
          have := rd_map ((c :: p) :: q) 0 (by simp)
          rw [show (0 : Int) = ((0 : Nat) : Int) from rfl, this, ByteArray.toList_eq]
          rfl
        rw [if_neg (by omega), if_neg (by omega), if_neg (by omega), if_pos (by simp), e0]
end Go.Proofs.YtphddbijdfmpjaaGreatDoor.Q
namespace Go.Proofs.YtphddbijdfmpjaaGreatDoor.Q
open Go.RowKit Go.Proofs.YtphddbijdfmpjaaGreatDoorW.PrintWords Go.Proofs.YtphddbijdfmpjaaGreatDoorW.PrintLast Go.Proofs.YtphddbijdfmpjaaGreatDoorW.PrintMore
attribute [local go_sem] binOp_leq_ binOp_gtr_ binOp_geq_ max2_int min2_int max_two min_two max_three min_three max_four min_four   -- for this text's walks alone
set_option linter.unusedVariables false
set_option linter.unusedSimpArgs false
mutual
def bursarref17_Ahead.l0 : Nat → List ByteArray → List ByteArray → Int → Option (Bool)
  | 0, _, _, _ => none
  | k + 1, x5, x7, x9 => if x9 < (x5.length : Int) then (bursarref17_Ahead.j1 k x5 x7 x9 (decide (x9 < (x7.length : Int)))) else (bursarref17_Ahead.j1 k x5 x7 x9 false)
def bursarref17_Ahead.j1 : Nat → List ByteArray → List ByteArray → Int → Bool → Option (Bool)
  | 0, _, _, _, _ => none
  | k + 1, x5, x7, x9, x29 => if x29 = true then (if 0 ≤ x9 then (if x9 < (x5.length : Int) then (if x9 < (x7.length : Int) then (if (rdOf ByteArray.empty x5 x9).toList = (rdOf ByteArray.empty x7 x9).toList then (bursarref17_Ahead.l0 k x5 x7 (wrap64 (x9 + 1))) else (some (Op.bytesLess ((rdOf ByteArray.empty x5 x9).toList) ((rdOf ByteArray.empty x7 x9).toList)))) else (none)) else (none)) else (none)) else (some (decide ((x5.length : Int) < (x7.length : Int))))
end
def bursarref17_Ahead.f (k : Nat) (a0 : ByteArray) (a1 : ByteArray) : Option (Bool) := (bursarref04_Split.f k a0).bind fun bt153 => ((bursarref04_Split.f k a1).bind fun bt157 => (bursarref17_Ahead.l0 k bt153.1 bt157.1 0))
theorem bursarref17_Ahead.mono_l : ∀ k, (∀ y0 y1 y2, LeO (bursarref17_Ahead.l0 k y0 y1 y2) (bursarref17_Ahead.l0 (k + 1) y0 y1 y2)) ∧ (∀ y0 y1 y2 y3, LeO (bursarref17_Ahead.j1 k y0 y1 y2 y3) (bursarref17_Ahead.j1 (k + 1) y0 y1 y2 y3))
  | 0 => ⟨fun _ _ _ r h => by simp [bursarref17_Ahead.l0] at h, fun _ _ _ _ r h => by simp [bursarref17_Ahead.j1] at h⟩
  | k + 1 => by
    obtain ⟨ih0, ih1⟩ := bursarref17_Ahead.mono_l k
    refine ⟨?_, ?_⟩
    · intro y0 y1 y2
      unfold bursarref17_Ahead.l0
      repeat' first
      | (with_reducible exact ih0 _ _ _)
      | (with_reducible exact ih1 _ _ _ _)
      | (with_reducible exact bursarref04_Split.mono _ _)
      | (with_reducible exact LeO.refl _)
      | (with_reducible exact LeO.none _)
      | (with_reducible refine LeO.ite ?_ ?_)
      | (with_reducible refine LeO.bind ?_ (fun _ => ?_))
      | exact ih0 _ _ _
      | exact ih1 _ _ _ _
      | exact bursarref04_Split.mono _ _
      | exact LeO.none _
      | refine LeO.ite ?_ ?_
      | refine LeO.bind ?_ (fun _ => ?_)
    · intro y0 y1 y2 y3
      unfold bursarref17_Ahead.j1
      repeat' first
      | (with_reducible exact ih0 _ _ _)
      | (with_reducible exact ih1 _ _ _ _)
      | (with_reducible exact bursarref04_Split.mono _ _)
      | (with_reducible exact LeO.refl _)
      | (with_reducible exact LeO.none _)
      | (with_reducible refine LeO.ite ?_ ?_)
      | (with_reducible refine LeO.bind ?_ (fun _ => ?_))
      | exact ih0 _ _ _
      | exact ih1 _ _ _ _
      | exact bursarref04_Split.mono _ _
      | exact LeO.none _
      | refine LeO.ite ?_ ?_
      | refine LeO.bind ?_ (fun _ => ?_)
theorem bursarref17_Ahead.mono : ∀ a0 a1 k, LeO (bursarref17_Ahead.f k a0 a1) (bursarref17_Ahead.f (k + 1) a0 a1) := by
  intro a0 a1 k
  obtain ⟨ih0, ih1⟩ := bursarref17_Ahead.mono_l k
  unfold bursarref17_Ahead.f
  repeat' first
      | (with_reducible exact ih0 _ _ _)
      | (with_reducible exact ih1 _ _ _ _)
      | (with_reducible exact bursarref04_Split.mono _ _)
      | (with_reducible exact LeO.refl _)
      | (with_reducible exact LeO.none _)
      | (with_reducible refine LeO.ite ?_ ?_)
      | (with_reducible refine LeO.bind ?_ (fun _ => ?_))
      | exact ih0 _ _ _
      | exact ih1 _ _ _ _
      | exact bursarref04_Split.mono _ _
      | exact LeO.none _
      | refine LeO.ite ?_ ?_
      | refine LeO.bind ?_ (fun _ => ?_)
set_option maxHeartbeats 8000000 in
set_option maxRecDepth 100000 in
theorem bursarref17_Ahead.calls (k : Nat) (a0 : ByteArray) (a1 : ByteArray) (r : Bool) (w : World) (h : bursarref17_Ahead.f k a0 a1 = some r) :
    Calls Tryz.prog 33 #[.string a0, .string a1] w fun e w' => e = .returned (.bool r) ∧ Below w.heap.size w w' := by
  have HB := Aside0.mk (Below.refl w.heap.size w)
  have H : ((bursarref04_Split.f k a0).bind fun bt153 => ((bursarref04_Split.f k a1).bind fun bt157 => (bursarref17_Ahead.l0 k bt153.1 bt157.1 0))) = some r := h
  clear h
  replace H := Option.bind_eq_some_iff.mp H
  obtain ⟨⟨t153, t154⟩, A30, H⟩ := H
  replace H : ((bursarref04_Split.f k a1).bind fun bt157 => (bursarref17_Ahead.l0 k t153 bt157.1 0)) = some r := H
  have A3 := Aside0.mk A30
  clear A30
  replace H := Option.bind_eq_some_iff.mp H
  obtain ⟨⟨t157, t158⟩, A40, H⟩ := H
  replace H : (bursarref17_Ahead.l0 k t153 t157 0) = some r := H
  have A4 := Aside0.mk A40
  clear A40
  have H' := Aside0.mk H
  clear H
  go_enter Tryz.func33, Tryz.ntmps33
  go_wp2_with (first | (go_at_call 52; (with_reducible refine (bursarref04_Split.calls k a0 t153 t154 _ A3.out).mono ?_); rintro e w5 ⟨v155, rfl, ho0, hb⟩; have n0_ := Aside0.mk (Kd.Q_lower ho0 (below_size (by repeat (first | (with_reducible first | exact HB.out | apply below_alloc | apply pw_below_drewN | apply below_drew1) | exact HB.out)))); have n1_ := Aside0.mk (below_step (by repeat (first | (with_reducible first | exact HB.out | apply below_alloc | apply pw_below_drewN | apply below_drew1) | exact HB.out)) hb); clear HB; have HO156 := n0_; have HB := n1_; clear n0_ n1_; (try clear hb); (try clear hb2); (try clear hk); (try clear hi); (try clear ho0)) | (go_at_call 52; (with_reducible refine (bursarref04_Split.calls k a1 t157 t158 _ A4.out).mono ?_); rintro e w6 ⟨v159, rfl, ho0, hb⟩; have n0_ := Aside0.mk (Kd.Q_elder' (by (with_reducible repeat (first | apply Kd.Q_alloc | apply Kd.Q_drewN | apply Kd.Q_drew)); exact HO156.out) (Kd.Q_base ho0) hb); have n1_ := Aside0.mk (Kd.Q_lower (Kd.Q_new' ho0 (Kd.Q_lt (by (with_reducible repeat (first | apply Kd.Q_alloc | apply Kd.Q_drewN | apply Kd.Q_drew)); exact HO156.out))) (below_size (by repeat (first | (with_reducible first | exact HB.out | apply below_alloc | apply pw_below_drewN | apply below_drew1) | exact HB.out)))); have n2_ := Aside0.mk (below_step (by repeat (first | (with_reducible first | exact HB.out | apply below_alloc | apply pw_below_drewN | apply below_drew1) | exact HB.out)) hb); clear HO156; clear HB; have HO156 := n0_; have HO160 := n1_; have HB := n2_; clear n0_ n1_ n2_; (try clear hb); (try clear hb2); (try clear hk); (try clear hi); (try clear ho0)))
  repeat (go_quiet (first | (go_at_call 52; (with_reducible refine (bursarref04_Split.calls k a0 t153 t154 _ A3.out).mono ?_); rintro e w5 ⟨v155, rfl, ho0, hb⟩; have n0_ := Aside0.mk (Kd.Q_lower ho0 (below_size (by repeat (first | (with_reducible first | exact HB.out | apply below_alloc | apply pw_below_drewN | apply below_drew1) | exact HB.out)))); have n1_ := Aside0.mk (below_step (by repeat (first | (with_reducible first | exact HB.out | apply below_alloc | apply pw_below_drewN | apply below_drew1) | exact HB.out)) hb); clear HB; have HO156 := n0_; have HB := n1_; clear n0_ n1_; (try clear hb); (try clear hb2); (try clear hk); (try clear hi); (try clear ho0)) | (go_at_call 52; (with_reducible refine (bursarref04_Split.calls k a1 t157 t158 _ A4.out).mono ?_); rintro e w6 ⟨v159, rfl, ho0, hb⟩; have n0_ := Aside0.mk (Kd.Q_elder' (by (with_reducible repeat (first | apply Kd.Q_alloc | apply Kd.Q_drewN | apply Kd.Q_drew)); exact HO156.out) (Kd.Q_base ho0) hb); have n1_ := Aside0.mk (Kd.Q_lower (Kd.Q_new' ho0 (Kd.Q_lt (by (with_reducible repeat (first | apply Kd.Q_alloc | apply Kd.Q_drewN | apply Kd.Q_drew)); exact HO156.out))) (below_size (by repeat (first | (with_reducible first | exact HB.out | apply below_alloc | apply pw_below_drewN | apply below_drew1) | exact HB.out)))); have n2_ := Aside0.mk (below_step (by repeat (first | (with_reducible first | exact HB.out | apply below_alloc | apply pw_below_drewN | apply below_drew1) | exact HB.out)) hb); clear HO156; clear HB; have HO156 := n0_; have HO160 := n1_; have HB := n2_; clear n0_ n1_ n2_; (try clear hb); (try clear hb2); (try clear hk); (try clear hi); (try clear ho0))); try go_wp2_with (first | (go_at_call 52; (with_reducible refine (bursarref04_Split.calls k a0 t153 t154 _ A3.out).mono ?_); rintro e w5 ⟨v155, rfl, ho0, hb⟩; have n0_ := Aside0.mk (Kd.Q_lower ho0 (below_size (by repeat (first | (with_reducible first | exact HB.out | apply below_alloc | apply pw_below_drewN | apply below_drew1) | exact HB.out)))); have n1_ := Aside0.mk (below_step (by repeat (first | (with_reducible first | exact HB.out | apply below_alloc | apply pw_below_drewN | apply below_drew1) | exact HB.out)) hb); clear HB; have HO156 := n0_; have HB := n1_; clear n0_ n1_; (try clear hb); (try clear hb2); (try clear hk); (try clear hi); (try clear ho0)) | (go_at_call 52; (with_reducible refine (bursarref04_Split.calls k a1 t157 t158 _ A4.out).mono ?_); rintro e w6 ⟨v159, rfl, ho0, hb⟩; have n0_ := Aside0.mk (Kd.Q_elder' (by (with_reducible repeat (first | apply Kd.Q_alloc | apply Kd.Q_drewN | apply Kd.Q_drew)); exact HO156.out) (Kd.Q_base ho0) hb); have n1_ := Aside0.mk (Kd.Q_lower (Kd.Q_new' ho0 (Kd.Q_lt (by (with_reducible repeat (first | apply Kd.Q_alloc | apply Kd.Q_drewN | apply Kd.Q_drew)); exact HO156.out))) (below_size (by repeat (first | (with_reducible first | exact HB.out | apply below_alloc | apply pw_below_drewN | apply below_drew1) | exact HB.out)))); have n2_ := Aside0.mk (below_step (by repeat (first | (with_reducible first | exact HB.out | apply below_alloc | apply pw_below_drewN | apply below_drew1) | exact HB.out)) hb); clear HO156; clear HB; have HO156 := n0_; have HO160 := n1_; have HB := n2_; clear n0_ n1_ n2_; (try clear hb); (try clear hb2); (try clear hk); (try clear hi); (try clear ho0))))
  go_loopg [9] k (fun kq v9 w' => ∃ (x9_1 : Int), v9 = .int .i64 x9_1 ∧ Aside0 (bursarref17_Ahead.l0 kq t153 t157 x9_1 = some r) ∧ Aside0 (kq ≤ k) ∧ Aside0 (Kd.Q Kd.string 9 w' w.heap.size (fun k_ => some k_ ≠ (v159 : Value).ownBlock) v155 t153) ∧ Aside0 (Kd.Q Kd.string 9 w' w.heap.size (fun k_ => some k_ ≠ (v155 : Value).ownBlock) v159 t157) ∧ Aside0 (Below w.heap.size w w'))
  case atStart => exact ⟨(0), (by first | rfl | (simp; done) | (simp [*]; done) | (simp; rw [Bool.eq_iff_iff]; simp; done) | (rw [Bool.eq_iff_iff]; simp; done)), H', ⟨Nat.le_refl _⟩, ⟨by (with_reducible repeat (first | apply Kd.Q_alloc | apply Kd.Q_drewN | apply Kd.Q_drew)); exact Kd.Q_mono HO156.out (fun _ hk => hk.2)⟩, ⟨by (with_reducible repeat (first | apply Kd.Q_alloc | apply Kd.Q_drewN | apply Kd.Q_drew)); exact Kd.Q_mono HO160.out (fun _ hk => hk.2)⟩, ⟨by repeat (first | (with_reducible first | exact HB.out | apply below_alloc | apply pw_below_drewN | apply below_drew1) | exact HB.out)⟩⟩
  case round =>
    clear H'
    try clear p2
    try clear c3
    obtain ⟨x9_1, rfl, HA, HK1, HO_5, HO_7, HB⟩ := hrel
    cases gk with
    | zero => exact absurd HA.out (by simp [bursarref17_Ahead.l0])
    | succ k1 =>
      have H := HA.out
      clear HA
      simp only [bursarref17_Ahead.l0] at H
      have HC7 := Aside0.mk H
      clear H
      go_upto_region 4 with (fail)
      repeat (go_quiet (fail); go_upto_region 4 with (fail))
      go_cut [29] (fun v29 wc => ∃ (kq : Nat) (x29_6 : Bool), v29 = .bool x29_6 ∧ Aside0 (bursarref17_Ahead.j1 kq t153 t157 x9_1 x29_6 = some r) ∧ Aside0 (kq ≤ k1) ∧ Aside0 (Kd.Q Kd.string 9 wc w.heap.size (fun k_ => some k_ ≠ (v159 : Value).ownBlock) v155 t153) ∧ Aside0 (Kd.Q Kd.string 9 wc w.heap.size (fun k_ => some k_ ≠ (v155 : Value).ownBlock) v159 t157) ∧ Aside0 (Below w.heap.size w wc))
      case first =>
        have H := HC7.out
        clear HC7
        by_cases c8 : x9_1 < (t153.length : Int)
        · rw [if_pos c8] at H
          have c8b0 : decide (x9_1 < (t153.length : Int)) = true := decide_eq_true c8
          clear c8
          (first | rw [c8b0] | (simp only [i64_w, i32_w]; rw [c8b0]) | skip)
          have H' := Aside0.mk H
          clear H
          obtain ⟨Ao9, co9, eo9, _⟩ := Kd.Q_slice HO_5.out
          subst eo9
          obtain ⟨Ao10, co10, eo10, _⟩ := Kd.Q_slice HO_7.out
          subst eo10
          go_wp2
          repeat (go_quiet (fail); try go_wp2)
          go_meet
          case rel => exact ⟨_, (decide (x9_1 < (t157.length : Int))), (by first | rfl | (simp; done) | (simp [*]; done) | (simp; rw [Bool.eq_iff_iff]; simp; done) | (rw [Bool.eq_iff_iff]; simp; done)), H', ⟨by have := HK1.out; first | omega | exact Nat.le_refl _⟩, ⟨by (with_reducible repeat (first | apply Kd.Q_alloc | apply Kd.Q_drewN | apply Kd.Q_drew)); exact HO_5.out⟩, ⟨by (with_reducible repeat (first | apply Kd.Q_alloc | apply Kd.Q_drewN | apply Kd.Q_drew)); exact HO_7.out⟩, ⟨by repeat (first | (with_reducible first | exact HB.out | apply below_alloc | apply pw_below_drewN | apply below_drew1) | exact HB.out)⟩⟩
        · rw [if_neg c8] at H
          have c8b0 : decide (x9_1 < (t153.length : Int)) = false := decide_eq_false c8
          clear c8
          (first | rw [c8b0] | (simp only [i64_w, i32_w]; rw [c8b0]) | skip)
          have H' := Aside0.mk H
          clear H
          obtain ⟨Ao11, co11, eo11, _⟩ := Kd.Q_slice HO_5.out
          subst eo11
          go_wp2
          repeat (go_quiet (fail); try go_wp2)
          go_meet
          case rel => exact ⟨_, (false), (by first | rfl | (simp; done) | (simp [*]; done) | (simp; rw [Bool.eq_iff_iff]; simp; done) | (rw [Bool.eq_iff_iff]; simp; done)), H', ⟨by have := HK1.out; first | omega | exact Nat.le_refl _⟩, ⟨by (with_reducible repeat (first | apply Kd.Q_alloc | apply Kd.Q_drewN | apply Kd.Q_drew)); exact HO_5.out⟩, ⟨by (with_reducible repeat (first | apply Kd.Q_alloc | apply Kd.Q_drewN | apply Kd.Q_drew)); exact HO_7.out⟩, ⟨by repeat (first | (with_reducible first | exact HB.out | apply below_alloc | apply pw_below_drewN | apply below_drew1) | exact HB.out)⟩⟩
      case rest =>
        clear HC7
        try clear p2
        try clear c3
        try clear c8
        try clear c8b0
        try clear p2
        obtain ⟨kq, x29_6, rfl, HA, HJ6, HO_5, HO_7, HB⟩ := hcut
        cases kq with
        | zero => exact absurd HA.out (by simp [bursarref17_Ahead.j1])
        | succ kj6 =>
          have H := HA.out
          clear HA
          simp only [bursarref17_Ahead.j1] at H
          by_cases c12 : x29_6 = true
          · subst c12
            have H1 : (if 0 ≤ x9_1 then (if x9_1 < (t153.length : Int) then (if x9_1 < (t157.length : Int) then (if (rdOf ByteArray.empty t153 x9_1).toList = (rdOf ByteArray.empty t157 x9_1).toList then (bursarref17_Ahead.l0 kj6 t153 t157 (wrap64 (x9_1 + 1))) else (some (Op.bytesLess ((rdOf ByteArray.empty t153 x9_1).toList) ((rdOf ByteArray.empty t157 x9_1).toList)))) else (none)) else (none)) else (none)) = some r := by rw [if_pos rfl] at H; exact H
            clear H
            have H := H1
            clear H1
            by_cases c13 : 0 ≤ x9_1
            · rw [if_pos c13] at H
              have c13b0 : decide (0 ≤ x9_1) = true := decide_eq_true c13
              clear c13
              by_cases c14 : x9_1 < (t153.length : Int)
              · rw [if_pos c14] at H
                have c14b0 : decide (x9_1 < (t153.length : Int)) = true := decide_eq_true c14
                clear c14
                by_cases c15 : x9_1 < (t157.length : Int)
                · rw [if_pos c15] at H
                  have c15b0 : decide (x9_1 < (t157.length : Int)) = true := decide_eq_true c15
                  clear c15
                  by_cases c16 : (rdOf ByteArray.empty t153 x9_1).toList = (rdOf ByteArray.empty t157 x9_1).toList
                  · rw [if_pos c16] at H
                    have c16b0 : ((rdOf ByteArray.empty t153 x9_1).toList == (rdOf ByteArray.empty t157 x9_1).toList) = true := beq_iff_eq.mpr c16
                    have c16b1 : ((rdOf ByteArray.empty t153 x9_1).toList != (rdOf ByteArray.empty t157 x9_1).toList) = false := bne_eq_false_iff_eq.mpr c16
                    clear c16
                    have H' := Aside0.mk H
                    clear H
                    obtain ⟨Ao17, co17, eo17, _⟩ := Kd.Q_slice HO_5.out
                    subst eo17
                    have p161 : 0 ≤ (x9_1 : Int) := of_decide_eq_true (by first | (with_reducible assumption) | assumption)
                    have q161 : x9_1 < (t153.length : Int) := of_decide_eq_true (by first | (with_reducible assumption) | assumption)
                    obtain ⟨ad161, e161, hx161_0⟩ := Kd.at_string (Kd.Q_reads' HO_5.out).2.2 x9_1 p161 q161
                    cases e161
                    replace p161 := eq_true p161
                    replace q161 := eq_true q161
                    obtain ⟨Ao18, co18, eo18, _⟩ := Kd.Q_slice HO_7.out
                    subst eo18
                    have p162 : 0 ≤ (x9_1 : Int) := of_decide_eq_true (by first | (with_reducible assumption) | assumption)
                    have q162 : x9_1 < (t157.length : Int) := of_decide_eq_true (by first | (with_reducible assumption) | assumption)
                    obtain ⟨ad162, e162, hx162_0⟩ := Kd.at_string (Kd.Q_reads' HO_7.out).2.2 x9_1 p162 q162
                    cases e162
                    replace p162 := eq_true p162
                    replace q162 := eq_true q162
                    go_wp2
                    repeat (go_quiet (fail); try go_wp2)
                    go_roundg kj6
                    case measure => have := HK1.out; have := HJ6.out; omega
                    case rel => exact ⟨(wrap64 (x9_1 + 1)), (by first | rfl | (simp; done) | (simp [*]; done) | (simp; rw [Bool.eq_iff_iff]; simp; done) | (rw [Bool.eq_iff_iff]; simp; done)), H', ⟨by have := HK1.out; have := HJ6.out; omega⟩, ⟨by (with_reducible repeat (first | apply Kd.Q_alloc | apply Kd.Q_drewN | apply Kd.Q_drew)); exact HO_5.out⟩, ⟨by (with_reducible repeat (first | apply Kd.Q_alloc | apply Kd.Q_drewN | apply Kd.Q_drew)); exact HO_7.out⟩, ⟨by repeat (first | (with_reducible first | exact HB.out | apply below_alloc | apply pw_below_drewN | apply below_drew1) | exact HB.out)⟩⟩
                  · rw [if_neg c16] at H
                    have c16b0 : ((rdOf ByteArray.empty t153 x9_1).toList == (rdOf ByteArray.empty t157 x9_1).toList) = false := beq_eq_false_iff_ne.mpr c16
                    have c16b1 : ((rdOf ByteArray.empty t153 x9_1).toList != (rdOf ByteArray.empty t157 x9_1).toList) = true := bne_iff_ne.mpr c16
                    obtain rfl := Option.some.inj H
                    obtain ⟨Ao19, co19, eo19, _⟩ := Kd.Q_slice HO_5.out
                    subst eo19
                    have p161 : 0 ≤ (x9_1 : Int) := of_decide_eq_true (by first | (with_reducible assumption) | assumption)
                    have q161 : x9_1 < (t153.length : Int) := of_decide_eq_true (by first | (with_reducible assumption) | assumption)
                    obtain ⟨ad161, e161, hx161_0⟩ := Kd.at_string (Kd.Q_reads' HO_5.out).2.2 x9_1 p161 q161
                    cases e161
                    replace p161 := eq_true p161
                    replace q161 := eq_true q161
                    obtain ⟨Ao20, co20, eo20, _⟩ := Kd.Q_slice HO_7.out
                    subst eo20
                    have p162 : 0 ≤ (x9_1 : Int) := of_decide_eq_true (by first | (with_reducible assumption) | assumption)
                    have q162 : x9_1 < (t157.length : Int) := of_decide_eq_true (by first | (with_reducible assumption) | assumption)
                    obtain ⟨ad162, e162, hx162_0⟩ := Kd.at_string (Kd.Q_reads' HO_7.out).2.2 x9_1 p162 q162
                    cases e162
                    replace p162 := eq_true p162
                    replace q162 := eq_true q162
                    have p163 : 0 ≤ (x9_1 : Int) := of_decide_eq_true (by first | (with_reducible assumption) | assumption)
                    have q163 : x9_1 < (t153.length : Int) := of_decide_eq_true (by first | (with_reducible assumption) | assumption)
                    obtain ⟨ad163, e163, hx163_0⟩ := Kd.at_string (Kd.Q_reads' HO_5.out).2.2 x9_1 p163 q163
                    obtain rfl : ad161 = ad163 := (by injection e163)
                    replace p163 := eq_true p163
                    replace q163 := eq_true q163
                    have p164 : 0 ≤ (x9_1 : Int) := of_decide_eq_true (by first | (with_reducible assumption) | assumption)
                    have q164 : x9_1 < (t157.length : Int) := of_decide_eq_true (by first | (with_reducible assumption) | assumption)
                    obtain ⟨ad164, e164, hx164_0⟩ := Kd.at_string (Kd.Q_reads' HO_7.out).2.2 x9_1 p164 q164
                    obtain rfl : ad162 = ad164 := (by injection e164)
                    replace p164 := eq_true p164
                    replace q164 := eq_true q164
                    go_wp2
                    repeat (go_quiet (fail); try go_wp2)
                    go_ret
                    exact ⟨by first | rfl | (simp [errW_none, errW_some] <;> rfl) | (simp [*, errW_none, errW_some] <;> rfl), by repeat (first | (with_reducible first | exact HB.out | apply below_alloc | apply pw_below_drewN | apply below_drew1) | exact HB.out)⟩
                · rw [if_neg c15] at H
                  exact absurd H (by simp)
              · rw [if_neg c14] at H
                exact absurd H (by simp)
            · rw [if_neg c13] at H
              exact absurd H (by simp)
          · replace c12 := Bool.eq_false_iff.mpr c12
            subst c12
            have H1 : (some (decide ((t153.length : Int) < (t157.length : Int)))) = some r := by rw [if_neg (show ¬ (false = true) by decide)] at H; exact H
            clear H
            have H := H1
            clear H1
            obtain rfl := Option.some.inj H
            obtain ⟨Ao21, co21, eo21, _⟩ := Kd.Q_slice HO_5.out
            subst eo21
            obtain ⟨Ao22, co22, eo22, _⟩ := Kd.Q_slice HO_7.out
            subst eo22
            go_wp2
            repeat (go_quiet (fail); try go_wp2)
            go_ret
            exact ⟨by first | rfl | (simp [errW_none, errW_some] <;> rfl) | (simp [*, errW_none, errW_some] <;> rfl), by repeat (first | (with_reducible first | exact HB.out | apply below_alloc | apply pw_below_drewN | apply below_drew1) | exact HB.out)⟩
end Go.Proofs.YtphddbijdfmpjaaGreatDoor.Q
namespace Go.Proofs.YtphddbijdfmpjaaGreatDoor.Q
open Go.RowKit Go.Proofs.YtphddbijdfmpjaaGreatDoorW.PrintWords Go.Proofs.YtphddbijdfmpjaaGreatDoorW.PrintLast Go.Proofs.YtphddbijdfmpjaaGreatDoorW.PrintMore
attribute [local go_sem] max2_int min2_int max_two min_two max_three min_three max_four min_four   -- for this text's walks alone
set_option linter.unusedVariables false
set_option linter.unusedSimpArgs false
def bursarref04_Path.f (k : Nat) (a0 : ByteArray) : Option (Int) := (bursarref04_Split.f k a0).bind fun bt165 => (some bt165.2)
theorem bursarref04_Path.mono : ∀ a0 k, LeO (bursarref04_Path.f k a0) (bursarref04_Path.f (k + 1) a0) := by
  intro a0 k
  unfold bursarref04_Path.f
  repeat' first
      | (with_reducible exact bursarref04_Split.mono _ _)
      | (with_reducible exact LeO.refl _)
      | (with_reducible exact LeO.none _)
      | (with_reducible refine LeO.ite ?_ ?_)
      | (with_reducible refine LeO.bind ?_ (fun _ => ?_))
      | exact bursarref04_Split.mono _ _
      | exact LeO.none _
      | refine LeO.ite ?_ ?_
      | refine LeO.bind ?_ (fun _ => ?_)
set_option maxHeartbeats 8000000 in
set_option maxRecDepth 100000 in
theorem bursarref04_Path.calls (k : Nat) (a0 : ByteArray) (r : Int) (w : World) (h : bursarref04_Path.f k a0 = some r) :
    Calls Tryz.prog 35 #[.string a0] w fun e w' => e = .returned (.int .i64 r) ∧ Below w.heap.size w w' := by
  have HB := Aside0.mk (Below.refl w.heap.size w)
  have H : ((bursarref04_Split.f k a0).bind fun bt165 => (some bt165.2)) = some r := h
  clear h
  replace H := Option.bind_eq_some_iff.mp H
  obtain ⟨⟨t165, t166⟩, A20, H⟩ := H
  replace H : (some t166) = some r := H
  have A2 := Aside0.mk A20
  clear A20
  obtain rfl := Option.some.inj H
  go_enter Tryz.func35, Tryz.ntmps35
  go_wp2_with (first | ((with_reducible refine gate_callee (f := 52) rfl ?_); refine goesL_ (some 7) rfl rfl Tryz.func52 (by kernel_rfl) rfl #[.string a0] rfl (by (try simp only [List.map_toArray, List.map_cons, List.map_nil]); first | done | rfl | (simp only [List.length_drop, List.length_take]; rfl)) ?_; (with_reducible refine (bursarref04_Split.calls k a0 t165 t166 _ A2.out).mono ?_); rintro e w3 ⟨v167, rfl, ho0, hb⟩; refine ⟨_, rfl, ?_⟩; have n0_ := Aside0.mk (Kd.Q_lower ho0 (below_size (by repeat (first | (with_reducible first | exact HB.out | apply below_alloc | apply pw_below_drewN | apply below_drew1) | exact HB.out)))); have n1_ := Aside0.mk (below_step (by repeat (first | (with_reducible first | exact HB.out | apply below_alloc | apply pw_below_drewN | apply below_drew1) | exact HB.out)) hb); clear HB; have HO168 := n0_; have HB := n1_; clear n0_ n1_; (try clear hb); (try clear hb2); (try clear hk); (try clear hi); (try clear ho0)))
  go_ret
  exact ⟨by first | rfl | (simp [errW_none, errW_some] <;> rfl) | (simp [*, errW_none, errW_some] <;> rfl), by repeat (first | (with_reducible first | exact HB.out | apply below_alloc | apply pw_below_drewN | apply below_drew1) | exact HB.out)⟩
end Go.Proofs.YtphddbijdfmpjaaGreatDoor.Q
namespace Go.Proofs.YtphddbijdfmpjaaGreatDoor.Q
open Go.RowKit Go.Proofs.YtphddbijdfmpjaaGreatDoorW.PrintWords Go.Proofs.YtphddbijdfmpjaaGreatDoorW.PrintLast Go.Proofs.YtphddbijdfmpjaaGreatDoorW.PrintMore
attribute [local go_sem] max2_int min2_int max_two min_two max_three min_three max_four min_four   -- for this text's walks alone
set_option linter.unusedVariables false
set_option linter.unusedSimpArgs false
def bursarref13_named.f (k : Nat) (a0 : ByteArray) (a1 : ByteArray) : Option (Bool) := (bursarref04_Path.f k a0).bind fun t169 => (if t169 = 0 then ((bursarref04_Name.f k a1).bind fun t170 => (some t170)) else (some false))
theorem bursarref13_named.mono : ∀ a0 a1 k, LeO (bursarref13_named.f k a0 a1) (bursarref13_named.f (k + 1) a0 a1) := by
  intro a0 a1 k
  unfold bursarref13_named.f
  repeat' first
      | (with_reducible exact bursarref04_Name.mono _ _)
      | (with_reducible exact bursarref04_Path.mono _ _)
      | (with_reducible exact LeO.refl _)
      | (with_reducible exact LeO.none _)
      | (with_reducible refine LeO.ite ?_ ?_)
      | (with_reducible refine LeO.bind ?_ (fun _ => ?_))
      | exact bursarref04_Name.mono _ _
      | exact bursarref04_Path.mono _ _
      | exact LeO.none _
      | refine LeO.ite ?_ ?_
      | refine LeO.bind ?_ (fun _ => ?_)
set_option maxHeartbeats 8000000 in
set_option maxRecDepth 100000 in
theorem bursarref13_named.calls (k : Nat) (a0 : ByteArray) (a1 : ByteArray) (r : Bool) (w : World) (h : bursarref13_named.f k a0 a1 = some r) :
    Calls Tryz.prog 75 #[.string a0, .string a1] w fun e w' => e = .returned (.bool r) ∧ Below w.heap.size w w' := by
  have HB := Aside0.mk (Below.refl w.heap.size w)
  have H : ((bursarref04_Path.f k a0).bind fun t169 => (if t169 = 0 then ((bursarref04_Name.f k a1).bind fun t170 => (some t170)) else (some false))) = some r := h
  clear h
  replace H := Option.bind_eq_some_iff.mp H
  obtain ⟨t169, A30, H⟩ := H
  replace H : (if t169 = 0 then ((bursarref04_Name.f k a1).bind fun t170 => (some t170)) else (some false)) = some r := H
  have A3 := Aside0.mk A30
  clear A30
  by_cases c4 : t169 = 0
  · rw [if_pos c4] at H
    have c4b0 : (t169 == 0) = true := beq_iff_eq.mpr c4
    have c4b1 : (t169 != 0) = false := bne_eq_false_iff_eq.mpr c4
    clear c4
    replace H := Option.bind_eq_some_iff.mp H
    obtain ⟨t170, A50, H⟩ := H
    replace H : (some t170) = some r := H
    have A5 := Aside0.mk A50
    clear A50
    obtain rfl := Option.some.inj H
    go_enter Tryz.func75, Tryz.ntmps75
    go_wp2_with (first | ((with_reducible refine gate_callee (f := 35) rfl ?_); refine goesL_ (some 7) rfl rfl Tryz.func35 (by kernel_rfl) rfl #[.string a0] rfl (by (try simp only [List.map_toArray, List.map_cons, List.map_nil]); first | done | rfl | (simp only [List.length_drop, List.length_take]; rfl)) ?_; (with_reducible refine (bursarref04_Path.calls k a0 t169 _ A3.out).mono ?_); rintro e w6 ⟨rfl, hb⟩; refine ⟨_, rfl, ?_⟩; have n0_ := Aside0.mk (below_step (by repeat (first | (with_reducible first | exact HB.out | apply below_alloc | apply pw_below_drewN | apply below_drew1) | exact HB.out)) hb); clear HB; have HB := n0_; clear n0_; (try clear hb); (try clear hb2); (try clear hk); (try clear hi)) | (go_at_call 76; (with_reducible refine (bursarref04_Name.calls k a1 t170 _ A5.out).mono ?_); rintro e w' ⟨rfl, ⟨nd, rfl⟩⟩))
    go_ret
    exact ⟨by first | rfl | (simp [errW_none, errW_some] <;> rfl) | (simp [*, errW_none, errW_some] <;> rfl), by repeat (first | (with_reducible first | exact HB.out | apply below_alloc | apply pw_below_drewN | apply below_drew1) | exact HB.out)⟩
  · rw [if_neg c4] at H
    have c4b0 : (t169 == 0) = false := beq_eq_false_iff_ne.mpr c4
    have c4b1 : (t169 != 0) = true := bne_iff_ne.mpr c4
    obtain rfl := Option.some.inj H
    go_enter Tryz.func75, Tryz.ntmps75
    go_wp2_with (first | ((with_reducible refine gate_callee (f := 35) rfl ?_); refine goesL_ (some 7) rfl rfl Tryz.func35 (by kernel_rfl) rfl #[.string a0] rfl (by (try simp only [List.map_toArray, List.map_cons, List.map_nil]); first | done | rfl | (simp only [List.length_drop, List.length_take]; rfl)) ?_; (with_reducible refine (bursarref04_Path.calls k a0 t169 _ A3.out).mono ?_); rintro e w7 ⟨rfl, hb⟩; refine ⟨_, rfl, ?_⟩; have n0_ := Aside0.mk (below_step (by repeat (first | (with_reducible first | exact HB.out | apply below_alloc | apply pw_below_drewN | apply below_drew1) | exact HB.out)) hb); clear HB; have HB := n0_; clear n0_; (try clear hb); (try clear hb2); (try clear hk); (try clear hi)))
    go_ret
    exact ⟨by first | rfl | (simp [errW_none, errW_some] <;> rfl) | (simp [*, errW_none, errW_some] <;> rfl), by repeat (first | (with_reducible first | exact HB.out | apply below_alloc | apply pw_below_drewN | apply below_drew1) | exact HB.out)⟩
end Go.Proofs.YtphddbijdfmpjaaGreatDoor.Q
