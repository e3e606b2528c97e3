/- What the statement AccessApartUptoCardSaid rests on, part 4 of 5: walks and plain laws; what of the printer's words it leans on. -/
import Derived.Test.YtphddbijdfmpjaaDoorProg
import Derived.Test.YtphddbijdfmpjaaDoorMAP3
import Derived.ProofKit
import Derived.Shelf.SlGeneric
import Derived.Shelf.SlSortCmp.WholeK
import Derived.Ground.SlsfProg
import Derived.Ground.NamesProg
import Derived.Shelf.SlSortCmp.NoneTotal
import Derived.Lib.SlicesCompact
namespace Go.Proofs.YtphddbijdfmpjaaDoor.Q
open Go.RowKit Go.Proofs.YtphddbijdfmpjaaDoorW.PrintWords Go.Proofs.YtphddbijdfmpjaaDoorW.PrintLast Go.Proofs.YtphddbijdfmpjaaDoorW.PrintMore
attribute [local go_sem] max2_int min2_int max_two min_two max_three min_three max_four min_four   -- for this text's walks alone
set_option linter.unusedVariables false
set_option linter.unusedSimpArgs false
def object_formedBinding.f (k : Nat) (a0_0 : ByteArray) (a0_1 : ByteArray) (a0_2 : ByteArray) (a0_3 : Int) : Option (Bool) := (label_Path.f k a0_0).bind fun t135 => (if t135 = 0 then ((label_Name.f a0_1).bind fun t136 => (if t136 = true then ((label_Name.f a0_2).bind fun t137 => (if t137 = true then (if a0_3 ≥ 0 then (some (decide (a0_3 ≤ 3))) else (some false)) else (some false))) else (some false))) else (some false))
theorem object_formedBinding.mono : ∀ a0 a1 a2 a3 k, LeO (object_formedBinding.f k a0 a1 a2 a3) (object_formedBinding.f (k + 1) a0 a1 a2 a3) := by
  intro a0 a1 a2 a3 k
  unfold object_formedBinding.f
  repeat' first
      | (with_reducible exact label_Path.mono _ _)
      | (with_reducible exact LeO.refl _)
      | (with_reducible exact LeO.none _)
      | (with_reducible refine LeO.ite ?_ ?_)
      | (with_reducible refine LeO.bind ?_ (fun _ => ?_))
      | exact label_Path.mono _ _
      | exact LeO.none _
      | refine LeO.ite ?_ ?_
      | refine LeO.bind ?_ (fun _ => ?_)
set_option maxHeartbeats 8000000 in
set_option maxRecDepth 100000 in
theorem object_formedBinding.calls (k : Nat) (a0_0 : ByteArray) (a0_1 : ByteArray) (a0_2 : ByteArray) (a0_3 : Int) (r : Bool) (w : World) (h : object_formedBinding.f k a0_0 a0_1 a0_2 a0_3 = some r) (hG : Glob w) :
    Calls Tryd.prog 66 #[.agg #[.string a0_0, .string a0_1, .string a0_2, .int .i64 a0_3]] w fun e w' => e = .returned (.bool r) ∧ Below w.heap.size w w' := by
  have hu27 := Tryd.underlying27
  have HB := Aside0.mk (Below.refl w.heap.size w)
  have H : ((label_Path.f k a0_0).bind fun t135 => (if t135 = 0 then ((label_Name.f a0_1).bind fun t136 => (if t136 = true then ((label_Name.f a0_2).bind fun t137 => (if t137 = true then (if a0_3 ≥ 0 then (some (decide (a0_3 ≤ 3))) else (some false)) else (some false))) else (some false))) else (some false))) = some r := h
  clear h
  replace H := Option.bind_eq_some_iff.mp H
  obtain ⟨t135, A20, H⟩ := H
  replace H : (if t135 = 0 then ((label_Name.f a0_1).bind fun t136 => (if t136 = true then ((label_Name.f a0_2).bind fun t137 => (if t137 = true then (if a0_3 ≥ 0 then (some (decide (a0_3 ≤ 3))) else (some false)) else (some false))) else (some false))) else (some false)) = some r := H
  have A2 := Aside0.mk A20
  clear A20
  by_cases c3 : t135 = 0
  · rw [if_pos c3] at H
    have c3b0 : (t135 == 0) = true := beq_iff_eq.mpr c3
    have c3b1 : (t135 != 0) = false := bne_eq_false_iff_eq.mpr c3
    clear c3
    replace H := Option.bind_eq_some_iff.mp H
    obtain ⟨t136, A40, H⟩ := H
    replace H : (if t136 = true then ((label_Name.f a0_2).bind fun t137 => (if t137 = true then (if a0_3 ≥ 0 then (some (decide (a0_3 ≤ 3))) else (some false)) else (some false))) else (some false)) = some r := H
    have A4 := Aside0.mk A40
    clear A40
    by_cases c5 : t136 = true
    · subst c5
      have H1 : ((label_Name.f a0_2).bind fun t137 => (if t137 = true then (if a0_3 ≥ 0 then (some (decide (a0_3 ≤ 3))) else (some false)) else (some false))) = some r := by rw [if_pos rfl] at H; exact H
      clear H
      have H := H1
      clear H1
      replace H := Option.bind_eq_some_iff.mp H
      obtain ⟨t137, A60, H⟩ := H
      replace H : (if t137 = true then (if a0_3 ≥ 0 then (some (decide (a0_3 ≤ 3))) else (some false)) else (some false)) = some r := H
      have A6 := Aside0.mk A60
      clear A60
      by_cases c7 : t137 = true
      · subst c7
        have H1 : (if a0_3 ≥ 0 then (some (decide (a0_3 ≤ 3))) else (some false)) = some r := by rw [if_pos rfl] at H; exact H
        clear H
        have H := H1
        clear H1
        by_cases c8 : a0_3 ≥ 0
        · rw [if_pos c8] at H
          have c8b0 : decide (0 ≤ a0_3) = true := decide_eq_true c8
          clear c8
          obtain rfl := Option.some.inj H
          go_enter Tryd.func66, Tryd.ntmps66
          go_wp2_with (first | ((with_reducible refine gate_dst (N := 1) rfl ?_); refine box_event ?hg (N := 1) ?hd (cs := #[.string a0_0, .string a0_1, .string a0_2, .int .i64 a0_3]) (t := 27) ?hr ?_; (case hd => rfl); (case hg => rfl); (case hr => first | (go_simp; done) | (go_simp; rfl)); intro gb134 hg w9 hbox hb; have n0_ := Aside0.mk (below_step (by repeat (first | (with_reducible first | exact HB.out | apply below_alloc | apply pw_below_drewN | apply below_drew1) | exact HB.out)) hb); have n1_ := Aside0.mk (hbox); have n2_ := Aside0.mk ((by rw [hg]; exact (below_size (by repeat (first | (with_reducible first | exact HB.out | apply below_alloc | apply pw_below_drewN | apply below_drew1) | exact HB.out))) : w.heap.size ≤ gb134)); have n3_ := Aside0.mk ((by rw [hg]; exact (below_size (by repeat (first | (with_reducible first | exact HB.out | apply below_alloc | apply pw_below_drewN | apply below_drew1) | exact HB.out))) : w.heap.size ≤ gb134)); clear HB; have HB := n0_; have BK134 := n1_; have GW134 := n2_; have GE134 := n3_; clear n0_ n1_ n2_ n3_; clear hb hbox hg; have hcz10_0 : w9.cell? ⟨gb134, 0, none⟩ = some (.string a0_0) := (blk_cell BK134.out 0).trans rfl; have hcz10_1 : w9.cell? ⟨gb134, 1, none⟩ = some (.string a0_1) := (blk_cell BK134.out 1).trans rfl; have hcz10_2 : w9.cell? ⟨gb134, 2, none⟩ = some (.string a0_2) := (blk_cell BK134.out 2).trans rfl; have hcz10_3 : w9.cell? ⟨gb134, 3, none⟩ = some (.int .i64 a0_3) := (blk_cell BK134.out 3).trans rfl; have hfz10_0 := blk_frozen BK134.out 0; have hfz10_1 := blk_frozen BK134.out 1; have hfz10_2 := blk_frozen BK134.out 2; have hfz10_3 := blk_frozen BK134.out 3) | ((with_reducible refine gate_callee (f := 19) rfl ?_); refine goesL_ (some 5) rfl rfl Tryd.func19 (by kernel_rfl) rfl #[.string a0_0] rfl (by (try simp only [List.map_toArray, List.map_cons, List.map_nil]); first | done | rfl | (simp only [List.length_drop, List.length_take]; rfl)) ?_; (with_reducible refine (label_Path.calls k a0_0 t135 _ A2.out (Glob.below hG (by repeat (first | (with_reducible first | exact HB.out | apply below_alloc | apply pw_below_drewN | apply below_drew1) | exact HB.out)))).mono ?_); rintro e w11 ⟨rfl, hb⟩; refine ⟨_, rfl, ?_⟩; have n0_ := Aside0.mk (blk_below (g := gb134) (o := .cells #[.string a0_0, .string a0_1, .string a0_2, .int .i64 a0_3] 27 (0, 0)) (by (with_reducible repeat (first | refine blk_drewN ?_ _ | refine blk_drew ?_ | refine blk_alloc ?_ _)); exact BK134.out) hb); have n1_ := Aside0.mk (below_step (by repeat (first | (with_reducible first | exact HB.out | apply below_alloc | apply pw_below_drewN | apply below_drew1 | refine below_set ?_ GE134.out) | exact HB.out)) hb); clear BK134; clear HB; have BK134 := n0_; have HB := n1_; clear n0_ n1_; (try clear hb); (try clear hb2); (try clear hk); (try clear hi); have hcz12_0 : w11.cell? ⟨gb134, 0, none⟩ = some (.string a0_0) := (blk_cell BK134.out 0).trans rfl; have hcz12_1 : w11.cell? ⟨gb134, 1, none⟩ = some (.string a0_1) := (blk_cell BK134.out 1).trans rfl; have hcz12_2 : w11.cell? ⟨gb134, 2, none⟩ = some (.string a0_2) := (blk_cell BK134.out 2).trans rfl; have hcz12_3 : w11.cell? ⟨gb134, 3, none⟩ = some (.int .i64 a0_3) := (blk_cell BK134.out 3).trans rfl; have hfz12_0 := blk_frozen BK134.out 0; have hfz12_1 := blk_frozen BK134.out 1; have hfz12_2 := blk_frozen BK134.out 2; have hfz12_3 := blk_frozen BK134.out 3) | (go_at_call 61; (with_reducible refine (label_Name.calls a0_1 true _ A4.out).mono ?_); rintro e w13 ⟨rfl, hb⟩; have n0_ := Aside0.mk (blk_below (g := gb134) (o := .cells #[.string a0_0, .string a0_1, .string a0_2, .int .i64 a0_3] 27 (0, 0)) (by (with_reducible repeat (first | refine blk_drewN ?_ _ | refine blk_drew ?_ | refine blk_alloc ?_ _)); exact BK134.out) hb); have n1_ := Aside0.mk (below_step (by repeat (first | (with_reducible first | exact HB.out | apply below_alloc | apply pw_below_drewN | apply below_drew1 | refine below_set ?_ GE134.out) | exact HB.out)) hb); clear BK134; clear HB; have BK134 := n0_; have HB := n1_; clear n0_ n1_; (try clear hb); (try clear hb2); (try clear hk); (try clear hi); have hcz14_0 : w13.cell? ⟨gb134, 0, none⟩ = some (.string a0_0) := (blk_cell BK134.out 0).trans rfl; have hcz14_1 : w13.cell? ⟨gb134, 1, none⟩ = some (.string a0_1) := (blk_cell BK134.out 1).trans rfl; have hcz14_2 : w13.cell? ⟨gb134, 2, none⟩ = some (.string a0_2) := (blk_cell BK134.out 2).trans rfl; have hcz14_3 : w13.cell? ⟨gb134, 3, none⟩ = some (.int .i64 a0_3) := (blk_cell BK134.out 3).trans rfl; have hfz14_0 := blk_frozen BK134.out 0; have hfz14_1 := blk_frozen BK134.out 1; have hfz14_2 := blk_frozen BK134.out 2; have hfz14_3 := blk_frozen BK134.out 3) | (go_at_call 61; (with_reducible refine (label_Name.calls a0_2 true _ A6.out).mono ?_); rintro e w15 ⟨rfl, hb⟩; have n0_ := Aside0.mk (blk_below (g := gb134) (o := .cells #[.string a0_0, .string a0_1, .string a0_2, .int .i64 a0_3] 27 (0, 0)) (by (with_reducible repeat (first | refine blk_drewN ?_ _ | refine blk_drew ?_ | refine blk_alloc ?_ _)); exact BK134.out) hb); have n1_ := Aside0.mk (below_step (by repeat (first | (with_reducible first | exact HB.out | apply below_alloc | apply pw_below_drewN | apply below_drew1 | refine below_set ?_ GE134.out) | exact HB.out)) hb); clear BK134; clear HB; have BK134 := n0_; have HB := n1_; clear n0_ n1_; (try clear hb); (try clear hb2); (try clear hk); (try clear hi); have hcz16_0 : w15.cell? ⟨gb134, 0, none⟩ = some (.string a0_0) := (blk_cell BK134.out 0).trans rfl; have hcz16_1 : w15.cell? ⟨gb134, 1, none⟩ = some (.string a0_1) := (blk_cell BK134.out 1).trans rfl; have hcz16_2 : w15.cell? ⟨gb134, 2, none⟩ = some (.string a0_2) := (blk_cell BK134.out 2).trans rfl; have hcz16_3 : w15.cell? ⟨gb134, 3, none⟩ = some (.int .i64 a0_3) := (blk_cell BK134.out 3).trans rfl; have hfz16_0 := blk_frozen BK134.out 0; have hfz16_1 := blk_frozen BK134.out 1; have hfz16_2 := blk_frozen BK134.out 2; have hfz16_3 := blk_frozen BK134.out 3))
          go_ret
          exact ⟨by first | rfl | (simp [errW_none, errW_some] <;> rfl) | (simp [*, errW_none, errW_some] <;> rfl), by repeat (first | (with_reducible first | exact HB.out | apply below_alloc | apply pw_below_drewN | apply below_drew1 | refine below_set ?_ GE134.out) | exact HB.out)⟩
        · rw [if_neg c8] at H
          have c8b0 : decide (0 ≤ a0_3) = false := decide_eq_false c8
          clear c8
          obtain rfl := Option.some.inj H
          go_enter Tryd.func66, Tryd.ntmps66
          go_wp2_with (first | ((with_reducible refine gate_dst (N := 1) rfl ?_); refine box_event ?hg (N := 1) ?hd (cs := #[.string a0_0, .string a0_1, .string a0_2, .int .i64 a0_3]) (t := 27) ?hr ?_; (case hd => rfl); (case hg => rfl); (case hr => first | (go_simp; done) | (go_simp; rfl)); intro gb134 hg w17 hbox hb; have n0_ := Aside0.mk (below_step (by repeat (first | (with_reducible first | exact HB.out | apply below_alloc | apply pw_below_drewN | apply below_drew1) | exact HB.out)) hb); have n1_ := Aside0.mk (hbox); have n2_ := Aside0.mk ((by rw [hg]; exact (below_size (by repeat (first | (with_reducible first | exact HB.out | apply below_alloc | apply pw_below_drewN | apply below_drew1) | exact HB.out))) : w.heap.size ≤ gb134)); have n3_ := Aside0.mk ((by rw [hg]; exact (below_size (by repeat (first | (with_reducible first | exact HB.out | apply below_alloc | apply pw_below_drewN | apply below_drew1) | exact HB.out))) : w.heap.size ≤ gb134)); clear HB; have HB := n0_; have BK134 := n1_; have GW134 := n2_; have GE134 := n3_; clear n0_ n1_ n2_ n3_; clear hb hbox hg; have hcz18_0 : w17.cell? ⟨gb134, 0, none⟩ = some (.string a0_0) := (blk_cell BK134.out 0).trans rfl; have hcz18_1 : w17.cell? ⟨gb134, 1, none⟩ = some (.string a0_1) := (blk_cell BK134.out 1).trans rfl; have hcz18_2 : w17.cell? ⟨gb134, 2, none⟩ = some (.string a0_2) := (blk_cell BK134.out 2).trans rfl; have hcz18_3 : w17.cell? ⟨gb134, 3, none⟩ = some (.int .i64 a0_3) := (blk_cell BK134.out 3).trans rfl; have hfz18_0 := blk_frozen BK134.out 0; have hfz18_1 := blk_frozen BK134.out 1; have hfz18_2 := blk_frozen BK134.out 2; have hfz18_3 := blk_frozen BK134.out 3) | ((with_reducible refine gate_callee (f := 19) rfl ?_); refine goesL_ (some 5) rfl rfl Tryd.func19 (by kernel_rfl) rfl #[.string a0_0] rfl (by (try simp only [List.map_toArray, List.map_cons, List.map_nil]); first | done | rfl | (simp only [List.length_drop, List.length_take]; rfl)) ?_; (with_reducible refine (label_Path.calls k a0_0 t135 _ A2.out (Glob.below hG (by repeat (first | (with_reducible first | exact HB.out | apply below_alloc | apply pw_below_drewN | apply below_drew1) | exact HB.out)))).mono ?_); rintro e w19 ⟨rfl, hb⟩; refine ⟨_, rfl, ?_⟩; have n0_ := Aside0.mk (blk_below (g := gb134) (o := .cells #[.string a0_0, .string a0_1, .string a0_2, .int .i64 a0_3] 27 (0, 0)) (by (with_reducible repeat (first | refine blk_drewN ?_ _ | refine blk_drew ?_ | refine blk_alloc ?_ _)); exact BK134.out) hb); have n1_ := Aside0.mk (below_step (by repeat (first | (with_reducible first | exact HB.out | apply below_alloc | apply pw_below_drewN | apply below_drew1 | refine below_set ?_ GE134.out) | exact HB.out)) hb); clear BK134; clear HB; have BK134 := n0_; have HB := n1_; clear n0_ n1_; (try clear hb); (try clear hb2); (try clear hk); (try clear hi); have hcz20_0 : w19.cell? ⟨gb134, 0, none⟩ = some (.string a0_0) := (blk_cell BK134.out 0).trans rfl; have hcz20_1 : w19.cell? ⟨gb134, 1, none⟩ = some (.string a0_1) := (blk_cell BK134.out 1).trans rfl; have hcz20_2 : w19.cell? ⟨gb134, 2, none⟩ = some (.string a0_2) := (blk_cell BK134.out 2).trans rfl; have hcz20_3 : w19.cell? ⟨gb134, 3, none⟩ = some (.int .i64 a0_3) := (blk_cell BK134.out 3).trans rfl; have hfz20_0 := blk_frozen BK134.out 0; have hfz20_1 := blk_frozen BK134.out 1; have hfz20_2 := blk_frozen BK134.out 2; have hfz20_3 := blk_frozen BK134.out 3) | (go_at_call 61; (with_reducible refine (label_Name.calls a0_1 true _ A4.out).mono ?_); rintro e w21 ⟨rfl, hb⟩; have n0_ := Aside0.mk (blk_below (g := gb134) (o := .cells #[.string a0_0, .string a0_1, .string a0_2, .int .i64 a0_3] 27 (0, 0)) (by (with_reducible repeat (first | refine blk_drewN ?_ _ | refine blk_drew ?_ | refine blk_alloc ?_ _)); exact BK134.out) hb); have n1_ := Aside0.mk (below_step (by repeat (first | (with_reducible first | exact HB.out | apply below_alloc | apply pw_below_drewN | apply below_drew1 | refine below_set ?_ GE134.out) | exact HB.out)) hb); clear BK134; clear HB; have BK134 := n0_; have HB := n1_; clear n0_ n1_; (try clear hb); (try clear hb2); (try clear hk); (try clear hi); have hcz22_0 : w21.cell? ⟨gb134, 0, none⟩ = some (.string a0_0) := (blk_cell BK134.out 0).trans rfl; have hcz22_1 : w21.cell? ⟨gb134, 1, none⟩ = some (.string a0_1) := (blk_cell BK134.out 1).trans rfl; have hcz22_2 : w21.cell? ⟨gb134, 2, none⟩ = some (.string a0_2) := (blk_cell BK134.out 2).trans rfl; have hcz22_3 : w21.cell? ⟨gb134, 3, none⟩ = some (.int .i64 a0_3) := (blk_cell BK134.out 3).trans rfl; have hfz22_0 := blk_frozen BK134.out 0; have hfz22_1 := blk_frozen BK134.out 1; have hfz22_2 := blk_frozen BK134.out 2; have hfz22_3 := blk_frozen BK134.out 3) | (go_at_call 61; (with_reducible refine (label_Name.calls a0_2 true _ A6.out).mono ?_); rintro e w23 ⟨rfl, hb⟩; have n0_ := Aside0.mk (blk_below (g := gb134) (o := .cells #[.string a0_0, .string a0_1, .string a0_2, .int .i64 a0_3] 27 (0, 0)) (by (with_reducible repeat (first | refine blk_drewN ?_ _ | refine blk_drew ?_ | refine blk_alloc ?_ _)); exact BK134.out) hb); have n1_ := Aside0.mk (below_step (by repeat (first | (with_reducible first | exact HB.out | apply below_alloc | apply pw_below_drewN | apply below_drew1 | refine below_set ?_ GE134.out) | exact HB.out)) hb); clear BK134; clear HB; have BK134 := n0_; have HB := n1_; clear n0_ n1_; (try clear hb); (try clear hb2); (try clear hk); (try clear hi); have hcz24_0 : w23.cell? ⟨gb134, 0, none⟩ = some (.string a0_0) := (blk_cell BK134.out 0).trans rfl; have hcz24_1 : w23.cell? ⟨gb134, 1, none⟩ = some (.string a0_1) := (blk_cell BK134.out 1).trans rfl; have hcz24_2 : w23.cell? ⟨gb134, 2, none⟩ = some (.string a0_2) := (blk_cell BK134.out 2).trans rfl; have hcz24_3 : w23.cell? ⟨gb134, 3, none⟩ = some (.int .i64 a0_3) := (blk_cell BK134.out 3).trans rfl; have hfz24_0 := blk_frozen BK134.out 0; have hfz24_1 := blk_frozen BK134.out 1; have hfz24_2 := blk_frozen BK134.out 2; have hfz24_3 := blk_frozen BK134.out 3))
          go_ret
          exact ⟨by first | rfl | (simp [errW_none, errW_some] <;> rfl) | (simp [*, errW_none, errW_some] <;> rfl), by repeat (first | (with_reducible first | exact HB.out | apply below_alloc | apply pw_below_drewN | apply below_drew1 | refine below_set ?_ GE134.out) | exact HB.out)⟩
      · replace c7 := Bool.eq_false_iff.mpr c7
        subst c7
        have H1 : (some false) = some r := by rw [if_neg (show ¬ (false = true) by decide)] at H; exact H
        clear H
        have H := H1
        clear H1
        obtain rfl := Option.some.inj H
        go_enter Tryd.func66, Tryd.ntmps66
        go_wp2_with (first | ((with_reducible refine gate_dst (N := 1) rfl ?_); refine box_event ?hg (N := 1) ?hd (cs := #[.string a0_0, .string a0_1, .string a0_2, .int .i64 a0_3]) (t := 27) ?hr ?_; (case hd => rfl); (case hg => rfl); (case hr => first | (go_simp; done) | (go_simp; rfl)); intro gb134 hg w25 hbox hb; have n0_ := Aside0.mk (below_step (by repeat (first | (with_reducible first | exact HB.out | apply below_alloc | apply pw_below_drewN | apply below_drew1) | exact HB.out)) hb); have n1_ := Aside0.mk (hbox); have n2_ := Aside0.mk ((by rw [hg]; exact (below_size (by repeat (first | (with_reducible first | exact HB.out | apply below_alloc | apply pw_below_drewN | apply below_drew1) | exact HB.out))) : w.heap.size ≤ gb134)); have n3_ := Aside0.mk ((by rw [hg]; exact (below_size (by repeat (first | (with_reducible first | exact HB.out | apply below_alloc | apply pw_below_drewN | apply below_drew1) | exact HB.out))) : w.heap.size ≤ gb134)); clear HB; have HB := n0_; have BK134 := n1_; have GW134 := n2_; have GE134 := n3_; clear n0_ n1_ n2_ n3_; clear hb hbox hg; have hcz26_0 : w25.cell? ⟨gb134, 0, none⟩ = some (.string a0_0) := (blk_cell BK134.out 0).trans rfl; have hcz26_1 : w25.cell? ⟨gb134, 1, none⟩ = some (.string a0_1) := (blk_cell BK134.out 1).trans rfl; have hcz26_2 : w25.cell? ⟨gb134, 2, none⟩ = some (.string a0_2) := (blk_cell BK134.out 2).trans rfl; have hcz26_3 : w25.cell? ⟨gb134, 3, none⟩ = some (.int .i64 a0_3) := (blk_cell BK134.out 3).trans rfl; have hfz26_0 := blk_frozen BK134.out 0; have hfz26_1 := blk_frozen BK134.out 1; have hfz26_2 := blk_frozen BK134.out 2; have hfz26_3 := blk_frozen BK134.out 3) | ((with_reducible refine gate_callee (f := 19) rfl ?_); refine goesL_ (some 5) rfl rfl Tryd.func19 (by kernel_rfl) rfl #[.string a0_0] rfl (by (try simp only [List.map_toArray, List.map_cons, List.map_nil]); first | done | rfl | (simp only [List.length_drop, List.length_take]; rfl)) ?_; (with_reducible refine (label_Path.calls k a0_0 t135 _ A2.out (Glob.below hG (by repeat (first | (with_reducible first | exact HB.out | apply below_alloc | apply pw_below_drewN | apply below_drew1) | exact HB.out)))).mono ?_); rintro e w27 ⟨rfl, hb⟩; refine ⟨_, rfl, ?_⟩; have n0_ := Aside0.mk (blk_below (g := gb134) (o := .cells #[.string a0_0, .string a0_1, .string a0_2, .int .i64 a0_3] 27 (0, 0)) (by (with_reducible repeat (first | refine blk_drewN ?_ _ | refine blk_drew ?_ | refine blk_alloc ?_ _)); exact BK134.out) hb); have n1_ := Aside0.mk (below_step (by repeat (first | (with_reducible first | exact HB.out | apply below_alloc | apply pw_below_drewN | apply below_drew1 | refine below_set ?_ GE134.out) | exact HB.out)) hb); clear BK134; clear HB; have BK134 := n0_; have HB := n1_; clear n0_ n1_; (try clear hb); (try clear hb2); (try clear hk); (try clear hi); have hcz28_0 : w27.cell? ⟨gb134, 0, none⟩ = some (.string a0_0) := (blk_cell BK134.out 0).trans rfl; have hcz28_1 : w27.cell? ⟨gb134, 1, none⟩ = some (.string a0_1) := (blk_cell BK134.out 1).trans rfl; have hcz28_2 : w27.cell? ⟨gb134, 2, none⟩ = some (.string a0_2) := (blk_cell BK134.out 2).trans rfl; have hcz28_3 : w27.cell? ⟨gb134, 3, none⟩ = some (.int .i64 a0_3) := (blk_cell BK134.out 3).trans rfl; have hfz28_0 := blk_frozen BK134.out 0; have hfz28_1 := blk_frozen BK134.out 1; have hfz28_2 := blk_frozen BK134.out 2; have hfz28_3 := blk_frozen BK134.out 3) | (go_at_call 61; (with_reducible refine (label_Name.calls a0_1 true _ A4.out).mono ?_); rintro e w29 ⟨rfl, hb⟩; have n0_ := Aside0.mk (blk_below (g := gb134) (o := .cells #[.string a0_0, .string a0_1, .string a0_2, .int .i64 a0_3] 27 (0, 0)) (by (with_reducible repeat (first | refine blk_drewN ?_ _ | refine blk_drew ?_ | refine blk_alloc ?_ _)); exact BK134.out) hb); have n1_ := Aside0.mk (below_step (by repeat (first | (with_reducible first | exact HB.out | apply below_alloc | apply pw_below_drewN | apply below_drew1 | refine below_set ?_ GE134.out) | exact HB.out)) hb); clear BK134; clear HB; have BK134 := n0_; have HB := n1_; clear n0_ n1_; (try clear hb); (try clear hb2); (try clear hk); (try clear hi); have hcz30_0 : w29.cell? ⟨gb134, 0, none⟩ = some (.string a0_0) := (blk_cell BK134.out 0).trans rfl; have hcz30_1 : w29.cell? ⟨gb134, 1, none⟩ = some (.string a0_1) := (blk_cell BK134.out 1).trans rfl; have hcz30_2 : w29.cell? ⟨gb134, 2, none⟩ = some (.string a0_2) := (blk_cell BK134.out 2).trans rfl; have hcz30_3 : w29.cell? ⟨gb134, 3, none⟩ = some (.int .i64 a0_3) := (blk_cell BK134.out 3).trans rfl; have hfz30_0 := blk_frozen BK134.out 0; have hfz30_1 := blk_frozen BK134.out 1; have hfz30_2 := blk_frozen BK134.out 2; have hfz30_3 := blk_frozen BK134.out 3) | (go_at_call 61; (with_reducible refine (label_Name.calls a0_2 false _ A6.out).mono ?_); rintro e w31 ⟨rfl, hb⟩; have n0_ := Aside0.mk (blk_below (g := gb134) (o := .cells #[.string a0_0, .string a0_1, .string a0_2, .int .i64 a0_3] 27 (0, 0)) (by (with_reducible repeat (first | refine blk_drewN ?_ _ | refine blk_drew ?_ | refine blk_alloc ?_ _)); exact BK134.out) hb); have n1_ := Aside0.mk (below_step (by repeat (first | (with_reducible first | exact HB.out | apply below_alloc | apply pw_below_drewN | apply below_drew1 | refine below_set ?_ GE134.out) | exact HB.out)) hb); clear BK134; clear HB; have BK134 := n0_; have HB := n1_; clear n0_ n1_; (try clear hb); (try clear hb2); (try clear hk); (try clear hi)))
        go_ret
        exact ⟨by first | rfl | (simp [errW_none, errW_some] <;> rfl) | (simp [*, errW_none, errW_some] <;> rfl), by repeat (first | (with_reducible first | exact HB.out | apply below_alloc | apply pw_below_drewN | apply below_drew1 | refine below_set ?_ GE134.out) | exact HB.out)⟩
    · replace c5 := Bool.eq_false_iff.mpr c5
      subst c5
      have H1 : (some false) = some r := by rw [if_neg (show ¬ (false = true) by decide)] at H; exact H
      clear H
      have H := H1
      clear H1
      obtain rfl := Option.some.inj H
      go_enter Tryd.func66, Tryd.ntmps66
      go_wp2_with (first | ((with_reducible refine gate_dst (N := 1) rfl ?_); refine box_event ?hg (N := 1) ?hd (cs := #[.string a0_0, .string a0_1, .string a0_2, .int .i64 a0_3]) (t := 27) ?hr ?_; (case hd => rfl); (case hg => rfl); (case hr => first | (go_simp; done) | (go_simp; rfl)); intro gb134 hg w32 hbox hb; have n0_ := Aside0.mk (below_step (by repeat (first | (with_reducible first | exact HB.out | apply below_alloc | apply pw_below_drewN | apply below_drew1) | exact HB.out)) hb); have n1_ := Aside0.mk (hbox); have n2_ := Aside0.mk ((by rw [hg]; exact (below_size (by repeat (first | (with_reducible first | exact HB.out | apply below_alloc | apply pw_below_drewN | apply below_drew1) | exact HB.out))) : w.heap.size ≤ gb134)); have n3_ := Aside0.mk ((by rw [hg]; exact (below_size (by repeat (first | (with_reducible first | exact HB.out | apply below_alloc | apply pw_below_drewN | apply below_drew1) | exact HB.out))) : w.heap.size ≤ gb134)); clear HB; have HB := n0_; have BK134 := n1_; have GW134 := n2_; have GE134 := n3_; clear n0_ n1_ n2_ n3_; clear hb hbox hg; have hcz33_0 : w32.cell? ⟨gb134, 0, none⟩ = some (.string a0_0) := (blk_cell BK134.out 0).trans rfl; have hcz33_1 : w32.cell? ⟨gb134, 1, none⟩ = some (.string a0_1) := (blk_cell BK134.out 1).trans rfl; have hcz33_2 : w32.cell? ⟨gb134, 2, none⟩ = some (.string a0_2) := (blk_cell BK134.out 2).trans rfl; have hcz33_3 : w32.cell? ⟨gb134, 3, none⟩ = some (.int .i64 a0_3) := (blk_cell BK134.out 3).trans rfl; have hfz33_0 := blk_frozen BK134.out 0; have hfz33_1 := blk_frozen BK134.out 1; have hfz33_2 := blk_frozen BK134.out 2; have hfz33_3 := blk_frozen BK134.out 3) | ((with_reducible refine gate_callee (f := 19) rfl ?_); refine goesL_ (some 5) rfl rfl Tryd.func19 (by kernel_rfl) rfl #[.string a0_0] rfl (by (try simp only [List.map_toArray, List.map_cons, List.map_nil]); first | done | rfl | (simp only [List.length_drop, List.length_take]; rfl)) ?_; (with_reducible refine (label_Path.calls k a0_0 t135 _ A2.out (Glob.below hG (by repeat (first | (with_reducible first | exact HB.out | apply below_alloc | apply pw_below_drewN | apply below_drew1) | exact HB.out)))).mono ?_); rintro e w34 ⟨rfl, hb⟩; refine ⟨_, rfl, ?_⟩; have n0_ := Aside0.mk (blk_below (g := gb134) (o := .cells #[.string a0_0, .string a0_1, .string a0_2, .int .i64 a0_3] 27 (0, 0)) (by (with_reducible repeat (first | refine blk_drewN ?_ _ | refine blk_drew ?_ | refine blk_alloc ?_ _)); exact BK134.out) hb); have n1_ := Aside0.mk (below_step (by repeat (first | (with_reducible first | exact HB.out | apply below_alloc | apply pw_below_drewN | apply below_drew1 | refine below_set ?_ GE134.out) | exact HB.out)) hb); clear BK134; clear HB; have BK134 := n0_; have HB := n1_; clear n0_ n1_; (try clear hb); (try clear hb2); (try clear hk); (try clear hi); have hcz35_0 : w34.cell? ⟨gb134, 0, none⟩ = some (.string a0_0) := (blk_cell BK134.out 0).trans rfl; have hcz35_1 : w34.cell? ⟨gb134, 1, none⟩ = some (.string a0_1) := (blk_cell BK134.out 1).trans rfl; have hcz35_2 : w34.cell? ⟨gb134, 2, none⟩ = some (.string a0_2) := (blk_cell BK134.out 2).trans rfl; have hcz35_3 : w34.cell? ⟨gb134, 3, none⟩ = some (.int .i64 a0_3) := (blk_cell BK134.out 3).trans rfl; have hfz35_0 := blk_frozen BK134.out 0; have hfz35_1 := blk_frozen BK134.out 1; have hfz35_2 := blk_frozen BK134.out 2; have hfz35_3 := blk_frozen BK134.out 3) | (go_at_call 61; (with_reducible refine (label_Name.calls a0_1 false _ A4.out).mono ?_); rintro e w36 ⟨rfl, hb⟩; have n0_ := Aside0.mk (blk_below (g := gb134) (o := .cells #[.string a0_0, .string a0_1, .string a0_2, .int .i64 a0_3] 27 (0, 0)) (by (with_reducible repeat (first | refine blk_drewN ?_ _ | refine blk_drew ?_ | refine blk_alloc ?_ _)); exact BK134.out) hb); have n1_ := Aside0.mk (below_step (by repeat (first | (with_reducible first | exact HB.out | apply below_alloc | apply pw_below_drewN | apply below_drew1 | refine below_set ?_ GE134.out) | exact HB.out)) hb); clear BK134; clear HB; have BK134 := n0_; have HB := n1_; clear n0_ n1_; (try clear hb); (try clear hb2); (try clear hk); (try clear hi)))
      go_ret
      exact ⟨by first | rfl | (simp [errW_none, errW_some] <;> rfl) | (simp [*, errW_none, errW_some] <;> rfl), by repeat (first | (with_reducible first | exact HB.out | apply below_alloc | apply pw_below_drewN | apply below_drew1 | refine below_set ?_ GE134.out) | exact HB.out)⟩
  · rw [if_neg c3] at H
    have c3b0 : (t135 == 0) = false := beq_eq_false_iff_ne.mpr c3
    have c3b1 : (t135 != 0) = true := bne_iff_ne.mpr c3
    obtain rfl := Option.some.inj H
    go_enter Tryd.func66, Tryd.ntmps66
    go_wp2_with (first | ((with_reducible refine gate_dst (N := 1) rfl ?_); refine box_event ?hg (N := 1) ?hd (cs := #[.string a0_0, .string a0_1, .string a0_2, .int .i64 a0_3]) (t := 27) ?hr ?_; (case hd => rfl); (case hg => rfl); (case hr => first | (go_simp; done) | (go_simp; rfl)); intro gb134 hg w37 hbox hb; have n0_ := Aside0.mk (below_step (by repeat (first | (with_reducible first | exact HB.out | apply below_alloc | apply pw_below_drewN | apply below_drew1) | exact HB.out)) hb); have n1_ := Aside0.mk (hbox); have n2_ := Aside0.mk ((by rw [hg]; exact (below_size (by repeat (first | (with_reducible first | exact HB.out | apply below_alloc | apply pw_below_drewN | apply below_drew1) | exact HB.out))) : w.heap.size ≤ gb134)); have n3_ := Aside0.mk ((by rw [hg]; exact (below_size (by repeat (first | (with_reducible first | exact HB.out | apply below_alloc | apply pw_below_drewN | apply below_drew1) | exact HB.out))) : w.heap.size ≤ gb134)); clear HB; have HB := n0_; have BK134 := n1_; have GW134 := n2_; have GE134 := n3_; clear n0_ n1_ n2_ n3_; clear hb hbox hg; have hcz38_0 : w37.cell? ⟨gb134, 0, none⟩ = some (.string a0_0) := (blk_cell BK134.out 0).trans rfl; have hcz38_1 : w37.cell? ⟨gb134, 1, none⟩ = some (.string a0_1) := (blk_cell BK134.out 1).trans rfl; have hcz38_2 : w37.cell? ⟨gb134, 2, none⟩ = some (.string a0_2) := (blk_cell BK134.out 2).trans rfl; have hcz38_3 : w37.cell? ⟨gb134, 3, none⟩ = some (.int .i64 a0_3) := (blk_cell BK134.out 3).trans rfl; have hfz38_0 := blk_frozen BK134.out 0; have hfz38_1 := blk_frozen BK134.out 1; have hfz38_2 := blk_frozen BK134.out 2; have hfz38_3 := blk_frozen BK134.out 3) | ((with_reducible refine gate_callee (f := 19) rfl ?_); refine goesL_ (some 5) rfl rfl Tryd.func19 (by kernel_rfl) rfl #[.string a0_0] rfl (by (try simp only [List.map_toArray, List.map_cons, List.map_nil]); first | done | rfl | (simp only [List.length_drop, List.length_take]; rfl)) ?_; (with_reducible refine (label_Path.calls k a0_0 t135 _ A2.out (Glob.below hG (by repeat (first | (with_reducible first | exact HB.out | apply below_alloc | apply pw_below_drewN | apply below_drew1) | exact HB.out)))).mono ?_); rintro e w39 ⟨rfl, hb⟩; refine ⟨_, rfl, ?_⟩; have n0_ := Aside0.mk (blk_below (g := gb134) (o := .cells #[.string a0_0, .string a0_1, .string a0_2, .int .i64 a0_3] 27 (0, 0)) (by (with_reducible repeat (first | refine blk_drewN ?_ _ | refine blk_drew ?_ | refine blk_alloc ?_ _)); exact BK134.out) hb); have n1_ := Aside0.mk (below_step (by repeat (first | (with_reducible first | exact HB.out | apply below_alloc | apply pw_below_drewN | apply below_drew1 | refine below_set ?_ GE134.out) | exact HB.out)) hb); clear BK134; clear HB; have BK134 := n0_; have HB := n1_; clear n0_ n1_; (try clear hb); (try clear hb2); (try clear hk); (try clear hi)))
    go_ret
    exact ⟨by first | rfl | (simp [errW_none, errW_some] <;> rfl) | (simp [*, errW_none, errW_some] <;> rfl), by repeat (first | (with_reducible first | exact HB.out | apply below_alloc | apply pw_below_drewN | apply below_drew1 | refine below_set ?_ GE134.out) | exact HB.out)⟩
end Go.Proofs.YtphddbijdfmpjaaDoor.Q
namespace Go.Proofs.YtphddbijdfmpjaaDoor.Wr
open Go.RowKit Go.MapRaw Go.Proofs.YtphddbijdfmpjaaDoorW.PrintWords Go.Proofs.YtphddbijdfmpjaaDoorW.PrintLast Go.Proofs.YtphddbijdfmpjaaDoor.Q
open Go.ChangeMaps (setBlock)
set_option linter.unusedVariables false
set_option linter.unusedSimpArgs false
def formedB (b : Bnd) : Bool := decide (pathS b.path = 0) && nameB b.name && nameB b.subject && decide (b.verb ≥ 0) && decide (b.verb ≤ 3)
theorem formed_f (b : Bnd) : ∃ k, object_formedBinding.f k b.path b.name b.subject b.verb = some (formedB b) := by
  obtain ⟨K, hK⟩ := path_ev b.path
  refine ⟨K, ?_⟩
  have h : label_Path.f K b.path = _ := hK K (Nat.le_refl _)
  unfold object_formedBinding.f label_Name.f formedB
  rw [h]
  simp only [Option.bind_some]
  by_cases h1 : pathS b.path = 0 <;> simp [h1]
  by_cases h2 : nameB b.name = true <;> simp [h2]
  by_cases h3 : nameB b.subject = true <;> simp [h3]
  by_cases h4 : b.verb ≥ 0 <;> simp [h4]
theorem formed_ok (b : Bnd) (w : World) (hG : Glob w) : Calls Tryd.prog 66 #[eV b] w fun e w' => e = .returned (.bool (formedB b)) ∧ Below w.heap.size w w' := by
  obtain ⟨k, h⟩ := formed_f b
  exact object_formedBinding.calls k _ _ _ _ _ w h hG
theorem formed_small {b : Bnd} (h : formedB b = true) : b.path.size < 128 ∧ b.name.size < 128 ∧ b.subject.size < 128 ∧ 0 ≤ b.verb ∧ b.verb ≤ 3 := by
  unfold formedB at h
  simp only [Bool.and_eq_true, decide_eq_true_eq] at h
  obtain ⟨⟨⟨⟨h1, h2⟩, h3⟩, h4⟩, h5⟩ := h
  have n2 := name_size h2
  have n3 := name_size h3
  have : b.path.size ≤ 64 := by
    rcases path_cases b.path with ⟨ns, hp, _⟩ | ⟨_, hb⟩
    · exact hp.size
    · unfold pathS at h1; rw [hb] at h1; cases h1
  exact ⟨by omega, by omega, by omega, h4, h5⟩
set_option maxRecDepth 100000 in
set_option maxHeartbeats 4000000 in
theorem encode_ok (b : Bnd) (w : World) (hG : Glob w) : Calls Tryd.prog 52 #[eV b] w fun e w' => (∃ s, e = .returned (.tuple #[.string s, .int .i64 (if formedB b = true then 0 else 130)])) ∧ Below w.heap.size w w' := by
  obtain ⟨bp, bn, bs, bv⟩ := b
  have hu27 := Tryd.underlying27
  have key := formed_ok ⟨bp, bn, bs, bv⟩
  unfold eV at key ⊢
  by_cases hf : formedB ⟨bp, bn, bs, bv⟩ = true
  · obtain ⟨s1, s2, s3, v0, v3⟩ := formed_small hf
    simp only at s1 s2 s3 v0 v3
    rw [if_pos hf]
    rw [hf] at key
    have hL := hG.letterB
    have KEY := Lib.hid key
    have hwv : IntKind.u8.wrap bv = bv := by rw [IntKind.wrap_u8]; omega
    have r1 := Lib.hid (show (((headOf 66 bp bn).length + 1 + bs.size : Nat) : Int) ≤ 1048576 by simp [headOf, blen]; omega)
    have r2 := Lib.hid (show (((headOf 66 bp bn ++ [(bs.size : Int)] ++ bytesOf bs).length + 1 : Nat) : Int) ≤ 1048576 by simp [headOf, blen]; omega)
    have r3 := Lib.hid (show (headOf 66 bp bn ++ [(bs.size : Int)] ++ bytesOf bs ++ [bv]).length ≤ 8192 by simp [headOf, blen]; omega)
    have hal := (Below.refl w.heap.size w).alloc (Nat.le_refl _) (.cells #[.string bp, .string bn, .string bs, .int .i64 bv] 27)
    have hnew := blk_new w (.cells #[.string bp, .string bn, .string bs, .int .i64 bv] 27)
    have hG1 := Glob.below hG hal
    have AL := Lib.hid hal
    have NW := Lib.hid hnew
    have GL := Lib.hid hG1
    clear key hG1 hal hnew hG hL
    go_enter Tryd.func52, Tryd.ntmps52
    go_upto_region 1 with fail
    generalize w.alloc _ = w1 at AL NW GL ⊢
    have hd0 := (blk_cell NW.out 0).trans rfl
    have hd1 := (blk_cell NW.out 1).trans rfl
    have hd2 := (blk_cell NW.out 2).trans rfl
    have hd3 := (blk_cell NW.out 3).trans rfl
    go_wp2_with (first
      | (go_at_call 66; refine (KEY.out _ GL.out).mono ?_; rintro e w2 ⟨rfl, hb2⟩; have B2 := Lib.hid (AL.out.trans (below_lower hb2 AL.out.size)); have N2 := Lib.hid (blk_below NW.out hb2); have hL2 := (Glob.below GL.out hb2).letterB; have hc0 := (blk_cell N2.out 0).trans rfl; have hc1 := (blk_cell N2.out 1).trans rfl; clear hb2)
      | (go_at_call 67; refine (begun_ok _ _ _ _ s1 s2).mono ?_; rintro e w3 ⟨g, rfl, h3, hb3⟩; have W3 := Lib.hid h3; have B3 := Lib.hid hb3; have N3 := Lib.hid (blk_below N2.out hb3); have hc2 := (blk_cell N3.out 2).trans rfl; clear h3 hb3)
      | (go_at_call 68; (with_reducible refine (text_ok _ w2.heap.size g 1048576 (headOf 66 bp bn) bs s3 W3.out (Int.le_refl _) r1.out B3.out.size).mono ?_); rintro e w4 ⟨rfl, h4, hb4⟩; have W4 := Lib.hid h4; have B4 := Lib.hid (B3.out.trans hb4); have N4 := Lib.hid (blk_below N2.out (B3.out.trans hb4)); have hc3 := (blk_cell N4.out 3).trans rfl; clear h4 hb4)
      | (go_at_call 69; (with_reducible refine (byte_ok _ w2.heap.size g 1048576 _ bv W4.out (Int.le_refl _) r2.out B4.out.size).mono ?_); rintro e w5 ⟨rfl, h5, hb5⟩; have W5 := Lib.hid h5; have B5 := Lib.hid (B4.out.trans hb5); clear h5 hb5)
      | (go_at_call 70; (with_reducible refine (done_ok _ w2.heap.size g 1048576 _ W5.out r3.out).mono ?_); rintro e w6 ⟨rfl, hb6⟩; have B6 := Lib.hid (B5.out.trans (below_lower hb6 B5.out.size)); clear hb6))
    go_ret2
    exact ⟨⟨_, rfl⟩, B2.out.trans (below_lower B6.out B2.out.size)⟩
  · rw [if_neg hf]
    rw [show formedB ⟨bp, bn, bs, bv⟩ = false by simpa using hf] at key
    have KEY := Lib.hid key
    have hal := (Below.refl w.heap.size w).alloc (Nat.le_refl _) (.cells #[.string bp, .string bn, .string bs, .int .i64 bv] 27)
    have hnew := blk_new w (.cells #[.string bp, .string bn, .string bs, .int .i64 bv] 27)
    have hG1 := Glob.below hG hal
    have AL := Lib.hid hal
    have NW := Lib.hid hnew
    have GL := Lib.hid hG1
    clear key hG1 hal hnew hG
    go_enter Tryd.func52, Tryd.ntmps52
    go_upto_region 1 with fail
    generalize w.alloc _ = w1 at AL NW GL ⊢
    have hd0 := (blk_cell NW.out 0).trans rfl
    have hd1 := (blk_cell NW.out 1).trans rfl
    have hd2 := (blk_cell NW.out 2).trans rfl
    have hd3 := (blk_cell NW.out 3).trans rfl
    go_wp2_with (go_at_call 66; refine (KEY.out _ GL.out).mono ?_; rintro e w2 ⟨rfl, hb2⟩; have B2 := Lib.hid (AL.out.trans (below_lower hb2 AL.out.size)); clear hb2)
    go_ret2
    exact ⟨⟨_, rfl⟩, B2.out⟩
set_option maxRecDepth 100000 in
set_option maxHeartbeats 4000000 in
theorem valid_ok (b : Bnd) (w : World) (hG : Glob w) : Calls Tryd.prog 33 #[eV b] w fun e w' => e = .returned (.int .i64 (if formedB b = true then 0 else 130)) ∧ Below w.heap.size w w' := by
  obtain ⟨bp, bn, bs, bv⟩ := b
  have hu27 := Tryd.underlying27
  have key := encode_ok ⟨bp, bn, bs, bv⟩
  generalize (if formedB ⟨bp, bn, bs, bv⟩ = true then (0 : Int) else 130) = res at key ⊢
  unfold eV at key ⊢
  have KEY := Lib.hid key
  have hal := (Below.refl w.heap.size w).alloc (Nat.le_refl _) (.cells #[.string bp, .string bn, .string bs, .int .i64 bv] 27)
  have hnew := blk_new w (.cells #[.string bp, .string bn, .string bs, .int .i64 bv] 27)
  have hG1 := Glob.below hG hal
  have AL := Lib.hid hal
  have NW := Lib.hid hnew
  have GL := Lib.hid hG1
  clear key hG1 hal hnew hG
  go_enter Tryd.func33, Tryd.ntmps33
  go_upto_region 1 with fail
  generalize w.alloc _ = w1 at AL NW GL ⊢
  have hd0 := (blk_cell NW.out 0).trans rfl
  have hd1 := (blk_cell NW.out 1).trans rfl
  have hd2 := (blk_cell NW.out 2).trans rfl
  have hd3 := (blk_cell NW.out 3).trans rfl
  go_wp2_with (go_at_call 52; refine (KEY.out _ GL.out).mono ?_; rintro e w2 ⟨⟨s, rfl⟩, hb2⟩; have B2 := Lib.hid (AL.out.trans (below_lower hb2 AL.out.size)); clear hb2)
  go_ret
  exact ⟨rfl, B2.out⟩
end Go.Proofs.YtphddbijdfmpjaaDoor.Wr
namespace Go.Proofs.YtphddbijdfmpjaaDoor.Wr
open Go.RowKit Go.MapRaw Go.Proofs.YtphddbijdfmpjaaDoorW.PrintWords Go.Proofs.YtphddbijdfmpjaaDoorW.PrintLast Go.Proofs.YtphddbijdfmpjaaDoor.Q
open Go.ChangeMaps (setBlock)
set_option linter.unusedVariables false
set_option linter.unusedSimpArgs false
structure Off (b : Nat) (w w' : World) : Prop where
  os : w'.os = w.os
  tape : w'.tape = w.tape
  output : w'.output = w.output
  size : w.heap.size ≤ w'.heap.size
  block : ∀ k, k < w.heap.size → k ≠ b → w'.heap[k]? = w.heap[k]?
theorem Off.refl (b : Nat) (w : World) : Off b w w := ⟨rfl, rfl, rfl, Nat.le_refl _, fun _ _ _ => rfl⟩
theorem Off.trans {b : Nat} {u v w : World} (h : Off b u v) (k : Off b v w) : Off b u w :=
  ⟨k.os.trans h.os, k.tape.trans h.tape, k.output.trans h.output, Nat.le_trans h.size k.size, fun i hi hn => (k.block i (Nat.lt_of_lt_of_le hi h.size) hn).trans (h.block i hi hn)⟩
theorem Off.of_below {b : Nat} {w w' : World} (h : Below w.heap.size w w') : Off b w w' := ⟨h.os, h.tape, h.output, h.size, fun k hk _ => h.block k hk⟩
theorem Off.below {b : Nat} {w w' : World} (h : Off b w w') (hb : w.heap.size ≤ b) : Below w.heap.size w w' := ⟨h.os, h.tape, h.output, h.size, fun k hk => h.block k hk (by omega)⟩
theorem Off.belowB {B b : Nat} {w w' : World} (h : Off b w w') (hb : B ≤ b) (hB : B ≤ w.heap.size) : Below B w w' := ⟨h.os, h.tape, h.output, h.size, fun k hk => h.block k (by omega) (by omega)⟩
theorem Off.set (b : Nat) (w : World) (o : Obj) : Off b w (setBlock w b o) := ⟨rfl, rfl, rfl, by rw [set_size]; exact Nat.le_refl _, fun k _ hk => set_far _ _ _ _ hk⟩
structure TB (w : World) (t b : Nat) (M : Tab) : Prop where
  at_ : w.heap[t]? = some (.cells #[.map (some b)] 68 (0, 0))
  ne : t ≠ b
  holds : Holds eK eV w b M
  nodup : (M.map (·.1)).Nodup
  fits : ∀ p ∈ M, p.1 = (p.2.path, p.2.name) ∧ formedB p.2 = true
theorem TB.below {w w' : World} {t b : Nat} {M : Tab} (h : TB w t b M) (hb : Below w.heap.size w w') : TB w' t b M :=
  ⟨blk_below h.at_ hb, h.ne, Holds_move h.holds (hb.block _ (Holds_lt h.holds)), h.nodup, h.fits⟩
theorem TB.cell {w : World} {t b : Nat} {M : Tab} (h : TB w t b M) : w.cell? ⟨t, 0, none⟩ = some (.map (some b)) := (blk_cell h.at_ 0).trans rfl
theorem TB.off {w w' : World} {t b : Nat} {M M' : Tab} (h : TB w t b M) (ho : Off b w w') (hH : Holds eK eV w' b M') (hn : (M'.map (·.1)).Nodup) (hf : ∀ p ∈ M', p.1 = (p.2.path, p.2.name) ∧ formedB p.2 = true) : TB w' t b M' :=
  ⟨(ho.block _ (blk_lt h.at_) h.ne).trans h.at_, h.ne, hH, hn, hf⟩
theorem TB.belowB {B : Nat} {w w' : World} {t b : Nat} {M : Tab} (h : TB w t b M) (hb : Below B w w') (ht : t < B) (hb' : b < B) : TB w' t b M :=
  ⟨(hb.block t ht).trans h.at_, h.ne, Holds_move h.holds (hb.block b hb'), h.nodup, h.fits⟩
theorem TB.lt {w : World} {t b : Nat} {M : Tab} (h : TB w t b M) : t < w.heap.size ∧ b < w.heap.size := ⟨blk_lt h.at_, Holds_lt h.holds⟩
set_option maxHeartbeats 4000000 in
theorem newT_ok (w : World) : Calls Tryd.prog 29 #[] w fun e w' => ∃ t b, e = .returned (.pointer (some ⟨t, 0, none⟩)) ∧ TB w' t b [] ∧ w.heap.size ≤ t ∧ w.heap.size ≤ b ∧ Below w.heap.size w w' := by
  have hu66 := Tryd.underlying66
  have hmk : (Instr.makeMap 66 none).run Tryd.prog w = .ok (.map (some w.heap.size)) (w.alloc (.map #[] 0)) := rfl
  go_enter Tryd.func29, Tryd.ntmps29
  go_wp2
  go_ret
  have hs : (w.alloc (.map #[] 0)).heap.size = w.heap.size + 1 := by simp
  have hb0 : (w.alloc (.map #[] 0)).heap[w.heap.size]? = some (.map #[] 0) := heap_alloc_new w _
  have h1 := heap_alloc_new (w.alloc (.map #[] 0)) (.cells #[.map (some w.heap.size)] 68)
  rw [hs] at h1
  refine ⟨_, w.heap.size, rfl, ⟨h1, ?_, ⟨#[], 0, (heap_alloc_old _ _ (by rw [hs]; omega)).trans hb0, ⟨rfl, by simp, by simp⟩⟩, by simp, by simp⟩, ?_, Nat.le_refl _, ((Below.refl _ _).alloc (Nat.le_refl _) _).alloc ?_ _⟩
  all_goals (first | omega | (rw [hs]; omega))
end Go.Proofs.YtphddbijdfmpjaaDoor.Wr
namespace Go.Proofs.YtphddbijdfmpjaaDoor.Wr
open Go.RowKit Go.MapRaw Go.Proofs.YtphddbijdfmpjaaDoorW.PrintWords Go.Proofs.YtphddbijdfmpjaaDoorW.PrintLast Go.Proofs.YtphddbijdfmpjaaDoor.Q
open Go.ChangeMaps (setBlock)
set_option linter.unusedVariables false
set_option linter.unusedSimpArgs false
def setE (M : Tab) (b : Bnd) : Int := if formedB b = true then (if (getA (b.path, b.name) M).isNone = true ∧ 16 ≤ cnt b.path M then 194 else 0) else 130
def setM (M : Tab) (b : Bnd) : Tab := if setE M b = 0 then putA (b.path, b.name) b M else M
theorem put_mem {k : Key} {v : Bnd} {x : Key × Bnd} : ∀ {M : Tab}, x ∈ putA k v M → x = (k, v) ∨ x ∈ M
  | [], h => by simp [putA] at h; exact .inl h
  | p :: r, h => by
    unfold putA at h
    by_cases e : p.1 = k
    · rw [if_pos e] at h
      rcases List.mem_cons.1 h with h | h
      · exact .inl h
      · exact .inr (List.mem_cons_of_mem _ h)
    · rw [if_neg e] at h
      rcases List.mem_cons.1 h with h | h
      · exact .inr (by rw [h]; exact List.mem_cons_self)
      · exact (put_mem h).elim .inl fun h => .inr (List.mem_cons_of_mem _ h)
theorem put_len (k : Key) (v : Bnd) : ∀ M : Tab, (putA k v M).length ≤ M.length + 1
  | [] => by simp [putA]
  | p :: r => by
    have := put_len k v r
    unfold putA
    split
    · simp
    · simp only [List.length_cons]; omega
theorem setM_len (M : Tab) (b : Bnd) : (setM M b).length ≤ M.length + 1 := by
  unfold setM
  split
  · exact put_len _ _ M
  · omega
theorem setM_nodup {M : Tab} (b : Bnd) (h : (M.map (·.1)).Nodup) : ((setM M b).map (·.1)).Nodup := by
  unfold setM
  split
  · exact nodup_put _ _ M h
  · exact h
theorem setM_fits {M : Tab} (b : Bnd) (h : ∀ p ∈ M, p.1 = (p.2.path, p.2.name) ∧ formedB p.2 = true) : ∀ p ∈ setM M b, p.1 = (p.2.path, p.2.name) ∧ formedB p.2 = true := by
  unfold setM
  split
  · rename_i h0
    intro p hp
    rcases put_mem hp with rfl | hp
    · refine ⟨rfl, ?_⟩
      by_cases hf : formedB b = true
      · exact hf
      · unfold setE at h0; rw [if_neg hf] at h0; cases h0
    · exact h p hp
  · exact h
set_option maxRecDepth 100000 in
set_option maxHeartbeats 8000000 in
theorem set_ok (w : World) (t b : Nat) (M : Tab) (bd : Bnd) (hT : TB w t b M) (hG : Glob w) (hM : M.length ≤ 2513169434843) :
    Calls Tryd.prog 20 #[.pointer (some ⟨t, 0, none⟩), eV bd] w fun e w' => e = .returned (.int .i64 (setE M bd)) ∧ TB w' t b (setM M bd) ∧ Off b w w' := by
  obtain ⟨bp, bn, bs, bv⟩ := bd
  have hu27 := Tryd.underlying27
  have hu70 := Tryd.underlying70
  have key := valid_ok ⟨bp, bn, bs, bv⟩
  have hsl := setM_nodup (M := M) ⟨bp, bn, bs, bv⟩ hT.nodup
  have hsf := setM_fits (M := M) ⟨bp, bn, bs, bv⟩ hT.fits
  by_cases hf : formedB ⟨bp, bn, bs, bv⟩ = true
  · rw [if_pos hf] at key
    have hE : setE M ⟨bp, bn, bs, bv⟩ = if (getA (bp, bn) M).isNone = true ∧ 16 ≤ cnt bp M then 194 else 0 := by unfold setE; rw [if_pos hf]
    unfold eV at key ⊢
    have KEY := Lib.hid key
    have hal := (Below.refl w.heap.size w).alloc (Nat.le_refl _) (.cells #[.string bp, .string bn, .string bs, .int .i64 bv] 27)
    have hnew := blk_new w (.cells #[.string bp, .string bn, .string bs, .int .i64 bv] 27)
    have hG1 := Glob.below hG hal
    have hT1 := TB.below hT hal
    have AL := Lib.hid hal
    have NW := Lib.hid hnew
    have GL := Lib.hid hG1
    have TL := Lib.hid hT1
    have HE := Lib.hid hE
    have HM := Lib.hid hM
    have HSL := Lib.hid hsl
    have HSF := Lib.hid hsf
    clear key hG1 hal hnew hG hT1 hT hE hM hsl hsf hf
    go_enter Tryd.func20, Tryd.ntmps20
    go_upto_region 1 with fail
    generalize w.alloc _ = w1 at AL NW GL TL ⊢
    have hd0 := (blk_cell NW.out 0).trans rfl
    have hd1 := (blk_cell NW.out 1).trans rfl
    have hd2 := (blk_cell NW.out 2).trans rfl
    have hd3 := (blk_cell NW.out 3).trans rfl
    go_upto_region 4 with (go_at_call 33; refine (KEY.out _ GL.out).mono ?_; rintro e w2 ⟨rfl, hb2⟩; have B2 := Lib.hid (AL.out.trans (below_lower hb2 AL.out.size)); have N2 := Lib.hid (blk_below NW.out hb2); have T2 := Lib.hid (TB.below TL.out hb2); have he0 := (blk_cell N2.out 0).trans rfl; have he1 := (blk_cell N2.out 1).trans rfl; have he2 := (blk_cell N2.out 2).trans rfl; have he3 := (blk_cell N2.out 3).trans rfl; clear hb2)
    have hal3 := B2.out.alloc (Nat.le_trans (Nat.le_refl _) B2.out.size) (.cells #[.string bp, .string bn] 70)
    have hb3 := (Below.refl w2.heap.size w2).alloc (Nat.le_refl _) (.cells #[.string bp, .string bn] 70)
    have hT3 := TB.below T2.out hb3
    have hN3 := blk_below N2.out hb3
    have hP3 := blk_new w2 (.cells #[.string bp, .string bn] 70)
    have AL3 := Lib.hid hal3
    have TL3 := Lib.hid hT3
    have NW3 := Lib.hid hN3
    have NP3 := Lib.hid hP3
    have HPP := Lib.hid B2.out.size
    obtain ⟨pp, hpp⟩ : ∃ pp, pp = w2.heap.size := ⟨_, rfl⟩
    rw [← hpp] at NP3 HPP ⊢
    clear hal3 hb3 hT3 hN3 hP3 hpp T2 N2 B2 AL TL NW GL
    generalize w2.alloc _ = w3 at AL3 TL3 NW3 NP3 ⊢
    clear hd0 hd1 hd2 hd3 he0 he1 he2 he3
    have hz := Tryd.zeroValue27 w3
    have hlk := fun w' (h : Holds eK eV w' b M) => h.lookup kind_pl (fun a => ⟨a, rfl⟩) eqPl_iff 66 27 Tryd.underlying66 (bp, bn) _ (Tryd.zeroValue27 w') true
    obtain ⟨c, hc⟩ : ∃ c : Bnd, ∀ w', Holds eK eV w' b M → (Instr.lookup 66 (.map (some b)) (.agg #[.string bp, .string bn]) true).run Tryd.prog w' = .ok (.tuple #[.agg #[.string c.path, .string c.name, .string c.subject, .int .i64 c.verb], .bool (getA (bp, bn) M).isSome]) w' := by
      refine ⟨(getA (bp, bn) M).getD ⟨⟨#[]⟩, ⟨#[]⟩, ⟨#[]⟩, 0⟩, fun w' h => (hlk w' h).trans ?_⟩
      cases getA (bp, bn) M <;> rfl
    obtain ⟨there, hth⟩ : ∃ x, x = (getA (bp, bn) M).isSome := ⟨_, rfl⟩
    rw [← hth] at hc
    have HC := Lib.hid hc
    have HTH := Lib.hid hth
    clear hz hlk hc hth
    obtain ⟨cp, cn, cs, cv⟩ := c
    refine start_ (n := 12) (S := fun w' => w'.cell? ⟨t, 0, none⟩ = some (.map (some b)) ∧ w'.cell? ⟨pp, 0, none⟩ = some (.string bp) ∧ w'.cell? ⟨pp, 1, none⟩ = some (.string bn) ∧ (Instr.lookup 66 (.map (some b)) (.agg #[.string bp, .string bn]) true).run Tryd.prog w' = .ok (.tuple #[.agg #[.string cp, .string cn, .string cs, .int .i64 cv], .bool there]) w') (ds := []) (bl 0 12) (by kernel_rfl) rfl rfl ⟨TL3.out.cell, (blk_cell NP3.out 0).trans rfl, (blk_cell NP3.out 1).trans rfl, HC.out _ (Holds_move TL3.out.holds rfl)⟩ (fun hHeld => ?_)
    have hwd := drew_below w3
    have hT4 := TB.below TL3.out hwd
    have hN4 := blk_below NW3.out hwd
    have hP4 := blk_below NP3.out hwd
    have hA4 := AL3.out.trans (below_lower hwd AL3.out.size)
    have T4 := Lib.hid hT4
    have N4 := Lib.hid hN4
    have P4 := Lib.hid hP4
    have A4 := Lib.hid hA4
    clear hwd hT4 hN4 hP4 hA4 TL3 NW3 NP3 AL3
    generalize w3.drew = wd at T4 N4 P4 A4 hHeld ⊢
    refine pure_ (i := 0) (N := some 17) (v := ?_) (a' := ?_) (bl 1 11) rfl rfl (by kernel_rfl) (fun _ _ _ h => h) (Or.inl ⟨by rfl, ?_⟩) ?_ ?_
    rotate_left
    · intro w'
      go_simp
      with_reducible rfl
    rotate_left
    · simp only [Act.put, List.setIfInBounds_toArray, List.set_cons_zero, List.set_cons_succ, i64_w, i32_w]
      rfl
    refine pure_ (i := 1) (N := some 18) (v := ?_) (a' := ?_) (bl 2 10) rfl rfl (by kernel_rfl) (fun _ _ _ h => h) (Or.inl ⟨by rfl, ?_⟩) ?_ ?_
    rotate_left
    · intro w'
      go_simp
      with_reducible rfl
    rotate_left
    · simp only [Act.put, List.setIfInBounds_toArray, List.set_cons_zero, List.set_cons_succ, i64_w, i32_w]
      rfl
    refine pure_ (i := 2) (N := some 19) (v := ?_) (a' := ?_) (bl 3 9) rfl rfl (by kernel_rfl) (fun _ _ _ h => h) (Or.inl ⟨by rfl, ?_⟩) ?_ ?_
    rotate_left
    · intro w'
      go_simp
      with_reducible rfl
    rotate_left
    · simp only [Act.put, List.setIfInBounds_toArray, List.set_cons_zero, List.set_cons_succ, i64_w, i32_w]
      rfl
    refine take_ (i := 3) (N := some 20) (v := ?_) (a' := ?_) (bl 4 8) rfl rfl (by kernel_rfl) (fun _ _ _ h => h) (Or.inl ⟨by rfl, ?_⟩) hHeld ?_ ?_
    rotate_left
    · rintro w' ⟨s0, s1, s2, s3⟩
      go_simp
      with_reducible rfl
    rotate_left
    · simp only [Act.put, List.setIfInBounds_toArray, List.set_cons_zero, List.set_cons_succ, i64_w, i32_w]
      rfl
    refine take_ (i := 4) (N := some 21) (v := ?_) (a' := ?_) (bl 5 7) rfl rfl (by kernel_rfl) (fun _ _ _ h => h) (Or.inl ⟨by rfl, ?_⟩) hHeld ?_ ?_
    rotate_left
    · rintro w' ⟨s0, s1, s2, s3⟩
      go_simp
      with_reducible rfl
    rotate_left
    · simp only [Act.put, List.setIfInBounds_toArray, List.set_cons_zero, List.set_cons_succ, i64_w, i32_w]
      rfl
    refine take_ (i := 5) (N := some 22) (v := ?_) (a' := ?_) (bl 6 6) rfl rfl (by kernel_rfl) (fun _ _ _ h => h) (Or.inl ⟨by rfl, ?_⟩) hHeld ?_ ?_
    rotate_left
    · rintro w' ⟨s0, s1, s2, s3⟩
      go_simp
      with_reducible rfl
    rotate_left
    · simp only [Act.put, List.setIfInBounds_toArray, List.set_cons_zero, List.set_cons_succ, i64_w, i32_w]
      rfl
    refine pure_ (i := 6) (N := some 16) (v := ?_) (a' := ?_) (bl 7 5) rfl rfl (by kernel_rfl) (fun _ _ _ h => h) (Or.inl ⟨by rfl, ?_⟩) ?_ ?_
    rotate_left
    · intro w'
      go_simp
      with_reducible rfl
    rotate_left
    · simp only [Act.put, List.setIfInBounds_toArray, List.set_cons_zero, List.set_cons_succ, i64_w, i32_w]
      rfl
    refine pure_ (i := 7) (N := some 23) (v := ?_) (a' := ?_) (bl 8 4) rfl rfl (by kernel_rfl) (fun _ _ _ h => h) (Or.inl ⟨by rfl, ?_⟩) ?_ ?_
    rotate_left
    · intro w'
      go_simp
      with_reducible rfl
    rotate_left
    · simp only [Act.put, List.setIfInBounds_toArray, List.set_cons_zero, List.set_cons_succ, i64_w, i32_w]
      rfl
    refine pure_ (i := 8) (N := some 24) (v := ?_) (a' := ?_) (bl 9 3) rfl rfl (by kernel_rfl) (fun _ _ _ h => h) (Or.inl ⟨by rfl, ?_⟩) ?_ ?_
    rotate_left
    · intro w'
      go_simp
      with_reducible rfl
    rotate_left
    · simp only [Act.put, List.setIfInBounds_toArray, List.set_cons_zero, List.set_cons_succ, i64_w, i32_w]
      rfl
    refine one_ (i := 9) (N := some 6) (bl 10 2) rfl rfl (by kernel_rfl) (by decide) (fun K hK => ?_)
    refine value_ (v := .pointer (some ⟨wd.heap.size, 0, none⟩)) (w1 := wd.alloc (.cells #[.string ⟨#[]⟩, .string ⟨#[]⟩, .string ⟨#[]⟩, .int .i64 0] 27)) (by rfl) rfl ?_ ?_
    · go_simp
    have hal5 := (Below.refl wd.heap.size wd).alloc (Nat.le_refl _) (.cells #[.string ⟨#[]⟩, .string ⟨#[]⟩, .string ⟨#[]⟩, .int .i64 0] 27)
    have hT5 := TB.below T4.out hal5
    have hN5 := blk_below N4.out hal5
    have hP5 := blk_below P4.out hal5
    have hA5 := A4.out.trans (below_lower hal5 A4.out.size)
    have hQ5 := blk_new wd (.cells #[.string ⟨#[]⟩, .string ⟨#[]⟩, .string ⟨#[]⟩, .int .i64 0] 27)
    have T5 := Lib.hid hT5
    have N5 := Lib.hid hN5
    have P5 := Lib.hid hP5
    have A5 := Lib.hid hA5
    have Q5 := Lib.hid hQ5
    have HQ := Lib.hid (show t < wd.heap.size ∧ b < wd.heap.size ∧ w.heap.size < wd.heap.size ∧ pp < wd.heap.size from ⟨T4.out.lt.1, T4.out.lt.2, blk_lt N4.out, blk_lt P4.out⟩)
    have HA := Lib.hid A4.out.size
    obtain ⟨qq, hqq⟩ : ∃ qq, qq = wd.heap.size := ⟨_, rfl⟩
    rw [← hqq] at Q5 HQ HA ⊢
    clear hal5 hT5 hN5 hP5 hA5 hQ5 hqq T4 N4 P4 A4
    generalize wd.alloc _ = w5 at T5 N5 P5 A5 Q5 ⊢
    refine hK.out _ _ ⟨T5.out.cell, (blk_cell P5.out 0).trans rfl, (blk_cell P5.out 1).trans rfl, HC.out _ T5.out.holds⟩ (fun hHeld => ?_)
    clear hK K
    refine norm_ (a' := ?_) ?_ ?_
    rotate_left
    · show Act.put _ (some 6) _ = _
      simp only [Act.put, List.setIfInBounds_toArray, List.set_cons_zero, List.set_cons_succ, i64_w, i32_w]
      rfl
    refine one_ (i := 10) (N := none) (bl 11 1) rfl rfl (by kernel_rfl) (by decide) (fun K hK => ?_)
    have hf0 := blk_frozen Q5.out 0
    have hf1 := blk_frozen Q5.out 1
    have hf2 := blk_frozen Q5.out 2
    have hf3 := blk_frozen Q5.out 3
    have hcs0 := (blk_cell Q5.out 0).trans rfl
    have hcs1 := (blk_cell Q5.out 1).trans rfl
    have hcs2 := (blk_cell Q5.out 2).trans rfl
    have hcs3 := (blk_cell Q5.out 3).trans rfl
    refine skip_ (w1 := ?_) (by rfl) rfl ?_ ?_
    rotate_left
    · go_simp
      rfl
    have hbq := ((((Below.refl qq w5).setCell (p := ⟨qq, 0, none⟩) (Nat.le_refl qq) (.string cp)).setCell (p := ⟨qq, 1, none⟩) (Nat.le_refl qq) (.string cn)).setCell (p := ⟨qq, 2, none⟩) (Nat.le_refl qq) (.string cs)).setCell (p := ⟨qq, 3, none⟩) (Nat.le_refl qq) (.int .i64 cv)
    have T6 := Lib.hid (T5.out.belowB hbq HQ.out.1 HQ.out.2.1)
    have N6 := Lib.hid ((hbq.block _ HQ.out.2.2.1).trans N5.out)
    have P6 := Lib.hid ((hbq.block _ HQ.out.2.2.2).trans P5.out)
    have A6 := Lib.hid (A5.out.trans (below_lower hbq (Nat.le_of_lt HQ.out.2.2.1)))
    clear hf0 hf1 hf2 hf3 hcs0 hcs1 hcs2 hcs3 hbq T5 N5 P5 A5 Q5
    generalize World.setCell _ _ _ = w6 at T6 N6 P6 A6 ⊢
    refine hK.out _ _ ⟨T6.out.cell, (blk_cell P6.out 0).trans rfl, (blk_cell P6.out 1).trans rfl, HC.out _ T6.out.holds⟩ (fun hHeld => ?_)
    clear hK K
    refine pure_ (i := 11) (N := some 7) (v := ?_) (a' := ?_) (bl 12 0) rfl rfl (by kernel_rfl) (fun _ _ _ h => h) (Or.inl ⟨by rfl, ?_⟩) ?_ ?_
    rotate_left
    · intro w'
      go_simp
      with_reducible rfl
    rotate_left
    · simp only [Act.put, List.setIfInBounds_toArray, List.set_cons_zero, List.set_cons_succ, i64_w, i32_w]
      rfl
    refine done_ (by kernel_rfl) ?_
    clear hHeld HC HQ HA
    have hd0 := (blk_cell N6.out 0).trans rfl
    have hd1 := (blk_cell N6.out 1).trans rfl
    have hd2 := (blk_cell N6.out 2).trans rfl
    have hd3 := (blk_cell N6.out 3).trans rfl
    have hmany := many_ok w6 t b M bp T6.out.cell T6.out.holds HM.out
    have MANY := Lib.hid hmany
    clear hmany
    cases there
    · by_cases h16 : 16 ≤ cnt bp M
      · have hdec : decide ((cnt bp M : Int) ≥ 16) = true := decide_eq_true (by omega)
        have H16 := Lib.hid h16
        clear h16
        go_wp2_with (go_at_call 45; refine MANY.out.mono ?_; rintro e w7 ⟨rfl, hb7⟩; have B7 := Lib.hid hb7; clear hb7)
        go_ret
        have e1 : setE M ⟨bp, bn, bs, bv⟩ = 194 := by rw [HE.out, if_pos ⟨by simpa using HTH.out.symm, H16.out⟩]
        have e2 : setM M ⟨bp, bn, bs, bv⟩ = M := by unfold setM; rw [e1, if_neg (by decide)]
        exact ⟨by rw [e1] <;> rfl, by rw [e2]; exact T6.out.below B7.out, Off.of_below (A6.out.trans (below_lower B7.out A6.out.size))⟩
      · have hdec : decide ((cnt bp M : Int) ≥ 16) = false := decide_eq_false (by omega)
        have H16 := Lib.hid h16
        clear h16
        go_upto_region 7 with (go_at_call 45; refine MANY.out.mono ?_; rintro e w7 ⟨rfl, hb7⟩; have B7 := Lib.hid hb7; clear hb7)
        have T7 := Lib.hid (T6.out.below B7.out)
        have N7 := Lib.hid (blk_below N6.out B7.out)
        have P7 := Lib.hid (blk_below P6.out B7.out)
        have A7 := Lib.hid (A6.out.trans (below_lower B7.out A6.out.size))
        clear T6 N6 P6 A6 B7 MANY hdec
        have hE0 : setE M ⟨bp, bn, bs, bv⟩ = 0 := by rw [HE.out, if_neg (fun h => H16.out h.2)]
        have hM0 : setM M ⟨bp, bn, bs, bv⟩ = putA (bp, bn) ⟨bp, bn, bs, bv⟩ M := by unfold setM; rw [if_pos hE0]
        have HM0 := Lib.hid hM0
        have HE0 := Lib.hid hE0
        clear hE0 hM0 hd0 hd1 hd2 hd3
        refine start_ (n := 7) (S := fun w' => w'.cell? ⟨t, 0, none⟩ = some (.map (some b)) ∧ w'.cell? ⟨pp, 0, none⟩ = some (.string bp) ∧ w'.cell? ⟨pp, 1, none⟩ = some (.string bn) ∧ w'.cell? ⟨w.heap.size, 0, none⟩ = some (.string bp) ∧ w'.cell? ⟨w.heap.size, 1, none⟩ = some (.string bn) ∧ w'.cell? ⟨w.heap.size, 2, none⟩ = some (.string bs) ∧ w'.cell? ⟨w.heap.size, 3, none⟩ = some (.int .i64 bv)) (ds := [6]) (bl 0 7) (by kernel_rfl) rfl rfl ⟨T7.out.cell, (blk_cell P7.out 0).trans rfl, (blk_cell P7.out 1).trans rfl, (blk_cell N7.out 0).trans rfl, (blk_cell N7.out 1).trans rfl, (blk_cell N7.out 2).trans rfl, (blk_cell N7.out 3).trans rfl⟩ (fun hHeld => ?_)
        have hwd := drew_below w7
        have T8 := Lib.hid (TB.below T7.out hwd)
        have A8 := Lib.hid (A7.out.trans (below_lower hwd A7.out.size))
        clear hwd T7 N7 P7 A7
        generalize w7.drew = wd at T8 A8 hHeld ⊢
        refine pure_ (i := 0) (N := some 34) (v := ?_) (a' := ?_) (bl 1 6) rfl rfl (by kernel_rfl) (fun _ _ _ h => h) (Or.inl ⟨by rfl, ?_⟩) ?_ ?_
        rotate_left
        · intro w'
          go_simp
          with_reducible rfl
        rotate_left
        · simp only [Act.put, List.setIfInBounds_toArray, List.set_cons_zero, List.set_cons_succ, i64_w, i32_w]
          rfl
        refine pure_ (i := 1) (N := some 35) (v := ?_) (a' := ?_) (bl 2 5) rfl rfl (by kernel_rfl) (fun _ _ _ h => h) (Or.inl ⟨by rfl, ?_⟩) ?_ ?_
        rotate_left
        · intro w'
          go_simp
          with_reducible rfl
        rotate_left
        · simp only [Act.put, List.setIfInBounds_toArray, List.set_cons_zero, List.set_cons_succ, i64_w, i32_w]
          rfl
        refine pure_ (i := 2) (N := some 36) (v := ?_) (a' := ?_) (bl 3 4) rfl rfl (by kernel_rfl) (fun _ _ _ h => h) (Or.inl ⟨by rfl, ?_⟩) ?_ ?_
        rotate_left
        · intro w'
          go_simp
          with_reducible rfl
        rotate_left
        · simp only [Act.put, List.setIfInBounds_toArray, List.set_cons_zero, List.set_cons_succ, i64_w, i32_w]
          rfl
        refine take_ (i := 3) (N := some 37) (v := ?_) (a' := ?_) (bl 4 3) rfl rfl (by kernel_rfl) (fun _ _ _ h => h) (Or.inl ⟨by rfl, ?_⟩) hHeld ?_ ?_
        rotate_left
        · rintro w' ⟨s0, s1, s2, s3, s4, s5, s6⟩
          go_simp
          with_reducible rfl
        rotate_left
        · simp only [Act.put, List.setIfInBounds_toArray, List.set_cons_zero, List.set_cons_succ, i64_w, i32_w]
          rfl
        refine take_ (i := 4) (N := some 38) (v := ?_) (a' := ?_) (bl 5 2) rfl rfl (by kernel_rfl) (fun _ _ _ h => h) (Or.inl ⟨by rfl, ?_⟩) hHeld ?_ ?_
        rotate_left
        · rintro w' ⟨s0, s1, s2, s3, s4, s5, s6⟩
          go_simp
          with_reducible rfl
        rotate_left
        · simp only [Act.put, List.setIfInBounds_toArray, List.set_cons_zero, List.set_cons_succ, i64_w, i32_w]
          rfl
        refine take_ (i := 5) (N := some 39) (v := ?_) (a' := ?_) (bl 6 1) rfl rfl (by kernel_rfl) (fun _ _ _ h => h) (Or.inl ⟨by rfl, ?_⟩) hHeld ?_ ?_
        rotate_left
        · rintro w' ⟨s0, s1, s2, s3, s4, s5, s6⟩
          go_simp
          with_reducible rfl
        rotate_left
        · simp only [Act.put, List.setIfInBounds_toArray, List.set_cons_zero, List.set_cons_succ, i64_w, i32_w]
          rfl
        refine last_ (i := 6) (N := none) (bl 7 0) rfl rfl (by kernel_rfl) (by decide) (fun K hK => ?_)
        have hup := T8.out.holds.update (P := Tryd.prog) kind_pl (fun a => ⟨a, rfl⟩) eqPl_iff 66 27 Tryd.underlying66 (bp, bn) ⟨bp, bn, bs, bv⟩
        obtain ⟨o, hrun, hho⟩ := hup
        have HHO := Lib.hid hho
        clear hho
        unfold eK eV at hrun
        refine skip_ (w1 := setBlock wd b o) (by rfl) rfl ?_ ?_
        · go_simp
        refine hK.out _ _ ?_
        clear hK K hrun
        refine done_ (by kernel_rfl) ?_
        have TF := Lib.hid (TB.off T8.out (Off.set b wd o) HHO.out (by rw [← HM0.out]; exact HSL.out) (by rw [← HM0.out]; exact HSF.out))
        have OF := Lib.hid ((Off.of_below (b := b) A8.out).trans (Off.set b wd o))
        clear T8 A8 HHO
        generalize setBlock wd b o = wz at TF OF ⊢
        go_wp2
        go_ret
        exact ⟨by rw [HE0.out] <;> rfl, by rw [HM0.out]; exact TF.out, OF.out⟩
    · go_upto_region 7 with fail
      have T7 := Lib.hid T6.out
      have N7 := Lib.hid N6.out
      have P7 := Lib.hid P6.out
      have A7 := Lib.hid A6.out
      clear T6 N6 P6 A6 MANY
      obtain ⟨w7, hw7⟩ : ∃ w7, w7 = w6 := ⟨_, rfl⟩
      rw [← hw7] at T7 N7 P7 A7 ⊢
      clear hw7
      have hE0 : setE M ⟨bp, bn, bs, bv⟩ = 0 := by rw [HE.out, if_neg (fun h => by have h1 := HTH.out; have h2 := h.1; rw [Option.isNone_iff_eq_none] at h2; rw [h2] at h1; cases h1)]
      have hM0 : setM M ⟨bp, bn, bs, bv⟩ = putA (bp, bn) ⟨bp, bn, bs, bv⟩ M := by unfold setM; rw [if_pos hE0]
      have HM0 := Lib.hid hM0
      have HE0 := Lib.hid hE0
      clear hE0 hM0 hd0 hd1 hd2 hd3
      refine start_ (n := 7) (S := fun w' => w'.cell? ⟨t, 0, none⟩ = some (.map (some b)) ∧ w'.cell? ⟨pp, 0, none⟩ = some (.string bp) ∧ w'.cell? ⟨pp, 1, none⟩ = some (.string bn) ∧ w'.cell? ⟨w.heap.size, 0, none⟩ = some (.string bp) ∧ w'.cell? ⟨w.heap.size, 1, none⟩ = some (.string bn) ∧ w'.cell? ⟨w.heap.size, 2, none⟩ = some (.string bs) ∧ w'.cell? ⟨w.heap.size, 3, none⟩ = some (.int .i64 bv)) (ds := [6]) (bl 0 7) (by kernel_rfl) rfl rfl ⟨T7.out.cell, (blk_cell P7.out 0).trans rfl, (blk_cell P7.out 1).trans rfl, (blk_cell N7.out 0).trans rfl, (blk_cell N7.out 1).trans rfl, (blk_cell N7.out 2).trans rfl, (blk_cell N7.out 3).trans rfl⟩ (fun hHeld => ?_)
      have hwd := drew_below w7
      have T8 := Lib.hid (TB.below T7.out hwd)
      have A8 := Lib.hid (A7.out.trans (below_lower hwd A7.out.size))
      clear hwd T7 N7 P7 A7
      generalize w7.drew = wd at T8 A8 hHeld ⊢
      refine pure_ (i := 0) (N := some 34) (v := ?_) (a' := ?_) (bl 1 6) rfl rfl (by kernel_rfl) (fun _ _ _ h => h) (Or.inl ⟨by rfl, ?_⟩) ?_ ?_
      rotate_left
      · intro w'
        go_simp
        with_reducible rfl
      rotate_left
      · simp only [Act.put, List.setIfInBounds_toArray, List.set_cons_zero, List.set_cons_succ, i64_w, i32_w]
        rfl
      refine pure_ (i := 1) (N := some 35) (v := ?_) (a' := ?_) (bl 2 5) rfl rfl (by kernel_rfl) (fun _ _ _ h => h) (Or.inl ⟨by rfl, ?_⟩) ?_ ?_
      rotate_left
      · intro w'
        go_simp
        with_reducible rfl
      rotate_left
      · simp only [Act.put, List.setIfInBounds_toArray, List.set_cons_zero, List.set_cons_succ, i64_w, i32_w]
        rfl
      refine pure_ (i := 2) (N := some 36) (v := ?_) (a' := ?_) (bl 3 4) rfl rfl (by kernel_rfl) (fun _ _ _ h => h) (Or.inl ⟨by rfl, ?_⟩) ?_ ?_
      rotate_left
      · intro w'
        go_simp
        with_reducible rfl
      rotate_left
      · simp only [Act.put, List.setIfInBounds_toArray, List.set_cons_zero, List.set_cons_succ, i64_w, i32_w]
        rfl
      refine take_ (i := 3) (N := some 37) (v := ?_) (a' := ?_) (bl 4 3) rfl rfl (by kernel_rfl) (fun _ _ _ h => h) (Or.inl ⟨by rfl, ?_⟩) hHeld ?_ ?_
      rotate_left
      · rintro w' ⟨s0, s1, s2, s3, s4, s5, s6⟩
        go_simp
        with_reducible rfl
      rotate_left
      · simp only [Act.put, List.setIfInBounds_toArray, List.set_cons_zero, List.set_cons_succ, i64_w, i32_w]
        rfl
      refine take_ (i := 4) (N := some 38) (v := ?_) (a' := ?_) (bl 5 2) rfl rfl (by kernel_rfl) (fun _ _ _ h => h) (Or.inl ⟨by rfl, ?_⟩) hHeld ?_ ?_
      rotate_left
      · rintro w' ⟨s0, s1, s2, s3, s4, s5, s6⟩
        go_simp
        with_reducible rfl
      rotate_left
      · simp only [Act.put, List.setIfInBounds_toArray, List.set_cons_zero, List.set_cons_succ, i64_w, i32_w]
        rfl
      refine take_ (i := 5) (N := some 39) (v := ?_) (a' := ?_) (bl 6 1) rfl rfl (by kernel_rfl) (fun _ _ _ h => h) (Or.inl ⟨by rfl, ?_⟩) hHeld ?_ ?_
      rotate_left
      · rintro w' ⟨s0, s1, s2, s3, s4, s5, s6⟩
        go_simp
        with_reducible rfl
      rotate_left
      · simp only [Act.put, List.setIfInBounds_toArray, List.set_cons_zero, List.set_cons_succ, i64_w, i32_w]
        rfl
      refine last_ (i := 6) (N := none) (bl 7 0) rfl rfl (by kernel_rfl) (by decide) (fun K hK => ?_)
      have hup := T8.out.holds.update (P := Tryd.prog) kind_pl (fun a => ⟨a, rfl⟩) eqPl_iff 66 27 Tryd.underlying66 (bp, bn) ⟨bp, bn, bs, bv⟩
      obtain ⟨o, hrun, hho⟩ := hup
      have HHO := Lib.hid hho
      clear hho
      unfold eK eV at hrun
      refine skip_ (w1 := setBlock wd b o) (by rfl) rfl ?_ ?_
      · go_simp
      refine hK.out _ _ ?_
      clear hK K hrun
      refine done_ (by kernel_rfl) ?_
      have TF := Lib.hid (TB.off T8.out (Off.set b wd o) HHO.out (by rw [← HM0.out]; exact HSL.out) (by rw [← HM0.out]; exact HSF.out))
      have OF := Lib.hid ((Off.of_below (b := b) A8.out).trans (Off.set b wd o))
      clear T8 A8 HHO
      generalize setBlock wd b o = wz at TF OF ⊢
      go_wp2
      go_ret
      exact ⟨by rw [HE0.out] <;> rfl, by rw [HM0.out]; exact TF.out, OF.out⟩
  · rw [if_neg hf] at key
    have hE : setE M ⟨bp, bn, bs, bv⟩ = 130 := by unfold setE; rw [if_neg hf]
    have hM0 : setM M ⟨bp, bn, bs, bv⟩ = M := by unfold setM; rw [hE, if_neg (by decide)]
    rw [hE, hM0]
    clear hE hM0 hsl hsf hM hf
    unfold eV at key ⊢
    have KEY := Lib.hid key
    have hal := (Below.refl w.heap.size w).alloc (Nat.le_refl _) (.cells #[.string bp, .string bn, .string bs, .int .i64 bv] 27)
    have hnew := blk_new w (.cells #[.string bp, .string bn, .string bs, .int .i64 bv] 27)
    have hG1 := Glob.below hG hal
    have hT1 := TB.below hT hal
    have AL := Lib.hid hal
    have NW := Lib.hid hnew
    have GL := Lib.hid hG1
    have TL := Lib.hid hT1
    clear key hG1 hal hnew hG hT1 hT
    go_enter Tryd.func20, Tryd.ntmps20
    go_upto_region 1 with fail
    generalize w.alloc _ = w1 at AL NW GL TL ⊢
    have hd0 := (blk_cell NW.out 0).trans rfl
    have hd1 := (blk_cell NW.out 1).trans rfl
    have hd2 := (blk_cell NW.out 2).trans rfl
    have hd3 := (blk_cell NW.out 3).trans rfl
    go_wp2_with (go_at_call 33; refine (KEY.out _ GL.out).mono ?_; rintro e w2 ⟨rfl, hb2⟩; have B2 := Lib.hid hb2; clear hb2)
    go_ret
    exact ⟨rfl, TL.out.below B2.out, Off.of_below (AL.out.trans (below_lower B2.out AL.out.size))⟩
end Go.Proofs.YtphddbijdfmpjaaDoor.Wr
namespace Go.Proofs.YtphddbijdfmpjaaDoor.Wr
open Go.RowKit Go.MapRaw Go.Proofs.YtphddbijdfmpjaaDoorW.PrintWords Go.Proofs.YtphddbijdfmpjaaDoorW.PrintLast Go.Proofs.YtphddbijdfmpjaaDoor.Q
open Go.ChangeMaps (setBlock)
set_option linter.unusedVariables false
set_option linter.unusedSimpArgs false
def dropE (M : Tab) (path name : ByteArray) : Int := if pathS path = 0 then (if (getA (path, name) M).isSome = true then 0 else 191) else 41
def dropM (M : Tab) (path name : ByteArray) : Tab := if dropE M path name = 0 then delA (path, name) M else M
theorem del_mem {k : Key} {x : Key × Bnd} {M : Tab} (h : x ∈ delA k M) : x ∈ M := del_sub k M x h
theorem path_ok (s : ByteArray) (w : World) (hG : Glob w) : Calls Tryd.prog 19 #[.string s] w fun e w' => e = .returned (.int .i64 (pathS s)) ∧ Below w.heap.size w w' := by
  obtain ⟨k, h⟩ := path_ev s
  exact label_Path.calls k _ _ w (h k (Nat.le_refl _)) hG
set_option maxRecDepth 100000 in
set_option maxHeartbeats 4000000 in
theorem drop_ok (w : World) (t b : Nat) (M : Tab) (dp dn : ByteArray) (hT : TB w t b M) (hG : Glob w) :
    Calls Tryd.prog 21 #[.pointer (some ⟨t, 0, none⟩), .string dp, .string dn] w fun e w' => e = .returned (.int .i64 (dropE M dp dn)) ∧ TB w' t b (dropM M dp dn) ∧ Off b w w' := by
  have hu70 := Tryd.underlying70
  have hu27 := Tryd.underlying27
  have key := path_ok dp w hG
  rcases line_cases dp with ⟨hp, _⟩ | ⟨hp, _⟩
  · rw [hp] at key
    have hE : dropE M dp dn = if (getA (dp, dn) M).isSome = true then 0 else 191 := by unfold dropE; rw [if_pos hp]
    have hlk := fun w' (h : Holds eK eV w' b M) => h.lookup kind_pl (fun a => ⟨a, rfl⟩) eqPl_iff 66 27 Tryd.underlying66 (dp, dn) _ (Tryd.zeroValue27 w') true
    obtain ⟨c, hc⟩ : ∃ c : Bnd, ∀ w', Holds eK eV w' b M → (Instr.lookup 66 (.map (some b)) (.agg #[.string dp, .string dn]) true).run Tryd.prog w' = .ok (.tuple #[.agg #[.string c.path, .string c.name, .string c.subject, .int .i64 c.verb], .bool (getA (dp, dn) M).isSome]) w' := by
      refine ⟨(getA (dp, dn) M).getD ⟨⟨#[]⟩, ⟨#[]⟩, ⟨#[]⟩, 0⟩, fun w' h => (hlk w' h).trans ?_⟩
      cases getA (dp, dn) M <;> rfl
    obtain ⟨there, hth⟩ : ∃ x, x = (getA (dp, dn) M).isSome := ⟨_, rfl⟩
    rw [← hth] at hc hE
    have HC := Lib.hid hc
    have HE := Lib.hid hE
    have KEY := Lib.hid key
    have TL := Lib.hid hT
    clear hlk hc hth hE key hG hT hp
    obtain ⟨cp, cn, cs, cv⟩ := c
    go_enter Tryd.func21, Tryd.ntmps21
    go_upto_region 3 with (go_at_call 19; refine KEY.out.mono ?_; rintro e w2 ⟨rfl, hb2⟩; have B2 := Lib.hid hb2; have T2 := Lib.hid (TL.out.below hb2); clear hb2)
    have hc0 := T2.out.cell
    have hrun := HC.out _ T2.out.holds
    go_upto_region 4 with fail
    have hbq := (Below.refl w2.heap.size w2).alloc (Nat.le_refl _) (.cells #[.string cp, .string cn, .string cs, .int .i64 cv] 27)
    have B3 := Lib.hid (B2.out.trans (below_lower hbq B2.out.size))
    have T3 := Lib.hid (T2.out.below hbq)
    clear hbq T2 B2 TL hc0 hrun
    generalize w2.alloc _ = w3 at T3 B3 ⊢
    have hc0 := T3.out.cell
    cases there
    · go_wp2
      go_ret
      have e2 : dropM M dp dn = M := by unfold dropM; rw [HE.out, if_neg (by decide)]
      exact ⟨by rw [HE.out] <;> rfl, by rw [e2]; exact T3.out, Off.of_below B3.out⟩
    · have hdel := T3.out.holds.delete (P := Tryd.prog) kind_pl (fun a => ⟨a, rfl⟩) eqPl_iff 66 27 0 70 Tryd.underlying66 (dp, dn)
      obtain ⟨o, hrun, hho⟩ := hdel
      have HHO := Lib.hid hho
      clear hho
      unfold eK at hrun
      go_wp2
      go_ret
      have e2 : dropM M dp dn = delA (dp, dn) M := by unfold dropM; rw [HE.out, if_pos (by decide)]
      exact ⟨by rw [HE.out] <;> rfl, by rw [e2]; exact TB.off T3.out (Off.set b w3 o) HHO.out (nodup_del _ M T3.out.nodup) (fun p hp => T3.out.fits p (del_mem hp)), (Off.of_below B3.out).trans (Off.set b w3 o)⟩
  · rw [hp] at key
    have hE : dropE M dp dn = 41 := by unfold dropE; rw [hp, if_neg (by decide)]
    have hM0 : dropM M dp dn = M := by unfold dropM; rw [hE, if_neg (by decide)]
    rw [hE, hM0]
    have KEY := Lib.hid key
    have TL := Lib.hid hT
    clear hE hM0 hp key hG hT
    go_enter Tryd.func21, Tryd.ntmps21
    go_wp2_with (go_at_call 19; refine KEY.out.mono ?_; rintro e w2 ⟨rfl, hb2⟩; have B2 := Lib.hid hb2; have T2 := Lib.hid (TL.out.below hb2); clear hb2)
    go_ret
    exact ⟨rfl, T2.out, Off.of_below B2.out⟩
end Go.Proofs.YtphddbijdfmpjaaDoor.Wr
namespace Go.Proofs.YtphddbijdfmpjaaDoor.Wr
open Go.RowKit Go.MapRaw Go.Proofs.YtphddbijdfmpjaaDoorW.PrintWords Go.Proofs.YtphddbijdfmpjaaDoorW.PrintLast Go.Proofs.YtphddbijdfmpjaaDoor.Q
open Go.ChangeMaps (setBlock)
set_option linter.unusedVariables false
set_option linter.unusedSimpArgs false
theorem Off.alloc {b : Nat} {u w : World} (h : Off b u w) (o : Obj) : Off b u (w.alloc o) := h.trans (Off.of_below ((Below.refl _ _).alloc (Nat.le_refl _) o))
instance memKey (k : Key) (l : List Key) : Decidable (k ∈ l) := decidable_of_iff (l.any (fun y => decide (y = k)) = true) (by simp)
end Go.Proofs.YtphddbijdfmpjaaDoor.Wr
namespace Go.Proofs.YtphddbijdfmpjaaDoor.Q
open Go.RowKit Go.Proofs.YtphddbijdfmpjaaDoorW.PrintWords Go.Proofs.YtphddbijdfmpjaaDoorW.PrintLast Go.Proofs.YtphddbijdfmpjaaDoorW.PrintMore
attribute [local go_sem] max2_int min2_int max_two min_two max_three min_three max_four min_four   -- for this text's walks alone
set_option linter.unusedVariables false
set_option linter.unusedSimpArgs false
def access_isVerb.f (a0 : Int) : Option (Bool) := if a0 ≥ 0 then (some (decide (a0 ≤ 3))) else (some false)
set_option maxHeartbeats 8000000 in
set_option maxRecDepth 100000 in
theorem access_isVerb.calls (a0 : Int) (r : Bool) (w : World) (h : access_isVerb.f a0 = some r) :
    Calls Tryd.prog 31 #[.int .i64 a0] w fun e w' => e = .returned (.bool r) ∧ Drawn0 w w' := by
  have H : (if a0 ≥ 0 then (some (decide (a0 ≤ 3))) else (some false)) = some r := h
  clear h
  by_cases c2 : a0 ≥ 0
  · rw [if_pos c2] at H
    have c2b0 : decide (0 ≤ a0) = true := decide_eq_true c2
    clear c2
    obtain rfl := Option.some.inj H
    go_enter Tryd.func31, Tryd.ntmps31
    go_wp2
    go_ret
    exact ⟨by first | rfl | (simp; done) | (simp [*]; done), by repeat (first | exact Drawn0.refl _ | apply Drawn0.step)⟩
  · rw [if_neg c2] at H
    have c2b0 : decide (0 ≤ a0) = false := decide_eq_false c2
    clear c2
    obtain rfl := Option.some.inj H
    go_enter Tryd.func31, Tryd.ntmps31
    go_wp2
    go_ret
    exact ⟨by first | rfl | (simp; done) | (simp [*]; done), by repeat (first | exact Drawn0.refl _ | apply Drawn0.step)⟩
end Go.Proofs.YtphddbijdfmpjaaDoor.Q
namespace Go.Proofs.YtphddbijdfmpjaaDoor.Wr
open Go.RowKit Go.MapRaw Go.Proofs.YtphddbijdfmpjaaDoorW.PrintWords Go.Proofs.YtphddbijdfmpjaaDoorW.PrintLast Go.Proofs.YtphddbijdfmpjaaDoor.Q
open Go.ChangeMaps (setBlock)
set_option linter.unusedVariables false
set_option linter.unusedSimpArgs false
def zb : Bnd := ⟨⟨#[]⟩, ⟨#[]⟩, ⟨#[]⟩, 0⟩
def BestAt (M : Tab) (s : ByteArray) (v : Int) (q : ByteArray) (c : Bnd) : Prop := (∃ x ∈ M, x.2 = c ∧ Mat s v q x) ∧ ∀ x ∈ M, Mat s v q x → Op.bytesLess x.2.name.toList c.name.toList = false
def WhyIs (M : Tab) (s : ByteArray) (v : Int) (p : ByteArray) (c : Bnd) (fd : Bool) : Prop :=
  (fd = false ∧ c = zb ∧ whyB M s v p = false) ∨ (fd = true ∧ isV v = true ∧ ∃ A q B, (lineS p).1 = A ++ q :: B ∧ (∀ a ∈ A, hasAt M s v a = false) ∧ BestAt M s v q c)
theorem WhyIs.found {M : Tab} {s : ByteArray} {v : Int} {p : ByteArray} {c : Bnd} {fd : Bool} (h : WhyIs M s v p c fd) : fd = whyB M s v p := by
  rcases h with ⟨rfl, _, h⟩ | ⟨rfl, hv, A, q, B, hl, _, ⟨x, hx, _, hm⟩, _⟩
  · exact h.symm
  · refine ((whyB_iff M s v p).2 ⟨(isV_iff v).1 hv, q, ?_, x, hx, hm⟩).symm
    rw [hl]; simp
structure Best (M L : Tab) (s : ByteArray) (v : Int) (q : ByteArray) (c : Bnd) (fd : Bool) : Prop where
  seen : ∀ x ∈ M, Mat s v q x → x ∈ L ∨ (fd = true ∧ Op.bytesLess x.2.name.toList c.name.toList = false)
  is : fd = true → ∃ x ∈ M, x.2 = c ∧ Mat s v q x
  not : fd = false → c = zb
theorem Best.start (M : Tab) (s : ByteArray) (v : Int) (q : ByteArray) : Best M M s v q zb false :=
  ⟨fun x hx _ => .inl hx, fun h => (by cases h), fun _ => rfl⟩
theorem Best.skip {M A B : Tab} {x : Key × Bnd} {s : ByteArray} {v : Int} {q : ByteArray} {c : Bnd} {fd : Bool} (h : Best M (A ++ x :: B) s v q c fd) (hx : Mat s v q x → fd = true ∧ Op.bytesLess x.2.name.toList c.name.toList = false) : Best M (A ++ B) s v q c fd :=
  ⟨fun y hy hm => (by
    rcases h.seen y hy hm with hl | hl
    · rcases List.mem_append.1 hl with hl | hl
      · exact .inl (List.mem_append.2 (.inl hl))
      · rcases List.mem_cons.1 hl with rfl | hl
        · exact .inr (hx hm)
        · exact .inl (List.mem_append.2 (.inr hl))
    · exact .inr hl), h.is, h.not⟩
theorem Best.take {M A B : Tab} {x : Key × Bnd} {s : ByteArray} {v : Int} {q : ByteArray} {c : Bnd} {fd : Bool} (h : Best M (A ++ x :: B) s v q c fd) (hxM : x ∈ M) (hm : Mat s v q x) (hx : fd = true → Op.bytesLess x.2.name.toList c.name.toList = true) : Best M (A ++ B) s v q x.2 true :=
  ⟨fun y hy hmy => (by
    rcases h.seen y hy hmy with hl | ⟨hf, hl⟩
    · rcases List.mem_append.1 hl with hl | hl
      · exact .inl (List.mem_append.2 (.inl hl))
      · rcases List.mem_cons.1 hl with rfl | hl
        · exact .inr ⟨rfl, less_irrefl _⟩
        · exact .inl (List.mem_append.2 (.inr hl))
    · refine .inr ⟨rfl, ?_⟩
      cases hb : Op.bytesLess y.2.name.toList x.2.name.toList with
      | false => rfl
      | true => rw [less_trans _ _ _ hb (hx hf)] at hl; cases hl), fun _ => ⟨x, hxM, rfl, hm⟩, fun h => (by cases h)⟩
theorem Best.found {M : Tab} {s : ByteArray} {v : Int} {q : ByteArray} {c : Bnd} (h : Best M [] s v q c true) : BestAt M s v q c :=
  ⟨h.is rfl, fun x hx hm => ((h.seen x hx hm).resolve_left (by simp)).2⟩
theorem Best.none {M : Tab} {s : ByteArray} {v : Int} {q : ByteArray} {c : Bnd} (h : Best M [] s v q c false) : hasAt M s v q = false := by
  rw [Bool.eq_false_iff]
  intro hh
  obtain ⟨x, hx, hm⟩ := (hasAt_iff M s v q).1 hh
  rcases h.seen x hx hm with hl | ⟨hl, _⟩
  · cases hl
  · cases hl
theorem Ranging_mem {w : World} {b r : Nat} {M L : Tab} (h : Ranging eK eV w b r M L) : ∀ x ∈ L, ∃ y ∈ M, eK x.1 = eK y.1 ∧ eV x.2 = eV y.2 := by
  obtain ⟨es, c, s, seen, c0, h1, h2, h3, h4, h5, h6, h7⟩ := h
  intro x hx
  have hm : (eK x.1, eV x.2) ∈ L.map (fun p => (eK p.1, eV p.2)) := List.mem_map.2 ⟨x, hx, rfl⟩
  rw [← h7] at hm
  obtain ⟨e, he, hk⟩ := List.mem_map.1 hm
  have : kv e ∈ M.map (fun p => (eK p.1, eV p.2)) := by
    rw [← h2.list]; exact List.mem_map.2 ⟨e, (List.mem_filter.1 he).1, rfl⟩
  obtain ⟨y, hy, hyk⟩ := List.mem_map.1 this
  rw [hk] at hyk
  exact ⟨y, hy, (congrArg Prod.fst hyk).symm, (congrArg Prod.snd hyk).symm⟩
theorem eK_inj {p q : Key} (h : eK p = eK q) : p = q := (eqPl_iff p q).1 (by rw [← h]; exact (eqPl_iff p p).2 rfl)
theorem eV_inj {b c : Bnd} (h : eV b = eV c) : b = c := by
  obtain ⟨b1, b2, b3, b4⟩ := b
  obtain ⟨c1, c2, c3, c4⟩ := c
  unfold eV at h
  simp only [Value.agg.injEq, Array.mk.injEq, List.cons.injEq, Value.string.injEq, Value.int.injEq, and_true, true_and] at h
  obtain ⟨h1, h2, h3, h4⟩ := h
  rw [h1, h2, h3, h4]
theorem Ranging_in {w : World} {b r : Nat} {M L : Tab} (h : Ranging eK eV w b r M L) {x : Key × Bnd} (hx : x ∈ L) : x ∈ M := by
  obtain ⟨y, hy, h1, h2⟩ := Ranging_mem h x hx
  rw [show x = y from Prod.ext (eK_inj h1) (eV_inj h2)]
  exact hy
theorem results_cell_row_tmp {P : Program} {fn : Func} {p u : Tmp} {ty : TypeId} (h : fn.results = #[.cell p ty, .tmp u]) (tmps : Array Value) (w : World) (g : Nat) (t : TypeId) (cs : Array Value) (fr : Nat × Nat) (d : TypeDesc)
    (hp : tmps.getD p undef = .pointer (some ⟨g, 0, none⟩)) (hg : w.heap[g]? = some (.cells cs t fr))
    (hu : P.underlying ty = some d) (hd : (match d with | .struct _ | .array _ _ => true | _ => false) = true) (hi : (P.info? ty).map (·.size) = some cs.size) :
    (results fn tmps).run P w = .ok (.tuple #[.agg cs, tmps.getD u undef]) w := by
  have hp' : tmps[p]?.getD undef = .pointer (some ⟨g, 0, none⟩) := by simpa using hp
  simp [results, h, hp', asAddr, run_loadVar_row w g t ty cs fr d hg hu hd hi, Sem.run_bind]
theorem line_ok (s : ByteArray) (w : World) (hG : Glob w) : Calls Tryd.prog 12 #[.string s] w fun e w' => ∃ v0_ : Value, e = .returned (.tuple #[v0_, .int .i64 (lineS s).2]) ∧ Kd.R Kd.string 9 w' w.heap.size (fun _ => True) v0_ (lineS s).1 ∧ Below w.heap.size w w' := by
  obtain ⟨k, h⟩ := line_ev s
  exact label_Line.calls k _ _ _ w (h k (Nat.le_refl _)) hG
theorem verb_ok (v : Int) (w : World) : Calls Tryd.prog 31 #[.int .i64 v] w fun e w' => e = .returned (.bool (isV v)) ∧ Below w.heap.size w w' := by
  refine (access_isVerb.calls v (isV v) w ?_).mono (fun e w' h => ⟨h.1, h.2.below⟩)
  unfold access_isVerb.f isV
  by_cases h : v ≥ 0
  · rw [if_pos h, decide_eq_true h, Bool.true_and]
  · rw [if_neg h, decide_eq_false h, Bool.false_and]
end Go.Proofs.YtphddbijdfmpjaaDoor.Wr
namespace Go.Proofs.YtphddbijdfmpjaaDoor.Wr
open Go.RowKit Go.MapRaw Go.Proofs.YtphddbijdfmpjaaDoorW.PrintWords Go.Proofs.YtphddbijdfmpjaaDoorW.PrintLast Go.Proofs.YtphddbijdfmpjaaDoor.Q
open Go.ChangeMaps (setBlock)
set_option linter.unusedVariables false
set_option linter.unusedSimpArgs false
theorem blk_put4 {w : World} {g : Nat} {a0 a1 a2 a3 b0 b1 b2 b3 : Value} (h : w.heap[g]? = some (.cells #[a0, a1, a2, a3] 27 (0, 0))) :
    ((((w.setCell ⟨g, 0, none⟩ b0).setCell ⟨g, 1, none⟩ b1).setCell ⟨g, 2, none⟩ b2).setCell ⟨g, 3, none⟩ b3).heap[g]? = some (.cells #[b0, b1, b2, b3] 27 (0, 0)) :=
  blk_put (blk_put (blk_put (blk_put h 0 b0 rfl) 1 b1 rfl) 2 b2 rfl) 3 b3 rfl
theorem below_put4 {B : Nat} {u w : World} {g : Nat} {b0 b1 b2 b3 : Value} (h : Below B u w) (hg : B ≤ g) :
    Below B u ((((w.setCell ⟨g, 0, none⟩ b0).setCell ⟨g, 1, none⟩ b1).setCell ⟨g, 2, none⟩ b2).setCell ⟨g, 3, none⟩ b3) :=
  (((h.setCell (p := ⟨g, 0, none⟩) hg b0).setCell (p := ⟨g, 1, none⟩) hg b1).setCell (p := ⟨g, 2, none⟩) hg b2).setCell (p := ⟨g, 3, none⟩) hg b3
theorem heap_put4 {w : World} {g k : Nat} {b0 b1 b2 b3 : Value} (hk : k ≠ g) :
    ((((w.setCell ⟨g, 0, none⟩ b0).setCell ⟨g, 1, none⟩ b1).setCell ⟨g, 2, none⟩ b2).setCell ⟨g, 3, none⟩ b3).heap[k]? = w.heap[k]? := by
  rw [Below.heap_setCell _ _ _ _ hk, Below.heap_setCell _ _ _ _ hk, Below.heap_setCell _ _ _ _ hk, Below.heap_setCell _ _ _ _ hk]
set_option maxRecDepth 100000 in
set_option maxHeartbeats 8000000 in
theorem why_ok (w : World) (t b : Nat) (M : Tab) (s : ByteArray) (v : Int) (p : ByteArray) (hT : TB w t b M) (hG : Glob w) :
    Calls Tryd.prog 32 #[.pointer (some ⟨t, 0, none⟩), .string s, .int .i64 v, .string p] w fun e w' => (∃ c fd, e = .returned (.tuple #[eV c, .bool fd]) ∧ WhyIs M s v p c fd) ∧ Below w.heap.size w w' := by
  have hu27 := Tryd.underlying27
  have hu70 := Tryd.underlying70
  have key := verb_ok v
  have hal := (Below.refl w.heap.size w).alloc (Nat.le_refl _) (.cells #[.string ⟨#[]⟩, .string ⟨#[]⟩, .string ⟨#[]⟩, .int .i64 0] 27)
  have hnew := blk_new w (.cells #[.string ⟨#[]⟩, .string ⟨#[]⟩, .string ⟨#[]⟩, .int .i64 0] 27)
  have hG1 := Glob.below hG hal
  have hT1 := TB.below hT hal
  have AL := Lib.hid hal
  have NW := Lib.hid hnew
  have GL := Lib.hid hG1
  have TL := Lib.hid hT1
  clear hal hnew hG1 hT1 hT hG
  cases hv : isV v with
  | false =>
    have HV := Lib.hid hv
    rw [hv] at key
    have KEY := Lib.hid key
    clear key hv
    go_enter Tryd.func32, Tryd.ntmps32
    go_upto_region 1 with fail
    generalize w.alloc _ = w1 at AL NW GL TL ⊢
    go_upto_region 2 with (go_at_call 31; refine (KEY.out _).mono ?_; rintro e w2 ⟨rfl, hb2⟩; have B2 := Lib.hid (AL.out.trans (below_lower hb2 AL.out.size)); have N2 := Lib.hid (blk_below NW.out hb2); clear hb2)
    have hc0 := (blk_cell N2.out 0).trans rfl
    have hc1 := (blk_cell N2.out 1).trans rfl
    have hc2 := (blk_cell N2.out 2).trans rfl
    have hc3 := (blk_cell N2.out 3).trans rfl
    have hf0 := blk_frozen N2.out 0
    have hf1 := blk_frozen N2.out 1
    have hf2 := blk_frozen N2.out 2
    have hf3 := blk_frozen N2.out 3
    go_wp2
    have Z3 := Lib.hid (blk_put4 (b0 := .string ⟨#[]⟩) (b1 := .string ⟨#[]⟩) (b2 := .string ⟨#[]⟩) (b3 := .int .i64 0) N2.out)
    have B3 := Lib.hid (below_put4 (b0 := .string ⟨#[]⟩) (b1 := .string ⟨#[]⟩) (b2 := .string ⟨#[]⟩) (b3 := .int .i64 0) B2.out (Nat.le_refl _))
    clear hc0 hc1 hc2 hc3 hf0 hf1 hf2 hf3
    generalize World.setCell _ _ _ = w3 at Z3 B3 ⊢
    (try simp only [Exit.inBlock, Exit.then])
    refine bodyPost_ret (results_cell_row_tmp rfl _ _ w.heap.size 27 _ (0, 0) _ rfl Z3.out hu27 rfl (by kernel_rfl)) rfl ?_
    exact ⟨⟨zb, false, rfl, .inl ⟨rfl, rfl, by unfold whyB; rw [HV.out, Bool.false_and]⟩⟩, B3.out⟩
  | true =>
    have HV := Lib.hid hv
    rw [hv] at key
    have KEY := Lib.hid key
    have LN := Lib.hid (line_ok p)
    clear key hv
    go_enter Tryd.func32, Tryd.ntmps32
    go_upto_region 1 with fail
    generalize w.alloc _ = w1 at AL NW GL TL ⊢
    go_upto_region 3 with (go_at_call 31; refine (KEY.out _).mono ?_; rintro e w2 ⟨rfl, hb2⟩; have B2 := Lib.hid (AL.out.trans (below_lower hb2 AL.out.size)); have N2 := Lib.hid (blk_below NW.out hb2); have T2 := Lib.hid (TB.below TL.out hb2); have G2 := Lib.hid (Glob.below GL.out hb2); clear hb2)
    go_upto_region 5 with (go_at_call 12; refine (LN.out _ G2.out).mono ?_; rintro e w3 ⟨v0, rfl, hr, hb3⟩; obtain ⟨A0, c0, rfl⟩ := Kd.R_slice hr; have C3 := Aside0.mk (Kd.R_reads' hr).2.2; have B3 := Lib.hid (B2.out.trans (below_lower hb3 B2.out.size)); have N3 := Lib.hid (blk_below N2.out hb3); have T3 := Lib.hid (TB.below T2.out hb3); clear hb3 hr)
    clear AL NW GL TL B2 N2 T2 G2 KEY LN
    generalize (lineS p).2 = le
    obtain ⟨l, hl⟩ : ∃ l, l = (lineS p).1 := ⟨_, rfl⟩
    have HLL := Lib.hid (line_len p)
    rw [← hl] at C3 HLL ⊢
    have HL := Lib.hid hl
    clear hl
    go_loopg [29] l.length (fun g v29 wr => ∃ (i : Nat), v29 = .int .i64 (i : Int) ∧ Aside0 (i + g = l.length) ∧ Aside0 (∀ a ∈ l.take i, hasAt M s v a = false) ∧ Aside0 (Below w3.heap.size w3 wr))
    case atStart => exact ⟨0, rfl, ⟨by omega⟩, ⟨by simp⟩, ⟨Below.refl _ _⟩⟩
    case round =>
      obtain ⟨i, rfl, HG, HN, HBw⟩ := hrel
      by_cases hi : i < l.length
      · have hfc := Kd.at_string (Kd.C_below C3.out HBw.out) (i : Int) (by omega) (by omega)
        obtain ⟨ad, e115, hx115⟩ := hfc
        cases e115
        obtain ⟨q, hq⟩ : ∃ q, q = rdOf ByteArray.empty l (i : Int) := ⟨_, rfl⟩
        rw [← hq, Int.toNat_natCast] at hx115
        have HQ := Lib.hid (show l.take (i + 1) = l.take i ++ [q] ∧ l = l.take i ++ q :: l.drop (i + 1) by rw [hq, rd_at _ i hi]; exact ⟨List.take_succ_eq_append_getElem hi, by conv => lhs; rw [← List.take_append_drop i l, List.drop_eq_getElem_cons hi]⟩)
        clear hq
        have p115 : (0 ≤ (i : Int)) = True := eq_true (by omega)
        have q115 : ((i : Int) < (l.length : Int)) = True := eq_true (by omega)
        have qd : decide ((i : Int) < (l.length : Int)) = true := decide_eq_true (by omega)
        obtain ⟨g0, rfl⟩ : ∃ g0, gk = g0 + 1 := ⟨gk - 1, by have := HG.out; omega⟩
        have HI := Lib.hid hi
        clear hi
        go_upto_region 9 with fail
        have hbl := (Below.refl wr.heap.size wr).alloc (Nat.le_refl _) (.cells #[.string ⟨#[]⟩, .string ⟨#[]⟩, .string ⟨#[]⟩, .int .i64 0] 27)
        have B4 := Lib.hid (HBw.out.trans (below_lower hbl HBw.out.size))
        have T4 := Lib.hid (TB.belowB T3.out B4.out T3.out.lt.1 T3.out.lt.2)
        have Z4 := Lib.hid (blk_new wr (.cells #[.string ⟨#[]⟩, .string ⟨#[]⟩, .string ⟨#[]⟩, .int .i64 0] 27))
        obtain ⟨bb, hbb⟩ : ∃ bb, bb = wr.heap.size := ⟨_, rfl⟩
        have HBB := Lib.hid (show w3.heap.size ≤ bb by rw [hbb]; exact HBw.out.size)
        rw [← hbb] at Z4 ⊢
        clear hbl hx115 p115 q115 qd hbb
        generalize wr.alloc _ = w4 at B4 T4 Z4 ⊢
        obtain ⟨o4, hr4, hR4⟩ := T4.out.holds.range (P := Tryd.prog) (T := 66) (eT := 27) (kT := 70) Tryd.underlying66
        have hc4 := T4.out.cell
        have R4 := Aside0.mk hR4
        clear hR4
        go_upto_region 10 with fail
        have B5 := Aside0.mk (B4.out.alloc B4.out.size o4)
        have Z5 := Aside0.mk (blk_alloc Z4.out o4)
        obtain ⟨rr, hrr⟩ : ∃ rr, rr = w4.heap.size := ⟨_, rfl⟩
        have HRR := Lib.hid (show bb < rr by rw [hrr]; exact blk_lt Z4.out)
        rw [← hrr] at R4 ⊢
        clear hr4 hc4 hrr B4 T4 Z4
        generalize w4.alloc o4 = w5 at R4 B5 Z5 ⊢
        go_loopg [15] M.length (fun g v15 wq => ∃ (c : Bnd) (fd : Bool) (L : Tab), v15 = .bool fd ∧ L.length ≤ g ∧ Aside0 (Ranging eK eV wq b rr M L) ∧ Aside0 (wq.heap[bb]? = some (.cells #[.string c.path, .string c.name, .string c.subject, .int .i64 c.verb] 27 (0, 0))) ∧ Aside0 (Below w3.heap.size w3 wq) ∧ Aside0 (Best M L s v q c fd))
        case atStart => exact ⟨zb, false, M, rfl, Nat.le_refl _, R4, Z5, B5, ⟨Best.start M s v q⟩⟩
        case round =>
          clear R4 Z5 B5
          obtain ⟨c, fd, L, rfl, hg, HRg, HZ, HB, HBest⟩ := hrel
          rcases HRg.out.next (P := Tryd.prog) 0 with ⟨hL, hrun⟩ | ⟨A, pr, B, hL, wd, o2, hwd, hrun, hat⟩
          · subst hL
            cases fd with
            | false =>
              go_wp2
              go_roundg g0
              case measure => omega
              case rel => exact ⟨i + 1, by (have := HI.out; have := HLL.out; rw [w64 i (by omega)]), ⟨by have := HG.out; omega⟩, ⟨by rw [HQ.out.1]; intro a ha; rcases List.mem_append.1 ha with ha | ha; exact HN.out a ha; rw [List.mem_singleton.1 ha]; exact HBest.out.none⟩, HB⟩
            | true =>
              have N4 := Lib.hid ((HB.out.block _ (blk_lt N3.out)).trans N3.out)
              have hb0 := (blk_cell HZ.out 0).trans rfl
              have hb1 := (blk_cell HZ.out 1).trans rfl
              have hb2 := (blk_cell HZ.out 2).trans rfl
              have hb3 := (blk_cell HZ.out 3).trans rfl
              have hc0 := (blk_cell N4.out 0).trans rfl
              have hc1 := (blk_cell N4.out 1).trans rfl
              have hc2 := (blk_cell N4.out 2).trans rfl
              have hc3 := (blk_cell N4.out 3).trans rfl
              have hf0 := blk_frozen N4.out 0
              have hf1 := blk_frozen N4.out 1
              have hf2 := blk_frozen N4.out 2
              have hf3 := blk_frozen N4.out 3
              go_wp2
              have Z4 := Lib.hid (blk_put4 (b0 := .string c.path) (b1 := .string c.name) (b2 := .string c.subject) (b3 := .int .i64 c.verb) N4.out)
              have B4 := Lib.hid (below_put4 (b0 := .string c.path) (b1 := .string c.name) (b2 := .string c.subject) (b3 := .int .i64 c.verb) (B3.out.trans (below_lower HB.out B3.out.size)) (Nat.le_refl _))
              clear hc0 hc1 hc2 hc3 hf0 hf1 hf2 hf3 hb0 hb1 hb2 hb3
              generalize World.setCell _ _ _ = w6 at Z4 B4 ⊢
              (try simp only [Exit.inBlock, Exit.then])
              refine bodyPost_ret (results_cell_row_tmp rfl _ _ w.heap.size 27 _ (0, 0) _ rfl Z4.out hu27 rfl (by kernel_rfl)) rfl ?_
              refine ⟨⟨c, true, rfl, .inr ⟨rfl, HV.out, l.take i, q, l.drop (i + 1), ?_, HN.out, HBest.out.found⟩⟩, B4.out⟩
              rw [← HL.out]; exact HQ.out.2
          · subst hL
            cases gk with
            | zero => simp at hg
            | succ g =>
              have hent := hat.entry (P := Tryd.prog)
              have hbs : Below w3.heap.size w3 (setBlock wd rr o2) := by
                have hd : Below w3.heap.size w3 wd := by rcases hwd with rfl | rfl; exact HB.out; exact below_drew1 HB.out
                exact ⟨hd.os, hd.tape, hd.output, by rw [set_size]; exact hd.size, fun k hk => by rw [set_far _ _ _ _ (by have := HBB.out; have := HRR.out; omega)]; exact hd.block k hk⟩
              have hzs : (setBlock wd rr o2).heap[bb]? = some (.cells #[.string c.path, .string c.name, .string c.subject, .int .i64 c.verb] 27 (0, 0)) := by
                rw [set_far _ _ _ _ (by have := HRR.out; omega)]
                rcases hwd with rfl | rfl <;> exact HZ.out
              have hin := Ranging_in HRg.out (x := pr) (by simp)
              have HBS := Lib.hid hbs
              have HZS := Lib.hid hzs
              have HAT := Lib.hid hat
              have HIN := Lib.hid hin
              clear hbs hat hwd hzs hin HRg HZ HB
              unfold eK eV at hrun hent
              generalize setBlock wd rr o2 = w6 at HBS HZS HAT hrun hent
              obtain ⟨⟨kp, kn⟩, ⟨vp, vn, vs, vv⟩⟩ := pr
              go_upto_region 12 with fail
              have A7 := Aside0.mk (Ranging_alloc (Ranging_alloc HAT.out.on (.cells #[.string kp, .string kn] 70)) (.cells #[.string vp, .string vn, .string vs, .int .i64 vv] 27))
              have B7 := Aside0.mk ((HBS.out.alloc HBS.out.size (.cells #[.string kp, .string kn] 70)).alloc (HBS.out.alloc HBS.out.size (.cells #[.string kp, .string kn] 70)).size (.cells #[.string vp, .string vn, .string vs, .int .i64 vv] 27))
              have Z7 := Aside0.mk (blk_alloc (blk_alloc HZS.out (.cells #[.string kp, .string kn] 70)) (.cells #[.string vp, .string vn, .string vs, .int .i64 vv] 27))
              have K7 := Aside0.mk (blk_alloc (blk_new w6 (.cells #[.string kp, .string kn] 70)) (.cells #[.string vp, .string vn, .string vs, .int .i64 vv] 27))
              have V7 := Aside0.mk (blk_new (w6.alloc (.cells #[.string kp, .string kn] 70)) (.cells #[.string vp, .string vn, .string vs, .int .i64 vv] 27))
              rw [show (w6.alloc (.cells #[.string kp, .string kn] 70)).heap.size = w6.heap.size + 1 by simp] at V7
              obtain ⟨kk, hkk⟩ : ∃ kk, kk = w6.heap.size := ⟨_, rfl⟩
              obtain ⟨vb, hvb⟩ : ∃ vb, vb = w6.heap.size + 1 := ⟨_, rfl⟩
              rw [← hvb] at V7
              rw [← hkk] at K7
              rw [← hkk, show kk + 1 = vb by rw [hkk, hvb]]
              clear hkk hvb HAT HBS HZS hrun hent
              generalize World.alloc (World.alloc _ _) _ = w7 at A7 B7 Z7 K7 V7 ⊢
              have hk0 := (blk_cell K7.out 0).trans rfl
              have hv0 := (blk_cell V7.out 0).trans rfl
              have hv1 := (blk_cell V7.out 1).trans rfl
              have hv2 := (blk_cell V7.out 2).trans rfl
              have hv3 := (blk_cell V7.out 3).trans rfl
              have hb1 := (blk_cell Z7.out 1).trans rfl
              by_cases c1 : kp = q
              rotate_left
              · have e1 : (kp.toList == q.toList) = false := by rw [toList_beq, Bool.eq_false_iff, Ne, ba_beq]; exact c1
                go_wp2
                go_roundg g
                case measure => omega
                case rel => exact ⟨c, fd, A ++ B, rfl, by simp at hg ⊢; omega, A7, Z7, B7, ⟨HBest.out.skip (fun hm => absurd hm.1 c1)⟩⟩
              by_cases c2 : vs = s
              rotate_left
              · have e1 : (kp.toList == q.toList) = true := by rw [toList_beq, ba_beq]; exact c1
                have e2 : (vs.toList == s.toList) = false := by rw [toList_beq, Bool.eq_false_iff, Ne, ba_beq]; exact c2
                go_wp2
                go_roundg g
                case measure => omega
                case rel => exact ⟨c, fd, A ++ B, rfl, by simp at hg ⊢; omega, A7, Z7, B7, ⟨HBest.out.skip (fun hm => absurd hm.2.1 c2)⟩⟩
              by_cases c3 : v ≤ vv
              rotate_left
              · have e1 : (kp.toList == q.toList) = true := by rw [toList_beq, ba_beq]; exact c1
                have e2 : (vs.toList == s.toList) = true := by rw [toList_beq, ba_beq]; exact c2
                have e3 : decide (vv ≥ v) = false := decide_eq_false c3
                go_wp2
                go_roundg g
                case measure => omega
                case rel => exact ⟨c, fd, A ++ B, rfl, by simp at hg ⊢; omega, A7, Z7, B7, ⟨HBest.out.skip (fun hm => absurd hm.2.2 (by first | exact c3 | exact Int.not_le.2 c3))⟩⟩
              have e1 : (kp.toList == q.toList) = true := by rw [toList_beq, ba_beq]; exact c1
              have e2 : (vs.toList == s.toList) = true := by rw [toList_beq, ba_beq]; exact c2
              have e3 : decide (vv ≥ v) = true := decide_eq_true c3
              subst c2
              have hb0 := (blk_cell Z7.out 0).trans rfl
              have hb2 := (blk_cell Z7.out 2).trans rfl
              have hb3 := (blk_cell Z7.out 3).trans rfl
              have hf0 := blk_frozen Z7.out 0
              have hf1 := blk_frozen Z7.out 1
              have hf2 := blk_frozen Z7.out 2
              have hf3 := blk_frozen Z7.out 3
              cases fd with
              | false =>
                go_wp2
                go_roundg g
                case measure => omega
                case rel => exact ⟨⟨vp, vn, _, vv⟩, true, A ++ B, rfl, by simp at hg ⊢; omega, ⟨A7.out.move (heap_put4 (by have := HBB.out; have := T3.out.lt.2; omega)) (heap_put4 (by have := HRR.out; omega))⟩, ⟨blk_put4 Z7.out⟩, ⟨below_put4 B7.out HBB.out⟩, ⟨HBest.out.take HIN.out ⟨c1, rfl, c3⟩ (fun h => (by cases h))⟩⟩
              | true =>
                cases e4 : Op.bytesLess vn.toList c.name.toList with
                | true =>
                  go_wp2
                  go_roundg g
                  case measure => omega
                  case rel => exact ⟨⟨vp, vn, _, vv⟩, true, A ++ B, rfl, by simp at hg ⊢; omega, ⟨A7.out.move (heap_put4 (by have := HBB.out; have := T3.out.lt.2; omega)) (heap_put4 (by have := HRR.out; omega))⟩, ⟨blk_put4 Z7.out⟩, ⟨below_put4 B7.out HBB.out⟩, ⟨HBest.out.take HIN.out ⟨c1, rfl, c3⟩ (fun _ => e4)⟩⟩
                | false =>
                  go_wp2
                  go_roundg g
                  case measure => omega
                  case rel => exact ⟨c, true, A ++ B, rfl, by simp at hg ⊢; omega, A7, Z7, B7, ⟨HBest.out.skip (fun hm => ⟨rfl, e4⟩)⟩⟩
      · have qd : decide ((i : Int) < (l.length : Int)) = false := decide_eq_false (by omega)
        have HI := Lib.hid hi
        clear hi
        have N4 := Lib.hid ((HBw.out.block _ (blk_lt N3.out)).trans N3.out)
        have hc0 := (blk_cell N4.out 0).trans rfl
        have hc1 := (blk_cell N4.out 1).trans rfl
        have hc2 := (blk_cell N4.out 2).trans rfl
        have hc3 := (blk_cell N4.out 3).trans rfl
        have hf0 := blk_frozen N4.out 0
        have hf1 := blk_frozen N4.out 1
        have hf2 := blk_frozen N4.out 2
        have hf3 := blk_frozen N4.out 3
        go_wp2
        have Z4 := Lib.hid (blk_put4 (b0 := .string ⟨#[]⟩) (b1 := .string ⟨#[]⟩) (b2 := .string ⟨#[]⟩) (b3 := .int .i64 0) N4.out)
        have B4 := Lib.hid (below_put4 (b0 := .string ⟨#[]⟩) (b1 := .string ⟨#[]⟩) (b2 := .string ⟨#[]⟩) (b3 := .int .i64 0) (B3.out.trans (below_lower HBw.out B3.out.size)) (Nat.le_refl _))
        clear hc0 hc1 hc2 hc3 hf0 hf1 hf2 hf3
        generalize World.setCell _ _ _ = w4 at Z4 B4 ⊢
        (try simp only [Exit.inBlock, Exit.then])
        refine bodyPost_ret (results_cell_row_tmp rfl _ _ w.heap.size 27 _ (0, 0) _ rfl Z4.out hu27 rfl (by kernel_rfl)) rfl ?_
        refine ⟨⟨zb, false, rfl, .inl ⟨rfl, rfl, ?_⟩⟩, B4.out⟩
        unfold whyB
        rw [HV.out, Bool.true_and, ← HL.out, List.any_eq_false]
        intro a ha
        rw [HN.out a (by rw [List.take_of_length_le (by have := HI.out; omega)]; exact ha)]
        decide
end Go.Proofs.YtphddbijdfmpjaaDoor.Wr
namespace Go.Proofs.YtphddbijdfmpjaaDoor.Wr
open Go.RowKit Go.MapRaw Go.Proofs.YtphddbijdfmpjaaDoorW.PrintWords Go.Proofs.YtphddbijdfmpjaaDoorW.PrintLast Go.Proofs.YtphddbijdfmpjaaDoor.Q
open Go.ChangeMaps (setBlock)
set_option linter.unusedVariables false
set_option linter.unusedSimpArgs false
theorem root_list : ([114, 111, 111, 116] : List UInt8) = rootS.toList := by rw [ByteArray.toList_eq]; rfl
set_option maxRecDepth 100000 in
set_option maxHeartbeats 8000000 in
theorem may_ok (w : World) (t b : Nat) (M : Tab) (s : ByteArray) (v : Int) (p : ByteArray) (hT : TB w t b M) (hG : Glob w) :
    Calls Tryd.prog 13 #[.pointer (some ⟨t, 0, none⟩), .string s, .int .i64 v, .string p] w fun e w' => e = .returned (.bool (mayB M s v p)) ∧ Below w.heap.size w w' := by
  have hu27 := Tryd.underlying27
  by_cases hs : s = rootS
  · have hM : mayB M s v p = (isV v && decide (pathS p = 0)) := by unfold mayB; rw [if_pos hs]
    rw [hM]
    have hr : (s.toList == ([114, 111, 111, 116] : List UInt8)) = true := by rw [root_list, toList_beq, ba_beq]; exact hs
    have key := verb_ok v
    have hp := path_ok p
    have GL := Lib.hid hG
    clear hM hT hs hG
    cases hv : isV v with
    | false =>
      rw [hv] at key
      have KEY := Lib.hid key
      clear hp key hv
      go_enter Tryd.func13, Tryd.ntmps13
      go_wp2_with (go_at_call 31; refine (KEY.out _).mono ?_; rintro e w2 ⟨rfl, hb2⟩; have B2 := Lib.hid hb2; clear hb2)
      go_ret
      exact ⟨rfl, B2.out⟩
    | true =>
      rw [hv] at key
      have KEY := Lib.hid key
      have PK := Lib.hid hp
      clear hp key hv
      rcases line_cases p with ⟨h0, _⟩ | ⟨h0, _⟩
      · rw [h0] at PK ⊢
        go_enter Tryd.func13, Tryd.ntmps13
        go_wp2_with (first | (go_at_call 31; refine (KEY.out _).mono ?_; rintro e w2 ⟨rfl, hb2⟩; have B2 := Lib.hid hb2; clear hb2) | (go_at_call 19; refine (PK.out _ (Glob.below GL.out B2.out)).mono ?_; rintro e w3 ⟨rfl, hb3⟩; have B3 := Lib.hid (B2.out.trans (below_lower hb3 B2.out.size)); clear hb3))
        go_ret
        exact ⟨rfl, B3.out⟩
      · rw [h0] at PK ⊢
        go_enter Tryd.func13, Tryd.ntmps13
        go_wp2_with (first | (go_at_call 31; refine (KEY.out _).mono ?_; rintro e w2 ⟨rfl, hb2⟩; have B2 := Lib.hid hb2; clear hb2) | (go_at_call 19; refine (PK.out _ (Glob.below GL.out B2.out)).mono ?_; rintro e w3 ⟨rfl, hb3⟩; have B3 := Lib.hid (B2.out.trans (below_lower hb3 B2.out.size)); clear hb3))
        go_ret
        exact ⟨rfl, B3.out⟩
  · have hM : mayB M s v p = whyB M s v p := by unfold mayB; rw [if_neg hs]
    rw [hM]
    have hr : (s.toList == ([114, 111, 111, 116] : List UInt8)) = false := by rw [root_list, toList_beq, Bool.eq_false_iff, Ne, ba_beq]; exact hs
    have KEY := Lib.hid (why_ok w t b M s v p hT hG)
    clear hM hT hs hG
    go_enter Tryd.func13, Tryd.ntmps13
    go_wp2_with (go_at_call 32; refine KEY.out.mono ?_; rintro e w2 ⟨⟨⟨cp, cn, cs, cv⟩, fd, rfl, hw⟩, hb2⟩; have HF := Lib.hid hw.found; have B2 := Lib.hid hb2; unfold eV; clear hb2 hw)
    go_ret
    exact ⟨by rw [← HF.out] <;> rfl, B2.out.trans (below_lower ((Below.refl _ _).alloc (Nat.le_refl _) _) B2.out.size)⟩
end Go.Proofs.YtphddbijdfmpjaaDoor.Wr
namespace Go.Proofs.YtphddbijdfmpjaaDoor.Wr
open Go.RowKit Go.MapRaw Go.Proofs.YtphddbijdfmpjaaDoorW.PrintWords Go.Proofs.YtphddbijdfmpjaaDoorW.PrintLast Go.Proofs.YtphddbijdfmpjaaDoor.Q
open Go.ChangeMaps (setBlock)
set_option linter.unusedVariables false
set_option linter.unusedSimpArgs false
def b0 : Bnd := ⟨⟨#[47, 97]⟩, ⟨#[119]⟩, ⟨#[97, 110, 110]⟩, 1⟩
def M0 : Tab := [((⟨#[47, 97]⟩, ⟨#[119]⟩), b0)]
theorem b0_formed : formedB b0 = true := by decide +kernel
theorem set_b0 : setE [] b0 = 0 := by unfold setE; rw [if_pos b0_formed, if_neg (by decide)]
theorem setM_b0 : setM [] b0 = M0 := by unfold setM; rw [if_pos set_b0]; rfl
theorem drop_b0 : dropE M0 ⟨#[47, 97]⟩ ⟨#[119]⟩ = 0 := by decide +kernel
theorem dropM_b0 : dropM M0 ⟨#[47, 97]⟩ ⟨#[119]⟩ = [] := by unfold dropM; rw [if_pos drop_b0]; decide +kernel
theorem may1 : mayB M0 ⟨#[97, 110, 110]⟩ 0 ⟨#[47, 97, 47, 98]⟩ = true := by decide +kernel
theorem may2 : mayB M0 ⟨#[97, 110, 110]⟩ 1 ⟨#[47, 97]⟩ = true := by decide +kernel
theorem may3 : mayB M0 ⟨#[97, 110, 110]⟩ 2 ⟨#[47, 97]⟩ = false := by decide +kernel
theorem may4 : mayB M0 ⟨#[97, 110, 110]⟩ 0 ⟨#[47, 97, 98]⟩ = false := by decide +kernel
theorem may5 : mayB M0 ⟨#[98, 111, 98]⟩ 0 ⟨#[47, 97]⟩ = false := by decide +kernel
theorem may6 : mayB [] ⟨#[97, 110, 110]⟩ 0 ⟨#[47, 97]⟩ = false := by decide +kernel
theorem may7 : mayB [] ⟨#[114, 111, 111, 116]⟩ 3 ⟨#[47, 97]⟩ = true := by decide +kernel
end Go.Proofs.YtphddbijdfmpjaaDoor.Wr
namespace Go.Proofs.YtphddbijdfmpjaaDoor.Wr
open Go.RowKit Go.MapRaw Go.Proofs.YtphddbijdfmpjaaDoorW.PrintWords Go.Proofs.YtphddbijdfmpjaaDoorW.PrintLast Go.Proofs.YtphddbijdfmpjaaDoor.Q
open Go.ChangeMaps (setBlock)
set_option linter.unusedVariables false
set_option linter.unusedSimpArgs false
theorem may_lit {ar : Array Value} {w : World} {x y : Bool} (h : Calls Tryd.prog 13 ar w fun e w' => e = .returned (.bool x) ∧ Below w.heap.size w w') (e : x = y) : Calls Tryd.prog 13 ar w fun e w' => e = .returned (.bool y) ∧ Below w.heap.size w w' := by rw [← e]; exact h
theorem set_lit {w : World} {t b : Nat} (hT : TB w t b []) (hG : Glob w) : Calls Tryd.prog 20 #[.pointer (some ⟨t, 0, none⟩), .agg #[.string ⟨#[47, 97]⟩, .string ⟨#[119]⟩, .string ⟨#[97, 110, 110]⟩, .int .i64 1]] w fun e w' => e = .returned (.int .i64 0) ∧ TB w' t b M0 ∧ Off b w w' := by
  have h := set_ok w t b [] b0 hT hG (by simp)
  rw [set_b0, setM_b0] at h
  exact h
theorem drop_lit {w : World} {t b : Nat} (hT : TB w t b M0) (hG : Glob w) : Calls Tryd.prog 21 #[.pointer (some ⟨t, 0, none⟩), .string ⟨#[47, 97]⟩, .string ⟨#[119]⟩] w fun e w' => e = .returned (.int .i64 0) ∧ TB w' t b [] ∧ Off b w w' := by
  have h := drop_ok w t b M0 ⟨#[47, 97]⟩ ⟨#[119]⟩ hT hG
  rw [drop_b0, dropM_b0] at h
  exact h
set_option maxRecDepth 100000 in
set_option maxHeartbeats 8000000 in
theorem lives_ok (w : World) (hG : Glob w) : Calls Tryd.prog 10 #[] w fun e w' => ∃ t b, e = .returned (.pointer (some ⟨t, 0, none⟩)) ∧ TB w' t b [] ∧ w.heap.size ≤ t ∧ w.heap.size ≤ b ∧ Below w.heap.size w w' := by
  have NEW := Lib.hid (newT_ok w)
  have K1 := Lib.hid (fun t b w' (hT : TB w' t b M0) hG => may_lit (may_ok w' t b M0 ⟨#[97, 110, 110]⟩ 0 ⟨#[47, 97, 47, 98]⟩ hT hG) may1)
  have K2 := Lib.hid (fun t b w' (hT : TB w' t b M0) hG => may_lit (may_ok w' t b M0 ⟨#[97, 110, 110]⟩ 1 ⟨#[47, 97]⟩ hT hG) may2)
  have K3 := Lib.hid (fun t b w' (hT : TB w' t b M0) hG => may_lit (may_ok w' t b M0 ⟨#[97, 110, 110]⟩ 2 ⟨#[47, 97]⟩ hT hG) may3)
  have K4 := Lib.hid (fun t b w' (hT : TB w' t b M0) hG => may_lit (may_ok w' t b M0 ⟨#[97, 110, 110]⟩ 0 ⟨#[47, 97, 98]⟩ hT hG) may4)
  have K5 := Lib.hid (fun t b w' (hT : TB w' t b M0) hG => may_lit (may_ok w' t b M0 ⟨#[98, 111, 98]⟩ 0 ⟨#[47, 97]⟩ hT hG) may5)
  have K6 := Lib.hid (fun t b w' (hT : TB w' t b []) hG => may_lit (may_ok w' t b [] ⟨#[97, 110, 110]⟩ 0 ⟨#[47, 97]⟩ hT hG) may6)
  have K7 := Lib.hid (fun t b w' (hT : TB w' t b []) hG => may_lit (may_ok w' t b [] ⟨#[114, 111, 111, 116]⟩ 3 ⟨#[47, 97]⟩ hT hG) may7)
  go_enter Tryd.func10, Tryd.ntmps10
  go_upto_region 2 with (go_at_call 29; refine NEW.out.mono ?_; rintro e w1 ⟨t, b, rfl, hT, ht, hb, hb1⟩; have B1 := Lib.hid hb1; have T1 := Lib.hid hT; have HT := Lib.hid ht; have HB := Lib.hid hb; clear hT ht hb hb1)
  clear NEW
  go_upto_region 4 with (go_at_call 20; refine (set_lit T1.out (Glob.below hG B1.out)).mono ?_; rintro e w2 ⟨rfl, hT, ho⟩; have B2 := Lib.hid (B1.out.trans (ho.belowB HB.out B1.out.size)); have T2 := Lib.hid hT; clear hT ho T1)
  replace K1 := Lib.hid (K1.out t b)
  replace K2 := Lib.hid (K2.out t b)
  replace K3 := Lib.hid (K3.out t b)
  replace K4 := Lib.hid (K4.out t b)
  replace K5 := Lib.hid (K5.out t b)
  replace K6 := Lib.hid (K6.out t b)
  replace K7 := Lib.hid (K7.out t b)
  go_upto_region 6 with (first
    | (go_at_call 13; (with_reducible refine (K1.out _ T2.out (Glob.below hG B2.out)).mono ?_); rintro e w3 ⟨rfl, hb⟩; have B3 := Lib.hid (B2.out.trans (below_lower hb B2.out.size)); have T3 := Lib.hid (T2.out.below hb); clear hb T2)
    | (go_at_call 13; (with_reducible refine (K2.out _ T3.out (Glob.below hG B3.out)).mono ?_); rintro e w4 ⟨rfl, hb⟩; have B4 := Lib.hid (B3.out.trans (below_lower hb B3.out.size)); have T4 := Lib.hid (T3.out.below hb); clear hb T3)
    | (go_at_call 13; (with_reducible refine (K3.out _ T4.out (Glob.below hG B4.out)).mono ?_); rintro e w5 ⟨rfl, hb⟩; have B5 := Lib.hid (B4.out.trans (below_lower hb B4.out.size)); have T5 := Lib.hid (T4.out.below hb); clear hb T4)
    | (go_at_call 13; (with_reducible refine (K4.out _ T5.out (Glob.below hG B5.out)).mono ?_); rintro e w6 ⟨rfl, hb⟩; have B6 := Lib.hid (B5.out.trans (below_lower hb B5.out.size)); have T6 := Lib.hid (T5.out.below hb); clear hb T5)
    | (go_at_call 13; (with_reducible refine (K5.out _ T6.out (Glob.below hG B6.out)).mono ?_); rintro e w7 ⟨rfl, hb⟩; have B7 := Lib.hid (B6.out.trans (below_lower hb B6.out.size)); have T7 := Lib.hid (T6.out.below hb); clear hb T6))
  go_wp2_with (first
    | (go_at_call 21; refine (drop_lit T7.out (Glob.below hG B7.out)).mono ?_; rintro e w8 ⟨rfl, hT, ho⟩; have B8 := Lib.hid (B7.out.trans (ho.belowB HB.out B7.out.size)); have T8 := Lib.hid hT; clear hT ho T7)
    | (go_at_call 13; (with_reducible refine (K6.out _ T8.out (Glob.below hG B8.out)).mono ?_); rintro e w9 ⟨rfl, hb⟩; have B9 := Lib.hid (B8.out.trans (below_lower hb B8.out.size)); have T9 := Lib.hid (T8.out.below hb); clear hb T8)
    | (go_at_call 13; (with_reducible refine (K7.out _ T9.out (Glob.below hG B9.out)).mono ?_); rintro e w10 ⟨rfl, hb⟩; have B10 := Lib.hid (B9.out.trans (below_lower hb B9.out.size)); have T10 := Lib.hid (T9.out.below hb); clear hb T9))
  go_ret
  exact ⟨t, b, rfl, T10.out, HT.out, HB.out, B10.out⟩
end Go.Proofs.YtphddbijdfmpjaaDoor.Wr
namespace Go.Proofs.YtphddbijdfmpjaaDoor.Wr
end Go.Proofs.YtphddbijdfmpjaaDoor.Wr
namespace Go.Proofs.YtphddbijdfmpjaaDoor.Q
open Go.RowKit Go.Proofs.YtphddbijdfmpjaaDoorW.PrintWords Go.Proofs.YtphddbijdfmpjaaDoorW.PrintLast Go.ChangeShapes Go.Proofs.YtphddbijdfmpjaaDoor.Wr
set_option linter.unusedVariables false
set_option linter.unusedSimpArgs false
def k27 : Kd Bnd := Kd.iso (Kd.pair Kd.string (Kd.pair Kd.string (Kd.pair Kd.string (Kd.int .i64)))) (fun b => (b.path, b.name, b.subject, b.verb))
theorem add_off (ad : Addr) (n j : Nat) (hj : j ≠ 0) : ad.add (n + j) = ⟨(ad.add n).block, (ad.add n).off + j, none⟩ := by
  unfold Addr.add
  by_cases hn : n = 0
  · subst hn; simp [hj]
  · simp [hn, Nat.add_assoc]
def StrD {H : Type} (x : DataW H) (s : ByteArray) : Prop := x = .lit (.string s.data.toList) ∧ s.size ≤ maxLen
def IntD {H : Type} (x : DataW H) (n : Int) : Prop := x = .lit (.int .i64 n) ∧ (Lit.int .i64 n).wf = true
def BnD {H : Type} (x : DataW H) (b : Bnd) : Prop := ∃ l, x = .agg l ∧ ∃ y r, l = y :: r ∧ StrD y b.path ∧ ∃ y r1, r = y :: r1 ∧ StrD y b.name ∧ ∃ y r2, r1 = y :: r2 ∧ StrD y b.subject ∧ ∃ y, r2 = [y] ∧ IntD y b.verb
section
variable {H : Type} {enc : TypeId × Value → H} {w : World} {base : Nat} {spare : Nat → Bool} {held : Bool}
theorem opens27 : Opens enc Tryd.prog w base spare held 27 k27 BnD :=
  opens_struct (fun b : Bnd => (b.path, b.name, b.subject, b.verb)) (fun a => ⟨a.1, a.2.1, a.2.2.1, a.2.2.2⟩) (fun _ => rfl) Tryd.underlying27 (by kernel_rfl)
    (opens_cons rfl (by kernel_rfl) (opens_string Tryd.underlying9) (opens_cons rfl (by kernel_rfl) (opens_string Tryd.underlying9) (opens_cons rfl (by kernel_rfl) (opens_string Tryd.underlying9) (opens_one rfl (by kernel_rfl) (opens_int Tryd.underlying3)))))
end
end Go.Proofs.YtphddbijdfmpjaaDoor.Q
namespace Go.Proofs
open Go.Shelf
def Tryd.sortB_ren : Go.Shelf.Ren := ⟨fun | 6 => 38 | 15 => 57 | 14 => 56 | 28 => 82 | 29 => 83 | 20 => 74 | 21 => 75 | 22 => 76 | 23 => 77 | 24 => 78 | 25 => 79 | 26 => 80 | 27 => 81 | 46 => 94 | 47 => 95 | 48 => 96 | 49 => 97 | 50 => 98 | 57 => 102 | n => n, fun | 22 => 36 | 24 => 27 | 25 => 77 | 3 => 3 | 39 => 89 | 0 => 0 | 53 => 110 | 55 => 112 | 4 => 4 | 46 => 103 | 45 => 102 | 50 => 107 | 5 => 5 | 9 => 9 | 66 => 123 | 70 => 127 | 76 => 131 | 77 => 132 | n => n, fun | n => n⟩
theorem Tryd.sortB : Go.Proofs.SlLaysF0.n6 Tryd.prog Tryd.sortB_ren := {
  mixed := by kernel_rfl
  f6 := ⟨Tryd.f38.name, by decide, Tryd.func38.trans (congrArg some (by kernel_rfl))⟩
  f14 := ⟨Tryd.f56.name, by decide, Tryd.func56.trans (congrArg some (by kernel_rfl))⟩
  f15 := Tryd.func57.trans (congrArg some (by kernel_rfl))
  f20 := ⟨Tryd.f74.name, by decide, Tryd.func74.trans (congrArg some (by kernel_rfl))⟩
  f21 := ⟨Tryd.f75.name, by decide, Tryd.func75.trans (congrArg some (by kernel_rfl))⟩
  f22 := ⟨Tryd.f76.name, by decide, Tryd.func76.trans (congrArg some (by kernel_rfl))⟩
  f23 := ⟨Tryd.f77.name, by decide, Tryd.func77.trans (congrArg some (by kernel_rfl))⟩
  f24 := ⟨Tryd.f78.name, by decide, Tryd.func78.trans (congrArg some (by kernel_rfl))⟩
  f25 := ⟨Tryd.f79.name, by decide, Tryd.func79.trans (congrArg some (by kernel_rfl))⟩
  f26 := ⟨Tryd.f80.name, by decide, Tryd.func80.trans (congrArg some (by kernel_rfl))⟩
  f27 := ⟨Tryd.f81.name, by decide, Tryd.func81.trans (congrArg some (by kernel_rfl))⟩
  f28 := Tryd.func82.trans (congrArg some (by kernel_rfl))
  f29 := Tryd.func83.trans (congrArg some (by kernel_rfl))
  f46 := ⟨Tryd.f94.name, by decide, Tryd.func94.trans (congrArg some (by kernel_rfl))⟩
  f47 := Tryd.func95.trans (congrArg some (by kernel_rfl))
  f48 := Tryd.func96.trans (congrArg some (by kernel_rfl))
  f49 := ⟨Tryd.f97.name, by decide, Tryd.func97.trans (congrArg some (by kernel_rfl))⟩
  f50 := ⟨Tryd.f98.name, by decide, Tryd.func98.trans (congrArg some (by kernel_rfl))⟩
  f57 := ⟨Tryd.f102.name, by decide, Tryd.func102.trans (congrArg some (by kernel_rfl))⟩
  t0 := Tryd.underlying0
  a0 := Tryd.isAgg0
  z0 := Tryd.sizeOf0
  v0 := Tryd.zeroValue0
  t3 := Tryd.underlying3
  a3 := Tryd.isAgg3
  z3 := Tryd.sizeOf3
  v3 := Tryd.zeroValue3
  t4 := Tryd.underlying4
  a4 := Tryd.isAgg4
  z4 := Tryd.sizeOf4
  v4 := Tryd.zeroValue4
  t5 := Tryd.underlying5
  a5 := Tryd.isAgg5
  z5 := Tryd.sizeOf5
  v5 := Tryd.zeroValue5
  t9 := Tryd.underlying9
  a9 := Tryd.isAgg9
  z9 := Tryd.sizeOf9
  v9 := Tryd.zeroValue9
  t22 := Tryd.underlying36
  a22 := Tryd.isAgg36
  z22 := Tryd.sizeOf36
  v22 := Tryd.zeroValue36
  t25 := Tryd.underlying77
  a25 := Tryd.isAgg77
  z25 := Tryd.sizeOf77
  v25 := Tryd.zeroValue77
  t39 := Tryd.underlying89
  a39 := Tryd.isAgg89
  z39 := Tryd.sizeOf89
  v39 := Tryd.zeroValue89
  t45 := Tryd.underlying102
  a45 := Tryd.isAgg102
  z45 := Tryd.sizeOf102
  v45 := Tryd.zeroValue102
  t46 := Tryd.underlying103
  a46 := Tryd.isAgg103
  z46 := Tryd.sizeOf103
  v46 := Tryd.zeroValue103
  t50 := Tryd.underlying107
  a50 := Tryd.isAgg107
  z50 := Tryd.sizeOf107
  v50 := Tryd.zeroValue107
  t53 := Tryd.underlying110
  a53 := Tryd.isAgg110
  z53 := Tryd.sizeOf110
  v53 := Tryd.zeroValue110
  t55 := Tryd.underlying112
  a55 := Tryd.isAgg112
  z55 := Tryd.sizeOf112
  v55 := Tryd.zeroValue112
  t66 := Tryd.underlying123
  a66 := Tryd.isAgg123
  z66 := Tryd.sizeOf123
  v66 := Tryd.zeroValue123
  t70 := Tryd.underlying127
  a70 := Tryd.isAgg127
  z70 := Tryd.sizeOf127
  v70 := Tryd.zeroValue127
  t76 := Tryd.underlying131
  a76 := Tryd.isAgg131
  z76 := Tryd.sizeOf131
  v76 := Tryd.zeroValue131
  t77 := Tryd.underlying132
  a77 := Tryd.isAgg132
  z77 := Tryd.sizeOf132
  v77 := Tryd.zeroValue132 }
end Go.Proofs
namespace Go.Proofs.YtphddbijdfmpjaaDoor.Q
open Go.RowKit Go.Lib Go.Sort Go.Shelf Go.Proofs.YtphddbijdfmpjaaDoorW.PrintWords Go.Proofs.YtphddbijdfmpjaaDoorW.PrintLast Go.Proofs.YtphddbijdfmpjaaDoor.Wr
set_option linter.unusedVariables false
set_option linter.unusedSimpArgs false
instance : Inhabited Bnd := ⟨zb⟩
def encB (x : Bnd) : List Value := [.string x.path, .string x.name, .string x.subject, .int .i64 x.verb]
theorem ltB (x y : Bnd) : ltOf cmpB x y = decide (cmpB x y < 0) := rfl
theorem swoB : SWO (ltOf cmpB) where
  irrefl x := by rw [ltB, ordB.self]; rfl
  trans x y z h1 h2 := by
    rw [ltB, decide_eq_true_eq] at *
    exact ordB.lt_le h1 (by omega)
  ntrans x y z h1 h2 := by
    rw [ltB, decide_eq_false_iff_not] at *
    have e1 := ordB.neg x y
    have e2 := ordB.neg y z
    have e3 := ordB.neg x z
    have := ordB.le z y x (by omega) (by omega)
    omega
theorem glob_size {w : World} (h : Glob w) : 2 ≤ w.heap.size := by
  obtain ⟨m, hm⟩ := h.maxLen
  by_cases h1 : 1 < w.heap.size
  · exact h1
  · have : w.heap[1]? = none := Array.getElem?_eq_none (by omega)
    simp [World.cell?, this] at hm
theorem glob_grown {w w' : World} {g : Nat} (h : Glob w) (hg : w.grownBy w' (some g)) (h2 : 2 ≤ g) : Glob w' := by
  have hs := glob_size h
  obtain ⟨m, hm⟩ := h.maxLen
  refine ⟨⟨m, ?_⟩, ?_⟩
  · rw [World.cell?_of_block (w := w) (hg.block 1 (by omega) (fun e => by cases e; omega))]; exact hm
  · rw [World.cell?_of_block (w := w) (hg.block 0 (by omega) (fun e => by cases e; omega))]; exact h.letterB
theorem flat_get {xs : List Bnd} {t : Nat} (ht : t < xs.length * 4) : (flatK encB 4 xs.toArray).toList[t]? = (encB (xs.getD (t / 4) zb))[t % 4]? := by
  have hj : t / 4 < xs.length := by omega
  have h1 : (flatK encB 4 xs.toArray).toList[t]? = some ((encB (xs.toArray[t / 4]!))[t % 4]!) := by
    rw [Array.getElem?_toList]
    simp [flatK, ht]
  have h2 : xs.toArray[t / 4]! = xs.getD (t / 4) zb := by
    simp [List.getD_eq_getElem?_getD, hj]
  rw [h1, h2]
  have h3 : t % 4 = 0 ∨ t % 4 = 1 ∨ t % 4 = 2 ∨ t % 4 = 3 := by omega
  rcases h3 with h3 | h3 | h3 | h3 <;> rw [h3] <;> rfl
theorem flat_len (xs : List Bnd) : (flatK encB 4 xs.toArray).toList.length = xs.length * 4 := by simp
theorem k27_openM {w : World} {base : Nat} {ok : Nat → Prop} {x : Bnd} {cs : List Value} (h : k27.M w base ok x cs) : cs = encB x := by
  obtain ⟨b0, e0, rfl, g0, b1, e1, rfl, g1, b2, e2, rfl, g2, g3⟩ := h
  have g0' : b0 = [.string x.path] := g0
  have g1' : b1 = [.string x.name] := g1
  have g2' : b2 = [.string x.subject] := g2
  have g3' : e2 = [.int .i64 x.verb] := g3
  subst g0' g1' g2' g3'
  rfl
theorem k27_mkM (w : World) (base : Nat) (ok : Nat → Prop) (x : Bnd) : k27.M w base ok x (encB x) :=
  ⟨[.string x.path], [.string x.name, .string x.subject, .int .i64 x.verb], rfl, rfl, [.string x.name], [.string x.subject, .int .i64 x.verb], rfl, rfl, [.string x.subject], [.int .i64 x.verb], rfl, rfl, rfl⟩
theorem inner27 {w : World} {base : Nat} {ok : Nat → Prop} {xs : List Bnd} {inner : List Value} (h : Reps (k27.M w base ok) 4 xs inner) : inner = (flatK encB 4 xs.toArray).toList := by
  apply List.ext_getElem?
  intro t
  by_cases ht : t < xs.length * 4
  · have hj : t / 4 < xs.length := by omega
    have hk := k27_openM (h.2 (t / 4) _ (List.getElem?_eq_getElem hj))
    have h1 : inner[t]? = ((inner.drop (t / 4 * 4)).take 4)[t % 4]? := by
      rw [List.getElem?_take_of_lt (by omega), List.getElem?_drop]
      congr 1
      omega
    rw [h1, hk, flat_get ht]
    simp [encB, List.getD_eq_getElem?_getD, hj]
  · rw [List.getElem?_eq_none (by rw [h.1]; omega), List.getElem?_eq_none (by rw [flat_len]; omega)]
theorem reps27 (w : World) (base : Nat) (ok : Nat → Prop) (xs : List Bnd) : Reps (k27.M w base ok) 4 xs (flatK encB 4 xs.toArray).toList := by
  refine ⟨flat_len xs, fun j p hj => ?_⟩
  obtain ⟨hl, rfl⟩ := List.getElem?_eq_some_iff.1 hj
  have e : (((flatK encB 4 xs.toArray).toList.drop (j * 4)).take 4) = encB xs[j] := by
    apply List.ext_getElem?
    intro t
    by_cases ht : t < 4
    · rw [List.getElem?_take_of_lt ht, List.getElem?_drop, flat_get (by omega)]
      have h1 : (j * 4 + t) / 4 = j := by omega
      have h2 : (j * 4 + t) % 4 = t := by omega
      rw [h1, h2]
      simp [List.getD_eq_getElem?_getD, hl]
    · rw [List.getElem?_take_eq_none (by omega), List.getElem?_eq_none (by simp [encB]; omega)]
  rw [e]
  exact k27_mkM w base ok _
theorem holds27 {w : World} {g : Nat} {cur : Array Value} {e : TypeId} {xs : List Bnd} (hb : w.heap[g]? = some (.cells cur e (0, 0))) (ht : cur.toList.take (xs.length * 4) = (flatK encB 4 xs.toArray).toList) : HoldsK encB 4 w g 0 xs.toArray := by
  unfold HoldsK
  intro j hj
  have hj' : j < xs.length * 4 := by simpa using hj
  refine ⟨?_, by simp [World.frozen?, hb]⟩
  have h1 : (cur.toList.take (xs.length * 4))[j]? = (flatK encB 4 xs.toArray).toList[j]? := by rw [ht]
  rw [List.getElem?_take_of_lt hj'] at h1
  simp only [World.cell?, hb, Nat.zero_add]
  simp only [Option.isSome_none, Bool.false_eq_true, if_false]
  rw [← Array.getElem?_toList, h1, Array.getElem?_toList, Array.getElem?_eq_getElem hj, getElem!_pos _ j hj]
  rfl
theorem heap27 {w : World} {g n : Nat} {os : Array Obj} {cur : Array Value} {e : TypeId} {fr : Nat × Nat} (d : Array Bnd) (hb : w.heap[g]? = some (.cells cur e fr)) :
    (sortWorldK encB 4 w g 0 n d os).heap[g]? = some (.cells (putCells id 0 (flatK encB 4 d) cur) e fr) := by
  have hg : g < w.heap.size := (Array.getElem?_eq_some_iff.1 hb).1
  unfold sortWorldK putRowK
  rw [heap_grow_old _ _ (by simpa using hg)]
  simp [putRow, mapBlock, Sort.ahead, Array.getElem?_modify, hb, onCells]
theorem grown27 {w : World} {g n : Nat} {os : Array Obj} (d : Array Bnd) : w.grownBy (sortWorldK encB 4 w g 0 n d os) (some g) := by
  unfold sortWorldK putRowK
  refine ⟨rfl, rfl, rfl, by simp, fun k hk hne => ?_⟩
  rw [heap_grow_old _ _ (by simpa using hk)]
  have : g ≠ k := fun e => hne (by rw [e])
  simp [putRow, mapBlock, Sort.ahead, Array.getElem?_modify, this]
theorem take27 (cur : Array Value) (ts : List Bnd) (h : ts.length * 4 ≤ cur.size) : (putCells id 0 (flatK encB 4 ts.toArray) cur).toList.take (ts.length * 4) = (flatK encB 4 ts.toArray).toList := by
  apply List.ext_getElem?
  intro j
  by_cases hj : j < ts.length * 4
  · rw [List.getElem?_take_of_lt hj, Array.getElem?_toList, Array.getElem?_toList]
    simp [putCells, hj, show j < cur.size by omega]
  · rw [List.getElem?_take_eq_none (by omega), List.getElem?_eq_none (by rw [flat_len]; omega)]
theorem cmpLaysB (blk size : Nat) (w : World) (hG : Glob w) (h2 : 2 ≤ blk) : CmpLays Tryd.prog 39 #[] encB 4 cmpB blk 0 size w := by
  intro m os dk _ x y
  refine (cmp_ok x y _ (glob_grown hG (grown27 dk) h2)).mono ?_
  rintro e w' ⟨rfl, q, os', rfl⟩
  exact ⟨rfl, q, os', rfl⟩
theorem sort_calls (blk cap : Nat) (d : Array Bnd) (w : World) (hG : Glob w) (h2 : 2 ≤ blk) (hH : HoldsK encB 4 w blk 0 d) (hblk : blk < w.heap.size) (hsz : d.size < 4611686018427387904) :
    Calls Tryd.prog 38 #[.slice (some ⟨blk, 0, none⟩) d.size cap, .func (.func 39) #[] #[]] w fun e w' => e = .returned (.tuple #[]) ∧ ∃ d' n os, PermIn 0 d.size d d' ∧ SortedIn (ltOf cmpB) 0 d.size d' ∧ w' = sortWorldK encB 4 w blk 0 n d' os := by
  have eg : ∀ args w, (callFunc 39 args).run Tryd.prog w = .ok (.enter 39 args) w := enters_of Tryd.func39 (by kernel_rfl) rfl
  exact AnyQ.slices_SortFunc Tryd.sortB 4 Tryd.isAgg27 Tryd.sizeOf27 encB (fun _ => rfl) (fun x v hv => by simp [encB] at hv; rcases hv with rfl | rfl | rfl | rfl <;> rfl) cmpB swoB 39 #[] blk 0 cap d w eg (cmpLaysB blk d.size w hG h2) hH hblk hsz
def Rising (l : List Bnd) : Prop := l.Pairwise fun a b => cmpB a b ≤ 0
theorem sorted_is {xs : List Bnd} {d' : Array Bnd} (hp : PermIn 0 xs.toArray.size xs.toArray d') (hs : SortedIn (ltOf cmpB) 0 xs.toArray.size d') : d'.toList.Perm xs ∧ Rising d'.toList := by
  have hsz : d'.size = xs.length := by have := hp.1; simpa using this
  refine ⟨?_, ?_⟩
  · have := hp.2.2
    have e1 : d'.extract 0 xs.toArray.size = d' := by
      have : xs.toArray.size = d'.size := by simp [hsz]
      rw [this]
      exact Array.extract_size
    have e2 : xs.toArray.extract 0 xs.toArray.size = xs.toArray := Array.extract_size
    rw [e1, e2] at this
    simpa using this
  · unfold Rising
    rw [List.pairwise_iff_getElem]
    intro i j hi hj hij
    have := hs i j (Nat.zero_le _) hij (by simpa [hsz] using hj)
    rw [ltB, decide_eq_false_iff_not] at this
    have h3 : ¬ cmpB d'.toList[j] d'.toList[i] < 0 := by
      simpa [getElem!_pos, show i < d'.size by simpa using hi, show j < d'.size by simpa using hj] using this
    have := ordB.neg d'.toList[i] d'.toList[j]
    omega
theorem sort_row {w : World} {base : Nat} {ok : Nat → Prop} {v : Value} {xs : List Bnd} (HR : Kd.R k27 27 w base ok v xs) (hG : Glob w) (hb2 : 2 ≤ base) (hl : xs.length ≤ 2513169434843) :
    Calls Tryd.prog 38 #[v, .func (.func 39) #[] #[]] w fun e w' => e = .returned (.tuple #[]) ∧ ∃ L, L.Perm xs ∧ Rising L ∧ Kd.R k27 27 w' base ok v L ∧ w.grownBy w' v.ownBlock := by
  obtain ⟨h0, inner, ho, hi⟩ := HR
  rcases ho.2 with ⟨rfl, hn⟩ | ⟨g, cap, cur, rfl, hg, hb, h1, h2, h3, h4⟩
  · obtain rfl := List.eq_nil_of_length_eq_zero hn
    refine Calls.mono (AnyF.slices_SortFunc_none Tryd.sortB none 0 (.func (.func 39) #[] #[]) w) ?_
    rintro e w' ⟨rfl, rfl⟩
    exact ⟨rfl, [], .refl _, .nil, Kd.R_nil _ _ _ _ _, ⟨rfl, rfl, rfl, Nat.le_refl _, fun _ _ _ => rfl⟩⟩
  · have hin := inner27 hi
    have hH := holds27 hb (h4.trans hin)
    have hlt : g < w.heap.size := (Array.getElem?_eq_some_iff.1 hb).1
    have hc := sort_calls g cap xs.toArray w hG (by omega) hH hlt (by simp; omega)
    simp only [List.size_toArray] at hc
    refine hc.mono ?_
    rintro e w' ⟨rfl, d', n, os, hP, hS, rfl⟩
    have hd := sorted_is (by simpa using hP) (by simpa using hS)
    obtain ⟨L, hL⟩ : ∃ L, L = d'.toList := ⟨_, rfl⟩
    rw [← hL] at hd
    have hlen := hd.1.length_eq
    have hda : d' = L.toArray := by rw [hL]
    refine ⟨rfl, L, hd.1, hd.2, ⟨h0, (flatK encB 4 L.toArray).toList, ⟨flat_len L, .inr ⟨g, cap, _, by rw [hlen], hg, heap27 d' hb, by omega, h2, by simp [putCells, h3], ?_⟩⟩, reps27 _ _ _ L⟩, grown27 d'⟩
    rw [hda]
    exact take27 cur L (by rw [h3]; show L.length * 4 ≤ cap * 4; omega)
end Go.Proofs.YtphddbijdfmpjaaDoor.Q
namespace Go.Proofs.YtphddbijdfmpjaaDoor.Q
open Go.RowKit Go.MapRaw Go.Proofs.YtphddbijdfmpjaaDoorW.PrintWords Go.Proofs.YtphddbijdfmpjaaDoorW.PrintLast Go.Proofs.YtphddbijdfmpjaaDoor.Wr
open Go.ChangeMaps (setBlock)
set_option linter.unusedVariables false
set_option linter.unusedSimpArgs false
theorem info27 : (Tryd.prog.info? 27).map (fun i => (i.zero, i.size, i.bytes)) = some (some (.agg #[.string ⟨#[]⟩, .string ⟨#[]⟩, .string ⟨#[]⟩, .int .i64 0]), 4, 56) := by kernel_rfl
theorem perm_step (xs : List Bnd) (A B : Tab) (p : Key × Bnd) : ((xs ++ [p.2]) ++ (A ++ B).map fun p => p.2).Perm (xs ++ (A ++ p :: B).map fun p => p.2) := by
  rw [List.append_assoc]
  refine List.Perm.append_left _ ?_
  rw [List.map_append, List.map_append, List.map_cons]
  simp only [List.cons_append, List.nil_append]
  exact List.perm_middle.symm
def ListSays (M : Tab) (w : World) (e : Ending) (w' : World) : Prop := ∃ v L, e = .returned v ∧ L.Perm (M.map fun p => p.2) ∧ Rising L ∧ Kd.R k27 27 w' w.heap.size (fun _ => True) v L ∧ Below w.heap.size w w'
set_option maxRecDepth 100000 in
set_option maxHeartbeats 8000000 in
theorem list_ok (w : World) (t b : Nat) (M : Tab) (hT : TB w t b M) (hG : Glob w) (hM : M.length ≤ 2513169434843) :
    Calls Tryd.prog 17 #[.pointer (some ⟨t, 0, none⟩)] w fun e w' => ListSays M w e w' := by
  have hu27 := Tryd.underlying27
  obtain ⟨o, hr, hR⟩ := hT.holds.range (P := Tryd.prog) (T := 66) (eT := 27) (kT := 70) Tryd.underlying66
  have HRA := Aside0.mk hR
  have HM := Lib.hid hM
  have HT := Lib.hid hT
  have GL := Lib.hid hG
  have ht := hT.cell
  clear hT hR hM hG
  go_enter Tryd.func17, Tryd.ntmps17
  go_upto_region 3 with fail
  have HB1 := Aside0.mk ((Below.refl w.heap.size w).alloc (Nat.le_refl _) o)
  clear hr ht
  generalize w.alloc o = w1 at HB1 HRA ⊢
  obtain ⟨rr, hrr⟩ : ∃ rr, rr = w.heap.size := ⟨_, rfl⟩
  have HRR := Lib.hid hrr
  rw [← hrr] at HRA ⊢
  clear hrr
  go_loopg [3] M.length (fun g v3 wr => ∃ (xs : List Bnd) (L : Tab), L.length ≤ g ∧ Aside0 ((xs ++ L.map fun p => p.2).Perm (M.map fun p => p.2)) ∧ Aside0 (Kd.R k27 27 wr w.heap.size (fun k => k ≠ rr ∧ k ≠ b) v3 xs) ∧ Aside0 (Ranging eK eV wr b rr M L) ∧ Aside0 (Below w.heap.size w wr))
  case atStart => exact ⟨[], M, Nat.le_refl _, ⟨.refl _⟩, ⟨Kd.R_nil _ _ _ _ _⟩, HRA, HB1⟩
  case round =>
    clear HRA HB1
    obtain ⟨xs, L, hg, HP, HR, HRg, HB⟩ := hrel
    rcases HRg.out.next (P := Tryd.prog) 0 with ⟨hL, hrun⟩ | ⟨A, p, B, hL, wd, o2, hwd, hrun, hat⟩
    · subst hL
      have HLEN := Lib.hid (show xs.length ≤ 2513169434843 by have := HP.out.length_eq; simp at this; have := HM.out; omega)
      have SORT := Lib.hid (sort_row HR.out (GL.out.below HB.out) (glob_size GL.out) HLEN.out)
      go_wp2_with (go_at_call 38; refine SORT.out.mono ?_; rintro e w4 ⟨rfl, L2, hP2, hS2, hR2, hg2⟩; have HP2 := Lib.hid hP2; have HS2 := Lib.hid hS2; have HR2 := Lib.hid hR2; have HG2 := Lib.hid hg2; clear hP2 hS2 hR2 hg2)
      go_ret
      exact ⟨_, L2, rfl, HP2.out.trans (by have := HP.out; simpa using this), HS2.out, Kd.R_mono HR2.out (fun _ _ => trivial), HB.out.grown HG2.out HB.out.size (fun j hj => own_base HR.out.2.choose_spec.1 j hj)⟩
    · subst hL
      cases gk with
      | zero => simp at hg
      | succ g =>
        have hent := hat.entry (P := Tryd.prog)
        have hbs : Below w.heap.size w (setBlock wd rr o2) := below_setBlock (by rcases hwd with rfl | rfl; exact HB.out; exact below_drew1 HB.out) (by have := HRR.out; omega)
        have hrs : Kd.R k27 27 (setBlock wd rr o2) w.heap.size (fun k => k ≠ rr ∧ k ≠ b) u3 xs := Kd.R_move HR.out (fun k hk => by rw [set_far _ _ _ _ hk.1]; rcases hwd with rfl | rfl <;> rfl)
        have HBS := Lib.hid hbs
        have HRS := Lib.hid hrs
        have HAT := Lib.hid hat
        have HLX := Lib.hid (show xs.length ≤ 2513169434843 by have := HP.out.length_eq; simp at this; have := HM.out; omega)
        have HPN := Lib.hid (show ((xs ++ [p.2]) ++ (A ++ B).map fun p => p.2).Perm (M.map fun p => p.2) from (by
          refine List.Perm.trans ?_ HP.out
          exact perm_step xs A B p))
        clear hbs hat hwd hrs HRg HB HR HP
        unfold eK eV at hrun hent
        generalize setBlock wd rr o2 = w2 at HBS HRS HAT hrun hent
        obtain ⟨⟨kp, kn⟩, ⟨vp, vn, vs, vv⟩⟩ := p
        go_upto_region 5 with fail
        have HB3 := Aside0.mk (HBS.out.alloc HBS.out.size (.cells #[.string vp, .string vn, .string vs, .int .i64 vv] 27))
        have HR3 := Aside0.mk (Kd.R_alloc HRS.out (.cells #[.string vp, .string vn, .string vs, .int .i64 vv] 27))
        have HA3 := Aside0.mk (Ranging_alloc HAT.out.on (.cells #[.string vp, .string vn, .string vs, .int .i64 vv] 27))
        have HV3 := Aside0.mk (blk_new w2 (.cells #[.string vp, .string vn, .string vs, .int .i64 vv] 27))
        obtain ⟨vb, hvb⟩ : ∃ vb, vb = w2.heap.size := ⟨_, rfl⟩
        rw [← hvb] at HV3 ⊢
        clear hvb HBS HRS HAT hrun hent
        generalize w2.alloc _ = w3 at HB3 HR3 HA3 HV3 ⊢
        have hv0 := (blk_cell HV3.out 0).trans rfl
        have hv1 := (blk_cell HV3.out 1).trans rfl
        have hv2 := (blk_cell HV3.out 2).trans rfl
        have hv3 := (blk_cell HV3.out 3).trans rfl
        have HLT := Lib.hid (Ranging_lt HA3.out)
        go_wp2_with (first
          | ((with_reducible refine gate_builtin (b := .append) (xs := #[.tmp 15, .tmp 17]) rfl ?_); at_builtin; refine Kd.R_append k27 (w0 := w) w.heap.size rfl (.tmp 15) (.tmp 17) 36 27 (.agg #[.string ⟨#[]⟩, .string ⟨#[]⟩, .string ⟨#[]⟩, .int .i64 0]) 56 rfl Tryd.underlying36 info27 rfl (by decide) (by omega) u3 xs ⟨vp, vn, vs, vv⟩ [.string vp, .string vn, .string vs, .int .i64 vv] (fun k => k ≠ rr ∧ k ≠ b) (fun _ => False) rfl rfl ?aP (fun _ hk => hk.elim) ?aF ?aO ?aB ?aS ?aL ?_; (case aP => exact k27_mkM _ _ _ ⟨vp, vn, vs, vv⟩); (case aB => exact HB3.out); (case aF => exact (fun k hk => by have := HLT.out; constructor <;> omega)); (case aO => exact HR3.out); (case aS => exact HB3.out.size); (case aL => have := HLX.out; omega);
                intro v2 w4 ho hb2 hg2 hat2; have HO4 := Aside0.mk ho; have HB4 := Aside0.mk hb2; have HG4 := Lib.hid hg2; clear ho hb2 hg2 hat2))
        have HRG4 := Aside0.mk (HA3.out.move (HG4.out.block b HLT.out.1 (fun e => (HR3.out.1 b e.symm).2 rfl)) (HG4.out.block rr HLT.out.2 (fun e => (HR3.out.1 rr e.symm).1 rfl)))
        go_roundg g
        case measure => omega
        case rel => exact ⟨xs ++ [⟨vp, vn, vs, vv⟩], A ++ B, by simp at hg ⊢; omega, ⟨HPN.out⟩, HO4, HRG4, HB4⟩
end Go.Proofs.YtphddbijdfmpjaaDoor.Q
namespace Go.Proofs.YtphddbijdfmpjaaDoor.Wr
end Go.Proofs.YtphddbijdfmpjaaDoor.Wr
namespace Go.Proofs.YtphddbijdfmpjaaDoor.Q
end Go.Proofs.YtphddbijdfmpjaaDoor.Q
namespace Go.Proofs.YtphddbijdfmpjaaDoor.Q
open Go.RowKit Go.MapRaw Go.Proofs.YtphddbijdfmpjaaDoorW.PrintWords Go.Proofs.YtphddbijdfmpjaaDoorW.PrintLast Go.Proofs.YtphddbijdfmpjaaDoor.Wr
open Go.ChangeMaps (setBlock)
set_option linter.unusedVariables false
set_option linter.unusedSimpArgs false
theorem k27_cells {w : World} {x : Bnd} {c : List Value} (h : k27.K w x c) : c = encB x := by
  obtain ⟨b0, e0, rfl, g0, b1, e1, rfl, g1, b2, e2, rfl, g2, g3⟩ := h
  have g0' : b0 = [.string x.path] := g0
  have g1' : b1 = [.string x.name] := g1
  have g2' : b2 = [.string x.subject] := g2
  have g3' : e2 = [.int .i64 x.verb] := g3
  subst g0' g1' g2' g3'
  rfl
theorem bnd_at {w : World} {A : Option Addr} {l : List Bnd} (h : k27.C w A l.length l) (i : Nat) (hi : i < l.length) : ∃ ad, A = some ad ∧ w.cell? (ad.add (i * 4)) = some (.string l[i].path) ∧ ∀ j u, j ≠ 0 → (encB l[i])[j]? = some u → w.cell? ⟨(ad.add (i * 4)).block, (ad.add (i * 4)).off + j, none⟩ = some u := by
  obtain ⟨ad, c, hA, _, hK, hc⟩ := Kd.C_get h l[i] (i : Int) (by omega) (by omega)
  have hg : l.getD (i : Int).toNat l[i] = l[i] := by rw [Int.toNat_natCast]; simp [hi]
  rw [hg] at hK
  have := k27_cells hK
  subst this
  refine ⟨ad, hA, ?_, fun j u hj hu => ?_⟩
  · have := hc 0 _ rfl
    rw [Int.toNat_natCast] at this
    exact this
  · have := hc j u hu
    rw [Int.toNat_natCast] at this
    rw [← add_off _ _ _ hj]
    exact this
end Go.Proofs.YtphddbijdfmpjaaDoor.Q
namespace Go.Proofs.YtphddbijdfmpjaaDoor.Q
open Go.RowKit Go.MapRaw Go.Proofs.YtphddbijdfmpjaaDoorW.PrintWords Go.Proofs.YtphddbijdfmpjaaDoorW.PrintLast Go.Proofs.YtphddbijdfmpjaaDoor.Wr
open Go.ChangeMaps (setBlock)
set_option linter.unusedVariables false
set_option linter.unusedSimpArgs false
theorem eqA27 (d : Nat) (w : World) (x0 y0 x1 y1 x2 y2 : ByteArray) (x3 y3 : Int) : (Op.equalIn (d + 2) 27 (.agg #[.string x0, .string x1, .string x2, .int .i64 x3]) (.agg #[.string y0, .string y1, .string y2, .int .i64 y3])).run Tryd.prog w = .ok (x0.toList == y0.toList && (x1.toList == y1.toList && (x2.toList == y2.toList && x3 == y3))) w := by
  refine eqA_of Tryd.underlying27 (by kernel_rfl) ?_
  refine eqf_cons (by rfl) (by go_simp; rfl) (by go_simp; rfl) (by go_simp) ?_
  refine eqf_cons (by rfl) (by go_simp; rfl) (by go_simp; rfl) (by go_simp) ?_
  refine eqf_cons (by rfl) (by go_simp; rfl) (by go_simp; rfl) (by go_simp) ?_
  exact eqf_last (by rfl) (by go_simp; rfl) (by go_simp; rfl) (by go_simp)
def eqBnd (a b : Bnd) : Bool := a.path.toList == b.path.toList && (a.name.toList == b.name.toList && (a.subject.toList == b.subject.toList && a.verb == b.verb))
theorem eqBnd_iff (a b : Bnd) : eqBnd a b = true ↔ a = b := by
  obtain ⟨a1, a2, a3, a4⟩ := a
  obtain ⟨b1, b2, b3, b4⟩ := b
  unfold eqBnd
  simp only [Bool.and_eq_true, toList_beq, ba_beq, beq_iff_eq, Bnd.mk.injEq]
def sameB : List Bnd → List Bnd → Bool
  | [], [] => true
  | a :: x, b :: y => eqBnd a b && sameB x y
  | _, _ => false
theorem sameB_iff : ∀ x y : List Bnd, sameB x y = true ↔ x = y
  | [], [] => by simp [sameB]
  | [], _ :: _ => by simp [sameB]
  | _ :: _, [] => by simp [sameB]
  | a :: x, b :: y => by simp only [sameB, Bool.and_eq_true, eqBnd_iff, sameB_iff x y, List.cons.injEq]
theorem sameB_len : ∀ {x y : List Bnd}, x.length ≠ y.length → sameB x y = false
  | [], [], h => absurd rfl h
  | [], _ :: _, _ => rfl
  | _ :: _, [], _ => rfl
  | a :: x, b :: y, h => by
    unfold sameB
    rw [sameB_len (fun e => h (by simp [e])), Bool.and_false]
attribute [local go_sem high] eqA27
set_option maxRecDepth 100000 in
set_option maxHeartbeats 16000000 in
theorem same_ok (A B : Option Addr) (c d : Nat) (x y : List Bnd) (w : World) (hx : k27.C w A x.length x) (hy : k27.C w B y.length y) (hl : x.length ≤ 2513169434843) :
    Calls Tryd.prog 16 #[.slice A x.length c, .slice B y.length d] w fun e w' => e = .returned (.bool (sameB x y)) ∧ Below w.heap.size w w' := by
  have hu27 := Tryd.underlying27
  obtain ⟨res, hres⟩ : ∃ res, res = sameB x y := ⟨_, rfl⟩
  rw [← hres]
  have HRES := Lib.hid hres
  have HX := Aside0.mk hx
  have HY := Aside0.mk hy
  have HLL := Lib.hid hl
  clear hx hy hl hres
  by_cases hne : x.length = y.length
  rotate_left
  · have e1 : ((x.length : Int) != (y.length : Int)) = true := bne_iff_ne.2 (by omega)
    have e1n : (x.length != y.length) = true := bne_iff_ne.2 hne
    have HNE := Lib.hid hne
    clear hne
    go_enter Tryd.func16, Tryd.ntmps16
    go_wp2
    go_ret
    exact ⟨by rw [HRES.out, sameB_len HNE.out] <;> rfl, Below.refl _ _⟩
  have e1 : ((x.length : Int) != (y.length : Int)) = false := bne_eq_false_iff_eq.2 (by omega)
  have HNE := Lib.hid hne
  clear hne
  go_enter Tryd.func16, Tryd.ntmps16
  go_upto_region 4 with fail
  clear e1
  go_loopg [5] x.length (fun g v5 wr => ∃ (i : Nat), v5 = .int .i64 (i : Int) ∧ Aside0 (i + g = x.length) ∧ Aside0 (sameB (x.drop i) (y.drop i) = res) ∧ Aside0 (Below w.heap.size w wr))
  case atStart => exact ⟨0, rfl, ⟨by omega⟩, ⟨by rw [List.drop_zero, List.drop_zero]; exact HRES.out.symm⟩, ⟨Below.refl _ _⟩⟩
  case round =>
    obtain ⟨i, rfl, HI, HS, HB⟩ := hrel
    by_cases hi : i < x.length
    rotate_left
    · have q1 : decide ((i : Int) < (x.length : Int)) = false := decide_eq_false (by omega)
      have q1n : decide (i < x.length) = false := decide_eq_false hi
      have HD := Lib.hid (show x.drop i = [] ∧ y.drop i = [] from ⟨List.drop_of_length_le (by omega), List.drop_of_length_le (by have := HNE.out; omega)⟩)
      clear hi
      go_wp2
      go_ret
      exact ⟨by rw [← HS.out, HD.out.1, HD.out.2] <;> rfl, HB.out⟩
    have hj : i < y.length := by have := HNE.out; omega
    have q1 : decide ((i : Int) < (x.length : Int)) = true := decide_eq_true (by omega)
    have q1n : decide (i < x.length) = true := decide_eq_true hi
    have p1 : (0 ≤ (i : Int)) = True := eq_true (by omega)
    have p2 : ((i : Int) < (x.length : Int)) = True := eq_true (by omega)
    have p3 : ((i : Int) < (y.length : Int)) = True := eq_true (by omega)
    obtain ⟨ad, hA, hx0, hx⟩ := bnd_at (Kd.C_below HX.out HB.out) i hi
    cases hA
    obtain ⟨ae, hA, hy0, hy⟩ := bnd_at (Kd.C_below HY.out HB.out) i hj
    cases hA
    have HDX := Lib.hid (And.intro (List.drop_eq_getElem_cons hi) (List.drop_eq_getElem_cons hj))
    obtain ⟨g0, rfl⟩ : ∃ g0, gk = g0 + 1 := ⟨gk - 1, by have := HI.out; omega⟩
    have HLT := Lib.hid hi
    generalize x[i] = xx at hx0 hx HDX
    generalize y[i] = yy at hy0 hy HDX
    obtain ⟨xp, xn, xs, xv⟩ := xx
    obtain ⟨yp, yn, ys, yv⟩ := yy
    have hx1 := hx 1 (.string xn) (by decide) rfl
    have hx2 := hx 2 (.string xs) (by decide) rfl
    have hx3 := hx 3 (.int .i64 xv) (by decide) rfl
    have hy1 := hy 1 (.string yn) (by decide) rfl
    have hy2 := hy 2 (.string ys) (by decide) rfl
    have hy3 := hy 3 (.int .i64 yv) (by decide) rfl
    clear hi hj hx hy
    have HST := Lib.hid (show sameB (x.drop i) (y.drop i) = (eqBnd ⟨xp, xn, xs, xv⟩ ⟨yp, yn, ys, yv⟩ && sameB (x.drop (i + 1)) (y.drop (i + 1))) by rw [HDX.out.1, HDX.out.2]; rfl)
    obtain ⟨q, hq⟩ : ∃ q, q = eqBnd ⟨xp, xn, xs, xv⟩ ⟨yp, yn, ys, yv⟩ := ⟨_, rfl⟩
    rw [← hq] at HST
    have hq2 : (!xp.toList == yp.toList || (!xn.toList == yn.toList || (!xs.toList == ys.toList || !xv == yv))) = !q := by rw [hq]; unfold eqBnd; simp only [Bool.not_and]
    have HQ := Lib.hid hq2
    clear hq hq2
    go_upto_region 6 with fail
    refine start_ (n := 9) (S := fun w' => w'.cell? (ad.add (i * 4)) = some (.string xp) ∧ w'.cell? ⟨(ad.add (i * 4)).block, (ad.add (i * 4)).off + 1, none⟩ = some (.string xn) ∧ w'.cell? ⟨(ad.add (i * 4)).block, (ad.add (i * 4)).off + 2, none⟩ = some (.string xs) ∧ w'.cell? ⟨(ad.add (i * 4)).block, (ad.add (i * 4)).off + 3, none⟩ = some (.int .i64 xv) ∧ w'.cell? (ae.add (i * 4)) = some (.string yp) ∧ w'.cell? ⟨(ae.add (i * 4)).block, (ae.add (i * 4)).off + 1, none⟩ = some (.string yn) ∧ w'.cell? ⟨(ae.add (i * 4)).block, (ae.add (i * 4)).off + 2, none⟩ = some (.string ys) ∧ w'.cell? ⟨(ae.add (i * 4)).block, (ae.add (i * 4)).off + 3, none⟩ = some (.int .i64 yv)) (ds := []) #[false, false, false, false, false, false, false, false, false] (by kernel_rfl) rfl rfl ⟨hx0, hx1, hx2, hx3, hy0, hy1, hy2, hy3⟩ (fun hHeld => ?_)
    have B4 := Aside0.mk (below_drew1 HB.out)
    generalize World.drew _ = w4 at B4 hHeld ⊢
    refine pure_ (i := 0) (N := some 17) (v := ?_) (a' := ?_) #[true, false, false, false, false, false, false, false, false] rfl rfl (by kernel_rfl) (fun _ _ _ h => h) (Or.inl ⟨by rfl, ?_⟩) ?_ ?_
    rotate_left
    · intro w'
      go_simp
      with_reducible rfl
    rotate_left
    · simp only [Act.put, List.setIfInBounds_toArray, List.set_cons_zero, List.set_cons_succ, i64_w, i32_w]
      rfl
    refine pure_ (i := 1) (N := some 18) (v := ?_) (a' := ?_) #[true, true, false, false, false, false, false, false, false] rfl rfl (by kernel_rfl) (fun _ _ _ h => h) (Or.inl ⟨by rfl, ?_⟩) ?_ ?_
    rotate_left
    · intro w'
      go_simp
      with_reducible rfl
    rotate_left
    · simp only [Act.put, List.setIfInBounds_toArray, List.set_cons_zero, List.set_cons_succ, i64_w, i32_w]
      rfl
    refine pure_ (i := 2) (N := some 19) (v := ?_) (a' := ?_) #[true, true, true, false, false, false, false, false, false] rfl rfl (by kernel_rfl) (fun _ _ _ h => h) (Or.inl ⟨by rfl, ?_⟩) ?_ ?_
    rotate_left
    · intro w'
      go_simp
      with_reducible rfl
    rotate_left
    · simp only [Act.put, List.setIfInBounds_toArray, List.set_cons_zero, List.set_cons_succ, i64_w, i32_w]
      rfl
    refine take_ (i := 3) (N := some 20) (v := ?_) (a' := ?_) #[true, true, true, true, false, false, false, false, false] rfl rfl (by kernel_rfl) (fun _ _ _ h => h) (Or.inl ⟨by rfl, ?_⟩) hHeld ?_ ?_
    rotate_left
    · rintro w' ⟨s0, s1, s2, s3, s4, s5, s6, s7⟩
      go_simp
      with_reducible rfl
    rotate_left
    · simp only [Act.put, List.setIfInBounds_toArray, List.set_cons_zero, List.set_cons_succ, i64_w, i32_w]
      rfl
    refine pure_ (i := 4) (N := some 21) (v := ?_) (a' := ?_) #[true, true, true, true, true, false, false, false, false] rfl rfl (by kernel_rfl) (fun _ _ _ h => h) (Or.inl ⟨by rfl, ?_⟩) ?_ ?_
    rotate_left
    · intro w'
      go_simp
      with_reducible rfl
    rotate_left
    · simp only [Act.put, List.setIfInBounds_toArray, List.set_cons_zero, List.set_cons_succ, i64_w, i32_w]
      rfl
    refine pure_ (i := 5) (N := some 22) (v := ?_) (a' := ?_) #[true, true, true, true, true, true, false, false, false] rfl rfl (by kernel_rfl) (fun _ _ _ h => h) (Or.inl ⟨by rfl, ?_⟩) ?_ ?_
    rotate_left
    · intro w'
      go_simp
      with_reducible rfl
    rotate_left
    · simp only [Act.put, List.setIfInBounds_toArray, List.set_cons_zero, List.set_cons_succ, i64_w, i32_w]
      rfl
    refine pure_ (i := 6) (N := some 23) (v := ?_) (a' := ?_) #[true, true, true, true, true, true, true, false, false] rfl rfl (by kernel_rfl) (fun _ _ _ h => h) (Or.inl ⟨by rfl, ?_⟩) ?_ ?_
    rotate_left
    · intro w'
      go_simp
      with_reducible rfl
    rotate_left
    · simp only [Act.put, List.setIfInBounds_toArray, List.set_cons_zero, List.set_cons_succ, i64_w, i32_w]
      rfl
    refine take_ (i := 7) (N := some 24) (v := ?_) (a' := ?_) #[true, true, true, true, true, true, true, true, false] rfl rfl (by kernel_rfl) (fun _ _ _ h => h) (Or.inl ⟨by rfl, ?_⟩) hHeld ?_ ?_
    rotate_left
    · rintro w' ⟨s0, s1, s2, s3, s4, s5, s6, s7⟩
      go_simp
      with_reducible rfl
    rotate_left
    · simp only [Act.put, List.setIfInBounds_toArray, List.set_cons_zero, List.set_cons_succ, i64_w, i32_w]
      rfl
    refine pure_ (i := 8) (N := some 25) (v := ?_) (a' := ?_) #[true, true, true, true, true, true, true, true, true] rfl rfl (by kernel_rfl) (fun _ _ _ h => h) (Or.inl ⟨by rfl, ?_⟩) ?_ ?_
    rotate_left
    · intro w'
      go_simp
      with_reducible rfl
    rotate_left
    · simp only [Act.put, List.setIfInBounds_toArray, List.set_cons_zero, List.set_cons_succ, i64_w, i32_w]
      rfl
    refine done_ (by kernel_rfl) ?_
    rw [HQ.out]
    clear hx0 hx1 hx2 hx3 hy0 hy1 hy2 hy3 hHeld
    cases q with
    | true =>
      go_wp2
      go_roundg g0
      case measure => omega
      case rel => exact ⟨i + 1, congrArg (Value.int .i64) (by rw [w64 i (by have := HLT.out; have := HLL.out; omega)]), ⟨by have := HI.out; omega⟩, ⟨by rw [← HS.out, HST.out, Bool.true_and]⟩, B4⟩
    | false =>
      go_wp2
      go_ret
      exact ⟨by rw [← HS.out, HST.out, Bool.false_and] <;> rfl, B4.out⟩
end Go.Proofs.YtphddbijdfmpjaaDoor.Q
namespace Go.Proofs.YtphddbijdfmpjaaDoor.Q
end Go.Proofs.YtphddbijdfmpjaaDoor.Q
namespace Go.Proofs.YtphddbijdfmpjaaDoor.Q
open Go.RowKit Go.MapRaw Go.Proofs.YtphddbijdfmpjaaDoorW.PrintWords Go.Proofs.YtphddbijdfmpjaaDoorW.PrintLast Go.Proofs.YtphddbijdfmpjaaDoor.Wr
open Go.ChangeMaps (setBlock)
set_option linter.unusedVariables false
set_option linter.unusedSimpArgs false
def ofS : Tab → List Bnd → Option Tab × Int
  | M, [] => (some M, 0)
  | M, x :: r => if (getA (x.path, x.name) M).isSome = true ∧ formedB x = true then (none, 190) else if setE M x = 0 then ofS (setM M x) r else (none, setE M x)
def OfSays (w : World) (r : Option Tab × Int) (e : Ending) (w' : World) : Prop :=
  ∃ v, e = .returned (.tuple #[v, .int .i64 r.2]) ∧ ((r.1 = none ∧ v = .pointer none) ∨ ∃ M t b, r.1 = some M ∧ v = .pointer (some ⟨t, 0, none⟩) ∧ TB w' t b M ∧ w.heap.size ≤ t ∧ w.heap.size ≤ b) ∧ Below w.heap.size w w'
theorem set_of {w w' : World} {t b : Nat} {M : Tab} {bd : Bnd} (hG : Glob w) (hT : TB w' t b M) (hB : Below w.heap.size w w') (hb : w.heap.size ≤ b) (hM : M.length ≤ 2513169434843) :
    Calls Tryd.prog 20 #[.pointer (some ⟨t, 0, none⟩), .agg #[.string bd.path, .string bd.name, .string bd.subject, .int .i64 bd.verb]] w' fun e w2 => e = .returned (.int .i64 (setE M bd)) ∧ TB w2 t b (setM M bd) ∧ Below w.heap.size w w2 := by
  refine (set_ok w' t b M bd hT (hG.below hB) hM).mono ?_
  rintro e w2 ⟨rfl, h1, h2⟩
  exact ⟨rfl, h1, hB.trans (h2.belowB hb hB.size)⟩
set_option maxRecDepth 100000 in
set_option maxHeartbeats 16000000 in
theorem of_ok (A : Option Addr) (c : Nat) (l : List Bnd) (w : World) (hr : k27.C w A l.length l) (hG : Glob w) (hl : l.length ≤ 2513169434843) :
    Calls Tryd.prog 14 #[.slice A l.length c] w fun e w' => OfSays w (ofS [] l) e w' := by
  have hu27 := Tryd.underlying27
  have hu70 := Tryd.underlying70
  obtain ⟨res, hres⟩ : ∃ res, res = ofS [] l := ⟨_, rfl⟩
  rw [← hres]
  have HRES := Lib.hid hres
  have HR := Aside0.mk hr
  have NEW := Lib.hid (newT_ok w)
  have GL := Lib.hid hG
  have HLL := Lib.hid hl
  clear hr hG hl hres
  go_enter Tryd.func14, Tryd.ntmps14
  go_upto_region 3 with (go_at_call 29; refine NEW.out.mono ?_; rintro e w1 ⟨t, b, rfl, hT, ht, hb, hb1⟩; have B1 := Aside0.mk hb1; have T1 := Aside0.mk hT; have HTB := Lib.hid (And.intro ht hb); clear hT ht hb hb1)
  clear NEW
  go_loopg [13] l.length (fun g v13 wr => ∃ (i : Nat) (M : Tab), v13 = .int .i64 (i : Int) ∧ Aside0 (i + g = l.length) ∧ Aside0 (M.length ≤ i) ∧ Aside0 (ofS M (l.drop i) = res) ∧ Aside0 (TB wr t b M) ∧ Aside0 (Below w.heap.size w wr))
  case atStart => exact ⟨0, [], rfl, ⟨by omega⟩, ⟨by simp⟩, ⟨by rw [List.drop_zero]; exact HRES.out.symm⟩, T1, B1⟩
  case round =>
    clear T1 B1
    obtain ⟨i, M, rfl, HI, HM, HO, HT, HB⟩ := hrel
    by_cases hi : i < l.length
    rotate_left
    · have q1 : decide ((i : Int) < (l.length : Int)) = false := decide_eq_false (by omega)
      have q1n : decide (i < l.length) = false := decide_eq_false hi
      have HD := Lib.hid (show l.drop i = [] from List.drop_of_length_le (by omega))
      clear hi
      go_wp2
      go_ret2
      have hres : res = (some M, 0) := by rw [← HO.out, HD.out]; rfl
      exact ⟨_, by rw [hres] <;> rfl, .inr ⟨M, t, b, by rw [hres], rfl, HT.out, HTB.out.1, HTB.out.2⟩, HB.out⟩
    have q1 : decide ((i : Int) < (l.length : Int)) = true := decide_eq_true (by omega)
    have q1n : decide (i < l.length) = true := decide_eq_true hi
    have p1 : (0 ≤ (i : Int)) = True := eq_true (by omega)
    have p2 : ((i : Int) < (l.length : Int)) = True := eq_true (by omega)
    obtain ⟨ad, hA, hx0, hx⟩ := bnd_at (Kd.C_below HR.out HB.out) i hi
    cases hA
    have HDX := Lib.hid (List.drop_eq_getElem_cons hi)
    obtain ⟨g0, rfl⟩ : ∃ g0, gk = g0 + 1 := ⟨gk - 1, by have := HI.out; omega⟩
    have HLT := Lib.hid hi
    have HMM := Lib.hid (show M.length ≤ 2513169434843 by have := HM.out; have := HLL.out; omega)
    generalize l[i] = x at hx0 hx HDX
    obtain ⟨bp, bn, bs, bv⟩ := x
    have hx1 := hx 1 (.string bn) (by decide) rfl
    have hx2 := hx 2 (.string bs) (by decide) rfl
    have hx3 := hx 3 (.int .i64 bv) (by decide) rfl
    clear hi hx
    have hst : ofS M (l.drop i) = if (getA (bp, bn) M).isSome = true ∧ formedB ⟨bp, bn, bs, bv⟩ = true then (none, 190) else if setE M ⟨bp, bn, bs, bv⟩ = 0 then ofS (setM M ⟨bp, bn, bs, bv⟩) (l.drop (i + 1)) else (none, setE M ⟨bp, bn, bs, bv⟩) := by rw [HDX.out]; rfl
    have HST := Lib.hid hst
    have hlk := fun w' (h : Holds eK eV w' b M) => h.lookup kind_pl (fun a => ⟨a, rfl⟩) eqPl_iff 66 27 Tryd.underlying66 (bp, bn) _ (Tryd.zeroValue27 w') true
    obtain ⟨cc, hc⟩ : ∃ cc : Bnd, ∀ w', Holds eK eV w' b M → (Instr.lookup 66 (.map (some b)) (.agg #[.string bp, .string bn]) true).run Tryd.prog w' = .ok (.tuple #[.agg #[.string cc.path, .string cc.name, .string cc.subject, .int .i64 cc.verb], .bool (getA (bp, bn) M).isSome]) w' := by
      refine ⟨(getA (bp, bn) M).getD ⟨⟨#[]⟩, ⟨#[]⟩, ⟨#[]⟩, 0⟩, fun w' h => (hlk w' h).trans ?_⟩
      cases getA (bp, bn) M <;> rfl
    obtain ⟨there, hth⟩ : ∃ z, z = (getA (bp, bn) M).isSome := ⟨_, rfl⟩
    rw [← hth] at hc
    have HC := Lib.hid hc
    have HTH := Lib.hid hth
    clear hst hlk hc hth
    obtain ⟨cp, cn, cs, cv⟩ := cc
    go_upto_region 5 with fail
    have hal := (Below.refl wr.heap.size wr).alloc (Nat.le_refl _) (.cells #[.string bp, .string bn, .string bs, .int .i64 bv] 27)
    have T3 := Aside0.mk (HT.out.below hal)
    have B3 := Aside0.mk (HB.out.trans (below_lower hal HB.out.size))
    have N3 := Aside0.mk (blk_new wr (.cells #[.string bp, .string bn, .string bs, .int .i64 bv] 27))
    obtain ⟨pp, hpp⟩ : ∃ pp, pp = wr.heap.size := ⟨_, rfl⟩
    rw [← hpp] at N3 ⊢
    clear hal hpp hx0 hx1 hx2 hx3 p1 p2 q1 q1n HT HB
    generalize wr.alloc _ = w3 at T3 B3 N3 ⊢
    refine start_ (n := 16) (S := fun w' => w'.cell? ⟨t, 0, none⟩ = some (.map (some b)) ∧ w'.cell? ⟨pp, 0, none⟩ = some (.string bp) ∧ w'.cell? ⟨pp, 1, none⟩ = some (.string bn) ∧ (Instr.lookup 66 (.map (some b)) (.agg #[.string bp, .string bn]) true).run Tryd.prog w' = .ok (.tuple #[.agg #[.string cp, .string cn, .string cs, .int .i64 cv], .bool there]) w') (ds := []) #[false, false, false, false, false, false, false, false, false, false, false, false, false, false, false, false] (by kernel_rfl) rfl rfl ⟨T3.out.cell, (blk_cell N3.out 0).trans rfl, (blk_cell N3.out 1).trans rfl, HC.out _ T3.out.holds⟩ (fun hHeld => ?_)
    have hwd := drew_below w3
    have T4 := Aside0.mk (TB.below T3.out hwd)
    have N4 := Aside0.mk (blk_below N3.out hwd)
    have B4 := Aside0.mk (below_drew1 B3.out)
    clear hwd T3 N3 B3
    generalize w3.drew = w4 at T4 N4 B4 hHeld ⊢
    refine pure_ (i := 0) (N := some 18) (v := ?_) (a' := ?_) #[true, false, false, false, false, false, false, false, false, false, false, false, false, false, false, false] rfl rfl (by kernel_rfl) (fun _ _ _ h => h) (Or.inl ⟨by rfl, ?_⟩) ?_ ?_
    rotate_left
    · intro w'
      go_simp
      with_reducible rfl
    rotate_left
    · simp only [Act.put, List.setIfInBounds_toArray, List.set_cons_zero, List.set_cons_succ, i64_w, i32_w]
      rfl
    refine pure_ (i := 1) (N := some 19) (v := ?_) (a' := ?_) #[true, true, false, false, false, false, false, false, false, false, false, false, false, false, false, false] rfl rfl (by kernel_rfl) (fun _ _ _ h => h) (Or.inl ⟨by rfl, ?_⟩) ?_ ?_
    rotate_left
    · intro w'
      go_simp
      with_reducible rfl
    rotate_left
    · simp only [Act.put, List.setIfInBounds_toArray, List.set_cons_zero, List.set_cons_succ, i64_w, i32_w]
      rfl
    refine pure_ (i := 2) (N := some 20) (v := ?_) (a' := ?_) #[true, true, true, false, false, false, false, false, false, false, false, false, false, false, false, false] rfl rfl (by kernel_rfl) (fun _ _ _ h => h) (Or.inl ⟨by rfl, ?_⟩) ?_ ?_
    rotate_left
    · intro w'
      go_simp
      with_reducible rfl
    rotate_left
    · simp only [Act.put, List.setIfInBounds_toArray, List.set_cons_zero, List.set_cons_succ, i64_w, i32_w]
      rfl
    refine take_ (i := 3) (N := some 21) (v := ?_) (a' := ?_) #[true, true, true, true, false, false, false, false, false, false, false, false, false, false, false, false] rfl rfl (by kernel_rfl) (fun _ _ _ h => h) (Or.inl ⟨by rfl, ?_⟩) hHeld ?_ ?_
    rotate_left
    · rintro w' ⟨s0, s1, s2, s3⟩
      go_simp
      with_reducible rfl
    rotate_left
    · simp only [Act.put, List.setIfInBounds_toArray, List.set_cons_zero, List.set_cons_succ, i64_w, i32_w]
      rfl
    refine pure_ (i := 4) (N := some 22) (v := ?_) (a' := ?_) #[true, true, true, true, true, false, false, false, false, false, false, false, false, false, false, false] rfl rfl (by kernel_rfl) (fun _ _ _ h => h) (Or.inl ⟨by rfl, ?_⟩) ?_ ?_
    rotate_left
    · intro w'
      go_simp
      with_reducible rfl
    rotate_left
    · simp only [Act.put, List.setIfInBounds_toArray, List.set_cons_zero, List.set_cons_succ, i64_w, i32_w]
      rfl
    refine take_ (i := 5) (N := some 23) (v := ?_) (a' := ?_) #[true, true, true, true, true, true, false, false, false, false, false, false, false, false, false, false] rfl rfl (by kernel_rfl) (fun _ _ _ h => h) (Or.inl ⟨by rfl, ?_⟩) hHeld ?_ ?_
    rotate_left
    · rintro w' ⟨s0, s1, s2, s3⟩
      go_simp
      with_reducible rfl
    rotate_left
    · simp only [Act.put, List.setIfInBounds_toArray, List.set_cons_zero, List.set_cons_succ, i64_w, i32_w]
      rfl
    refine pure_ (i := 6) (N := some 24) (v := ?_) (a' := ?_) #[true, true, true, true, true, true, true, false, false, false, false, false, false, false, false, false] rfl rfl (by kernel_rfl) (fun _ _ _ h => h) (Or.inl ⟨by rfl, ?_⟩) ?_ ?_
    rotate_left
    · intro w'
      go_simp
      with_reducible rfl
    rotate_left
    · simp only [Act.put, List.setIfInBounds_toArray, List.set_cons_zero, List.set_cons_succ, i64_w, i32_w]
      rfl
    refine take_ (i := 7) (N := some 25) (v := ?_) (a' := ?_) #[true, true, true, true, true, true, true, true, false, false, false, false, false, false, false, false] rfl rfl (by kernel_rfl) (fun _ _ _ h => h) (Or.inl ⟨by rfl, ?_⟩) hHeld ?_ ?_
    rotate_left
    · rintro w' ⟨s0, s1, s2, s3⟩
      go_simp
      with_reducible rfl
    rotate_left
    · simp only [Act.put, List.setIfInBounds_toArray, List.set_cons_zero, List.set_cons_succ, i64_w, i32_w]
      rfl
    refine pure_ (i := 8) (N := some 26) (v := ?_) (a' := ?_) #[true, true, true, true, true, true, true, true, true, false, false, false, false, false, false, false] rfl rfl (by kernel_rfl) (fun _ _ _ h => h) (Or.inl ⟨by rfl, ?_⟩) ?_ ?_
    rotate_left
    · intro w'
      go_simp
      with_reducible rfl
    rotate_left
    · simp only [Act.put, List.setIfInBounds_toArray, List.set_cons_zero, List.set_cons_succ, i64_w, i32_w]
      rfl
    refine take_ (i := 9) (N := some 27) (v := ?_) (a' := ?_) #[true, true, true, true, true, true, true, true, true, true, false, false, false, false, false, false] rfl rfl (by kernel_rfl) (fun _ _ _ h => h) (Or.inl ⟨by rfl, ?_⟩) hHeld ?_ ?_
    rotate_left
    · rintro w' ⟨s0, s1, s2, s3⟩
      go_simp
      with_reducible rfl
    rotate_left
    · simp only [Act.put, List.setIfInBounds_toArray, List.set_cons_zero, List.set_cons_succ, i64_w, i32_w]
      rfl
    refine pure_ (i := 10) (N := some 17) (v := ?_) (a' := ?_) #[true, true, true, true, true, true, true, true, true, true, true, false, false, false, false, false] rfl rfl (by kernel_rfl) (fun _ _ _ h => h) (Or.inl ⟨by rfl, ?_⟩) ?_ ?_
    rotate_left
    · intro w'
      go_simp
      with_reducible rfl
    rotate_left
    · simp only [Act.put, List.setIfInBounds_toArray, List.set_cons_zero, List.set_cons_succ, i64_w, i32_w]
      rfl
    refine pure_ (i := 11) (N := some 28) (v := ?_) (a' := ?_) #[true, true, true, true, true, true, true, true, true, true, true, true, false, false, false, false] rfl rfl (by kernel_rfl) (fun _ _ _ h => h) (Or.inl ⟨by rfl, ?_⟩) ?_ ?_
    rotate_left
    · intro w'
      go_simp
      with_reducible rfl
    rotate_left
    · simp only [Act.put, List.setIfInBounds_toArray, List.set_cons_zero, List.set_cons_succ, i64_w, i32_w]
      rfl
    refine pure_ (i := 12) (N := some 29) (v := ?_) (a' := ?_) #[true, true, true, true, true, true, true, true, true, true, true, true, true, false, false, false] rfl rfl (by kernel_rfl) (fun _ _ _ h => h) (Or.inl ⟨by rfl, ?_⟩) ?_ ?_
    rotate_left
    · intro w'
      go_simp
      with_reducible rfl
    rotate_left
    · simp only [Act.put, List.setIfInBounds_toArray, List.set_cons_zero, List.set_cons_succ, i64_w, i32_w]
      rfl
    refine one_ (i := 13) (N := some 7) #[true, true, true, true, true, true, true, true, true, true, true, true, true, true, false, false] rfl rfl (by kernel_rfl) (by decide) (fun K hK => ?_)
    refine value_ (v := .pointer (some ⟨w4.heap.size, 0, none⟩)) (w1 := w4.alloc (.cells #[.string ⟨#[]⟩, .string ⟨#[]⟩, .string ⟨#[]⟩, .int .i64 0] 27)) (by rfl) rfl ?_ ?_
    · go_simp
    have hal5 := (Below.refl w4.heap.size w4).alloc (Nat.le_refl _) (.cells #[.string ⟨#[]⟩, .string ⟨#[]⟩, .string ⟨#[]⟩, .int .i64 0] 27)
    have T5 := Aside0.mk (TB.below T4.out hal5)
    have N5 := Aside0.mk (blk_below N4.out hal5)
    have B5 := Aside0.mk (B4.out.trans (below_lower hal5 B4.out.size))
    have Q5 := Aside0.mk (blk_new w4 (.cells #[.string ⟨#[]⟩, .string ⟨#[]⟩, .string ⟨#[]⟩, .int .i64 0] 27))
    have HQ := Lib.hid (show t < w4.heap.size ∧ b < w4.heap.size ∧ pp < w4.heap.size from ⟨T4.out.lt.1, T4.out.lt.2, blk_lt N4.out⟩)
    have HA := Lib.hid B4.out.size
    obtain ⟨qq, hqq⟩ : ∃ qq, qq = w4.heap.size := ⟨_, rfl⟩
    rw [← hqq] at Q5 HQ HA ⊢
    clear hal5 hqq T4 N4 B4
    generalize w4.alloc _ = w5 at T5 N5 B5 Q5 ⊢
    refine hK.out _ _ ⟨T5.out.cell, (blk_cell N5.out 0).trans rfl, (blk_cell N5.out 1).trans rfl, HC.out _ T5.out.holds⟩ (fun hHeld => ?_)
    clear hK K
    refine norm_ (a' := ?_) ?_ ?_
    rotate_left
    · show Act.put _ (some 7) _ = _
      simp only [Act.put, List.setIfInBounds_toArray, List.set_cons_zero, List.set_cons_succ, i64_w, i32_w]
      rfl
    refine one_ (i := 14) (N := none) #[true, true, true, true, true, true, true, true, true, true, true, true, true, true, true, false] rfl rfl (by kernel_rfl) (by decide) (fun K hK => ?_)
    have hf0 := blk_frozen Q5.out 0
    have hf1 := blk_frozen Q5.out 1
    have hf2 := blk_frozen Q5.out 2
    have hf3 := blk_frozen Q5.out 3
    have hcs0 := (blk_cell Q5.out 0).trans rfl
    have hcs1 := (blk_cell Q5.out 1).trans rfl
    have hcs2 := (blk_cell Q5.out 2).trans rfl
    have hcs3 := (blk_cell Q5.out 3).trans rfl
    refine skip_ (w1 := ?_) (by rfl) rfl ?_ ?_
    rotate_left
    · go_simp
      rfl
    have hbq := below_put4 (b0 := .string cp) (b1 := .string cn) (b2 := .string cs) (b3 := .int .i64 cv) (Below.refl qq w5) (Nat.le_refl qq)
    have T6 := Aside0.mk (T5.out.belowB hbq HQ.out.1 HQ.out.2.1)
    have N6 := Aside0.mk ((hbq.block _ HQ.out.2.2).trans N5.out)
    have B6 := Aside0.mk (B5.out.trans (below_lower hbq HA.out))
    clear hf0 hf1 hf2 hf3 hcs0 hcs1 hcs2 hcs3 hbq T5 N5 B5 Q5
    generalize World.setCell _ _ _ = w6 at T6 N6 B6 ⊢
    refine hK.out _ _ ⟨T6.out.cell, (blk_cell N6.out 0).trans rfl, (blk_cell N6.out 1).trans rfl, HC.out _ T6.out.holds⟩ (fun hHeld => ?_)
    clear hK K
    refine pure_ (i := 15) (N := some 8) (v := ?_) (a' := ?_) #[true, true, true, true, true, true, true, true, true, true, true, true, true, true, true, true] rfl rfl (by kernel_rfl) (fun _ _ _ h => h) (Or.inl ⟨by rfl, ?_⟩) ?_ ?_
    rotate_left
    · intro w'
      go_simp
      with_reducible rfl
    rotate_left
    · simp only [Act.put, List.setIfInBounds_toArray, List.set_cons_zero, List.set_cons_succ, i64_w, i32_w]
      rfl
    refine done_ (by kernel_rfl) ?_
    clear hHeld HC HQ HA
    have hd0 := (blk_cell N6.out 0).trans rfl
    have hd1 := (blk_cell N6.out 1).trans rfl
    have hd2 := (blk_cell N6.out 2).trans rfl
    have hd3 := (blk_cell N6.out 3).trans rfl
    have VC := Lib.hid (fun w' hG => valid_ok ⟨bp, bn, bs, bv⟩ w' hG)
    unfold eV at VC
    have SC := Lib.hid (fun w' hT hB => set_of (w := w) (w' := w') (t := t) (b := b) (M := M) (bd := ⟨bp, bn, bs, bv⟩) GL.out hT hB HTB.out.2 HMM.out)
    cases there with
    | true =>
      by_cases hf : formedB ⟨bp, bn, bs, bv⟩ = true
      · rw [if_pos hf] at VC
        have HF := Lib.hid hf
        clear hf
        go_wp2_with (go_at_call 33; refine (VC.out _ (GL.out.below B6.out)).mono ?_; rintro e wv ⟨rfl, hb⟩; have T6b := Aside0.mk (T6.out.below hb); have N6b := Aside0.mk (blk_below N6.out hb); have B6b := Aside0.mk (B6.out.trans (below_lower hb B6.out.size)); clear hb T6 N6 B6; have T6 := T6b; have N6 := N6b; have B6 := B6b; clear T6b N6b B6b; have hd0 := (blk_cell N6.out 0).trans rfl; have hd1 := (blk_cell N6.out 1).trans rfl; have hd2 := (blk_cell N6.out 2).trans rfl; have hd3 := (blk_cell N6.out 3).trans rfl)
        go_ret2
        have hres : res = (none, 190) := by rw [← HO.out, HST.out, if_pos ⟨HTH.out.symm, HF.out⟩]
        exact ⟨_, by rw [hres] <;> rfl, .inl ⟨by rw [hres], rfl⟩, B6.out⟩
      · rw [if_neg hf] at VC
        have HE := Lib.hid (show setE M ⟨bp, bn, bs, bv⟩ = 130 by unfold setE; rw [if_neg hf])
        have HF := Lib.hid hf
        rw [HE.out] at SC
        clear hf
        go_wp2_with (first | (go_at_call 33; refine (VC.out _ (GL.out.below B6.out)).mono ?_; rintro e wv ⟨rfl, hb⟩; have T6b := Aside0.mk (T6.out.below hb); have N6b := Aside0.mk (blk_below N6.out hb); have B6b := Aside0.mk (B6.out.trans (below_lower hb B6.out.size)); clear hb T6 N6 B6; have T6 := T6b; have N6 := N6b; have B6 := B6b; clear T6b N6b B6b; have hd0 := (blk_cell N6.out 0).trans rfl; have hd1 := (blk_cell N6.out 1).trans rfl; have hd2 := (blk_cell N6.out 2).trans rfl; have hd3 := (blk_cell N6.out 3).trans rfl) | (go_at_call 20; (with_reducible refine (SC.out _ T6.out B6.out).mono ?_); rintro e w7 ⟨rfl, hT, hB⟩; have T7 := Aside0.mk hT; have B7 := Aside0.mk hB; clear hT hB))
        go_ret2
        have hres : res = (none, 130) := by rw [← HO.out, HST.out, if_neg (fun h => HF.out h.2), HE.out, if_neg (by decide)]
        exact ⟨_, by rw [hres] <;> rfl, .inl ⟨by rw [hres], rfl⟩, B7.out⟩
    | false =>
      by_cases h0 : setE M ⟨bp, bn, bs, bv⟩ = 0
      · rw [h0] at SC
        have H0 := Lib.hid h0
        clear h0
        go_wp2_with (go_at_call 20; (with_reducible refine (SC.out _ T6.out B6.out).mono ?_); rintro e w7 ⟨rfl, hT, hB⟩; have T7 := Aside0.mk hT; have B7 := Aside0.mk hB; clear hT hB)
        go_roundg g0
        case measure => omega
        case rel => exact ⟨i + 1, setM M ⟨bp, bn, bs, bv⟩, congrArg (Value.int .i64) (by rw [w64 i (by have := HLT.out; have := HLL.out; omega)]), ⟨by have := HI.out; omega⟩, ⟨by have := HM.out; have := setM_len M ⟨bp, bn, bs, bv⟩; omega⟩, ⟨by rw [← HO.out, HST.out, if_neg (fun h => by have := HTH.out; rw [h.1] at this; cases this), if_pos H0.out]⟩, T7, B7⟩
      · obtain ⟨ee, hee⟩ : ∃ ee, ee = setE M ⟨bp, bn, bs, bv⟩ := ⟨_, rfl⟩
        rw [← hee] at SC h0
        have HEE := Lib.hid hee
        have e0 : (ee != 0) = true := bne_iff_ne.2 h0
        have H0 := Lib.hid h0
        clear h0 hee
        go_wp2_with (go_at_call 20; (with_reducible refine (SC.out _ T6.out B6.out).mono ?_); rintro e w7 ⟨rfl, hT, hB⟩; have T7 := Aside0.mk hT; have B7 := Aside0.mk hB; clear hT hB)
        go_ret2
        have hres : res = (none, ee) := by rw [← HO.out, HST.out, if_neg (fun h => by have := HTH.out; rw [h.1] at this; cases this), ← HEE.out, if_neg H0.out]
        exact ⟨_, by rw [hres] <;> rfl, .inl ⟨by rw [hres], rfl⟩, B7.out⟩
end Go.Proofs.YtphddbijdfmpjaaDoor.Q
namespace Go.Proofs.YtphddbijdfmpjaaDoor.Wr
open Go.RowKit Go.MapRaw Go.Proofs.YtphddbijdfmpjaaDoorW.PrintWords Go.Proofs.YtphddbijdfmpjaaDoorW.PrintLast Go.Proofs.YtphddbijdfmpjaaDoor.Q Go.Proofs.YtphddbijdfmpjaaDoor.Pl
set_option linter.unusedVariables false
set_option linter.unusedSimpArgs false
theorem cnt_put (q : ByteArray) (k : Key) (v : Bnd) : ∀ M : Tab, cnt q (putA k v M) = cnt q M + (if (getA k M).isSome = true then 0 else if k.1 = q then 1 else 0)
  | [] => by simp [putA, cnt, getA]
  | p :: r => by
    have ih := cnt_put q k v r
    unfold putA getA
    by_cases e : p.1 = k
    · rw [if_pos e, if_pos e]
      simp only [cnt, Option.isSome_some, if_true, e]
      omega
    · rw [if_neg e, if_neg e]
      simp only [cnt, ih]
      omega
theorem len_put (k : Key) (v : Bnd) : ∀ M : Tab, (putA k v M).length = M.length + (if (getA k M).isSome = true then 0 else 1)
  | [] => by simp [putA, getA]
  | p :: r => by
    have ih := len_put k v r
    unfold putA getA
    by_cases e : p.1 = k
    · rw [if_pos e, if_pos e]; simp
    · rw [if_neg e, if_neg e, List.length_cons, ih, List.length_cons]; omega
theorem cnt_del (q : ByteArray) (k : Key) : ∀ M : Tab, (getA k M).isSome = true → cnt q (delA k M) + (if k.1 = q then 1 else 0) = cnt q M
  | [], h => by simp [getA] at h
  | p :: r, h => by
    unfold delA
    by_cases e : p.1 = k
    · rw [if_pos e]
      simp only [cnt, e]
      omega
    · rw [if_neg e]
      have : getA k (p :: r) = getA k r := by rw [getA, if_neg e]
      rw [this] at h
      have ih := cnt_del q k r h
      simp only [cnt]
      omega
theorem len_del (k : Key) : ∀ M : Tab, (getA k M).isSome = true → (delA k M).length + 1 = M.length
  | [], h => by simp [getA] at h
  | p :: r, h => by
    unfold delA
    by_cases e : p.1 = k
    · rw [if_pos e]; rfl
    · rw [if_neg e]
      have : getA k (p :: r) = getA k r := by rw [getA, if_neg e]
      rw [this] at h
      have ih := len_del k r h
      simp only [List.length_cons]
      omega
structure TabIs (M : Tab) (has : Key → Prop) (n : ByteArray → Nat) (len : Nat) : Prop where
  nodup : (M.map (fun x => x.1)).Nodup
  keys : ∀ k, (getA k M).isSome = true ↔ has k
  count : ∀ q, cnt q M = n q
  size : M.length = len
theorem TabIs.nil : TabIs [] (fun _ => False) (fun _ => 0) 0 := ⟨by simp, fun k => by simp [getA], fun q => rfl, rfl⟩
theorem TabIs.same {M : Tab} {has has2 : Key → Prop} {n n2 : ByteArray → Nat} {l l2 : Nat} (h : TabIs M has n l) (h1 : ∀ k, has k ↔ has2 k) (h2 : ∀ q, n q = n2 q) (h3 : l = l2) : TabIs M has2 n2 l2 :=
  ⟨h.nodup, fun k => (h.keys k).trans (h1 k), fun q => (h.count q).trans (h2 q), h.size.trans h3⟩
theorem TabIs.swap {M : Tab} {has : Key → Prop} {n : ByteArray → Nat} {l : Nat} (h : TabIs M has n l) (b : Bnd) (hf : formedB b = true) (hn : has (b.path, b.name)) : setE M b = 0 ∧ TabIs (setM M b) has n l := by
  have hk : (getA (b.path, b.name) M).isSome = true := (h.keys _).2 hn
  have he : setE M b = 0 := by
    unfold setE
    rw [if_pos hf, if_neg (fun e => by have h1 := e.1; rw [Option.isNone_iff_eq_none] at h1; rw [h1] at hk; cases hk)]
  refine ⟨he, setM_nodup b h.nodup, fun k => ?_, fun q => ?_, ?_⟩
  · unfold setM
    rw [if_pos he, get_put]
    by_cases e : k = (b.path, b.name)
    · rw [if_pos e]; simp [e, hn]
    · rw [if_neg e, h.keys]
  · unfold setM
    rw [if_pos he, cnt_put, if_pos hk, h.count]; rfl
  · unfold setM
    rw [if_pos he, len_put, if_pos hk, h.size]; rfl
theorem TabIs.full {M : Tab} {has : Key → Prop} {n : ByteArray → Nat} {l : Nat} (h : TabIs M has n l) (b : Bnd) (hf : formedB b = true) (hn : ¬ has (b.path, b.name)) (hc : n b.path = 16) : setE M b = 194 ∧ setM M b = M := by
  have hk : getA (b.path, b.name) M = none := by
    cases e : getA (b.path, b.name) M with
    | none => rfl
    | some x => exact absurd ((h.keys _).1 (by rw [e]; rfl)) hn
  have he : setE M b = 194 := by
    unfold setE
    rw [if_pos hf, if_pos ⟨by rw [hk]; rfl, by have := h.count b.path; omega⟩]
  exact ⟨he, by unfold setM; rw [he, if_neg (by decide)]⟩
theorem TabIs.drop {M : Tab} {has : Key → Prop} {n : ByteArray → Nat} {l : Nat} (h : TabIs M has n l) (p nm : ByteArray) (hp : pathS p = 0) (hn : has (p, nm)) :
    dropE M p nm = 0 ∧ TabIs (dropM M p nm) (fun k => k ≠ (p, nm) ∧ has k) (fun q => n q - (if p = q then 1 else 0)) (l - 1) := by
  have hk : (getA (p, nm) M).isSome = true := (h.keys _).2 hn
  have he : dropE M p nm = 0 := by unfold dropE; rw [if_pos hp, if_pos hk]
  refine ⟨he, ?_, fun k => ?_, fun q => ?_, ?_⟩
  · unfold dropM; rw [if_pos he]; exact nodup_del _ M h.nodup
  · unfold dropM
    rw [if_pos he, get_del _ _ _ h.nodup]
    by_cases e : k = (p, nm)
    · rw [if_pos e]; simp [e]
    · rw [if_neg e, h.keys]; simp [e]
  · unfold dropM
    rw [if_pos he]
    have := cnt_del q (p, nm) M hk
    have h2 := h.count q
    simp only at this
    omega
  · unfold dropM
    rw [if_pos he]
    have := len_del (p, nm) M hk
    have h2 := h.size
    omega
theorem getA_mem {k : Key} : ∀ {M : Tab}, (getA k M).isSome = true ↔ k ∈ M.map (fun x => x.1)
  | [] => by simp [getA]
  | p :: r => by
    unfold getA
    by_cases e : p.1 = k
    · rw [if_pos e]; simp [e]
    · rw [if_neg e, getA_mem, List.map_cons, List.mem_cons]
      exact ⟨.inr, fun h => h.elim (fun h => absurd h.symm e) id⟩
def nm (i : Nat) : ByteArray := (⟨#[110]⟩ : ByteArray) ++ strOfNums [97 + (i : Int)]
end Go.Proofs.YtphddbijdfmpjaaDoor.Wr
namespace Go.Proofs.YtphddbijdfmpjaaDoor.Q
open Go.RowKit Go.MapRaw Go.Proofs.YtphddbijdfmpjaaDoorW.PrintWords Go.Proofs.YtphddbijdfmpjaaDoorW.PrintLast Go.Proofs.YtphddbijdfmpjaaDoor.Wr Go.Proofs.YtphddbijdfmpjaaDoor.Pl
set_option linter.unusedVariables false
set_option linter.unusedSimpArgs false
def keyB (b : Bnd) : Key := (b.path, b.name)
def cntB (q : ByteArray) : List Bnd → Nat
  | [] => 0
  | b :: r => (if b.path = q then 1 else 0) + cntB q r
theorem cntB_perm (q : ByteArray) {x y : List Bnd} (h : x.Perm y) : cntB q x = cntB q y := by
  induction h with
  | nil => rfl
  | cons a _ ih => simp only [cntB, ih]
  | swap a b l => simp only [cntB]; omega
  | trans _ _ ih1 ih2 => exact ih1.trans ih2
theorem cntB_tab (q : ByteArray) : ∀ M : Tab, (∀ x ∈ M, x.1 = keyB x.2) → cntB q (M.map fun p => p.2) = cnt q M
  | [], _ => rfl
  | x :: r, h => by
    have hx := h x (by simp)
    simp only [List.map_cons, cntB, cnt, cntB_tab q r (fun y hy => h y (by simp [hy]))]
    rw [hx]; rfl
structure Fit (m : List Bnd) : Prop where
  formed : ∀ b ∈ m, formedB b = true
  apart : (m.map keyB).Nodup
  few : ∀ q, cntB q m ≤ 16
theorem Fit.perm {m n : List Bnd} (h : Fit m) (hp : m.Perm n) : Fit n :=
  ⟨fun b hb => h.formed b (hp.mem_iff.2 hb), (hp.map keyB).nodup_iff.1 h.apart, fun q => by rw [← cntB_perm q hp]; exact h.few q⟩
def tag (b : Bnd) : Key × Bnd := (keyB b, b)
theorem put_new {k : Key} {v : Bnd} : ∀ {M : Tab}, k ∉ M.map (fun x => x.1) → putA k v M = M ++ [(k, v)]
  | [], _ => rfl
  | p :: r, h => by
    simp only [List.map_cons, List.mem_cons, not_or] at h
    unfold putA
    rw [if_neg (fun e => h.1 e.symm), put_new h.2]
    rfl
theorem getA_out {k : Key} {M : Tab} : (getA k M).isSome = true ↔ k ∈ M.map (fun x => x.1) := getA_mem
theorem path_inj {a b : ByteArray} (ha : pathS a = 0) (hb : pathS b = 0) (h : (splitS a).1 = (splitS b).1) : a = b := by
  rcases path_cases a with ⟨na, h1, e1⟩ | ⟨_, e1⟩
  · rcases path_cases b with ⟨nb, h2, e2⟩ | ⟨_, e2⟩
    · rw [e1, e2] at h
      have h' : na.map toB = nb.map toB := h
      have hn : na = nb := by
        rw [← map_list na, ← map_list nb, h']
      rw [s_of h1, s_of h2, hn]
    · unfold pathS at hb; rw [e2] at hb; cases hb
  · unfold pathS at ha; rw [e1] at ha; cases ha
theorem formed_path {b : Bnd} (h : formedB b = true) : pathS b.path = 0 := by
  unfold formedB at h
  simp only [Bool.and_eq_true, decide_eq_true_eq] at h
  exact h.1.1.1.1
theorem cmpB_key {a b : Bnd} (ha : formedB a = true) (hb : formedB b = true) (h : cmpB a b = 0) : keyB a = keyB b := by
  unfold cmpB at h
  by_cases e : cmpL (splitS a.path).1 (splitS b.path).1 = 0
  · rw [if_neg (by omega)] at h
    have h1 := path_inj (formed_path ha) (formed_path hb) (cmpL_zero e)
    have h2 := cmpS_zero h
    unfold keyB
    rw [h1, h2]
  · rw [if_pos (by omega)] at h; omega
theorem key_inj {m : List Bnd} (h : (m.map keyB).Nodup) {a b : Bnd} (ha : a ∈ m) (hb : b ∈ m) (e : keyB a = keyB b) : a = b := by
  induction m with
  | nil => cases ha
  | cons x r ih =>
    rw [List.map_cons, List.nodup_cons] at h
    rcases List.mem_cons.1 ha with h1 | h1
    · rcases List.mem_cons.1 hb with h2 | h2
      · rw [h1, h2]
      · exact absurd (List.mem_map.2 ⟨b, h2, by rw [← h1]; exact e.symm⟩) h.1
    · rcases List.mem_cons.1 hb with h2 | h2
      · exact absurd (List.mem_map.2 ⟨a, h1, by rw [← h2]; exact e⟩) h.1
      · exact ih h.2 h1 h2
end Go.Proofs.YtphddbijdfmpjaaDoor.Q
namespace Go.Proofs.YtphddbijdfmpjaaDoor.Q
open Go.RowKit Go.Sort Go.MapRaw Go.Proofs.YtphddbijdfmpjaaDoorW.PrintWords Go.Proofs.YtphddbijdfmpjaaDoorW.PrintLast Go.Proofs.YtphddbijdfmpjaaDoor.Wr
set_option linter.unusedVariables false
set_option linter.unusedSimpArgs false
theorem R_cells {w : World} {base g cap : Nat} {ok : Nat → Prop} {xs : List Bnd} (h : Kd.R k27 27 w base ok (.slice (some ⟨g, 0, none⟩) xs.length cap) xs) (i : Nat) (hi : i < xs.length) :
    (∀ j u, (encB xs[i])[j]? = some u → w.cell? ⟨g, i * 4 + j, none⟩ = some u) ∧ ∀ j, w.frozen? ⟨g, j, none⟩ = false := by
  obtain ⟨ad, hA, hx0, hx⟩ := bnd_at (Kd.R_reads' h).2.2 i hi
  cases hA
  refine ⟨fun j u hu => ?_, fun j => ?_⟩
  · have ha : (⟨g, 0, none⟩ : Addr).add (i * 4) = ⟨g, i * 4, none⟩ := by
      unfold Addr.add
      by_cases h0 : i * 4 = 0
      · rw [if_pos h0, h0]
      · rw [if_neg h0]; simp
    rw [ha] at hx0 hx
    cases j with
    | zero =>
      have : u = .string xs[i].path := by simpa [encB] using hu.symm
      rw [this]; exact hx0
    | succ j => exact hx (j + 1) u (by omega) hu
  · obtain ⟨h0, inner, ho, hin⟩ := h
    rcases ho.2 with ⟨he, _⟩ | ⟨g', cap', cur, he, hg, hb, _⟩
    · cases he
    · injection he with he1 _ he3
      injection he1 with he1
      injection he1 with he1
      subst he1
      exact blk_frozen hb j
end Go.Proofs.YtphddbijdfmpjaaDoor.Q
namespace Go.Proofs.YtphddbijdfmpjaaDoor.Q
open Go.RowKit Go.MapRaw Go.Proofs.YtphddbijdfmpjaaDoorW.PrintWords Go.Proofs.YtphddbijdfmpjaaDoorW.PrintLast Go.Proofs.YtphddbijdfmpjaaDoor.Wr Go.Proofs.YtphddbijdfmpjaaDoor.Pl
set_option linter.unusedVariables false
set_option linter.unusedSimpArgs false
theorem compact_mem (zs : List (List UInt8)) (x : List UInt8) : x ∈ Go.Lib.compact zs ↔ x ∈ zs := by
  unfold Go.Lib.compact Go.Lib.compactUpTo
  constructor
  · intro h
    obtain ⟨j, hj, rfl⟩ := List.mem_map.1 h
    have hj2 : j < zs.length := List.mem_range.1 (List.mem_filter.1 hj).1
    have : zs.toArray[j]! = zs[j] := by simp [hj2]
    rw [this]; exact List.getElem_mem hj2
  · intro h
    obtain ⟨j, hj, rfl⟩ := List.getElem_of_mem h
    have key : ∀ j (hj : j < zs.length), zs.toArray[j]! ∈ ((List.range zs.length).filter (Go.Lib.keeps zs.toArray)).map (zs.toArray[·]!) := by
      intro j
      induction j with
      | zero => intro hj; exact List.mem_map.2 ⟨0, List.mem_filter.2 ⟨List.mem_range.2 hj, by simp [Go.Lib.keeps]⟩, rfl⟩
      | succ j ih =>
        intro hj
        by_cases he : zs.toArray[j + 1]! = zs.toArray[j]!
        · rw [he]; exact ih (by omega)
        · exact List.mem_map.2 ⟨j + 1, List.mem_filter.2 ⟨List.mem_range.2 hj, by simp only [Go.Lib.keeps, Nat.add_sub_cancel]; exact decide_eq_true (Or.inr he)⟩, rfl⟩
    have := key j hj
    have h2 : zs.toArray[j]! = zs[j] := by simp [hj]
    rw [h2] at this; exact this
def compactB (xs : List ByteArray) : List ByteArray := (Go.Lib.compact (xs.map (·.data.toList))).map toB
theorem compactB_mem (xs : List ByteArray) (x : ByteArray) : x ∈ compactB xs ↔ x ∈ xs := by
  unfold compactB
  constructor
  · intro h
    obtain ⟨y, hy, rfl⟩ := List.mem_map.1 h
    rw [compact_mem] at hy
    obtain ⟨z, hz, rfl⟩ := List.mem_map.1 hy
    rw [toB_of]; exact hz
  · intro h
    exact List.mem_map.2 ⟨x.data.toList, (compact_mem _ _).2 (List.mem_map.2 ⟨x, h, rfl⟩), toB_of x⟩
theorem compactB_len (xs : List ByteArray) : (compactB xs).length ≤ xs.length := by
  unfold compactB Go.Lib.compact Go.Lib.compactUpTo
  rw [List.length_map, List.length_map]
  refine Nat.le_trans (List.length_filter_le _ _) ?_
  simp
def belowP (p q : ByteArray) : Bool := decide (q ≠ p) && underS p q
def allL (L : List Bnd) (s : ByteArray) (v : Int) : List ByteArray := compactB ((L.filter fun b => decide (b.subject = s ∧ v ≤ b.verb)).map (·.path))
def reachL (L : List Bnd) (s : ByteArray) (v : Int) : List ByteArray := (allL L s v).filter fun p => !(allL L s v).any (belowP p)
def slashS : ByteArray := ⟨#[47]⟩
def reachS (L : List Bnd) (s : ByteArray) (v : Int) : List ByteArray := if isV v = true then (if s = rootS then [slashS] else reachL L s v) else []
theorem allL_mem {L : List Bnd} {s : ByteArray} {v : Int} {p : ByteArray} : p ∈ allL L s v ↔ ∃ b ∈ L, b.subject = s ∧ v ≤ b.verb ∧ b.path = p := by
  unfold allL
  rw [compactB_mem, List.mem_map]
  constructor
  · rintro ⟨b, hb, rfl⟩
    obtain ⟨h1, h2⟩ := List.mem_filter.1 hb
    obtain ⟨h3, h4⟩ := of_decide_eq_true h2
    exact ⟨b, h1, h3, h4, rfl⟩
  · rintro ⟨b, hb, h3, h4, rfl⟩
    exact ⟨b, List.mem_filter.2 ⟨hb, decide_eq_true ⟨h3, h4⟩⟩, rfl⟩
theorem path_is {p : ByteArray} (h : pathS p = 0) : ∃ ns, IsPath p ns ∧ splitS p = (ns.map toB, 0) := by
  rcases path_cases p with h1 | ⟨h1, h2⟩
  · exact h1
  · rw [pathS_bad h1] at h; cases h
theorem under_self {p : ByteArray} (h : pathS p = 0) : underS p p = true := by
  obtain ⟨ns, h1, _⟩ := path_is h
  unfold underS
  rw [memB_iff, lineS_path h1]
  exact (mem_line h1 h1).2 (List.prefix_refl _)
theorem under_iff (p q : ByteArray) : underS p q = true ↔ q ∈ (lineS p).1 := memB_iff _ _
structure Told (M : Tab) (L : List Bnd) : Prop where
  perm : L.Perm (M.map fun p => p.2)
  rises : Rising L
  fits : ∀ p ∈ M, p.1 = (p.2.path, p.2.name) ∧ formedB p.2 = true
theorem Told.mem {M : Tab} {L : List Bnd} (h : Told M L) (b : Bnd) : b ∈ L ↔ ((b.path, b.name), b) ∈ M := by
  rw [h.perm.mem_iff, List.mem_map]
  constructor
  · rintro ⟨x, hx, rfl⟩
    rw [← (h.fits x hx).1]; exact hx
  · intro hx; exact ⟨_, hx, rfl⟩
theorem Told.formed {M : Tab} {L : List Bnd} (h : Told M L) {b : Bnd} (hb : b ∈ L) : formedB b = true := (h.fits _ ((h.mem b).1 hb)).2
theorem Told.has {M : Tab} {L : List Bnd} (h : Told M L) {s : ByteArray} {v : Int} {q : ByteArray} : hasAt M s v q = true ↔ ∃ b ∈ L, b.path = q ∧ b.subject = s ∧ v ≤ b.verb := by
  rw [hasAt_iff]
  constructor
  · rintro ⟨x, hx, h1, h2, h3⟩
    refine ⟨x.2, (h.mem _).2 ?_, ?_, h2, h3⟩
    · rw [← (h.fits x hx).1]; exact hx
    · rw [← h1, (h.fits x hx).1]
  · rintro ⟨b, hb, h1, h2, h3⟩
    exact ⟨_, (h.mem b).1 hb, h1, h2, h3⟩
theorem formed_verb {b : Bnd} (h : formedB b = true) : b.verb ≤ 3 := by
  unfold formedB at h
  simp at h
  omega
def givesB (b : Bnd) (s : ByteArray) (v : Int) (p : ByteArray) : Bool := decide (b.subject = s) && (decide (0 ≤ v) && (decide (v ≤ b.verb) && underS p b.path))
theorem givesB_iff (b : Bnd) (s : ByteArray) (v : Int) (p : ByteArray) : givesB b s v p = true ↔ b.subject = s ∧ 0 ≤ v ∧ v ≤ b.verb ∧ underS p b.path = true := by
  unfold givesB; simp only [Bool.and_eq_true, decide_eq_true_eq]
theorem Told.any {M : Tab} {L : List Bnd} (h : Told M L) (s : ByteArray) (v : Int) (p : ByteArray) : (L.any fun b => givesB b s v p) = whyB M s v p := by
  rw [Bool.eq_iff_iff, List.any_eq_true]
  unfold whyB
  rw [Bool.and_eq_true, isV_iff, List.any_eq_true]
  constructor
  · rintro ⟨b, hb, hg⟩
    obtain ⟨h1, h2, h3, h4⟩ := (givesB_iff _ _ _ _).1 hg
    exact ⟨⟨h2, by have := formed_verb (h.formed hb); omega⟩, b.path, (under_iff _ _).1 h4, h.has.2 ⟨b, hb, rfl, h1, h3⟩⟩
  · rintro ⟨⟨h1, h2⟩, q, hq, hh⟩
    obtain ⟨b, hb, rfl, h4, h5⟩ := h.has.1 hh
    exact ⟨b, hb, (givesB_iff _ _ _ _).2 ⟨h4, h1, h5, (under_iff _ _).2 hq⟩⟩
end Go.Proofs.YtphddbijdfmpjaaDoor.Q
namespace Go.Proofs.YtphddbijdfmpjaaDoor.Q
open Go.RowKit Go.MapRaw Go.Proofs.YtphddbijdfmpjaaDoorW.PrintWords Go.Proofs.YtphddbijdfmpjaaDoorW.PrintLast Go.Proofs.YtphddbijdfmpjaaDoor.Wr
set_option linter.unusedVariables false
set_option linter.unusedSimpArgs false
theorem under_ok (p q : ByteArray) (w : World) (hq : q.size + 1 ≤ 9223372036854775807) (hG : Glob w) : Calls Tryd.prog 23 #[.string p, .string q] w fun e w' => e = .returned (.bool (underS p q)) ∧ Below w.heap.size w w' := by
  obtain ⟨k, h⟩ := under_ev p q hq
  exact label_Under.calls k _ _ _ w (h k (Nat.le_refl _)) hG
def closV (pb : Nat) : Value := .func (.func 50) #[] #[.pointer (some ⟨pb, 0, none⟩)]
set_option maxRecDepth 100000 in
set_option maxHeartbeats 16000000 in
theorem clos_ok (pb : Nat) (p q : ByteArray) (w : World) (hb : w.heap[pb]? = some (.cells #[.string p] 9 (0, 0))) (hq : q.size + 1 ≤ 9223372036854775807) (hG : Glob w) :
    Calls Tryd.prog 50 #[.string q, .pointer (some ⟨pb, 0, none⟩)] w fun e w' => e = .returned (.bool (belowP p q)) ∧ Below w.heap.size w w' := by
  have hc : w.cell? ⟨pb, 0, none⟩ = some (.string p) := (blk_cell hb 0).trans rfl
  have UK := Lib.hid (under_ok p q w hq hG)
  obtain ⟨res, hres⟩ : ∃ res, res = belowP p q := ⟨_, rfl⟩
  rw [← hres]
  have HRES := Lib.hid hres
  obtain ⟨u, hu⟩ : ∃ u, u = underS p q := ⟨_, rfl⟩
  rw [← hu] at UK
  have HU := Lib.hid hu
  clear hb hq hG hres hu
  by_cases hne : q = p
  · have e1 : (q.toList == p.toList) = true := by rw [toList_beq, ba_beq]; exact hne
    have HNE := Lib.hid hne
    clear hne
    go_enter Tryd.func50, Tryd.ntmps50
    go_wp2
    go_ret
    exact ⟨by rw [HRES.out]; unfold belowP; rw [HNE.out]; simp <;> rfl, Below.refl _ _⟩
  have e1 : (q.toList == p.toList) = false := by rw [toList_beq, Bool.eq_false_iff, Ne, ba_beq]; exact hne
  have HNE := Lib.hid hne
  clear hne
  go_enter Tryd.func50, Tryd.ntmps50
  go_wp2_with (go_at_call 23; refine UK.out.mono ?_; rintro e wx ⟨rfl, hb⟩; have B1 := Aside0.mk hb; clear hb)
  go_ret
  exact ⟨by rw [HRES.out]; unfold belowP; rw [decide_eq_true HNE.out, Bool.true_and, HU.out] <;> rfl, B1.out⟩
set_option maxRecDepth 100000 in
set_option maxHeartbeats 16000000 in
theorem index_ok (A : Option Addr) (c : Nat) (xs : List ByteArray) (pb : Nat) (p : ByteArray) (w : World) (hx : Kd.string.C w A xs.length xs) (hl : xs.length ≤ 2513169434843) (hb : w.heap[pb]? = some (.cells #[.string p] 9 (0, 0))) (hq : ∀ q ∈ xs, q.size + 1 ≤ 9223372036854775807) (hG : Glob w) :
    Calls Tryd.prog 63 #[.slice A xs.length c, closV pb] w fun e w' => ∃ r : Int, e = .returned (.int .i64 r) ∧ decide (0 ≤ r) = xs.any (belowP p) ∧ Below w.heap.size w w' := by
  obtain ⟨res, hres⟩ : ∃ res, res = xs.any (belowP p) := ⟨_, rfl⟩
  rw [← hres]
  have HRES := Lib.hid hres
  have HX := Lib.hid hx
  have HLL := Lib.hid hl
  have PB := Lib.hid hb
  have HQ := Lib.hid hq
  have G1 := Lib.hid hG
  clear hx hl hb hq hG hres
  unfold closV
  go_enter Tryd.func63, Tryd.ntmps63
  go_upto_region 2 with fail
  go_loopg [8] xs.length (fun g v8 wr => ∃ (i : Nat), v8 = .int .i64 (i : Int) ∧ Aside0 (i + g = xs.length) ∧ Aside0 ((xs.drop i).any (belowP p) = res) ∧ Aside0 (Below w.heap.size w wr))
  case atStart => exact ⟨0, rfl, ⟨by omega⟩, ⟨by rw [List.drop_zero]; exact HRES.out.symm⟩, ⟨Below.refl _ _⟩⟩
  case round =>
    obtain ⟨i, rfl, HI, HS, HB⟩ := hrel
    by_cases hi : i < xs.length
    rotate_left
    · have q1 : decide ((i : Int) < (xs.length : Int)) = false := decide_eq_false (by omega)
      have q1n : decide (i < xs.length) = false := decide_eq_false hi
      have HD := Lib.hid (show xs.drop i = [] from List.drop_of_length_le (by omega))
      clear hi
      go_wp2
      go_ret
      exact ⟨-1, rfl, by rw [← HS.out, HD.out]; rfl, HB.out⟩
    have q1 : decide ((i : Int) < (xs.length : Int)) = true := decide_eq_true (by omega)
    have q1n : decide (i < xs.length) = true := decide_eq_true hi
    have p1 : (0 ≤ (i : Int)) = True := eq_true (by omega)
    have p2 : ((i : Int) < (xs.length : Int)) = True := eq_true (by omega)
    obtain ⟨ad, hA, hx0⟩ := txt_at (Kd.C_below HX.out HB.out) hi
    cases hA
    have HDX := Lib.hid (show (xs.drop i).any (belowP p) = (belowP p xs[i] || (xs.drop (i + 1)).any (belowP p)) by rw [List.drop_eq_getElem_cons hi, List.any_cons])
    obtain ⟨g0, rfl⟩ : ∃ g0, gk = g0 + 1 := ⟨gk - 1, by have := HI.out; omega⟩
    have HLT := Lib.hid hi
    have HC := Lib.hid (clos_ok pb p xs[i] wr (blk_below PB.out HB.out) (HQ.out _ (List.getElem_mem hi)) (G1.out.below HB.out))
    generalize xs[i] = q at hx0 HDX HC
    clear hi
    obtain ⟨r, hr⟩ : ∃ r, r = belowP p q := ⟨_, rfl⟩
    rw [← hr] at HC HDX
    clear hr
    cases r with
    | true =>
      go_wp2_with (go_at_call 50; refine HC.out.mono ?_; rintro e wx ⟨rfl, hb⟩; have B1 := Aside0.mk (HB.out.trans (below_lower hb HB.out.size)); clear hb)
      go_ret
      exact ⟨(i : Int), rfl, by rw [← HS.out, HDX.out, Bool.true_or]; exact decide_eq_true (Int.natCast_nonneg i), B1.out⟩
    | false =>
      go_wp2_with (go_at_call 50; refine HC.out.mono ?_; rintro e wx ⟨rfl, hb⟩; have B1 := Aside0.mk (HB.out.trans (below_lower hb HB.out.size)); clear hb)
      go_roundg g0
      case measure => omega
      case rel => exact ⟨i + 1, congrArg (Value.int .i64) (by rw [w64 i (by have := HLT.out; have := HLL.out; omega)]), ⟨by have := HI.out; omega⟩, ⟨by rw [← HS.out, HDX.out, Bool.false_or]⟩, B1⟩
set_option maxRecDepth 100000 in
set_option maxHeartbeats 16000000 in
theorem contains_ok (A : Option Addr) (c : Nat) (xs : List ByteArray) (pb : Nat) (p : ByteArray) (w : World) (hx : Kd.string.C w A xs.length xs) (hl : xs.length ≤ 2513169434843) (hb : w.heap[pb]? = some (.cells #[.string p] 9 (0, 0))) (hq : ∀ q ∈ xs, q.size + 1 ≤ 9223372036854775807) (hG : Glob w) :
    Calls Tryd.prog 49 #[.slice A xs.length c, closV pb] w fun e w' => e = .returned (.bool (xs.any (belowP p))) ∧ Below w.heap.size w w' := by
  have IX := Lib.hid (index_ok A c xs pb p w hx hl hb hq hG)
  obtain ⟨res, hres⟩ : ∃ res, res = xs.any (belowP p) := ⟨_, rfl⟩
  rw [← hres] at IX ⊢
  clear hres hx hl hb hq hG
  unfold closV at IX ⊢
  go_enter Tryd.func49, Tryd.ntmps49
  go_wp2_with (go_at_call 63; refine IX.out.mono ?_; rintro e wx ⟨r, rfl, hr, hb⟩; have B1 := Aside0.mk hb; have HR := Lib.hid hr; clear hb hr)
  go_ret
  exact ⟨by rw [← HR.out] <;> rfl, B1.out⟩
end Go.Proofs.YtphddbijdfmpjaaDoor.Q
namespace Go.Proofs.YtphddbijdfmpjaaDoor.Q
open Go.RowKit Go.MapRaw Go.Proofs.YtphddbijdfmpjaaDoorW.PrintWords Go.Proofs.YtphddbijdfmpjaaDoorW.PrintLast Go.Proofs.YtphddbijdfmpjaaDoor.Wr Go.Proofs.YtphddbijdfmpjaaDoor.Pl Go.Sort
set_option linter.unusedVariables false
set_option linter.unusedSimpArgs false
theorem innerS {w : World} {base : Nat} {ok : Nat → Prop} {xs : List ByteArray} {inner : List Value} (h : Reps (Kd.string.M w base ok) 1 xs inner) : inner = xs.map Value.string := by
  have hlen : inner.length = xs.length := by have := h.1; omega
  apply List.ext_getElem?
  intro t
  by_cases ht : t < xs.length
  · have hk : (inner.drop (t * 1)).take 1 = [.string xs[t]] := h.2 t _ (List.getElem?_eq_getElem ht)
    have h1 : inner[t]? = ((inner.drop (t * 1)).take 1)[0]? := by
      rw [List.getElem?_take_of_lt (by omega), List.getElem?_drop]
      congr 1
      omega
    rw [h1, hk, List.getElem?_map, List.getElem?_eq_getElem ht]
    rfl
  · rw [List.getElem?_eq_none (by omega), List.getElem?_eq_none (by rw [List.length_map]; omega)]
theorem repsS (w : World) (base : Nat) (ok : Nat → Prop) (xs : List ByteArray) : Reps (Kd.string.M w base ok) 1 xs (xs.map Value.string) := by
  refine ⟨by rw [List.length_map]; omega, fun j p hj => ?_⟩
  obtain ⟨hl, rfl⟩ := List.getElem?_eq_some_iff.1 hj
  show ((xs.map Value.string).drop (j * 1)).take 1 = [.string xs[j]]
  rw [Nat.mul_one, List.drop_eq_getElem_cons (by rw [List.length_map]; exact hl), List.getElem_map]
  rfl
theorem compact_row {w : World} {base : Nat} {ok : Nat → Prop} {v : Value} {xs : List ByteArray} (HR : Kd.R Kd.string 9 w base ok v xs) (hl : xs.length ≤ 2513169434843) :
    Calls Tryd.prog 48 #[v] w fun e w' => ∃ v', e = .returned v' ∧ Kd.R Kd.string 9 w' base ok v' (compactB xs) ∧ v'.ownBlock = v.ownBlock ∧ w.grownBy w' v.ownBlock := by
  obtain ⟨h0, inner, ho, hi⟩ := HR
  rcases ho.2 with ⟨rfl, hn⟩ | ⟨g, cap, cur, rfl, hg, hb, h1, h2, h3, h4⟩
  · obtain rfl := List.eq_nil_of_length_eq_zero hn
    refine Calls.mono (Tryd.slices_Compact_string_empty none 0 w) ?_
    rintro e w' ⟨rfl, rfl⟩
    exact ⟨_, rfl, Kd.R_nil _ _ _ _ _, rfl, ⟨rfl, rfl, rfl, Nat.le_refl _, fun _ _ _ => rfl⟩⟩
  · have hin := innerS hi
    have hz1 : Kd.string.sz = 1 := rfl
    have hlt : g < w.heap.size := (Array.getElem?_eq_some_iff.1 hb).1
    obtain ⟨zs, hzs⟩ : ∃ zs, zs = xs.map (·.data.toList) := ⟨_, rfl⟩
    have hzl : zs.length = xs.length := by rw [hzs, List.length_map]
    have hcur : ∀ j (h : j < xs.length), cur[j]? = some (.string xs[j]) := by
      intro j hj
      have h5 : (cur.toList.take (xs.length * 1))[j]? = (xs.map Value.string)[j]? := by rw [← hin]; exact congrArg (·[j]?) h4
      rw [List.getElem?_take_of_lt (by omega), List.getElem?_map, List.getElem?_eq_getElem hj, Array.getElem?_toList] at h5
      exact h5
    have hH : Holds encStr w g 0 zs.toArray := by
      intro j hj
      have hj' : j < xs.length := by simpa [hzl] using hj
      refine ⟨?_, by simp [World.frozen?, hb]⟩
      have e1 : zs.toArray[j]! = xs[j].data.toList := by
        rw [getElem!_pos zs.toArray j (by simpa using (show j < zs.length by omega))]
        simp [hzs]
      rw [e1]
      simp only [World.cell?, hb, Nat.zero_add]
      simp only [Option.isSome_none, Bool.false_eq_true, if_false]
      rw [hcur j hj']
    have hc := Tryd.slices_Compact_string g 0 cap zs w hH (by omega) (by omega)
    rw [hzl] at hc
    refine hc.mono ?_
    rintro e w' ⟨rfl, q, rfl⟩
    obtain ⟨cs, hcs⟩ : ∃ cs, cs = Go.Lib.compact zs := ⟨_, rfl⟩
    have hcb : compactB xs = cs.map toB := by unfold compactB; rw [hcs, hzs]
    have hcl : cs.length ≤ xs.length := by have := compactB_len xs; rw [hcb, List.length_map] at this; exact this
    rw [← hcs]
    obtain ⟨d, hd⟩ : ∃ d, d = (cs ++ List.replicate (xs.length - cs.length) ([] : List UInt8)).toArray := ⟨_, rfl⟩
    rw [← hd]
    have hds : d.size = xs.length := by rw [hd]; simp; omega
    have hdg : ∀ j (h : j < cs.length), d[j]! = cs[j] := by
      intro j hj
      rw [getElem!_pos d j (by omega)]
      simp [hd, List.getElem_append_left hj]
    have hlc : (compactB xs).length = cs.length := by rw [hcb, List.length_map]
    refine ⟨_, rfl, ⟨h0, (compactB xs).map Value.string, ⟨by rw [List.length_map, hz1, Nat.mul_one], .inr ⟨g, cap, putCells encStr 0 d cur, by rw [hlc], hg, ?_, by omega, h2, by simp [putCells, h3], ?_⟩⟩, repsS _ _ _ _⟩, rfl, ⟨rfl, rfl, rfl, by simp [putRow, mapBlock, Sort.ahead], fun k hk hne => ?_⟩⟩
    · simp [putRow, mapBlock, Sort.ahead, Array.getElem?_modify, hb, onCells]
    · rw [hlc, hcb, hz1, Nat.mul_one]
      apply List.ext_getElem?
      intro j
      by_cases hj : j < cs.length
      · have hjc : j < cur.size := by rw [h3, hz1]; omega
        rw [List.getElem?_take_of_lt hj, Array.getElem?_toList, List.getElem?_map, List.getElem?_map, List.getElem?_eq_getElem hj]
        simp only [putCells, Array.getElem?_mapIdx, Array.getElem?_eq_getElem hjc, Option.map_some, Nat.sub_zero]
        rw [if_pos ⟨by omega, by omega⟩, hdg j hj]
        rfl
      · rw [List.getElem?_take_eq_none (by omega), List.getElem?_eq_none (by simp; omega)]
    · have : g ≠ k := fun e => hne (by rw [e]; rfl)
      simp [putRow, mapBlock, Sort.ahead, Array.getElem?_modify, this]
end Go.Proofs.YtphddbijdfmpjaaDoor.Q
namespace Go.Proofs.YtphddbijdfmpjaaDoor.Q
open Go.RowKit Go.MapRaw Go.Proofs.YtphddbijdfmpjaaDoorW.PrintWords Go.Proofs.YtphddbijdfmpjaaDoorW.PrintLast Go.Proofs.YtphddbijdfmpjaaDoor.Wr Go.Proofs.YtphddbijdfmpjaaDoor.Pl
open Go.ChangeMaps (setBlock)
set_option linter.unusedVariables false
set_option linter.unusedSimpArgs false
theorem Told.unique {M : Tab} {L L2 : List Bnd} (hn : (M.map (fun x => x.1)).Nodup) (h : Told M L) (h2 : Told M L2) : L2 = L := by
  have hk : (L.map keyB).Nodup := by
    refine (h.perm.map keyB).nodup_iff.2 ?_
    rw [List.map_map]
    have : (M.map (keyB ∘ fun p => p.2)) = M.map (fun x => x.1) := List.map_congr_left fun x hx => (h.fits x hx).1.symm
    rw [this]; exact hn
  have hp : L2.Perm L := h2.perm.trans h.perm.symm
  refine List.Perm.eq_of_pairwise (le := fun a b => cmpB a b ≤ 0) ?_ h2.rises h.rises hp
  intro a b ha hb h3 h4
  have hb' : b ∈ L := hb
  have ha' : a ∈ L := hp.mem_iff.1 ha
  have := ordB.neg a b
  exact key_inj hk ha' hb' (cmpB_key (h.formed ha') (h.formed hb') (by omega))
def fits (s : ByteArray) (v : Int) (b : Bnd) : Bool := decide (b.subject = s ∧ v ≤ b.verb)
theorem filt_take {α β : Type} (L : List α) (f : α → Bool) (p : α → β) (i : Nat) (h : i < L.length) : ((L.take (i + 1)).filter f).map p = ((L.take i).filter f).map p ++ (if f L[i] = true then [p L[i]] else []) := by
  rw [List.take_add_one, List.getElem?_eq_getElem h, List.filter_append, List.map_append]
  congr 1
  show (List.filter f [L[i]]).map p = _
  by_cases e : f L[i] = true
  · rw [if_pos e, List.filter_cons_of_pos e]; rfl
  · rw [if_neg e, List.filter_cons_of_neg e]; rfl
theorem filt_take1 {α : Type} (L : List α) (f : α → Bool) (i : Nat) (h : i < L.length) : (L.take (i + 1)).filter f = (L.take i).filter f ++ (if f L[i] = true then [L[i]] else []) := by
  have := filt_take L f id i h
  simpa using this
theorem take_filt_len {α : Type} (L : List α) (f : α → Bool) (i : Nat) : ((L.take i).filter f).length ≤ L.length := Nat.le_trans (List.length_filter_le _ _) (by rw [List.length_take]; omega)
theorem path_size {p : ByteArray} (h : pathS p = 0) : p.size ≤ 64 := by
  obtain ⟨ns, h1, _⟩ := path_is h
  exact h1.size
set_option maxRecDepth 100000 in
set_option maxHeartbeats 16000000 in
theorem reach_ok (w : World) (t b : Nat) (M : Tab) (L : List Bnd) (s : ByteArray) (v : Int) (hT : TB w t b M) (hL : Told M L) (hG : Glob w) (hM : M.length ≤ 2513169434843) :
    Calls Tryd.prog 26 #[.pointer (some ⟨t, 0, none⟩), .string s, .int .i64 v] w fun e w' => ∃ v0, e = .returned v0 ∧ Kd.R Kd.string 9 w' w.heap.size (fun _ => True) v0 (reachS L s v) ∧ Below w.heap.size w w' := by
  have hu27 := Tryd.underlying27
  obtain ⟨rs, hrs⟩ : ∃ rs, rs = reachS L s v := ⟨_, rfl⟩
  rw [← hrs]
  have HRS := Lib.hid hrs
  have key := verb_ok v
  have GL := Lib.hid hG
  have TL := Lib.hid hL
  have HT := Lib.hid hT
  have HM := Lib.hid hM
  clear hrs hL hT hG hM
  cases hv : isV v with
  | false =>
    rw [hv] at key
    have KEY := Lib.hid key
    have HV := Lib.hid hv
    clear key hv
    go_enter Tryd.func26, Tryd.ntmps26
    go_wp2_with (go_at_call 31; refine (KEY.out _).mono ?_; rintro e w2 ⟨rfl, hb2⟩; have B2 := Lib.hid hb2; clear hb2)
    go_ret
    refine ⟨_, rfl, ?_, B2.out⟩
    rw [HRS.out]
    unfold reachS
    rw [HV.out, if_neg (by decide)]
    exact Kd.R_nil _ _ _ _ _
  | true =>
  rw [hv] at key
  have KEY := Lib.hid key
  have HV := Lib.hid hv
  clear key hv
  by_cases hs : s = rootS
  · have hr : (s.toList == ([114, 111, 111, 116] : List UInt8)) = true := by rw [root_list, toList_beq, ba_beq]; exact hs
    have HS := Lib.hid hs
    clear hs
    go_enter Tryd.func26, Tryd.ntmps26
    go_wp2_with (go_at_call 31; refine (KEY.out _).mono ?_; rintro e w2 ⟨rfl, hb2⟩; have B2 := Lib.hid hb2; clear hb2)
    go_ret
    refine ⟨_, rfl, ?_, B2.out.alloc B2.out.size _⟩
    rw [HRS.out]
    unfold reachS
    rw [HV.out, if_pos rfl, if_pos HS.out]
    exact ⟨fun _ _ => trivial, [.string slashS], ⟨rfl, .inr ⟨_, 1, #[.string slashS], rfl, B2.out.size, blk_new _ _, Nat.le_refl _, by decide, rfl, rfl⟩⟩, repsS _ _ _ [slashS]⟩
  have hr : (s.toList == ([114, 111, 111, 116] : List UInt8)) = false := by rw [root_list, toList_beq, Bool.eq_false_iff, Ne, ba_beq]; exact hs
  have HRES := Lib.hid (show rs = reachL L s v by rw [HRS.out]; unfold reachS; rw [HV.out, if_pos rfl, if_neg hs])
  clear hs HRS HV
  go_enter Tryd.func26, Tryd.ntmps26
  go_upto_region 6 with (go_at_call 31; refine (KEY.out _).mono ?_; rintro e w2 ⟨rfl, hb2⟩; have B2 := Aside0.mk hb2; clear hb2)
  clear hr
  have LST := Lib.hid (list_ok w2 t b M (HT.out.below B2.out) (GL.out.below B2.out) HM.out)
  go_wp2_with (go_at_call 17; refine LST.out.mono ?_; rintro e w3 ⟨v0, L6, rfl, hP6, hS6, hR6, hb6⟩; obtain ⟨A0, c0, rfl⟩ := Kd.R_slice hR6; have hL6 := (Told.unique HT.out.nodup TL.out ⟨hP6, hS6, HT.out.fits⟩).symm; subst hL6; have C3 := Aside0.mk (Kd.R_reads' hR6).2.2; have B3 := Aside0.mk (B2.out.trans (below_lower hb6 B2.out.size)); clear hP6 hS6 hR6 hb6)
  clear LST B2
  have HLL := Lib.hid (show L.length ≤ 2513169434843 by have := TL.out.perm.length_eq; rw [List.length_map] at this; have := HM.out; omega)
  go_loopg [7, 22] L.length (fun g v7 v22 wr => ∃ (i : Nat), v22 = .int .i64 (i : Int) ∧ Aside0 (i + g = L.length) ∧ Aside0 (Kd.R Kd.string 9 wr w3.heap.size (fun _ => True) v7 (((L.take i).filter (fits s v)).map (·.path))) ∧ Aside0 (Below w3.heap.size w3 wr))
  case atStart => exact ⟨0, rfl, ⟨by omega⟩, ⟨Kd.R_nil _ _ _ _ _⟩, ⟨Below.refl _ _⟩⟩
  case round =>
    obtain ⟨i, rfl, HI, HR, HB⟩ := hrel
    by_cases hi : i < L.length
    · have q1 : decide ((i : Int) < (L.length : Int)) = true := decide_eq_true (by omega)
      have q1n : decide (i < L.length) = true := decide_eq_true hi
      have p1 : (0 ≤ (i : Int)) = True := eq_true (by omega)
      have p2 : ((i : Int) < (L.length : Int)) = True := eq_true (by omega)
      obtain ⟨ad, hA, hx0, hx⟩ := bnd_at (Kd.C_below C3.out HB.out) i hi
      cases hA
      obtain ⟨g0, rfl⟩ : ∃ g0, gk = g0 + 1 := ⟨gk - 1, by have := HI.out; omega⟩
      have HLT := Lib.hid (show i < 2513169434843 by have := HLL.out; omega)
      have HF := Lib.hid (filt_take L (fits s v) (·.path) i hi)
      have HLX := Lib.hid (show (((L.take i).filter (fits s v)).map (·.path)).length ≤ 2513169434843 by rw [List.length_map]; have := take_filt_len L (fits s v) i; have := HLL.out; omega)
      generalize L[i] = x at hx0 hx HF
      clear hi
      obtain ⟨xp, xn, xs, xv⟩ := x
      have hx1 := hx 1 (.string xn) (by decide) rfl
      have hx2 := hx 2 (.string xs) (by decide) rfl
      have hx3 := hx 3 (.int .i64 xv) (by decide) rfl
      clear hx
      generalize (((L.take i).filter (fits s v)).map (·.path)) = ys at HR HF HLX
      have HWR := Lib.hid (show w3.heap.size ≤ wr.heap.size from HB.out.size)
      go_upto_region 9 with fail
      have HB4 := Aside0.mk (HB.out.alloc HB.out.size (.cells #[.string xp, .string xn, .string xs, .int .i64 xv] 27))
      have HR4 := Aside0.mk (Kd.R_alloc HR.out (.cells #[.string xp, .string xn, .string xs, .int .i64 xv] 27))
      have HV4 := Aside0.mk (blk_new wr (.cells #[.string xp, .string xn, .string xs, .int .i64 xv] 27))
      obtain ⟨vb, hvb⟩ : ∃ vb, vb = wr.heap.size := ⟨_, rfl⟩
      rw [← hvb] at HV4 ⊢
      clear hvb HB HR hx0 hx1 hx2 hx3
      generalize wr.alloc _ = w4 at HB4 HR4 HV4 ⊢
      have hv0 := (blk_cell HV4.out 0).trans rfl
      have hv1 := (blk_cell HV4.out 1).trans rfl
      have hv2 := (blk_cell HV4.out 2).trans rfl
      have hv3 := (blk_cell HV4.out 3).trans rfl
      by_cases hsub : xs = s
      · have e1 : (xs.toList == s.toList) = true := by rw [toList_beq, ba_beq]; exact hsub
        by_cases hvb : v ≤ xv
        · have e2 : decide (v ≤ xv) = true := decide_eq_true hvb
          have HN := Lib.hid (show ((L.take (i + 1)).filter (fits s v)).map (·.path) = ys ++ [xp] by rw [HF.out, if_pos (show fits s v ⟨xp, xn, xs, xv⟩ = true from decide_eq_true ⟨hsub, hvb⟩)])
          have HL1 := Lib.hid (show (ys.length + 1) * 16 ≤ 140737488355328 by have := HLX.out; omega)
          clear hsub hvb
          go_wp2_with (first
          | ((with_reducible refine gate_builtin (b := .append) (xs := #[.tmp 36, .tmp 39]) rfl ?_); at_builtin; refine Kd.R_append Kd.string (w0 := w3) w3.heap.size rfl (.tmp 36) (.tmp 39) 30 9 (.string ⟨#[]⟩) 16 rfl Tryd.underlying30 info9 rfl (by decide) (by omega) u7 ys xp [.string xp] (fun _ => True) (fun _ => False) rfl rfl ?aP (fun _ hk => hk.elim) ?aF ?aO ?aB ?aS ?aL ?_; (case aP => exact (show [Value.string xp] = [Value.string xp] from rfl)); (case aB => exact HB4.out); (case aF => exact (fun _ _ => trivial)); (case aO => exact HR4.out); (case aS => exact HB4.out.size); (case aL => exact HL1.out);
                intro v2 w6 ho hb2 hg2 hat2; have RN := Aside0.mk ho; have BN := Aside0.mk hb2; clear ho hb2 hg2 hat2))
          go_roundg g0
          case measure => omega
          case rel => exact ⟨i + 1, congrArg (Value.int .i64) (by rw [w64 i (by have := HLT.out; omega)]), ⟨by have := HI.out; omega⟩, ⟨by rw [HN.out]; exact RN.out⟩, BN⟩
        · have e2 : decide (v ≤ xv) = false := decide_eq_false hvb
          have HN := Lib.hid (show ((L.take (i + 1)).filter (fits s v)).map (·.path) = ys by rw [HF.out, if_neg (show ¬ fits s v ⟨xp, xn, xs, xv⟩ = true from fun e => hvb (of_decide_eq_true e).2), List.append_nil])
          clear hsub hvb
          go_wp2
          go_roundg g0
          case measure => omega
          case rel => exact ⟨i + 1, congrArg (Value.int .i64) (by rw [w64 i (by have := HLT.out; omega)]), ⟨by have := HI.out; omega⟩, ⟨by rw [HN.out]; exact HR4.out⟩, HB4⟩
      · have e1 : (xs.toList == s.toList) = false := by rw [toList_beq, Bool.eq_false_iff, Ne, ba_beq]; exact hsub
        have HN := Lib.hid (show ((L.take (i + 1)).filter (fits s v)).map (·.path) = ys by rw [HF.out, if_neg (show ¬ fits s v ⟨xp, xn, xs, xv⟩ = true from fun e => hsub (of_decide_eq_true e).1), List.append_nil])
        clear hsub
        go_wp2
        go_roundg g0
        case measure => omega
        case rel => exact ⟨i + 1, congrArg (Value.int .i64) (by rw [w64 i (by have := HLT.out; omega)]), ⟨by have := HI.out; omega⟩, ⟨by rw [HN.out]; exact HR4.out⟩, HB4⟩
    have q1 : decide ((i : Int) < (L.length : Int)) = false := decide_eq_false (by omega)
    have q1n : decide (i < L.length) = false := decide_eq_false hi
    rw [List.take_of_length_le (show L.length ≤ i by omega)] at HR
    clear hi C3
    have HLX := Lib.hid (show ((L.filter (fits s v)).map (·.path)).length ≤ 2513169434843 by rw [List.length_map]; have := List.length_filter_le (fits s v) L; have := HLL.out; omega)
    obtain ⟨al, hal⟩ : ∃ al, al = compactB ((L.filter (fits s v)).map (·.path)) := ⟨_, rfl⟩
    have CK := Lib.hid (compact_row HR.out HLX.out)
    have HAL := Lib.hid (show al = allL L s v from hal)
    have HALn := Lib.hid (show al.length ≤ 2513169434843 by rw [hal]; exact Nat.le_trans (compactB_len _) HLX.out)
    have HALs := Lib.hid (show ∀ q ∈ al, q.size + 1 ≤ 9223372036854775807 from fun q hq => by
      rw [HAL.out] at hq
      obtain ⟨bb, hb1, _, _, hb4⟩ := allL_mem.1 hq
      have := path_size (formed_path (TL.out.formed hb1))
      rw [hb4] at this; omega)
    rw [← hal] at CK
    clear hal
    go_upto_region 13 with (go_at_call 48; refine CK.out.mono ?_; rintro e w4 ⟨v4, rfl, hR4, _, hg4⟩; obtain ⟨A7, c7, rfl⟩ := Kd.R_slice hR4; have C4 := Aside0.mk (Kd.R_reads' hR4).2.2; have B4 := Aside0.mk (HB.out.grown hg4 HB.out.size (fun j hj => own_base HR.out.2.choose_spec.1 j hj)); clear hR4 hg4)
    clear CK HR
    have BW := Lib.hid (B3.out.trans (below_lower B4.out B3.out.size))
    clear HB B4
    go_upto_region 15 with fail
    go_loopg [10, 46] al.length (fun g v10 v46 wr => ∃ (i : Nat), v46 = .int .i64 (i : Int) ∧ Aside0 (i + g = al.length) ∧ Aside0 (Kd.R Kd.string 9 wr w4.heap.size (fun _ => True) v10 ((al.take i).filter fun p => !al.any (belowP p))) ∧ Aside0 (Below w4.heap.size w4 wr))
    case atStart => exact ⟨0, rfl, ⟨by omega⟩, ⟨Kd.R_nil _ _ _ _ _⟩, ⟨Below.refl _ _⟩⟩
    case round =>
      obtain ⟨j, rfl, HI, HR, HB⟩ := hrel
      by_cases hi : j < al.length
      rotate_left
      · have d1 : decide ((j : Int) < (al.length : Int)) = false := decide_eq_false (by omega)
        have d1n : decide (j < al.length) = false := decide_eq_false hi
        rw [List.take_of_length_le (show al.length ≤ j by omega)] at HR
        clear hi
        go_wp2
        go_ret
        exact ⟨_, rfl, Kd.R_lower (by rw [HRES.out]; unfold reachL; rw [← HAL.out]; exact HR.out) BW.out.size, BW.out.trans (below_lower HB.out BW.out.size)⟩
      have d1 : decide ((j : Int) < (al.length : Int)) = true := decide_eq_true (by omega)
      have d1n : decide (j < al.length) = true := decide_eq_true hi
      have p1 : (0 ≤ (j : Int)) = True := eq_true (by omega)
      have p2 : ((j : Int) < (al.length : Int)) = True := eq_true (by omega)
      obtain ⟨ad, hA, hx0⟩ := txt_at (Kd.C_below C4.out HB.out) hi
      cases hA
      obtain ⟨g0, rfl⟩ : ∃ g0, gk = g0 + 1 := ⟨gk - 1, by have := HI.out; omega⟩
      have HLT := Lib.hid (show j < 2513169434843 by have := HALn.out; omega)
      have HF := Lib.hid (filt_take1 al (fun p => !al.any (belowP p)) j hi)
      have HLX2 := Lib.hid (show ((al.take j).filter fun p => !al.any (belowP p)).length ≤ 2513169434843 from Nat.le_trans (take_filt_len al _ j) HALn.out)
      generalize al[j] = x at hx0 HF
      clear hi
      generalize ((al.take j).filter fun p => !al.any (belowP p)) = ys at HR HF HLX2
      go_upto_region 17 with fail
      have HB4 := Aside0.mk (HB.out.alloc HB.out.size (.cells #[.string x] 9))
      have HR4 := Aside0.mk (Kd.R_alloc HR.out (.cells #[.string x] 9))
      have HV4 := Aside0.mk (blk_new wr (.cells #[.string x] 9))
      obtain ⟨pb, hpb⟩ : ∃ pb, pb = wr.heap.size := ⟨_, rfl⟩
      rw [← hpb] at HV4 ⊢
      clear hpb HB HR hx0
      generalize wr.alloc _ = w5 at HB4 HR4 HV4 ⊢
      have CT := Lib.hid (contains_ok (some ad) c7 al pb x w5 (Kd.C_below C4.out HB4.out) HALn.out HV4.out HALs.out (GL.out.below (BW.out.trans (below_lower HB4.out BW.out.size))))
      unfold closV at CT
      obtain ⟨r, hr⟩ : ∃ r, r = al.any (belowP x) := ⟨_, rfl⟩
      rw [← hr] at CT
      have HRR := Lib.hid hr
      clear hr
      have hmf : ∀ (fn : Fn) (first cap : Array Value) (w : World), (Instr.makeFunc fn first cap).run Tryd.prog w = .ok (.func fn first cap) w := fun _ _ _ _ => rfl
      cases r with
      | true =>
        have HN := Lib.hid (show ((al.take (j + 1)).filter fun p => !al.any (belowP p)) = ys by rw [HF.out, ← HRR.out]; simp)
        go_wp2_with (go_at_call 49; refine CT.out.mono ?_; rintro e w8 ⟨rfl, hb⟩; have B8 := Aside0.mk (HB4.out.trans (below_lower hb HB4.out.size)); have R8 := Aside0.mk (Kd.R_below HR4.out hb); clear hb)
        go_roundg g0
        case measure => omega
        case rel => exact ⟨j + 1, congrArg (Value.int .i64) (by rw [w64 j (by have := HLT.out; omega)]), ⟨by have := HI.out; omega⟩, ⟨by rw [HN.out]; exact R8.out⟩, B8⟩
      | false =>
        have HN := Lib.hid (show ((al.take (j + 1)).filter fun p => !al.any (belowP p)) = ys ++ [x] by rw [HF.out, ← HRR.out]; simp)
        have HL1 := Lib.hid (show (ys.length + 1) * 16 ≤ 140737488355328 by have := HLX2.out; omega)
        go_upto_region 18 with (go_at_call 49; refine CT.out.mono ?_; rintro e w8 ⟨rfl, hb⟩; have B8 := Aside0.mk (HB4.out.trans (below_lower hb HB4.out.size)); have R8 := Aside0.mk (Kd.R_below HR4.out hb); have V8 := Aside0.mk (blk_below HV4.out hb); clear hb)
        have hv0 := (blk_cell V8.out 0).trans rfl
        go_wp2_with (first
          | ((with_reducible refine gate_builtin (b := .append) (xs := #[.tmp 54, .tmp 56]) rfl ?_); at_builtin; refine Kd.R_append Kd.string (w0 := w4) w4.heap.size rfl (.tmp 54) (.tmp 56) 30 9 (.string ⟨#[]⟩) 16 rfl Tryd.underlying30 info9 rfl (by decide) (by omega) u10 ys x [.string x] (fun _ => True) (fun _ => False) rfl rfl ?aP (fun _ hk => hk.elim) ?aF ?aO ?aB ?aS ?aL ?_; (case aP => exact (show [Value.string x] = [Value.string x] from rfl)); (case aB => exact B8.out); (case aF => exact (fun _ _ => trivial)); (case aO => exact R8.out); (case aS => exact B8.out.size); (case aL => exact HL1.out);
                intro v2 w6 ho hb2 hg2 hat2; have RN := Aside0.mk ho; have BN := Aside0.mk hb2; clear ho hb2 hg2 hat2))
        go_roundg g0
        case measure => omega
        case rel => exact ⟨j + 1, congrArg (Value.int .i64) (by rw [w64 j (by have := HLT.out; omega)]), ⟨by have := HI.out; omega⟩, ⟨by rw [HN.out]; exact RN.out⟩, BN⟩
end Go.Proofs.YtphddbijdfmpjaaDoor.Q
namespace Go.Proofs.YtphddbijdfmpjaaDoor.Q
open Go.RowKit Go.Sort Go.MapRaw Go.Proofs.YtphddbijdfmpjaaDoorW.PrintWords Go.Proofs.YtphddbijdfmpjaaDoorW.PrintLast Go.Proofs.YtphddbijdfmpjaaDoor.Wr
set_option linter.unusedVariables false
set_option linter.unusedSimpArgs false
theorem _root_.Go.Proofs.YtphddbijdfmpjaaDoor.Wr.TB.grown {w w' : World} {t b : Nat} {M : Tab} {row : Option Nat} (h : TB w t b M) (hg : w.grownBy w' row) (ht : some t ≠ row) (hb : some b ≠ row) : TB w' t b M :=
  ⟨(hg.block _ (blk_lt h.at_) ht).trans h.at_, h.ne, Holds_move h.holds (hg.block _ (Holds_lt h.holds) hb), h.nodup, h.fits⟩
theorem C_pre {α : Type} {d : Kd α} {w : World} {A : Option Addr} {n m : Nat} {xs : List α} (h : d.C w A n xs) (hm : m ≤ n) : d.C w A m (xs.take m) := by
  obtain ⟨h1, h2, h3⟩ := h
  refine ⟨by rw [List.length_take]; omega, by omega, fun h0 => ?_⟩
  obtain ⟨ad, hA, hc⟩ := h3 (by omega)
  refine ⟨ad, hA, fun j p hj => ?_⟩
  rw [List.getElem?_take] at hj
  split at hj
  · exact hc j p hj
  · cases hj
theorem setCell_grown (w : World) (g o : Nat) (u : Value) : w.grownBy (w.setCell ⟨g, o, none⟩ u) (some g) := by
  refine ⟨rfl, rfl, rfl, by simp, fun k hk hne => ?_⟩
  exact Below.heap_setCell _ _ _ _ (fun e => hne (by rw [e]))
theorem R_put1 {w : World} {base g cap n : Nat} {ok : Nat → Prop} {xs : List Bnd} (h : Kd.R k27 27 w base ok (.slice (some ⟨g, 0, none⟩) n cap) xs) (i : Nat) (hi : i < xs.length) (z : ByteArray) :
    Kd.R k27 27 (w.setCell ⟨g, i * 4 + 2, none⟩ (.string z)) base ok (.slice (some ⟨g, 0, none⟩) n cap) (xs.set i ⟨xs[i].path, xs[i].name, z, xs[i].verb⟩) := by
  obtain ⟨rfl, _⟩ := Kd.R_reads' h
  obtain ⟨h0, inner, ho, hin⟩ := h
  rcases ho.2 with ⟨he, _⟩ | ⟨g', cap', cur, he, hg, hb, h1, h2, h3, h4⟩
  · cases he
  · injection he with he1 _ he3
    injection he1 with he1
    injection he1 with he1
    subst he1 he3
    have hin' := inner27 hin
    have hl : (xs.set i ⟨xs[i].path, xs[i].name, z, xs[i].verb⟩).length = xs.length := List.length_set
    have h4' : cur.toList.take (xs.length * 4) = (flatK encB 4 xs.toArray).toList := h4.trans hin'
    have h3' : cur.size = cap * 4 := h3
    refine ⟨h0, (flatK encB 4 (xs.set i ⟨xs[i].path, xs[i].name, z, xs[i].verb⟩).toArray).toList, ⟨by rw [hl]; exact (flat_len _).trans (by rw [hl]; rfl), .inr ⟨g, cap, _, by rw [hl], hg, blk_put hb (i * 4 + 2) _ rfl, by rw [hl]; exact h1, h2, by simp [h3'] <;> rfl, ?_⟩⟩, reps27 _ _ _ _⟩
    rw [hl]
    show List.take (xs.length * 4) _ = _
    apply List.ext_getElem?
    intro t
    by_cases ht : t < xs.length * 4
    · rw [List.getElem?_take_of_lt ht, flat_get (by rw [hl]; exact ht)]
      have hcur : cur.toList[t]? = (encB (xs.getD (t / 4) zb))[t % 4]? := by
        rw [← flat_get ht, ← h4', List.getElem?_take_of_lt ht]
      have hcs : i * 4 + 2 < cur.size := by omega
      have hd : t % 4 = 0 ∨ t % 4 = 1 ∨ t % 4 = 2 ∨ t % 4 = 3 := by omega
      by_cases hti : t / 4 = i
      · have hgx : (xs.set i ⟨xs[i].path, xs[i].name, z, xs[i].verb⟩).getD (t / 4) zb = ⟨xs[i].path, xs[i].name, z, xs[i].verb⟩ := by rw [hti]; simp [List.getD_eq_getElem?_getD, hi]
        have hgo : xs.getD (t / 4) zb = xs[i] := by rw [hti]; simp [List.getD_eq_getElem?_getD, hi]
        rw [hgx, Array.getElem?_toList]
        rw [hgo, Array.getElem?_toList] at hcur
        rcases hd with hd | hd | hd | hd
        · rw [Array.getElem?_setIfInBounds_ne (by omega), hcur, hd]; rfl
        · rw [Array.getElem?_setIfInBounds_ne (by omega), hcur, hd]; rfl
        · have : t = i * 4 + 2 := by omega
          subst this
          rw [hd]
          simp [Array.getElem?_setIfInBounds, encB, hcs]
        · rw [Array.getElem?_setIfInBounds_ne (by omega), hcur, hd]; rfl
      · have hgx : (xs.set i ⟨xs[i].path, xs[i].name, z, xs[i].verb⟩).getD (t / 4) zb = xs.getD (t / 4) zb := by simp [List.getD_eq_getElem?_getD, Ne.symm hti]
        rw [hgx, ← hcur, Array.getElem?_toList, Array.getElem?_toList]
        rw [Array.getElem?_setIfInBounds_ne (by omega)]
    · rw [List.getElem?_take_eq_none (by omega), List.getElem?_eq_none (by rw [flat_len, hl]; omega)]
theorem keep27 {w w' : World} {base : Nat} {v : Value} {xs : List Bnd} {row : Option Nat} (h : Kd.R k27 27 w base (fun _ => True) v xs) (hg : w.grownBy w' row) (hne : ∀ k, v.ownBlock = some k → some k ≠ row) : Kd.R k27 27 w' base (fun _ => True) v xs := by
  obtain ⟨h0, inner, ho, hin⟩ := h
  have hi := inner27 hin
  subst hi
  exact ⟨h0, _, own_move ho (fun k hk => hg.block k (own_lt ho k hk) (hne k hk)), reps27 _ _ _ _⟩
theorem keepS {w w' : World} {base : Nat} {v : Value} {xs : List ByteArray} {row : Option Nat} (h : Kd.R Kd.string 9 w base (fun _ => True) v xs) (hg : w.grownBy w' row) (hne : ∀ k, v.ownBlock = some k → some k ≠ row) : Kd.R Kd.string 9 w' base (fun _ => True) v xs := by
  obtain ⟨h0, inner, ho, hin⟩ := h
  have hi := innerS hin
  subst hi
  exact ⟨h0, _, own_move ho (fun k hk => hg.block k (own_lt ho k hk) (hne k hk)), repsS _ _ _ _⟩
theorem two_new {w : World} {g : Nat} {x y : Bnd} (h : w.heap[g]? = some (.cells #[.string x.path, .string x.name, .string x.subject, .int .i64 x.verb, .string y.path, .string y.name, .string y.subject, .int .i64 y.verb] 27 (0, 0))) : k27.C w (some ⟨g, 0, none⟩) 2 [x, y] := by
  have hadd : ∀ j, (⟨g, 0, none⟩ : Addr).add j = ⟨g, j, none⟩ := fun j => by unfold Addr.add; split <;> simp_all
  refine ⟨rfl, by omega, fun _ => ⟨_, rfl, fun j p hj => ?_⟩⟩
  match j, hj with
  | 0, hj =>
    obtain rfl : x = p := by simpa using hj
    refine ⟨encB x, rfl, k27.K_of_M (k27_mkM w 0 (fun _ => True) x), fun i u hu => ?_⟩
    rw [hadd]
    match i, hu with
    | 0, hu => obtain rfl : _ = u := Option.some.inj hu; exact (blk_cell h 0).trans rfl
    | 1, hu => obtain rfl : _ = u := Option.some.inj hu; exact (blk_cell h 1).trans rfl
    | 2, hu => obtain rfl : _ = u := Option.some.inj hu; exact (blk_cell h 2).trans rfl
    | 3, hu => obtain rfl : _ = u := Option.some.inj hu; exact (blk_cell h 3).trans rfl
    | i + 4, hu => simp [encB] at hu
  | 1, hj =>
    obtain rfl : y = p := by simpa using hj
    refine ⟨encB y, rfl, k27.K_of_M (k27_mkM w 0 (fun _ => True) y), fun i u hu => ?_⟩
    rw [hadd]
    match i, hu with
    | 0, hu => obtain rfl : _ = u := Option.some.inj hu; exact (blk_cell h 4).trans rfl
    | 1, hu => obtain rfl : _ = u := Option.some.inj hu; exact (blk_cell h 5).trans rfl
    | 2, hu => obtain rfl : _ = u := Option.some.inj hu; exact (blk_cell h 6).trans rfl
    | 3, hu => obtain rfl : _ = u := Option.some.inj hu; exact (blk_cell h 7).trans rfl
    | i + 4, hu => simp [encB] at hu
  | j + 2, hj => simp at hj
theorem ofS_end : ∀ (l : List Bnd) (M : Tab), ((ofS M l).1 = none → (ofS M l).2 ≠ 0) ∧ ((ofS M l).1.isSome = true → (ofS M l).2 = 0)
  | [], M => ⟨fun h => (by cases h), fun _ => rfl⟩
  | x :: r, M => by
    unfold ofS
    split
    · exact ⟨fun _ => (by decide), fun h => (by cases h)⟩
    · split
      · exact ofS_end r _
      · rename_i h
        exact ⟨fun _ => h, fun h => (by cases h)⟩
theorem ofS_len : ∀ (l : List Bnd) (M U : Tab), (ofS M l).1 = some U → U.length ≤ M.length + l.length
  | [], M, U, h => by
    obtain rfl : M = U := Option.some.inj h
    simp
  | x :: r, M, U, h => by
    unfold ofS at h
    split at h
    · cases h
    · split at h
      · have h1 := ofS_len r _ _ h
        have h2 := setM_len M x
        rw [List.length_cons]; omega
      · cases h
theorem grown_below {u v w : World} {row : Option Nat} (h : u.grownBy v row) (hb : Below v.heap.size v w) : u.grownBy w row :=
  ⟨hb.os.trans h.os, hb.tape.trans h.tape, hb.output.trans h.output, Nat.le_trans h.size hb.size, fun k hk hne => (hb.block k (Nat.lt_of_lt_of_le hk h.size)).trans (h.block k hk hne)⟩
theorem R_ownG {α : Type} {d : Kd α} {e : Nat} {w : World} {base n c : Nat} {ok : Nat → Prop} {A : Option Addr} {xs : List α} (h : d.R e w base ok (.slice A n c) xs) (hn : 0 < n) : ∃ g, A = some ⟨g, 0, none⟩ ∧ base ≤ g := by
  have hx := (Kd.R_reads' h).1
  obtain ⟨h0, inner, ho, hin⟩ := h
  rcases ho.2 with ⟨he, h1⟩ | ⟨g', cap', cur, he, hg, _⟩
  · omega
  · injection he with he1
    exact ⟨g', he1, hg⟩
theorem S_cell {w : World} {base g n c : Nat} {ok : Nat → Prop} {xs : List ByteArray} (h : Kd.R Kd.string 9 w base ok (.slice (some ⟨g, 0, none⟩) n c) xs) {i : Nat} (hi : i < xs.length) : w.cell? ⟨g, i, none⟩ = some (.string xs[i]) ∧ w.frozen? ⟨g, i, none⟩ = false := by
  have hn := (Kd.R_reads' h).1
  have h2 := Kd.R_celln (enc := Value.string) (h1 := fun _ => rfl) ByteArray.empty h (i : Int) (by omega) (by omega)
  rw [Int.toNat_natCast, rd_at xs i hi] at h2
  exact h2
theorem S_put {w : World} {base g n c : Nat} {ok : Nat → Prop} {xs : List ByteArray} (h : Kd.R Kd.string 9 w base ok (.slice (some ⟨g, 0, none⟩) n c) xs) (i : Nat) (z : ByteArray) : Kd.R Kd.string 9 (w.setCell ⟨g, i, none⟩ (.string z)) base ok (.slice (some ⟨g, 0, none⟩) n c) (xs.set i z) := by
  have h2 := Kd.R_putn (enc := Value.string) (h1 := fun _ => rfl) h (i : Int) z
  rw [Int.toNat_natCast] at h2
  exact h2
def zzS : ByteArray := ⟨#[122, 122]⟩
theorem zz_list : ([122, 122] : List UInt8) = zzS.toList := by rw [ByteArray.toList_eq]; rfl
theorem gives_zz {b : Bnd} (hf : formedB b = true) (hs : b.subject = zzS) : givesB b zzS 0 b.path = true := by
  refine (givesB_iff _ _ _ _).2 ⟨hs, by omega, ?_, under_self (formed_path hf)⟩
  unfold formedB at hf
  simp at hf
  omega
theorem reachS_len {L : List Bnd} {s : ByteArray} {v : Int} (h : L.length ≤ 2513169434843) : (reachS L s v).length ≤ 2513169434843 := by
  unfold reachS
  by_cases hv : isV v = true
  · rw [if_pos hv]
    by_cases hs : s = rootS
    · rw [if_pos hs]; simp
    · rw [if_neg hs]
      unfold reachL
      refine Nat.le_trans (List.length_filter_le _ _) ?_
      unfold allL
      refine Nat.le_trans (compactB_len _) ?_
      rw [List.length_map]
      exact Nat.le_trans (List.length_filter_le _ _) h
  · rw [if_neg hv]; exact Nat.zero_le _
section
variable {P : Program}
theorem run_append_keeps (w : World) (base : Nat) (t ty e : TypeId) (i : TypeInfo) (z : Value) (size bytes : Nat) (ht : P.underlying t = some (.slice e)) (hi : P.info? e = some i) (hz : i.zero = some z)
    (hsize : i.size = size) (hby : i.bytes = bytes) (hzs : z.cells.size = size) (hsz : 0 < size)
    (v : Value) (n : Nat) (xs : List Value) (hown : w.ownsRow base e size v n xs)
    (a : Addr) (m c : Nat) (news : List Value) (hl : news.length = m * size) (hnews : ∀ j u, news[j]? = some u → w.cell? (a.add j) = some u) (h1 : ∀ u ∈ news, u.oneCell' = true)
    (h63 : n + m ≤ maxLen) (hbytes : (n + m) * bytes ≤ 140737488355328) (hbase : base ≤ w.heap.size) :
    ∃ v' w', (Builtin.append_ #[t, t] ty #[v, .slice (some a) m c]).run P w = .ok v' w' ∧ w'.ownsRow base e size v' (n + m) (xs ++ news) ∧ w'.ownsRow base e size v n xs ∧ w.grownBy w' v.ownBlock := by
  obtain ⟨v', w', hr, h2, h3, _, _⟩ := run_append_own_at (P := P) w base t ty e i z size bytes ht hi hz hsize hby hzs hsz v n xs hown a m c news hl hnews h1 h63 hbytes hbase
  refine ⟨v', w', hr, h2, ?_, h3⟩
  subst hsize hby
  rcases hown.2 with ⟨rfl, rfl⟩ | ⟨g, cap, cur, rfl, hbg, hg, hnc, hcm, hcs, htake⟩
  · exact ⟨hown.1, .inl ⟨rfl, rfl⟩⟩
  · by_cases hroom : n + m ≤ cap
    · have hfit : n * i.size + news.length ≤ cur.size := by rw [hl, hcs, ← Nat.add_mul]; exact Nat.mul_le_mul_right _ hroom
      have hr2 := run_append_room (P := P) w t ty e i ht hi g n cap cur hg a m c news hl hnews h1 hroom hfit
      have hw := hr.symm.trans hr2
      injection hw with _ hw
      subst hw
      refine ⟨hown.1, .inr ⟨g, cap, _, rfl, hbg, setRow_heap w g cur _ e _ hg, hnc, hcm, ?_, ?_⟩⟩
      · simp only [List.size_toArray, List.length_append, List.length_take, List.length_drop, Array.length_toList]
        omega
      · rw [htake, List.append_assoc]
        simp only [List.take_append_of_le_length (show n * i.size ≤ xs.length by rw [hown.1]; exact Nat.le_refl _)]
        rw [List.take_of_length_le (by rw [hown.1]; exact Nat.le_refl _)]
    · have holds : ∀ j u, xs[j]? = some u → w.cell? ((⟨g, 0, none⟩ : Addr).add j) = some u := hown.cells (g := g) rfl
      have hr2 := run_append_grow (P := P) w t ty e i z ht hi hz ⟨g, 0, none⟩ n cap xs hown.1 holds a m c news hl hnews (by omega) (by simp only [maxLen] at h63; omega) (growslice_fits (by omega) hbytes)
      have hw := hr.symm.trans hr2
      injection hw with _ hw
      subst hw
      exact ⟨hown.1, .inr ⟨g, cap, cur, rfl, hbg, (heap_alloc_old w.drew _ (Array.getElem?_eq_some_iff.1 hg).1).trans hg, hnc, hcm, hcs, htake⟩⟩
end
section
variable {P : Program} {ops : Array Oper} {rest : List Oper} {o : Oper} {a : Act} {Q : Exit → Act → World → Prop} {α : Type}
theorem R_append_keeps (d : Kd α) {w0 W : World} (base : Nat) (hgd : o.guard = none) (s x : Operand) (t e : TypeId) (z : Value) (bytes : Nat)
    (ho : o.op = .call { callee := .builtin .append, args := #[s, x], argTypes := #[t, t] })
    (ht : P.underlying t = some (.slice e)) (hinfo : (P.info? e).map (fun i => (i.zero, i.size, i.bytes)) = some (some z, d.sz, bytes)) (hz : z.cells.size = d.sz) (hs0 : 0 < d.sz) (hb0 : 0 < bytes)
    (v : Value) (xs : List α) (p : α) (cs : List Value) (hs : a.eval s = v) (hx : a.eval x = .slice (some ⟨W.heap.size, 0, none⟩) 1 1) (hp : d.M W base (fun _ => False) p cs)
    (HO : d.R e W base (fun _ => True) v xs) (HB : Below base w0 W) (hbase : base ≤ W.heap.size) (hl : (xs.length + 1) * bytes ≤ 140737488355328)
    (h : ∀ v1 w1, d.R e w1 base (fun _ => True) v1 (xs ++ [p]) → d.R e w1 base (fun _ => True) v xs → Below base w0 w1 → W.grownBy w1 v.ownBlock → (v1.ownBlock = v.ownBlock ∨ ∃ b, v1.ownBlock = some b ∧ W.heap.size ≤ b) → wpList P ops Q rest (a.put o.dst v1) w1) :
    wpList P ops Q (o :: rest) a (W.alloc (.cells cs.toArray e)) := by
  obtain ⟨i0, hi, hzz⟩ := Option.map_eq_some_iff.1 hinfo
  simp only [Prod.mk.injEq] at hzz
  obtain ⟨hz0, hz1, hz2⟩ := hzz
  have hlen : xs.length + 1 ≤ 140737488355328 := Nat.le_trans (Nat.le_mul_of_pos_right _ hb0) hl
  obtain ⟨h0, inner, hown, hr⟩ := HO
  have hcl : cs.length = d.sz := d.K_len (d.K_of_M hp)
  have h1 : ∀ u ∈ cs, u.oneCell' = true := d.K_one (d.K_of_M hp)
  refine wpList_plain hgd fun K hK => ?_
  obtain ⟨v', w', hrun, h2, h2b, h3⟩ := run_append_keeps (P := P) (W.alloc (.cells cs.toArray e)) base t o.type e i0 z d.sz bytes ht hi hz0 hz1 hz2 hz hs0 v xs.length inner (hown.alloc _) ⟨W.heap.size, 0, none⟩ 1 1 cs (by rw [hcl]; simp)
    (by simpa using World.news_of_block (cs := cs.toArray) (t := e) (fr := (0, 0)) (heap_alloc_new W (.cells cs.toArray e))) h1 (by simp only [maxLen]; omega) hl (by simp; omega)
  unfold Oper.wp execOp
  simp only [ho, resolve, invoke, builtin, Sem.run_bind, Sem.run_pure, Result.andThen_ok, List.map_toArray, List.map_cons, List.map_nil, hs, hx, hrun]
  have hg : W.grownBy w' v.ownBlock := World.grownBy.trans (World.grownBy_alloc W _ _) h3
  have hb1 : Below base w0 w' := (HB.alloc hbase _).grown h3 (by simp; omega) (own_base hown)
  have hR1 : d.R e w' base (fun _ => True) v xs := ⟨h0, inner, h2b, hr.imp_ (fun _ _ hp => d.M_mono (fun k hk => hk) (Kd.M_grown hp hg (fun k hk => hk.2)))⟩
  have hat : v'.ownBlock = v.ownBlock ∨ ∃ b, v'.ownBlock = some b ∧ W.heap.size ≤ b := by
    obtain ⟨v2, w2, hr2, _, _, _, h5⟩ := run_append_own_at (P := P) (W.alloc (.cells cs.toArray e)) base t o.type e i0 z d.sz bytes ht hi hz0 hz1 hz2 hz hs0 v xs.length inner (hown.alloc _) ⟨W.heap.size, 0, none⟩ 1 1 cs (by rw [hcl]; simp)
      (by simpa using World.news_of_block (cs := cs.toArray) (t := e) (fr := (0, 0)) (heap_alloc_new W (.cells cs.toArray e))) h1 (by simp only [maxLen]; omega) hl (by simp; omega)
    have e2 := hrun.symm.trans hr2
    injection e2 with e2 _
    subst e2
    rcases h5 with h5 | h5
    · exact .inl h5
    · exact .inr ⟨_, h5, by simp⟩
  have hnR : d.R e w' base (fun _ => True) v' (xs ++ [p]) := Kd.R_appended h0 hr hp (fun k hk => hk.elim) (fun _ _ => trivial) (by simpa using h2) hg hat
  exact hK _ _ (h v' w' hnR hR1 hb1 hg hat)
end
set_option maxRecDepth 100000 in
set_option maxHeartbeats 16000000 in
theorem texts_same (A B : Option Addr) (c d : Nat) (x : List ByteArray) (w : World) (hx : Kd.string.C w A x.length x) (hy : Kd.string.C w B x.length x) (hl : x.length ≤ 2513169434843) :
    Calls Tryd.prog 28 #[.slice A x.length c, .slice B x.length d] w fun e w' => e = .returned (.bool true) ∧ Below w.heap.size w w' := by
  have HX := Aside0.mk hx
  have HY := Aside0.mk hy
  have HLL := Lib.hid hl
  clear hx hy hl
  have e1 : ((x.length : Int) != (x.length : Int)) = false := bne_eq_false_iff_eq.2 rfl
  go_enter Tryd.func28, Tryd.ntmps28
  go_upto_region 4 with fail
  clear e1
  go_loopg [5] x.length (fun g v5 wr => ∃ (i : Nat), v5 = .int .i64 (i : Int) ∧ Aside0 (i + g = x.length) ∧ Aside0 (Below w.heap.size w wr))
  case atStart => exact ⟨0, rfl, ⟨by omega⟩, ⟨Below.refl _ _⟩⟩
  case round =>
    obtain ⟨i, rfl, HI, HB⟩ := hrel
    by_cases hi : i < x.length
    rotate_left
    · have q1 : decide ((i : Int) < (x.length : Int)) = false := decide_eq_false (by omega)
      have q1n : decide (i < x.length) = false := decide_eq_false hi
      clear hi
      go_wp2
      go_ret
      exact ⟨rfl, HB.out⟩
    have q1 : decide ((i : Int) < (x.length : Int)) = true := decide_eq_true (by omega)
    have q1n : decide (i < x.length) = true := decide_eq_true hi
    have p1 : (0 ≤ (i : Int)) = True := eq_true (by omega)
    have p2 : ((i : Int) < (x.length : Int)) = True := eq_true (by omega)
    obtain ⟨ad, hA, hx0⟩ := txt_at (Kd.C_below HX.out HB.out) hi
    cases hA
    obtain ⟨ae, hA, hy0⟩ := txt_at (Kd.C_below HY.out HB.out) hi
    cases hA
    obtain ⟨g0, rfl⟩ : ∃ g0, gk = g0 + 1 := ⟨gk - 1, by have := HI.out; omega⟩
    have HLT := Lib.hid hi
    generalize x[i] = z at hx0 hy0
    have hq : (z.toList != z.toList) = false := by simp
    clear hi
    go_upto_region 6 with fail
    refine start_ (n := 9) (S := fun w' => w'.cell? (ad.add i) = some (.string z) ∧ w'.cell? (ae.add i) = some (.string z)) (ds := []) #[false, false, false, false, false, false, false, false, false] (by kernel_rfl) rfl rfl ⟨hx0, hy0⟩ (fun hHeld => ?_)
    have B4 := Aside0.mk (below_drew1 HB.out)
    generalize World.drew _ = w4 at B4 hHeld ⊢
    refine pure_ (i := 0) (N := some 17) (v := ?_) (a' := ?_) #[true, false, false, false, false, false, false, false, false] rfl rfl (by kernel_rfl) (fun _ _ _ h => h) (Or.inl ⟨by rfl, ?_⟩) ?_ ?_
    rotate_left
    · intro w'
      go_simp
      with_reducible rfl
    rotate_left
    · simp only [Act.put, List.setIfInBounds_toArray, List.set_cons_zero, List.set_cons_succ, i64_w, i32_w]
      rfl
    refine pure_ (i := 1) (N := some 18) (v := ?_) (a' := ?_) #[true, true, false, false, false, false, false, false, false] rfl rfl (by kernel_rfl) (fun _ _ _ h => h) (Or.inl ⟨by rfl, ?_⟩) ?_ ?_
    rotate_left
    · intro w'
      go_simp
      with_reducible rfl
    rotate_left
    · simp only [Act.put, List.setIfInBounds_toArray, List.set_cons_zero, List.set_cons_succ, i64_w, i32_w]
      rfl
    refine pure_ (i := 2) (N := some 19) (v := ?_) (a' := ?_) #[true, true, true, false, false, false, false, false, false] rfl rfl (by kernel_rfl) (fun _ _ _ h => h) (Or.inl ⟨by rfl, ?_⟩) ?_ ?_
    rotate_left
    · intro w'
      go_simp
      with_reducible rfl
    rotate_left
    · simp only [Act.put, List.setIfInBounds_toArray, List.set_cons_zero, List.set_cons_succ, i64_w, i32_w]
      rfl
    refine take_ (i := 3) (N := some 20) (v := ?_) (a' := ?_) #[true, true, true, true, false, false, false, false, false] rfl rfl (by kernel_rfl) (fun _ _ _ h => h) (Or.inl ⟨by rfl, ?_⟩) hHeld ?_ ?_
    rotate_left
    · rintro w' ⟨s0, s1⟩
      go_simp
      with_reducible rfl
    rotate_left
    · simp only [Act.put, List.setIfInBounds_toArray, List.set_cons_zero, List.set_cons_succ, i64_w, i32_w]
      rfl
    refine pure_ (i := 4) (N := some 21) (v := ?_) (a' := ?_) #[true, true, true, true, true, false, false, false, false] rfl rfl (by kernel_rfl) (fun _ _ _ h => h) (Or.inl ⟨by rfl, ?_⟩) ?_ ?_
    rotate_left
    · intro w'
      go_simp
      with_reducible rfl
    rotate_left
    · simp only [Act.put, List.setIfInBounds_toArray, List.set_cons_zero, List.set_cons_succ, i64_w, i32_w]
      rfl
    refine pure_ (i := 5) (N := some 22) (v := ?_) (a' := ?_) #[true, true, true, true, true, true, false, false, false] rfl rfl (by kernel_rfl) (fun _ _ _ h => h) (Or.inl ⟨by rfl, ?_⟩) ?_ ?_
    rotate_left
    · intro w'
      go_simp
      with_reducible rfl
    rotate_left
    · simp only [Act.put, List.setIfInBounds_toArray, List.set_cons_zero, List.set_cons_succ, i64_w, i32_w]
      rfl
    refine pure_ (i := 6) (N := some 23) (v := ?_) (a' := ?_) #[true, true, true, true, true, true, true, false, false] rfl rfl (by kernel_rfl) (fun _ _ _ h => h) (Or.inl ⟨by rfl, ?_⟩) ?_ ?_
    rotate_left
    · intro w'
      go_simp
      with_reducible rfl
    rotate_left
    · simp only [Act.put, List.setIfInBounds_toArray, List.set_cons_zero, List.set_cons_succ, i64_w, i32_w]
      rfl
    refine take_ (i := 7) (N := some 24) (v := ?_) (a' := ?_) #[true, true, true, true, true, true, true, true, false] rfl rfl (by kernel_rfl) (fun _ _ _ h => h) (Or.inl ⟨by rfl, ?_⟩) hHeld ?_ ?_
    rotate_left
    · rintro w' ⟨s0, s1⟩
      go_simp
      with_reducible rfl
    rotate_left
    · simp only [Act.put, List.setIfInBounds_toArray, List.set_cons_zero, List.set_cons_succ, i64_w, i32_w]
      rfl
    refine pure_ (i := 8) (N := some 25) (v := ?_) (a' := ?_) #[true, true, true, true, true, true, true, true, true] rfl rfl (by kernel_rfl) (fun _ _ _ h => h) (Or.inl ⟨by rfl, ?_⟩) ?_ ?_
    rotate_left
    · intro w'
      go_simp
      with_reducible rfl
    rotate_left
    · simp only [Act.put, List.setIfInBounds_toArray, List.set_cons_zero, List.set_cons_succ, i64_w, i32_w]
      rfl
    refine done_ (by kernel_rfl) ?_
    clear hx0 hy0 hHeld
    go_wp2
    go_roundg g0
    case measure => omega
    case rel => exact ⟨i + 1, congrArg (Value.int .i64) (by rw [w64 i (by have := HLT.out; have := HLL.out; omega)]), ⟨by have := HI.out; omega⟩, B4⟩
end Go.Proofs.YtphddbijdfmpjaaDoor.Q
namespace Go.Proofs.YtphddbijdfmpjaaDoor.Q
open Go.RowKit Go.Proofs.YtphddbijdfmpjaaDoorW.PrintWords Go.Proofs.YtphddbijdfmpjaaDoorW.PrintLast Go.Proofs.YtphddbijdfmpjaaDoorW.PrintMore
attribute [local go_sem] max2_int min2_int max_two min_two max_three min_three max_four min_four   -- for this text's walks alone
set_option linter.unusedVariables false
set_option linter.unusedSimpArgs false
def bursarlaw21_gives.f (k : Nat) (a0_0 : ByteArray) (a0_1 : ByteArray) (a0_2 : ByteArray) (a0_3 : Int) (a1 : ByteArray) (a2 : Int) (a3 : ByteArray) : Option (Bool) := if a0_2.toList = a1.toList then (if a2 ≥ 0 then (if a2 ≤ a0_3 then ((label_Under.f k a3 a0_0).bind fun t139 => (some t139)) else (some false)) else (some false)) else (some false)
theorem bursarlaw21_gives.mono : ∀ a0 a1 a2 a3 a4 a5 a6 k, LeO (bursarlaw21_gives.f k a0 a1 a2 a3 a4 a5 a6) (bursarlaw21_gives.f (k + 1) a0 a1 a2 a3 a4 a5 a6) := by
  intro a0 a1 a2 a3 a4 a5 a6 k
  unfold bursarlaw21_gives.f
  repeat' first
      | (with_reducible exact label_Under.mono _ _ _)
      | (with_reducible exact LeO.refl _)
      | (with_reducible exact LeO.none _)
      | (with_reducible refine LeO.ite ?_ ?_)
      | (with_reducible refine LeO.bind ?_ (fun _ => ?_))
      | exact label_Under.mono _ _ _
      | exact LeO.none _
      | refine LeO.ite ?_ ?_
      | refine LeO.bind ?_ (fun _ => ?_)
set_option maxHeartbeats 8000000 in
set_option maxRecDepth 100000 in
theorem bursarlaw21_gives.calls (k : Nat) (a0_0 : ByteArray) (a0_1 : ByteArray) (a0_2 : ByteArray) (a0_3 : Int) (a1 : ByteArray) (a2 : Int) (a3 : ByteArray) (r : Bool) (w : World) (h : bursarlaw21_gives.f k a0_0 a0_1 a0_2 a0_3 a1 a2 a3 = some r) (hG : Glob w) :
    Calls Tryd.prog 27 #[.agg #[.string a0_0, .string a0_1, .string a0_2, .int .i64 a0_3], .string a1, .int .i64 a2, .string a3] w fun e w' => e = .returned (.bool r) ∧ Below w.heap.size w w' := by
  have hu27 := Tryd.underlying27
  have HB := Aside0.mk (Below.refl w.heap.size w)
  have H : (if a0_2.toList = a1.toList then (if a2 ≥ 0 then (if a2 ≤ a0_3 then ((label_Under.f k a3 a0_0).bind fun t139 => (some t139)) else (some false)) else (some false)) else (some false)) = some r := h
  clear h
  by_cases c5 : a0_2.toList = a1.toList
  · rw [if_pos c5] at H
    have c5b0 : (a0_2.toList == a1.toList) = true := beq_iff_eq.mpr c5
    have c5b1 : (a0_2.toList != a1.toList) = false := bne_eq_false_iff_eq.mpr c5
    clear c5
    by_cases c6 : a2 ≥ 0
    · rw [if_pos c6] at H
      have c6b0 : decide (0 ≤ a2) = true := decide_eq_true c6
      clear c6
      by_cases c7 : a2 ≤ a0_3
      · rw [if_pos c7] at H
        have c7b0 : decide (a2 ≤ a0_3) = true := decide_eq_true c7
        clear c7
        replace H := Option.bind_eq_some_iff.mp H
        obtain ⟨t139, A80, H⟩ := H
        replace H : (some t139) = some r := H
        have A8 := Aside0.mk A80
        clear A80
        obtain rfl := Option.some.inj H
        go_enter Tryd.func27, Tryd.ntmps27
        go_wp2_with (first | ((with_reducible refine gate_dst (N := 4) rfl ?_); refine box_event ?hg (N := 4) ?hd (cs := #[.string a0_0, .string a0_1, .string a0_2, .int .i64 a0_3]) (t := 27) ?hr ?_; (case hd => rfl); (case hg => rfl); (case hr => first | (go_simp; done) | (go_simp; rfl)); intro gb138 hg w9 hbox hb; have n0_ := Aside0.mk (below_step (by repeat (first | (with_reducible first | exact HB.out | apply below_alloc | apply pw_below_drewN | apply below_drew1) | exact HB.out)) hb); have n1_ := Aside0.mk (hbox); have n2_ := Aside0.mk ((by rw [hg]; exact (below_size (by repeat (first | (with_reducible first | exact HB.out | apply below_alloc | apply pw_below_drewN | apply below_drew1) | exact HB.out))) : w.heap.size ≤ gb138)); have n3_ := Aside0.mk ((by rw [hg]; exact (below_size (by repeat (first | (with_reducible first | exact HB.out | apply below_alloc | apply pw_below_drewN | apply below_drew1) | exact HB.out))) : w.heap.size ≤ gb138)); clear HB; have HB := n0_; have BK138 := n1_; have GW138 := n2_; have GE138 := n3_; clear n0_ n1_ n2_ n3_; clear hb hbox hg; have hcz10_0 : w9.cell? ⟨gb138, 0, none⟩ = some (.string a0_0) := (blk_cell BK138.out 0).trans rfl; have hcz10_1 : w9.cell? ⟨gb138, 1, none⟩ = some (.string a0_1) := (blk_cell BK138.out 1).trans rfl; have hcz10_2 : w9.cell? ⟨gb138, 2, none⟩ = some (.string a0_2) := (blk_cell BK138.out 2).trans rfl; have hcz10_3 : w9.cell? ⟨gb138, 3, none⟩ = some (.int .i64 a0_3) := (blk_cell BK138.out 3).trans rfl; have hfz10_0 := blk_frozen BK138.out 0; have hfz10_1 := blk_frozen BK138.out 1; have hfz10_2 := blk_frozen BK138.out 2; have hfz10_3 := blk_frozen BK138.out 3) | (go_at_call 23; (with_reducible refine (label_Under.calls k a3 a0_0 t139 _ A8.out (Glob.below hG (by repeat (first | (with_reducible first | exact HB.out | apply below_alloc | apply pw_below_drewN | apply below_drew1) | exact HB.out)))).mono ?_); rintro e w11 ⟨rfl, hb⟩; have n0_ := Aside0.mk (blk_below (g := gb138) (o := .cells #[.string a0_0, .string a0_1, .string a0_2, .int .i64 a0_3] 27 (0, 0)) (by (with_reducible repeat (first | refine blk_drewN ?_ _ | refine blk_drew ?_ | refine blk_alloc ?_ _)); exact BK138.out) hb); have n1_ := Aside0.mk (below_step (by repeat (first | (with_reducible first | exact HB.out | apply below_alloc | apply pw_below_drewN | apply below_drew1 | refine below_set ?_ GE138.out) | exact HB.out)) hb); clear BK138; clear HB; have BK138 := n0_; have HB := n1_; clear n0_ n1_; (try clear hb); (try clear hb2); (try clear hk); (try clear hi)))
        go_ret
        exact ⟨by first | rfl | (simp [errW_none, errW_some] <;> rfl) | (simp [*, errW_none, errW_some] <;> rfl), by repeat (first | (with_reducible first | exact HB.out | apply below_alloc | apply pw_below_drewN | apply below_drew1 | refine below_set ?_ GE138.out) | exact HB.out)⟩
      · rw [if_neg c7] at H
        have c7b0 : decide (a2 ≤ a0_3) = false := decide_eq_false c7
        clear c7
        obtain rfl := Option.some.inj H
        go_enter Tryd.func27, Tryd.ntmps27
        go_wp2_with (first | ((with_reducible refine gate_dst (N := 4) rfl ?_); refine box_event ?hg (N := 4) ?hd (cs := #[.string a0_0, .string a0_1, .string a0_2, .int .i64 a0_3]) (t := 27) ?hr ?_; (case hd => rfl); (case hg => rfl); (case hr => first | (go_simp; done) | (go_simp; rfl)); intro gb138 hg w12 hbox hb; have n0_ := Aside0.mk (below_step (by repeat (first | (with_reducible first | exact HB.out | apply below_alloc | apply pw_below_drewN | apply below_drew1) | exact HB.out)) hb); have n1_ := Aside0.mk (hbox); have n2_ := Aside0.mk ((by rw [hg]; exact (below_size (by repeat (first | (with_reducible first | exact HB.out | apply below_alloc | apply pw_below_drewN | apply below_drew1) | exact HB.out))) : w.heap.size ≤ gb138)); have n3_ := Aside0.mk ((by rw [hg]; exact (below_size (by repeat (first | (with_reducible first | exact HB.out | apply below_alloc | apply pw_below_drewN | apply below_drew1) | exact HB.out))) : w.heap.size ≤ gb138)); clear HB; have HB := n0_; have BK138 := n1_; have GW138 := n2_; have GE138 := n3_; clear n0_ n1_ n2_ n3_; clear hb hbox hg; have hcz13_0 : w12.cell? ⟨gb138, 0, none⟩ = some (.string a0_0) := (blk_cell BK138.out 0).trans rfl; have hcz13_1 : w12.cell? ⟨gb138, 1, none⟩ = some (.string a0_1) := (blk_cell BK138.out 1).trans rfl; have hcz13_2 : w12.cell? ⟨gb138, 2, none⟩ = some (.string a0_2) := (blk_cell BK138.out 2).trans rfl; have hcz13_3 : w12.cell? ⟨gb138, 3, none⟩ = some (.int .i64 a0_3) := (blk_cell BK138.out 3).trans rfl; have hfz13_0 := blk_frozen BK138.out 0; have hfz13_1 := blk_frozen BK138.out 1; have hfz13_2 := blk_frozen BK138.out 2; have hfz13_3 := blk_frozen BK138.out 3))
        go_ret
        exact ⟨by first | rfl | (simp [errW_none, errW_some] <;> rfl) | (simp [*, errW_none, errW_some] <;> rfl), by repeat (first | (with_reducible first | exact HB.out | apply below_alloc | apply pw_below_drewN | apply below_drew1 | refine below_set ?_ GE138.out) | exact HB.out)⟩
    · rw [if_neg c6] at H
      have c6b0 : decide (0 ≤ a2) = false := decide_eq_false c6
      clear c6
      obtain rfl := Option.some.inj H
      go_enter Tryd.func27, Tryd.ntmps27
      go_wp2_with (first | ((with_reducible refine gate_dst (N := 4) rfl ?_); refine box_event ?hg (N := 4) ?hd (cs := #[.string a0_0, .string a0_1, .string a0_2, .int .i64 a0_3]) (t := 27) ?hr ?_; (case hd => rfl); (case hg => rfl); (case hr => first | (go_simp; done) | (go_simp; rfl)); intro gb138 hg w14 hbox hb; have n0_ := Aside0.mk (below_step (by repeat (first | (with_reducible first | exact HB.out | apply below_alloc | apply pw_below_drewN | apply below_drew1) | exact HB.out)) hb); have n1_ := Aside0.mk (hbox); have n2_ := Aside0.mk ((by rw [hg]; exact (below_size (by repeat (first | (with_reducible first | exact HB.out | apply below_alloc | apply pw_below_drewN | apply below_drew1) | exact HB.out))) : w.heap.size ≤ gb138)); have n3_ := Aside0.mk ((by rw [hg]; exact (below_size (by repeat (first | (with_reducible first | exact HB.out | apply below_alloc | apply pw_below_drewN | apply below_drew1) | exact HB.out))) : w.heap.size ≤ gb138)); clear HB; have HB := n0_; have BK138 := n1_; have GW138 := n2_; have GE138 := n3_; clear n0_ n1_ n2_ n3_; clear hb hbox hg; have hcz15_0 : w14.cell? ⟨gb138, 0, none⟩ = some (.string a0_0) := (blk_cell BK138.out 0).trans rfl; have hcz15_1 : w14.cell? ⟨gb138, 1, none⟩ = some (.string a0_1) := (blk_cell BK138.out 1).trans rfl; have hcz15_2 : w14.cell? ⟨gb138, 2, none⟩ = some (.string a0_2) := (blk_cell BK138.out 2).trans rfl; have hcz15_3 : w14.cell? ⟨gb138, 3, none⟩ = some (.int .i64 a0_3) := (blk_cell BK138.out 3).trans rfl; have hfz15_0 := blk_frozen BK138.out 0; have hfz15_1 := blk_frozen BK138.out 1; have hfz15_2 := blk_frozen BK138.out 2; have hfz15_3 := blk_frozen BK138.out 3))
      go_ret
      exact ⟨by first | rfl | (simp [errW_none, errW_some] <;> rfl) | (simp [*, errW_none, errW_some] <;> rfl), by repeat (first | (with_reducible first | exact HB.out | apply below_alloc | apply pw_below_drewN | apply below_drew1 | refine below_set ?_ GE138.out) | exact HB.out)⟩
  · rw [if_neg c5] at H
    have c5b0 : (a0_2.toList == a1.toList) = false := beq_eq_false_iff_ne.mpr c5
    have c5b1 : (a0_2.toList != a1.toList) = true := bne_iff_ne.mpr c5
    obtain rfl := Option.some.inj H
    go_enter Tryd.func27, Tryd.ntmps27
    go_wp2_with (first | ((with_reducible refine gate_dst (N := 4) rfl ?_); refine box_event ?hg (N := 4) ?hd (cs := #[.string a0_0, .string a0_1, .string a0_2, .int .i64 a0_3]) (t := 27) ?hr ?_; (case hd => rfl); (case hg => rfl); (case hr => first | (go_simp; done) | (go_simp; rfl)); intro gb138 hg w16 hbox hb; have n0_ := Aside0.mk (below_step (by repeat (first | (with_reducible first | exact HB.out | apply below_alloc | apply pw_below_drewN | apply below_drew1) | exact HB.out)) hb); have n1_ := Aside0.mk (hbox); have n2_ := Aside0.mk ((by rw [hg]; exact (below_size (by repeat (first | (with_reducible first | exact HB.out | apply below_alloc | apply pw_below_drewN | apply below_drew1) | exact HB.out))) : w.heap.size ≤ gb138)); have n3_ := Aside0.mk ((by rw [hg]; exact (below_size (by repeat (first | (with_reducible first | exact HB.out | apply below_alloc | apply pw_below_drewN | apply below_drew1) | exact HB.out))) : w.heap.size ≤ gb138)); clear HB; have HB := n0_; have BK138 := n1_; have GW138 := n2_; have GE138 := n3_; clear n0_ n1_ n2_ n3_; clear hb hbox hg; have hcz17_0 : w16.cell? ⟨gb138, 0, none⟩ = some (.string a0_0) := (blk_cell BK138.out 0).trans rfl; have hcz17_1 : w16.cell? ⟨gb138, 1, none⟩ = some (.string a0_1) := (blk_cell BK138.out 1).trans rfl; have hcz17_2 : w16.cell? ⟨gb138, 2, none⟩ = some (.string a0_2) := (blk_cell BK138.out 2).trans rfl; have hcz17_3 : w16.cell? ⟨gb138, 3, none⟩ = some (.int .i64 a0_3) := (blk_cell BK138.out 3).trans rfl; have hfz17_0 := blk_frozen BK138.out 0; have hfz17_1 := blk_frozen BK138.out 1; have hfz17_2 := blk_frozen BK138.out 2; have hfz17_3 := blk_frozen BK138.out 3))
    go_ret
    exact ⟨by first | rfl | (simp [errW_none, errW_some] <;> rfl) | (simp [*, errW_none, errW_some] <;> rfl), by repeat (first | (with_reducible first | exact HB.out | apply below_alloc | apply pw_below_drewN | apply below_drew1 | refine below_set ?_ GE138.out) | exact HB.out)⟩
end Go.Proofs.YtphddbijdfmpjaaDoor.Q
namespace Go.Proofs.YtphddbijdfmpjaaDoor.Q
open Go.RowKit Go.Proofs.YtphddbijdfmpjaaDoorW.PrintWords Go.Proofs.YtphddbijdfmpjaaDoorW.PrintLast Go.Proofs.YtphddbijdfmpjaaDoorW.PrintMore
attribute [local go_sem] max2_int min2_int max_two min_two max_three min_three max_four min_four   -- for this text's walks alone
set_option linter.unusedVariables false
set_option linter.unusedSimpArgs false
def bursarlaw21_names.f (k : Nat) (a0 : ByteArray) : Option (Int) := (label_Split.f k a0).bind fun bt179 => (some (bt179.1.length : Int))
theorem bursarlaw21_names.mono : ∀ a0 k, LeO (bursarlaw21_names.f k a0) (bursarlaw21_names.f (k + 1) a0) := by
  intro a0 k
  unfold bursarlaw21_names.f
  repeat' first
      | (with_reducible exact label_Split.mono _ _)
      | (with_reducible exact LeO.refl _)
      | (with_reducible exact LeO.none _)
      | (with_reducible refine LeO.ite ?_ ?_)
      | (with_reducible refine LeO.bind ?_ (fun _ => ?_))
      | exact label_Split.mono _ _
      | exact LeO.none _
      | refine LeO.ite ?_ ?_
      | refine LeO.bind ?_ (fun _ => ?_)
end Go.Proofs.YtphddbijdfmpjaaDoor.Q
namespace Go.Proofs.YtphddbijdfmpjaaDoor.Q
open Go.RowKit Go.MapRaw Go.Proofs.YtphddbijdfmpjaaDoorW.PrintWords Go.Proofs.YtphddbijdfmpjaaDoorW.PrintLast Go.Proofs.YtphddbijdfmpjaaDoor.Wr Go.Proofs.YtphddbijdfmpjaaDoor.Pl
set_option linter.unusedVariables false
set_option linter.unusedSimpArgs false
theorem gives_ok (b : Bnd) (s : ByteArray) (v : Int) (p : ByteArray) (w : World) (hb : b.path.size + 1 ≤ 9223372036854775807) (hG : Glob w) :
    Calls Tryd.prog 27 #[.agg #[.string b.path, .string b.name, .string b.subject, .int .i64 b.verb], .string s, .int .i64 v, .string p] w fun e w' => e = .returned (.bool (givesB b s v p)) ∧ Below w.heap.size w w' := by
  obtain ⟨k, hk⟩ := under_ev p b.path hb
  have hk : label_Under.f k p b.path = some (underS p b.path) := hk k (Nat.le_refl _)
  refine bursarlaw21_gives.calls k b.path b.name b.subject b.verb s v p _ w ?_ hG
  unfold bursarlaw21_gives.f givesB
  by_cases h1 : b.subject = s
  · rw [if_pos (by rw [h1]), decide_eq_true h1]
    by_cases h2 : v ≥ 0
    · rw [if_pos h2, decide_eq_true (show 0 ≤ v from h2)]
      by_cases h3 : v ≤ b.verb
      · rw [if_pos h3, decide_eq_true h3]
        show (label_Under.f k p b.path).bind _ = _
        rw [hk]; rfl
      · rw [if_neg h3, decide_eq_false h3]; rfl
    · rw [if_neg h2, decide_eq_false (show ¬ 0 ≤ v from h2)]; rfl
  · rw [if_neg (fun e => h1 ((ba_iff _ _).1 e)), decide_eq_false h1]; rfl
end Go.Proofs.YtphddbijdfmpjaaDoor.Q
namespace Go.Proofs.YtphddbijdfmpjaaDoor.Q
open Go.RowKit Go.MapRaw Go.Proofs.YtphddbijdfmpjaaDoorW.PrintWords Go.Proofs.YtphddbijdfmpjaaDoorW.PrintLast Go.Proofs.YtphddbijdfmpjaaDoor.Wr
open Go.ChangeMaps (setBlock)
set_option linter.unusedVariables false
set_option linter.unusedSimpArgs false
theorem and1023_ (n : Int) : bits .and .i64 n 1023 = n % 1024 := by
  have h127 : (BitVec.ofInt 64 1023).toNat = 2 ^ 10 - 1 := by decide
  have key : (BitVec.ofInt 64 n &&& BitVec.ofInt 64 1023).toNat = (n % ((2 ^ 64 : Nat) : Int)).toNat % 2 ^ 10 := by
    rw [BitVec.toNat_and, BitVec.toNat_ofInt, h127, Nat.and_two_pow_sub_one_eq_mod]
  show IntKind.i64.wrap ((BitVec.ofInt 64 n &&& BitVec.ofInt 64 1023).toNat : Nat) = n % 1024
  rw [key, IntKind.wrap_i64]
  omega
theorem R_own {w : World} {base n c : Nat} {ok : Nat → Prop} {A : Option Addr} {xs : List Bnd} (h : Kd.R k27 27 w base ok (.slice A n c) xs) (hn : 0 < n) : ∃ g, A = some ⟨g, 0, none⟩ ∧ base ≤ g := by
  have hx := (Kd.R_reads' h).1
  obtain ⟨h0, inner, ho, hin⟩ := h
  rcases ho.2 with ⟨he, h1⟩ | ⟨g', cap', cur, he, hg, _⟩
  · omega
  · injection he with he1
    exact ⟨g', he1, hg⟩
theorem R_lt {w : World} {base g n c : Nat} {ok : Nat → Prop} {xs : List Bnd} (h : Kd.R k27 27 w base ok (.slice (some ⟨g, 0, none⟩) n c) xs) : g < w.heap.size := by
  obtain ⟨h0, inner, ho, hin⟩ := h
  rcases ho.2 with ⟨he, h1⟩ | ⟨g', cap', cur, he, hg, hb, _⟩
  · cases he
  · injection he with he1
    injection he1 with he1
    injection he1 with he1
    rw [he1]
    exact (Array.getElem?_eq_some_iff.1 hb).1
theorem park_ {p : Prop} (h : Aside0 p) : p := h.out
attribute [local go_sem] and1023_
end Go.Proofs.YtphddbijdfmpjaaDoor.Q
namespace Go.Proofs.YtphddbijdfmpjaaDoor.Q
open Go.RowKit Go.MapRaw Go.Proofs.YtphddbijdfmpjaaDoorW.PrintWords Go.Proofs.YtphddbijdfmpjaaDoorW.PrintLast Go.Proofs.YtphddbijdfmpjaaDoor.Wr Go.Proofs.YtphddbijdfmpjaaDoor.Pl
set_option linter.unusedVariables false
set_option linter.unusedSimpArgs false
def aheadP (a b : ByteArray) : Bool := decide (cmpL (splitS a).1 (splitS b).1 < 0)
def aheadB (b x : Bnd) : Bool := aheadP b.path x.path || (decide (b.path = x.path) && Op.bytesLess b.name.toList x.name.toList)
theorem aheadB_iff {b x : Bnd} (hb : formedB b = true) (hx : formedB x = true) : aheadB b x = true ↔ cmpB b x < 0 := by
  unfold aheadB aheadP cmpB
  simp only [Bool.or_eq_true, Bool.and_eq_true, decide_eq_true_eq]
  by_cases e : cmpL (splitS b.path).1 (splitS x.path).1 = 0
  · rw [if_neg (by omega)]
    have hp : b.path = x.path := path_inj (formed_path hb) (formed_path hx) (cmpL_zero e)
    rw [cmpS_lt]
    constructor
    · rintro (h | h)
      · omega
      · exact h.2
    · intro h; exact .inr ⟨hp, h⟩
  · rw [if_pos (by omega)]
    constructor
    · rintro (h | h)
      · exact h
      · exact absurd (by rw [h.1]; exact ordL.self _) e
    · exact .inl
def insF (b : Bnd) : Bool → List Bnd → List Bnd
  | done, [] => if done then [] else [b]
  | done, x :: r => if (!done && aheadB b x) = true then b :: x :: insF b true r else x :: insF b done r
theorem insF_done (b : Bnd) : ∀ L, insF b true L = L
  | [] => rfl
  | x :: r => by
    show (if (!true && aheadB b x) = true then _ else x :: insF b true r) = _
    rw [if_neg (by simp), insF_done b r]
theorem insF_perm (b : Bnd) : ∀ L, (insF b false L).Perm (b :: L)
  | [] => .refl _
  | x :: r => by
    unfold insF
    split
    · rw [insF_done]
    · exact (List.Perm.cons x (insF_perm b r)).trans (List.Perm.swap b x r)
theorem insF_rising {b : Bnd} (hb : formedB b = true) : ∀ {L : List Bnd}, (∀ x ∈ L, formedB x = true) → Rising L → Rising (insF b false L)
  | [], _, _ => List.pairwise_singleton _ _
  | x :: r, hf, h => by
    have h' := List.pairwise_cons.1 h
    unfold insF
    split
    · rename_i hc
      rw [insF_done]
      have hlt : cmpB b x < 0 := (aheadB_iff hb (hf x (by simp))).1 (by simpa using hc)
      refine List.pairwise_cons.2 ⟨fun y hy => ?_, h⟩
      rcases List.mem_cons.1 hy with rfl | hy
      · omega
      · exact ordB.le b x y (by omega) (h'.1 y hy)
    · rename_i hc
      have hge : cmpB x b ≤ 0 := by
        have := ordB.neg b x
        have : ¬ cmpB b x < 0 := fun e => hc (by simpa using (aheadB_iff hb (hf x (by simp))).2 e)
        omega
      refine List.pairwise_cons.2 ⟨fun y hy => ?_, insF_rising hb (fun z hz => hf z (by simp [hz])) h'.2⟩
      rcases List.mem_cons.1 ((insF_perm b r).mem_iff.1 hy) with rfl | hy
      · exact hge
      · exact h'.1 y hy
structure Same (M : Tab) (L : List Bnd) : Prop where
  perm : L.Perm (M.map fun p => p.2)
  rise : Rising L
  keys : ∀ p ∈ M, p.1 = (p.2.path, p.2.name) ∧ formedB p.2 = true
  nodup : (M.map fun x => x.1).Nodup
theorem Same.kper {M : Tab} {L : List Bnd} (h : Same M L) : (L.map keyB).Perm (M.map fun x => x.1) := by
  have := h.perm.map Q.keyB
  rw [List.map_map] at this
  rw [show M.map (fun x => x.1) = M.map (Q.keyB ∘ fun p => p.2) from List.map_congr_left fun x hx => (h.keys x hx).1]
  exact this
theorem Same.formed {M : Tab} {L : List Bnd} (h : Same M L) : ∀ b ∈ L, formedB b = true := fun b hb => by
  obtain ⟨x, hx, rfl⟩ := List.mem_map.1 (h.perm.mem_iff.1 hb)
  exact (h.keys x hx).2
theorem Same.cnt {M : Tab} {L : List Bnd} (h : Same M L) (q : ByteArray) : cntB q L = Wr.cnt q M := by
  rw [cntB_perm q h.perm, cntB_tab q M (fun x hx => (h.keys x hx).1)]
theorem Same.has {M : Tab} {L : List Bnd} (h : Same M L) (k : Key) : (getA k M).isSome = true ↔ k ∈ L.map Q.keyB := by
  rw [getA_out]
  exact h.kper.mem_iff.symm
theorem Same.list {M : Tab} {L : List Bnd} (h : Same M L) {y : List Bnd} (hp : y.Perm (M.map fun p => p.2)) (hy : Rising y) : y = L := by
  have hpl : y.Perm L := hp.trans h.perm.symm
  have hap : (L.map Q.keyB).Nodup := h.kper.nodup_iff.2 h.nodup
  refine List.Perm.eq_of_pairwise (le := fun a b => cmpB a b ≤ 0) ?_ hy h.rise hpl
  intro a b ha hb h1 h2
  have ha' : a ∈ L := hpl.mem_iff.1 ha
  have := ordB.neg a b
  exact key_inj hap ha' hb (cmpB_key (h.formed a ha') (h.formed b hb) (by omega))
theorem Same.nil : Same [] [] := ⟨.refl _, List.Pairwise.nil, (fun p hp => absurd hp (by simp)), List.Pairwise.nil⟩
def rSetE (L : List Bnd) (b : Bnd) : Int := if formedB b = true then (if 16 ≤ cntB b.path L then 194 else 0) else 130
theorem Same.setE {M : Tab} {L : List Bnd} (h : Same M L) {b : Bnd} (hn : Q.keyB b ∉ L.map Q.keyB) : Wr.setE M b = rSetE L b := by
  unfold Wr.setE rSetE
  rw [h.cnt]
  by_cases hf : formedB b = true
  · rw [if_pos hf, if_pos hf]
    have hg : (getA (b.path, b.name) M).isNone = true := by
      rw [Option.isNone_iff_eq_none, ← Option.not_isSome_iff_eq_none]
      exact fun e => hn ((h.has _).1 e)
    simp [hg]
  · rw [if_neg hf, if_neg hf]
theorem Same.set {M : Tab} {L : List Bnd} (h : Same M L) {b : Bnd} (hn : Q.keyB b ∉ L.map Q.keyB) (h0 : rSetE L b = 0) : Same (setM M b) (insF b false L) := by
  have hf : formedB b = true := by
    unfold rSetE at h0
    by_cases hf : formedB b = true
    · exact hf
    · rw [if_neg hf] at h0; cases h0
  have hk : (b.path, b.name) ∉ M.map (fun x => x.1) := fun e => hn (h.kper.mem_iff.2 e)
  have hm : setM M b = M ++ [((b.path, b.name), b)] := by
    unfold setM
    rw [if_pos (by rw [h.setE hn, h0]), put_new hk]
  rw [hm]
  refine ⟨?_, insF_rising hf h.formed h.rise, ?_, ?_⟩
  · rw [List.map_append]
    refine (insF_perm b L).trans ?_
    refine (List.Perm.cons b h.perm).trans ?_
    simpa using (List.perm_append_singleton b (M.map fun p => p.2)).symm
  · intro p hp
    rcases List.mem_append.1 hp with hp | hp
    · exact h.keys p hp
    · simp only [List.mem_singleton] at hp; subst hp; exact ⟨rfl, hf⟩
  · rw [List.map_append, List.nodup_append]
    refine ⟨h.nodup, by simp, ?_⟩
    intro x hx y hy
    simp only [List.map_cons, List.map_nil, List.mem_singleton] at hy
    subst hy
    exact fun e => hk (e ▸ hx)
end Go.Proofs.YtphddbijdfmpjaaDoor.Q
namespace Go.Proofs.YtphddbijdfmpjaaDoor.Q
open Go.RowKit Go.Proofs.YtphddbijdfmpjaaDoorW.PrintWords Go.Proofs.YtphddbijdfmpjaaDoorW.PrintLast Go.Proofs.YtphddbijdfmpjaaDoorW.PrintMore
attribute [local go_sem] max2_int min2_int max_two min_two max_three min_three max_four min_four   -- for this text's walks alone
set_option linter.unusedVariables false
set_option linter.unusedSimpArgs false
mutual
def bursarref04_Name.j0 : Nat → ByteArray → Bool → Option (Bool)
  | 0, _, _ => none
  | k + 1, x0, x25 => if x25 = true then (some false) else (bursarref04_Name.l0 k x0 0)
def bursarref04_Name.l0 : Nat → ByteArray → Int → Option (Bool)
  | 0, _, _ => none
  | k + 1, x0, x3 => if x3 < (x0.size : Int) then (if 0 ≤ x3 then (if (bt x0 x3) ≥ 97 then (if ((bt x0 x3) ≤ 122) then (bursarref04_Name.l0 k x0 (wrap64 (x3 + 1))) else (if (bt x0 x3) ≥ 48 then (if ((bt x0 x3) ≤ 57) then (bursarref04_Name.l0 k x0 (wrap64 (x3 + 1))) else (if (bt x0 x3) = 45 then (bursarref04_Name.l0 k x0 (wrap64 (x3 + 1))) else (some false))) else (if (bt x0 x3) = 45 then (bursarref04_Name.l0 k x0 (wrap64 (x3 + 1))) else (some false)))) else (if (bt x0 x3) ≥ 48 then (if ((bt x0 x3) ≤ 57) then (bursarref04_Name.l0 k x0 (wrap64 (x3 + 1))) else (if (bt x0 x3) = 45 then (bursarref04_Name.l0 k x0 (wrap64 (x3 + 1))) else (some false))) else (if (bt x0 x3) = 45 then (bursarref04_Name.l0 k x0 (wrap64 (x3 + 1))) else (some false)))) else (none)) else (some true)
end
def bursarref04_Name.f (k : Nat) (a0 : ByteArray) : Option (Bool) := if (a0.size : Int) < 1 then (bursarref04_Name.j0 k a0 true) else (if (a0.size : Int) > 32 then (bursarref04_Name.j0 k a0 true) else (if 0 < (a0.size : Int) then (if (bt a0 0) = 45 then (bursarref04_Name.j0 k a0 true) else (if 0 ≤ (wrap64 ((a0.size : Int) - 1)) then (if (wrap64 ((a0.size : Int) - 1)) < (a0.size : Int) then (bursarref04_Name.j0 k a0 ((bt a0 (wrap64 ((a0.size : Int) - 1))) == 45)) else (none)) else (none))) else (none)))
theorem bursarref04_Name.mono_l : ∀ k, (∀ y0 y1, LeO (bursarref04_Name.j0 k y0 y1) (bursarref04_Name.j0 (k + 1) y0 y1)) ∧ (∀ y0 y1, LeO (bursarref04_Name.l0 k y0 y1) (bursarref04_Name.l0 (k + 1) y0 y1))
  | 0 => ⟨fun _ _ r h => by simp [bursarref04_Name.j0] at h, fun _ _ r h => by simp [bursarref04_Name.l0] at h⟩
  | k + 1 => by
    obtain ⟨ih0, ih1⟩ := bursarref04_Name.mono_l k
    refine ⟨?_, ?_⟩
    · intro y0 y1
      unfold bursarref04_Name.j0
      repeat' first
      | (with_reducible exact ih0 _ _)
      | (with_reducible exact ih1 _ _)
      | (with_reducible exact LeO.refl _)
      | (with_reducible exact LeO.none _)
      | (with_reducible refine LeO.ite ?_ ?_)
      | (with_reducible refine LeO.bind ?_ (fun _ => ?_))
      | exact ih0 _ _
      | exact ih1 _ _
      | exact LeO.none _
      | refine LeO.ite ?_ ?_
      | refine LeO.bind ?_ (fun _ => ?_)
    · intro y0 y1
      unfold bursarref04_Name.l0
      repeat' first
      | (with_reducible exact ih0 _ _)
      | (with_reducible exact ih1 _ _)
      | (with_reducible exact LeO.refl _)
      | (with_reducible exact LeO.none _)
      | (with_reducible refine LeO.ite ?_ ?_)
      | (with_reducible refine LeO.bind ?_ (fun _ => ?_))
      | exact ih0 _ _
      | exact ih1 _ _
      | exact LeO.none _
      | refine LeO.ite ?_ ?_
      | refine LeO.bind ?_ (fun _ => ?_)
theorem bursarref04_Name.mono : ∀ a0 k, LeO (bursarref04_Name.f k a0) (bursarref04_Name.f (k + 1) a0) := by
  intro a0 k
  obtain ⟨ih0, ih1⟩ := bursarref04_Name.mono_l k
  unfold bursarref04_Name.f
  repeat' first
      | (with_reducible exact ih0 _ _)
      | (with_reducible exact ih1 _ _)
      | (with_reducible exact LeO.refl _)
      | (with_reducible exact LeO.none _)
      | (with_reducible refine LeO.ite ?_ ?_)
      | (with_reducible refine LeO.bind ?_ (fun _ => ?_))
      | exact ih0 _ _
      | exact ih1 _ _
      | exact LeO.none _
      | refine LeO.ite ?_ ?_
      | refine LeO.bind ?_ (fun _ => ?_)
end Go.Proofs.YtphddbijdfmpjaaDoor.Q
namespace Go.Proofs.YtphddbijdfmpjaaDoor.Q
open Go.RowKit Go.Proofs.YtphddbijdfmpjaaDoorW.PrintWords Go.Proofs.YtphddbijdfmpjaaDoorW.PrintLast Go.Proofs.YtphddbijdfmpjaaDoorW.PrintMore
attribute [local go_sem] max2_int min2_int max_two min_two max_three min_three max_four min_four   -- for this text's walks alone
set_option linter.unusedVariables false
set_option linter.unusedSimpArgs false
def bursarref04_pieces.l0 : Nat → ByteArray → Int → List ByteArray → Int → Int → Option (List ByteArray)
  | 0, _, _, _, _, _ => none
  | k + 1, x0, x1, x5, x6, x7 => if x7 ≤ (x0.size : Int) then (if x7 = (x0.size : Int) then (if 0 ≤ x6 then (if x6 ≤ x7 then (if x5.length < 8796093022208 then (bursarref04_pieces.l0 k x0 x1 (x5 ++ [x0.extract (x6 : Int).toNat (x7 : Int).toNat]) (wrap64 (x7 + 1)) (wrap64 (x7 + 1))) else (none)) else (none)) else (none)) else (if 0 ≤ x7 then (if x7 < (x0.size : Int) then (if (bt x0 x7) = x1 then (if 0 ≤ x6 then (if x6 ≤ x7 then (if x5.length < 8796093022208 then (bursarref04_pieces.l0 k x0 x1 (x5 ++ [x0.extract (x6 : Int).toNat (x7 : Int).toNat]) (wrap64 (x7 + 1)) (wrap64 (x7 + 1))) else (none)) else (none)) else (none)) else (bursarref04_pieces.l0 k x0 x1 x5 x6 (wrap64 (x7 + 1)))) else (none)) else (none))) else (some x5)
def bursarref04_pieces.f (k : Nat) (a0 : ByteArray) (a1 : Int) : Option (List ByteArray) := bursarref04_pieces.l0 k a0 a1 ([] : List ByteArray) 0 0
theorem bursarref04_pieces.mono_l : ∀ k, (∀ y0 y1 y2 y3 y4, LeO (bursarref04_pieces.l0 k y0 y1 y2 y3 y4) (bursarref04_pieces.l0 (k + 1) y0 y1 y2 y3 y4))
  | 0 => fun _ _ _ _ _ r h => by simp [bursarref04_pieces.l0] at h
  | k + 1 => by
    have ih0 := bursarref04_pieces.mono_l k
    · intro y0 y1 y2 y3 y4
      unfold bursarref04_pieces.l0
      repeat' first
      | (with_reducible exact ih0 _ _ _ _ _)
      | (with_reducible exact LeO.refl _)
      | (with_reducible exact LeO.none _)
      | (with_reducible refine LeO.ite ?_ ?_)
      | (with_reducible refine LeO.bind ?_ (fun _ => ?_))
      | exact ih0 _ _ _ _ _
      | exact LeO.none _
      | refine LeO.ite ?_ ?_
      | refine LeO.bind ?_ (fun _ => ?_)
theorem bursarref04_pieces.mono : ∀ a0 a1 k, LeO (bursarref04_pieces.f k a0 a1) (bursarref04_pieces.f (k + 1) a0 a1) := by
  intro a0 a1 k
  have ih0 := bursarref04_pieces.mono_l k
  unfold bursarref04_pieces.f
  repeat' first
      | (with_reducible exact ih0 _ _ _ _ _)
      | (with_reducible exact LeO.refl _)
      | (with_reducible exact LeO.none _)
      | (with_reducible refine LeO.ite ?_ ?_)
      | (with_reducible refine LeO.bind ?_ (fun _ => ?_))
      | exact ih0 _ _ _ _ _
      | exact LeO.none _
      | refine LeO.ite ?_ ?_
      | refine LeO.bind ?_ (fun _ => ?_)
end Go.Proofs.YtphddbijdfmpjaaDoor.Q
namespace Go.Proofs.YtphddbijdfmpjaaDoor.Q
open Go.RowKit Go.Proofs.YtphddbijdfmpjaaDoorW.PrintWords Go.Proofs.YtphddbijdfmpjaaDoorW.PrintLast Go.Proofs.YtphddbijdfmpjaaDoorW.PrintMore
attribute [local go_sem] max2_int min2_int max_two min_two max_three min_three max_four min_four   -- for this text's walks alone
set_option linter.unusedVariables false
set_option linter.unusedSimpArgs false
mutual
def bursarref04_Split.j0 : Nat → List ByteArray → Bool → Option (List ByteArray × Int)
  | 0, _, _ => none
  | k + 1, x4, x29 => if x29 = true then (some (([] : List ByteArray), 41)) else (bursarref04_Split.l0 k x4 1)
def bursarref04_Split.l0 : Nat → List ByteArray → Int → Option (List ByteArray × Int)
  | 0, _, _ => none
  | k + 1, x4, x5 => if x5 < (x4.length : Int) then (if 0 ≤ x5 then ((bursarref04_Name.f k (rdOf ByteArray.empty x4 x5)).bind fun t151 => (if t151 = true then (bursarref04_Split.l0 k x4 (wrap64 (x5 + 1))) else (some (([] : List ByteArray), 41)))) else (none)) else (if 1 ≤ (x4.length : Int) then (some ((x4.drop (1 : Int).toNat), 0)) else (none))
end
def bursarref04_Split.f (k : Nat) (a0 : ByteArray) : Option (List ByteArray × Int) := if a0.toList = ([47] : List UInt8) then (some (([] : List ByteArray), 0)) else ((bursarref04_pieces.f k a0 47).bind fun t146 => (if (a0.size : Int) > 64 then (bursarref04_Split.j0 k t146 true) else (if (t146.length : Int) < 2 then (bursarref04_Split.j0 k t146 true) else (if (t146.length : Int) > 9 then (bursarref04_Split.j0 k t146 true) else (if 0 < (t146.length : Int) then (bursarref04_Split.j0 k t146 ((rdOf ByteArray.empty t146 0).toList != ([] : List UInt8))) else (none))))))
theorem bursarref04_Split.mono_l : ∀ k, (∀ y0 y1, LeO (bursarref04_Split.j0 k y0 y1) (bursarref04_Split.j0 (k + 1) y0 y1)) ∧ (∀ y0 y1, LeO (bursarref04_Split.l0 k y0 y1) (bursarref04_Split.l0 (k + 1) y0 y1))
  | 0 => ⟨fun _ _ r h => by simp [bursarref04_Split.j0] at h, fun _ _ r h => by simp [bursarref04_Split.l0] at h⟩
  | k + 1 => by
    obtain ⟨ih0, ih1⟩ := bursarref04_Split.mono_l k
    refine ⟨?_, ?_⟩
    · intro y0 y1
      unfold bursarref04_Split.j0
      repeat' first
      | (with_reducible exact ih0 _ _)
      | (with_reducible exact ih1 _ _)
      | (with_reducible exact bursarref04_Name.mono _ _)
      | (with_reducible exact bursarref04_pieces.mono _ _ _)
      | (with_reducible exact LeO.refl _)
      | (with_reducible exact LeO.none _)
      | (with_reducible refine LeO.ite ?_ ?_)
      | (with_reducible refine LeO.bind ?_ (fun _ => ?_))
      | exact ih0 _ _
      | exact ih1 _ _
      | exact bursarref04_Name.mono _ _
      | exact bursarref04_pieces.mono _ _ _
      | exact LeO.none _
      | refine LeO.ite ?_ ?_
      | refine LeO.bind ?_ (fun _ => ?_)
    · intro y0 y1
      unfold bursarref04_Split.l0
      repeat' first
      | (with_reducible exact ih0 _ _)
      | (with_reducible exact ih1 _ _)
      | (with_reducible exact bursarref04_Name.mono _ _)
      | (with_reducible exact bursarref04_pieces.mono _ _ _)
      | (with_reducible exact LeO.refl _)
      | (with_reducible exact LeO.none _)
      | (with_reducible refine LeO.ite ?_ ?_)
      | (with_reducible refine LeO.bind ?_ (fun _ => ?_))
      | exact ih0 _ _
      | exact ih1 _ _
      | exact bursarref04_Name.mono _ _
      | exact bursarref04_pieces.mono _ _ _
      | exact LeO.none _
      | refine LeO.ite ?_ ?_
      | refine LeO.bind ?_ (fun _ => ?_)
theorem bursarref04_Split.mono : ∀ a0 k, LeO (bursarref04_Split.f k a0) (bursarref04_Split.f (k + 1) a0) := by
  intro a0 k
  obtain ⟨ih0, ih1⟩ := bursarref04_Split.mono_l k
  unfold bursarref04_Split.f
  repeat' first
      | (with_reducible exact ih0 _ _)
      | (with_reducible exact ih1 _ _)
      | (with_reducible exact bursarref04_Name.mono _ _)
      | (with_reducible exact bursarref04_pieces.mono _ _ _)
      | (with_reducible exact LeO.refl _)
      | (with_reducible exact LeO.none _)
      | (with_reducible refine LeO.ite ?_ ?_)
      | (with_reducible refine LeO.bind ?_ (fun _ => ?_))
      | exact ih0 _ _
      | exact ih1 _ _
      | exact bursarref04_Name.mono _ _
      | exact bursarref04_pieces.mono _ _ _
      | exact LeO.none _
      | refine LeO.ite ?_ ?_
      | refine LeO.bind ?_ (fun _ => ?_)
end Go.Proofs.YtphddbijdfmpjaaDoor.Q
namespace Go.Proofs.YtphddbijdfmpjaaDoor.Q
end Go.Proofs.YtphddbijdfmpjaaDoor.Q
namespace Go.Proofs.YtphddbijdfmpjaaDoor.Q
open Go.RowKit Go.Proofs.YtphddbijdfmpjaaDoorW.PrintWords Go.Proofs.YtphddbijdfmpjaaDoorW.PrintLast Go.Proofs.YtphddbijdfmpjaaDoorW.PrintMore
attribute [local go_sem] binOp_leq_ binOp_gtr_ binOp_geq_ max2_int min2_int max_two min_two max_three min_three max_four min_four   -- for this text's walks alone
set_option linter.unusedVariables false
set_option linter.unusedSimpArgs false
mutual
def bursarref17_Ahead.l0 : Nat → List ByteArray → List ByteArray → Int → Option (Bool)
  | 0, _, _, _ => none
  | k + 1, x5, x7, x9 => if x9 < (x5.length : Int) then (bursarref17_Ahead.j1 k x5 x7 x9 (decide (x9 < (x7.length : Int)))) else (bursarref17_Ahead.j1 k x5 x7 x9 false)
def bursarref17_Ahead.j1 : Nat → List ByteArray → List ByteArray → Int → Bool → Option (Bool)
  | 0, _, _, _, _ => none
  | k + 1, x5, x7, x9, x29 => if x29 = true then (if 0 ≤ x9 then (if x9 < (x5.length : Int) then (if x9 < (x7.length : Int) then (if (rdOf ByteArray.empty x5 x9).toList = (rdOf ByteArray.empty x7 x9).toList then (bursarref17_Ahead.l0 k x5 x7 (wrap64 (x9 + 1))) else (some (Op.bytesLess ((rdOf ByteArray.empty x5 x9).toList) ((rdOf ByteArray.empty x7 x9).toList)))) else (none)) else (none)) else (none)) else (some (decide ((x5.length : Int) < (x7.length : Int))))
end
def bursarref17_Ahead.f (k : Nat) (a0 : ByteArray) (a1 : ByteArray) : Option (Bool) := (bursarref04_Split.f k a0).bind fun bt155 => ((bursarref04_Split.f k a1).bind fun bt159 => (bursarref17_Ahead.l0 k bt155.1 bt159.1 0))
theorem bursarref17_Ahead.mono_l : ∀ k, (∀ y0 y1 y2, LeO (bursarref17_Ahead.l0 k y0 y1 y2) (bursarref17_Ahead.l0 (k + 1) y0 y1 y2)) ∧ (∀ y0 y1 y2 y3, LeO (bursarref17_Ahead.j1 k y0 y1 y2 y3) (bursarref17_Ahead.j1 (k + 1) y0 y1 y2 y3))
  | 0 => ⟨fun _ _ _ r h => by simp [bursarref17_Ahead.l0] at h, fun _ _ _ _ r h => by simp [bursarref17_Ahead.j1] at h⟩
  | k + 1 => by
    obtain ⟨ih0, ih1⟩ := bursarref17_Ahead.mono_l k
    refine ⟨?_, ?_⟩
    · intro y0 y1 y2
      unfold bursarref17_Ahead.l0
      repeat' first
      | (with_reducible exact ih0 _ _ _)
      | (with_reducible exact ih1 _ _ _ _)
      | (with_reducible exact bursarref04_Split.mono _ _)
      | (with_reducible exact LeO.refl _)
      | (with_reducible exact LeO.none _)
      | (with_reducible refine LeO.ite ?_ ?_)
      | (with_reducible refine LeO.bind ?_ (fun _ => ?_))
      | exact ih0 _ _ _
      | exact ih1 _ _ _ _
      | exact bursarref04_Split.mono _ _
      | exact LeO.none _
      | refine LeO.ite ?_ ?_
      | refine LeO.bind ?_ (fun _ => ?_)
    · intro y0 y1 y2 y3
      unfold bursarref17_Ahead.j1
      repeat' first
      | (with_reducible exact ih0 _ _ _)
      | (with_reducible exact ih1 _ _ _ _)
      | (with_reducible exact bursarref04_Split.mono _ _)
      | (with_reducible exact LeO.refl _)
      | (with_reducible exact LeO.none _)
      | (with_reducible refine LeO.ite ?_ ?_)
      | (with_reducible refine LeO.bind ?_ (fun _ => ?_))
      | exact ih0 _ _ _
      | exact ih1 _ _ _ _
      | exact bursarref04_Split.mono _ _
      | exact LeO.none _
      | refine LeO.ite ?_ ?_
      | refine LeO.bind ?_ (fun _ => ?_)
theorem bursarref17_Ahead.mono : ∀ a0 a1 k, LeO (bursarref17_Ahead.f k a0 a1) (bursarref17_Ahead.f (k + 1) a0 a1) := by
  intro a0 a1 k
  obtain ⟨ih0, ih1⟩ := bursarref17_Ahead.mono_l k
  unfold bursarref17_Ahead.f
  repeat' first
      | (with_reducible exact ih0 _ _ _)
      | (with_reducible exact ih1 _ _ _ _)
      | (with_reducible exact bursarref04_Split.mono _ _)
      | (with_reducible exact LeO.refl _)
      | (with_reducible exact LeO.none _)
      | (with_reducible refine LeO.ite ?_ ?_)
      | (with_reducible refine LeO.bind ?_ (fun _ => ?_))
      | exact ih0 _ _ _
      | exact ih1 _ _ _ _
      | exact bursarref04_Split.mono _ _
      | exact LeO.none _
      | refine LeO.ite ?_ ?_
      | refine LeO.bind ?_ (fun _ => ?_)
end Go.Proofs.YtphddbijdfmpjaaDoor.Q
namespace Go.Proofs.YtphddbijdfmpjaaDoor.Q
open Go.RowKit Go.Proofs.YtphddbijdfmpjaaDoorW.PrintWords Go.Proofs.YtphddbijdfmpjaaDoorW.PrintLast Go.Proofs.YtphddbijdfmpjaaDoorW.PrintMore
attribute [local go_sem] max2_int min2_int max_two min_two max_three min_three max_four min_four   -- for this text's walks alone
set_option linter.unusedVariables false
set_option linter.unusedSimpArgs false
def bursarref04_Path.f (k : Nat) (a0 : ByteArray) : Option (Int) := (bursarref04_Split.f k a0).bind fun bt167 => (some bt167.2)
theorem bursarref04_Path.mono : ∀ a0 k, LeO (bursarref04_Path.f k a0) (bursarref04_Path.f (k + 1) a0) := by
  intro a0 k
  unfold bursarref04_Path.f
  repeat' first
      | (with_reducible exact bursarref04_Split.mono _ _)
      | (with_reducible exact LeO.refl _)
      | (with_reducible exact LeO.none _)
      | (with_reducible refine LeO.ite ?_ ?_)
      | (with_reducible refine LeO.bind ?_ (fun _ => ?_))
      | exact bursarref04_Split.mono _ _
      | exact LeO.none _
      | refine LeO.ite ?_ ?_
      | refine LeO.bind ?_ (fun _ => ?_)
end Go.Proofs.YtphddbijdfmpjaaDoor.Q
namespace Go.Proofs.YtphddbijdfmpjaaDoor.Q
open Go.RowKit Go.Proofs.YtphddbijdfmpjaaDoorW.PrintWords Go.Proofs.YtphddbijdfmpjaaDoorW.PrintLast Go.Proofs.YtphddbijdfmpjaaDoorW.PrintMore
attribute [local go_sem] max2_int min2_int max_two min_two max_three min_three max_four min_four   -- for this text's walks alone
set_option linter.unusedVariables false
set_option linter.unusedSimpArgs false
def bursarref13_named.f (k : Nat) (a0 : ByteArray) (a1 : ByteArray) : Option (Bool) := (bursarref04_Path.f k a0).bind fun t171 => (if t171 = 0 then ((bursarref04_Name.f k a1).bind fun t172 => (some t172)) else (some false))
theorem bursarref13_named.mono : ∀ a0 a1 k, LeO (bursarref13_named.f k a0 a1) (bursarref13_named.f (k + 1) a0 a1) := by
  intro a0 a1 k
  unfold bursarref13_named.f
  repeat' first
      | (with_reducible exact bursarref04_Name.mono _ _)
      | (with_reducible exact bursarref04_Path.mono _ _)
      | (with_reducible exact LeO.refl _)
      | (with_reducible exact LeO.none _)
      | (with_reducible refine LeO.ite ?_ ?_)
      | (with_reducible refine LeO.bind ?_ (fun _ => ?_))
      | exact bursarref04_Name.mono _ _
      | exact bursarref04_Path.mono _ _
      | exact LeO.none _
      | refine LeO.ite ?_ ?_
      | refine LeO.bind ?_ (fun _ => ?_)
end Go.Proofs.YtphddbijdfmpjaaDoor.Q
namespace Go.Proofs.YtphddbijdfmpjaaDoor.Q
open Go.RowKit Go.Proofs.YtphddbijdfmpjaaDoorW.PrintWords Go.Proofs.YtphddbijdfmpjaaDoorW.PrintLast Go.Proofs.YtphddbijdfmpjaaDoorW.PrintMore
attribute [local go_sem] max2_int min2_int max_two min_two max_three min_three max_four min_four   -- for this text's walks alone
set_option linter.unusedVariables false
set_option linter.unusedSimpArgs false
def bursarref13_FormedBinding.f (k : Nat) (a0_0 : ByteArray) (a0_1 : ByteArray) (a0_2 : ByteArray) (a0_3 : Int) : Option (Bool) := (bursarref13_named.f k a0_0 a0_1).bind fun t174 => (if t174 = true then ((bursarref04_Name.f k a0_2).bind fun t175 => (if t175 = true then (if a0_3 ≥ 0 then (some (decide (a0_3 ≤ 3))) else (some false)) else (some false))) else (some false))
theorem bursarref13_FormedBinding.mono : ∀ a0 a1 a2 a3 k, LeO (bursarref13_FormedBinding.f k a0 a1 a2 a3) (bursarref13_FormedBinding.f (k + 1) a0 a1 a2 a3) := by
  intro a0 a1 a2 a3 k
  unfold bursarref13_FormedBinding.f
  repeat' first
      | (with_reducible exact bursarref04_Name.mono _ _)
      | (with_reducible exact bursarref13_named.mono _ _ _)
      | (with_reducible exact LeO.refl _)
      | (with_reducible exact LeO.none _)
      | (with_reducible refine LeO.ite ?_ ?_)
      | (with_reducible refine LeO.bind ?_ (fun _ => ?_))
      | exact bursarref04_Name.mono _ _
      | exact bursarref13_named.mono _ _ _
      | exact LeO.none _
      | refine LeO.ite ?_ ?_
      | refine LeO.bind ?_ (fun _ => ?_)
end Go.Proofs.YtphddbijdfmpjaaDoor.Q
namespace Go.Proofs.YtphddbijdfmpjaaDoor.Q
open Go.RowKit Go.Proofs.YtphddbijdfmpjaaDoorW.PrintWords Go.Proofs.YtphddbijdfmpjaaDoorW.PrintLast Go.Proofs.YtphddbijdfmpjaaDoorW.PrintMore
attribute [local go_sem] max2_int min2_int max_two min_two max_three min_three max_four min_four   -- for this text's walks alone
set_option linter.unusedVariables false
set_option linter.unusedSimpArgs false
def bursarref13_judged.f (a0 : Bool) (a1 : ByteArray) : Option (Int) := if a0 = true then (if (a1.size : Int) > 8192 then (some 23) else (some 0)) else (some 130)
end Go.Proofs.YtphddbijdfmpjaaDoor.Q
namespace Go.Proofs.YtphddbijdfmpjaaDoor.Q
open Go.RowKit Go.Proofs.YtphddbijdfmpjaaDoorW.PrintWords Go.Proofs.YtphddbijdfmpjaaDoorW.PrintLast Go.Proofs.YtphddbijdfmpjaaDoorW.PrintMore
attribute [local go_sem] max2_int min2_int max_two min_two max_three min_three max_four min_four   -- for this text's walks alone
set_option linter.unusedVariables false
set_option linter.unusedSimpArgs false
def bursarref13_ValidBinding.f (k : Nat) (a0_0 : ByteArray) (a0_1 : ByteArray) (a0_2 : ByteArray) (a0_3 : Int) : Option (Int) := (bursarref13_FormedBinding.f k a0_0 a0_1 a0_2 a0_3).bind fun t177 => ((bursarref13_judged.f t177 (⟨#[]⟩ : ByteArray)).bind fun t178 => (some t178))
theorem bursarref13_ValidBinding.mono : ∀ a0 a1 a2 a3 k, LeO (bursarref13_ValidBinding.f k a0 a1 a2 a3) (bursarref13_ValidBinding.f (k + 1) a0 a1 a2 a3) := by
  intro a0 a1 a2 a3 k
  unfold bursarref13_ValidBinding.f
  repeat' first
      | (with_reducible exact bursarref13_FormedBinding.mono _ _ _ _ _)
      | (with_reducible exact LeO.refl _)
      | (with_reducible exact LeO.none _)
      | (with_reducible refine LeO.ite ?_ ?_)
      | (with_reducible refine LeO.bind ?_ (fun _ => ?_))
      | exact bursarref13_FormedBinding.mono _ _ _ _ _
      | exact LeO.none _
      | refine LeO.ite ?_ ?_
      | refine LeO.bind ?_ (fun _ => ?_)
end Go.Proofs.YtphddbijdfmpjaaDoor.Q
namespace Go.Proofs.YtphddbijdfmpjaaDoor.Q
end Go.Proofs.YtphddbijdfmpjaaDoor.Q
namespace Go.Proofs.YtphddbijdfmpjaaDoor.Q
open Go.RowKit Go.MapRaw Go.Proofs.YtphddbijdfmpjaaDoorW.PrintWords Go.Proofs.YtphddbijdfmpjaaDoorW.PrintLast Go.Proofs.YtphddbijdfmpjaaDoor.Wr
set_option linter.unusedVariables false
set_option linter.unusedSimpArgs false
structure RT (w : World) (r base : Nat) (v : Value) (L : List Bnd) : Prop where
  blk : w.heap[r]? = some (.cells #[v] 79 (0, 0))
  row : Kd.R k27 27 w base (fun k => k ≠ r) v L
theorem RT.below {w w' : World} {r base : Nat} {v : Value} {L : List Bnd} (h : RT w r base v L) (hb : Below w.heap.size w w') : RT w' r base v L := ⟨blk_below h.blk hb, Kd.R_below h.row hb⟩
end Go.Proofs.YtphddbijdfmpjaaDoor.Q
namespace Go.Proofs.YtphddbijdfmpjaaDoor.Q
end Go.Proofs.YtphddbijdfmpjaaDoor.Q
namespace Go.Proofs.YtphddbijdfmpjaaDoor.Q
end Go.Proofs.YtphddbijdfmpjaaDoor.Q
namespace Go.Proofs.YtphddbijdfmpjaaDoor.Q
open Go.RowKit Go.MapRaw Go.Proofs.YtphddbijdfmpjaaDoorW.PrintWords Go.Proofs.YtphddbijdfmpjaaDoorW.PrintLast Go.Proofs.YtphddbijdfmpjaaDoor.Wr
set_option linter.unusedVariables false
set_option linter.unusedSimpArgs false
def Small27 (l : List Bnd) : Prop := l.length ≤ 1048576 ∧ ∀ x ∈ l, x.path.size ≤ 1048576
theorem same_self2 {ar : Array Value} {w : World} {L : List Bnd} (h : Calls Tryd.prog 16 ar w fun e w' => e = .returned (.bool (sameB L L)) ∧ Below w.heap.size w w') : Calls Tryd.prog 16 ar w fun e w' => e = .returned (.bool true) ∧ Below w.heap.size w w' := by
  rw [(sameB_iff L L).2 rfl] at h; exact h
end Go.Proofs.YtphddbijdfmpjaaDoor.Q
namespace Go.Proofs.YtphddbijdfmpjaaDoor.Q
end Go.Proofs.YtphddbijdfmpjaaDoor.Q
namespace Go.Proofs.YtphddbijdfmpjaaDoor.Q
open Go.RowKit Go.MapRaw Go.Proofs.YtphddbijdfmpjaaDoorW.PrintWords Go.Proofs.YtphddbijdfmpjaaDoorW.PrintLast Go.Proofs.YtphddbijdfmpjaaDoor.Wr
open Go.ChangeMaps (setBlock)
set_option linter.unusedVariables false
set_option linter.unusedSimpArgs false
theorem told_exists {M : Tab} (hf : ∀ p ∈ M, p.1 = (p.2.path, p.2.name) ∧ formedB p.2 = true) : ∃ L, Told M L := by
  refine ⟨(M.map fun p => p.2).mergeSort (fun a b => decide (cmpB a b ≤ 0)), List.mergeSort_perm _ _, ?_, hf⟩
  have h := List.pairwise_mergeSort (le := fun a b => decide (cmpB a b ≤ 0)) (fun a b c h1 h2 => by
    simp only [decide_eq_true_eq] at h1 h2 ⊢
    exact ordB.le a b c h1 h2) (fun a b => by
    have := ordB.neg a b
    simp only [Bool.or_eq_true, decide_eq_true_eq]
    omega) (M.map fun p => p.2)
  exact h.imp (fun h => of_decide_eq_true h)
end Go.Proofs.YtphddbijdfmpjaaDoor.Q
