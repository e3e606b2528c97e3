/- What the statement AccessPlaysUptoCardSaid rests on, part 5 of 6: walks and plain laws; what of the printer's words it leans on. -/
import Derived.Test.YtphddbijdfmpjaaGreatDoorMPL3
import Derived.Test.YtphddbijdfmpjaaGreatDoorMPL4
import Derived.Lib.SlicesCompact
namespace Go.Proofs.YtphddbijdfmpjaaGreatDoor.Q
open Go.RowKit Go.Proofs.YtphddbijdfmpjaaGreatDoorW.PrintWords Go.Proofs.YtphddbijdfmpjaaGreatDoorW.PrintLast Go.Proofs.YtphddbijdfmpjaaGreatDoorW.PrintMore
attribute [local go_sem] max2_int min2_int max_two min_two max_three min_three max_four min_four   -- for this text's walks alone
set_option linter.unusedVariables false
set_option linter.unusedSimpArgs false
def bursarref13_FormedBinding.f (k : Nat) (a0_0 : ByteArray) (a0_1 : ByteArray) (a0_2 : ByteArray) (a0_3 : Int) : Option (Bool) := (bursarref13_named.f k a0_0 a0_1).bind fun t172 => (if t172 = true then ((bursarref04_Name.f k a0_2).bind fun t173 => (if t173 = true then (if a0_3 ≥ 0 then (some (decide (a0_3 ≤ 3))) else (some false)) else (some false))) else (some false))
theorem bursarref13_FormedBinding.mono : ∀ a0 a1 a2 a3 k, LeO (bursarref13_FormedBinding.f k a0 a1 a2 a3) (bursarref13_FormedBinding.f (k + 1) a0 a1 a2 a3) := by
  intro a0 a1 a2 a3 k
  unfold bursarref13_FormedBinding.f
  repeat' first
      | (with_reducible exact bursarref04_Name.mono _ _)
      | (with_reducible exact bursarref13_named.mono _ _ _)
      | (with_reducible exact LeO.refl _)
      | (with_reducible exact LeO.none _)
      | (with_reducible refine LeO.ite ?_ ?_)
      | (with_reducible refine LeO.bind ?_ (fun _ => ?_))
      | exact bursarref04_Name.mono _ _
      | exact bursarref13_named.mono _ _ _
      | exact LeO.none _
      | refine LeO.ite ?_ ?_
      | refine LeO.bind ?_ (fun _ => ?_)
set_option maxHeartbeats 8000000 in
set_option maxRecDepth 100000 in
theorem bursarref13_FormedBinding.calls (k : Nat) (a0_0 : ByteArray) (a0_1 : ByteArray) (a0_2 : ByteArray) (a0_3 : Int) (r : Bool) (w : World) (h : bursarref13_FormedBinding.f k a0_0 a0_1 a0_2 a0_3 = some r) :
    Calls Tryz.prog 50 #[.agg #[.string a0_0, .string a0_1, .string a0_2, .int .i64 a0_3]] w fun e w' => e = .returned (.bool r) ∧ Below w.heap.size w w' := by
  have hu28 := Tryz.underlying28
  have HB := Aside0.mk (Below.refl w.heap.size w)
  have H : ((bursarref13_named.f k a0_0 a0_1).bind fun t172 => (if t172 = true then ((bursarref04_Name.f k a0_2).bind fun t173 => (if t173 = true then (if a0_3 ≥ 0 then (some (decide (a0_3 ≤ 3))) else (some false)) else (some false))) else (some false))) = some r := h
  clear h
  replace H := Option.bind_eq_some_iff.mp H
  obtain ⟨t172, A20, H⟩ := H
  replace H : (if t172 = true then ((bursarref04_Name.f k a0_2).bind fun t173 => (if t173 = true then (if a0_3 ≥ 0 then (some (decide (a0_3 ≤ 3))) else (some false)) else (some false))) else (some false)) = some r := H
  have A2 := Aside0.mk A20
  clear A20
  by_cases c3 : t172 = true
  · subst c3
    have H1 : ((bursarref04_Name.f k a0_2).bind fun t173 => (if t173 = true then (if a0_3 ≥ 0 then (some (decide (a0_3 ≤ 3))) else (some false)) else (some false))) = some r := by rw [if_pos rfl] at H; exact H
    clear H
    have H := H1
    clear H1
    replace H := Option.bind_eq_some_iff.mp H
    obtain ⟨t173, A40, H⟩ := H
    replace H : (if t173 = true then (if a0_3 ≥ 0 then (some (decide (a0_3 ≤ 3))) else (some false)) else (some false)) = some r := H
    have A4 := Aside0.mk A40
    clear A40
    by_cases c5 : t173 = true
    · subst c5
      have H1 : (if a0_3 ≥ 0 then (some (decide (a0_3 ≤ 3))) else (some false)) = some r := by rw [if_pos rfl] at H; exact H
      clear H
      have H := H1
      clear H1
      by_cases c6 : a0_3 ≥ 0
      · rw [if_pos c6] at H
        have c6b0 : decide (0 ≤ a0_3) = true := decide_eq_true c6
        clear c6
        obtain rfl := Option.some.inj H
        go_enter Tryz.func50, Tryz.ntmps50
        go_wp2_with (first | ((with_reducible refine gate_dst (N := 1) rfl ?_); refine box_event ?hg (N := 1) ?hd (cs := #[.string a0_0, .string a0_1, .string a0_2, .int .i64 a0_3]) (t := 28) ?hr ?_; (case hd => rfl); (case hg => rfl); (case hr => first | (go_simp; done) | (go_simp; rfl)); intro gb171 hg w7 hbox hb; have n0_ := Aside0.mk (below_step (by repeat (first | (with_reducible first | exact HB.out | apply below_alloc | apply pw_below_drewN | apply below_drew1) | exact HB.out)) hb); have n1_ := Aside0.mk (hbox); have n2_ := Aside0.mk ((by rw [hg]; exact (below_size (by repeat (first | (with_reducible first | exact HB.out | apply below_alloc | apply pw_below_drewN | apply below_drew1) | exact HB.out))) : w.heap.size ≤ gb171)); have n3_ := Aside0.mk ((by rw [hg]; exact (below_size (by repeat (first | (with_reducible first | exact HB.out | apply below_alloc | apply pw_below_drewN | apply below_drew1) | exact HB.out))) : w.heap.size ≤ gb171)); clear HB; have HB := n0_; have BK171 := n1_; have GW171 := n2_; have GE171 := n3_; clear n0_ n1_ n2_ n3_; clear hb hbox hg; have hcz8_0 : w7.cell? ⟨gb171, 0, none⟩ = some (.string a0_0) := (blk_cell BK171.out 0).trans rfl; have hcz8_1 : w7.cell? ⟨gb171, 1, none⟩ = some (.string a0_1) := (blk_cell BK171.out 1).trans rfl; have hcz8_2 : w7.cell? ⟨gb171, 2, none⟩ = some (.string a0_2) := (blk_cell BK171.out 2).trans rfl; have hcz8_3 : w7.cell? ⟨gb171, 3, none⟩ = some (.int .i64 a0_3) := (blk_cell BK171.out 3).trans rfl; have hfz8_0 := blk_frozen BK171.out 0; have hfz8_1 := blk_frozen BK171.out 1; have hfz8_2 := blk_frozen BK171.out 2; have hfz8_3 := blk_frozen BK171.out 3) | ((with_reducible refine gate_callee (f := 75) rfl ?_); refine goesL_ (some 7) rfl rfl Tryz.func75 (by kernel_rfl) rfl #[.string a0_0, .string a0_1] rfl (by (try simp only [List.map_toArray, List.map_cons, List.map_nil]); first | done | rfl | (simp only [List.length_drop, List.length_take]; rfl)) ?_; (with_reducible refine (bursarref13_named.calls k a0_0 a0_1 true _ A2.out).mono ?_); rintro e w9 ⟨rfl, hb⟩; refine ⟨_, rfl, ?_⟩; have n0_ := Aside0.mk (blk_below (g := gb171) (o := .cells #[.string a0_0, .string a0_1, .string a0_2, .int .i64 a0_3] 28 (0, 0)) (by (with_reducible repeat (first | refine blk_drewN ?_ _ | refine blk_drew ?_ | refine blk_alloc ?_ _)); exact BK171.out) hb); have n1_ := Aside0.mk (below_step (by repeat (first | (with_reducible first | exact HB.out | apply below_alloc | apply pw_below_drewN | apply below_drew1 | refine below_set ?_ GE171.out) | exact HB.out)) hb); clear BK171; clear HB; have BK171 := n0_; have HB := n1_; clear n0_ n1_; (try clear hb); (try clear hb2); (try clear hk); (try clear hi); have hcz10_0 : w9.cell? ⟨gb171, 0, none⟩ = some (.string a0_0) := (blk_cell BK171.out 0).trans rfl; have hcz10_1 : w9.cell? ⟨gb171, 1, none⟩ = some (.string a0_1) := (blk_cell BK171.out 1).trans rfl; have hcz10_2 : w9.cell? ⟨gb171, 2, none⟩ = some (.string a0_2) := (blk_cell BK171.out 2).trans rfl; have hcz10_3 : w9.cell? ⟨gb171, 3, none⟩ = some (.int .i64 a0_3) := (blk_cell BK171.out 3).trans rfl; have hfz10_0 := blk_frozen BK171.out 0; have hfz10_1 := blk_frozen BK171.out 1; have hfz10_2 := blk_frozen BK171.out 2; have hfz10_3 := blk_frozen BK171.out 3) | (go_at_call 76; (with_reducible refine (bursarref04_Name.calls k a0_2 true _ A4.out).mono ?_); rintro e w' ⟨rfl, ⟨nd, rfl⟩⟩))
        go_ret
        exact ⟨by first | rfl | (simp [errW_none, errW_some] <;> rfl) | (simp [*, errW_none, errW_some] <;> rfl), by repeat (first | (with_reducible first | exact HB.out | apply below_alloc | apply pw_below_drewN | apply below_drew1 | refine below_set ?_ GE171.out) | exact HB.out)⟩
      · rw [if_neg c6] at H
        have c6b0 : decide (0 ≤ a0_3) = false := decide_eq_false c6
        clear c6
        obtain rfl := Option.some.inj H
        go_enter Tryz.func50, Tryz.ntmps50
        go_wp2_with (first | ((with_reducible refine gate_dst (N := 1) rfl ?_); refine box_event ?hg (N := 1) ?hd (cs := #[.string a0_0, .string a0_1, .string a0_2, .int .i64 a0_3]) (t := 28) ?hr ?_; (case hd => rfl); (case hg => rfl); (case hr => first | (go_simp; done) | (go_simp; rfl)); intro gb171 hg w11 hbox hb; have n0_ := Aside0.mk (below_step (by repeat (first | (with_reducible first | exact HB.out | apply below_alloc | apply pw_below_drewN | apply below_drew1) | exact HB.out)) hb); have n1_ := Aside0.mk (hbox); have n2_ := Aside0.mk ((by rw [hg]; exact (below_size (by repeat (first | (with_reducible first | exact HB.out | apply below_alloc | apply pw_below_drewN | apply below_drew1) | exact HB.out))) : w.heap.size ≤ gb171)); have n3_ := Aside0.mk ((by rw [hg]; exact (below_size (by repeat (first | (with_reducible first | exact HB.out | apply below_alloc | apply pw_below_drewN | apply below_drew1) | exact HB.out))) : w.heap.size ≤ gb171)); clear HB; have HB := n0_; have BK171 := n1_; have GW171 := n2_; have GE171 := n3_; clear n0_ n1_ n2_ n3_; clear hb hbox hg; have hcz12_0 : w11.cell? ⟨gb171, 0, none⟩ = some (.string a0_0) := (blk_cell BK171.out 0).trans rfl; have hcz12_1 : w11.cell? ⟨gb171, 1, none⟩ = some (.string a0_1) := (blk_cell BK171.out 1).trans rfl; have hcz12_2 : w11.cell? ⟨gb171, 2, none⟩ = some (.string a0_2) := (blk_cell BK171.out 2).trans rfl; have hcz12_3 : w11.cell? ⟨gb171, 3, none⟩ = some (.int .i64 a0_3) := (blk_cell BK171.out 3).trans rfl; have hfz12_0 := blk_frozen BK171.out 0; have hfz12_1 := blk_frozen BK171.out 1; have hfz12_2 := blk_frozen BK171.out 2; have hfz12_3 := blk_frozen BK171.out 3) | ((with_reducible refine gate_callee (f := 75) rfl ?_); refine goesL_ (some 7) rfl rfl Tryz.func75 (by kernel_rfl) rfl #[.string a0_0, .string a0_1] rfl (by (try simp only [List.map_toArray, List.map_cons, List.map_nil]); first | done | rfl | (simp only [List.length_drop, List.length_take]; rfl)) ?_; (with_reducible refine (bursarref13_named.calls k a0_0 a0_1 true _ A2.out).mono ?_); rintro e w13 ⟨rfl, hb⟩; refine ⟨_, rfl, ?_⟩; have n0_ := Aside0.mk (blk_below (g := gb171) (o := .cells #[.string a0_0, .string a0_1, .string a0_2, .int .i64 a0_3] 28 (0, 0)) (by (with_reducible repeat (first | refine blk_drewN ?_ _ | refine blk_drew ?_ | refine blk_alloc ?_ _)); exact BK171.out) hb); have n1_ := Aside0.mk (below_step (by repeat (first | (with_reducible first | exact HB.out | apply below_alloc | apply pw_below_drewN | apply below_drew1 | refine below_set ?_ GE171.out) | exact HB.out)) hb); clear BK171; clear HB; have BK171 := n0_; have HB := n1_; clear n0_ n1_; (try clear hb); (try clear hb2); (try clear hk); (try clear hi); have hcz14_0 : w13.cell? ⟨gb171, 0, none⟩ = some (.string a0_0) := (blk_cell BK171.out 0).trans rfl; have hcz14_1 : w13.cell? ⟨gb171, 1, none⟩ = some (.string a0_1) := (blk_cell BK171.out 1).trans rfl; have hcz14_2 : w13.cell? ⟨gb171, 2, none⟩ = some (.string a0_2) := (blk_cell BK171.out 2).trans rfl; have hcz14_3 : w13.cell? ⟨gb171, 3, none⟩ = some (.int .i64 a0_3) := (blk_cell BK171.out 3).trans rfl; have hfz14_0 := blk_frozen BK171.out 0; have hfz14_1 := blk_frozen BK171.out 1; have hfz14_2 := blk_frozen BK171.out 2; have hfz14_3 := blk_frozen BK171.out 3) | (go_at_call 76; (with_reducible refine (bursarref04_Name.calls k a0_2 true _ A4.out).mono ?_); rintro e w' ⟨rfl, ⟨nd, rfl⟩⟩))
        go_ret
        exact ⟨by first | rfl | (simp [errW_none, errW_some] <;> rfl) | (simp [*, errW_none, errW_some] <;> rfl), by repeat (first | (with_reducible first | exact HB.out | apply below_alloc | apply pw_below_drewN | apply below_drew1 | refine below_set ?_ GE171.out) | exact HB.out)⟩
    · replace c5 := Bool.eq_false_iff.mpr c5
      subst c5
      have H1 : (some false) = some r := by rw [if_neg (show ¬ (false = true) by decide)] at H; exact H
      clear H
      have H := H1
      clear H1
      obtain rfl := Option.some.inj H
      go_enter Tryz.func50, Tryz.ntmps50
      go_wp2_with (first | ((with_reducible refine gate_dst (N := 1) rfl ?_); refine box_event ?hg (N := 1) ?hd (cs := #[.string a0_0, .string a0_1, .string a0_2, .int .i64 a0_3]) (t := 28) ?hr ?_; (case hd => rfl); (case hg => rfl); (case hr => first | (go_simp; done) | (go_simp; rfl)); intro gb171 hg w15 hbox hb; have n0_ := Aside0.mk (below_step (by repeat (first | (with_reducible first | exact HB.out | apply below_alloc | apply pw_below_drewN | apply below_drew1) | exact HB.out)) hb); have n1_ := Aside0.mk (hbox); have n2_ := Aside0.mk ((by rw [hg]; exact (below_size (by repeat (first | (with_reducible first | exact HB.out | apply below_alloc | apply pw_below_drewN | apply below_drew1) | exact HB.out))) : w.heap.size ≤ gb171)); have n3_ := Aside0.mk ((by rw [hg]; exact (below_size (by repeat (first | (with_reducible first | exact HB.out | apply below_alloc | apply pw_below_drewN | apply below_drew1) | exact HB.out))) : w.heap.size ≤ gb171)); clear HB; have HB := n0_; have BK171 := n1_; have GW171 := n2_; have GE171 := n3_; clear n0_ n1_ n2_ n3_; clear hb hbox hg; have hcz16_0 : w15.cell? ⟨gb171, 0, none⟩ = some (.string a0_0) := (blk_cell BK171.out 0).trans rfl; have hcz16_1 : w15.cell? ⟨gb171, 1, none⟩ = some (.string a0_1) := (blk_cell BK171.out 1).trans rfl; have hcz16_2 : w15.cell? ⟨gb171, 2, none⟩ = some (.string a0_2) := (blk_cell BK171.out 2).trans rfl; have hcz16_3 : w15.cell? ⟨gb171, 3, none⟩ = some (.int .i64 a0_3) := (blk_cell BK171.out 3).trans rfl; have hfz16_0 := blk_frozen BK171.out 0; have hfz16_1 := blk_frozen BK171.out 1; have hfz16_2 := blk_frozen BK171.out 2; have hfz16_3 := blk_frozen BK171.out 3) | ((with_reducible refine gate_callee (f := 75) rfl ?_); refine goesL_ (some 7) rfl rfl Tryz.func75 (by kernel_rfl) rfl #[.string a0_0, .string a0_1] rfl (by (try simp only [List.map_toArray, List.map_cons, List.map_nil]); first | done | rfl | (simp only [List.length_drop, List.length_take]; rfl)) ?_; (with_reducible refine (bursarref13_named.calls k a0_0 a0_1 true _ A2.out).mono ?_); rintro e w17 ⟨rfl, hb⟩; refine ⟨_, rfl, ?_⟩; have n0_ := Aside0.mk (blk_below (g := gb171) (o := .cells #[.string a0_0, .string a0_1, .string a0_2, .int .i64 a0_3] 28 (0, 0)) (by (with_reducible repeat (first | refine blk_drewN ?_ _ | refine blk_drew ?_ | refine blk_alloc ?_ _)); exact BK171.out) hb); have n1_ := Aside0.mk (below_step (by repeat (first | (with_reducible first | exact HB.out | apply below_alloc | apply pw_below_drewN | apply below_drew1 | refine below_set ?_ GE171.out) | exact HB.out)) hb); clear BK171; clear HB; have BK171 := n0_; have HB := n1_; clear n0_ n1_; (try clear hb); (try clear hb2); (try clear hk); (try clear hi); have hcz18_0 : w17.cell? ⟨gb171, 0, none⟩ = some (.string a0_0) := (blk_cell BK171.out 0).trans rfl; have hcz18_1 : w17.cell? ⟨gb171, 1, none⟩ = some (.string a0_1) := (blk_cell BK171.out 1).trans rfl; have hcz18_2 : w17.cell? ⟨gb171, 2, none⟩ = some (.string a0_2) := (blk_cell BK171.out 2).trans rfl; have hcz18_3 : w17.cell? ⟨gb171, 3, none⟩ = some (.int .i64 a0_3) := (blk_cell BK171.out 3).trans rfl; have hfz18_0 := blk_frozen BK171.out 0; have hfz18_1 := blk_frozen BK171.out 1; have hfz18_2 := blk_frozen BK171.out 2; have hfz18_3 := blk_frozen BK171.out 3) | (go_at_call 76; (with_reducible refine (bursarref04_Name.calls k a0_2 false _ A4.out).mono ?_); rintro e w' ⟨rfl, ⟨nd, rfl⟩⟩))
      go_ret
      exact ⟨by first | rfl | (simp [errW_none, errW_some] <;> rfl) | (simp [*, errW_none, errW_some] <;> rfl), by repeat (first | (with_reducible first | exact HB.out | apply below_alloc | apply pw_below_drewN | apply below_drew1 | refine below_set ?_ GE171.out) | exact HB.out)⟩
  · replace c3 := Bool.eq_false_iff.mpr c3
    subst c3
    have H1 : (some false) = some r := by rw [if_neg (show ¬ (false = true) by decide)] at H; exact H
    clear H
    have H := H1
    clear H1
    obtain rfl := Option.some.inj H
    go_enter Tryz.func50, Tryz.ntmps50
    go_wp2_with (first | ((with_reducible refine gate_dst (N := 1) rfl ?_); refine box_event ?hg (N := 1) ?hd (cs := #[.string a0_0, .string a0_1, .string a0_2, .int .i64 a0_3]) (t := 28) ?hr ?_; (case hd => rfl); (case hg => rfl); (case hr => first | (go_simp; done) | (go_simp; rfl)); intro gb171 hg w19 hbox hb; have n0_ := Aside0.mk (below_step (by repeat (first | (with_reducible first | exact HB.out | apply below_alloc | apply pw_below_drewN | apply below_drew1) | exact HB.out)) hb); have n1_ := Aside0.mk (hbox); have n2_ := Aside0.mk ((by rw [hg]; exact (below_size (by repeat (first | (with_reducible first | exact HB.out | apply below_alloc | apply pw_below_drewN | apply below_drew1) | exact HB.out))) : w.heap.size ≤ gb171)); have n3_ := Aside0.mk ((by rw [hg]; exact (below_size (by repeat (first | (with_reducible first | exact HB.out | apply below_alloc | apply pw_below_drewN | apply below_drew1) | exact HB.out))) : w.heap.size ≤ gb171)); clear HB; have HB := n0_; have BK171 := n1_; have GW171 := n2_; have GE171 := n3_; clear n0_ n1_ n2_ n3_; clear hb hbox hg; have hcz20_0 : w19.cell? ⟨gb171, 0, none⟩ = some (.string a0_0) := (blk_cell BK171.out 0).trans rfl; have hcz20_1 : w19.cell? ⟨gb171, 1, none⟩ = some (.string a0_1) := (blk_cell BK171.out 1).trans rfl; have hcz20_2 : w19.cell? ⟨gb171, 2, none⟩ = some (.string a0_2) := (blk_cell BK171.out 2).trans rfl; have hcz20_3 : w19.cell? ⟨gb171, 3, none⟩ = some (.int .i64 a0_3) := (blk_cell BK171.out 3).trans rfl; have hfz20_0 := blk_frozen BK171.out 0; have hfz20_1 := blk_frozen BK171.out 1; have hfz20_2 := blk_frozen BK171.out 2; have hfz20_3 := blk_frozen BK171.out 3) | ((with_reducible refine gate_callee (f := 75) rfl ?_); refine goesL_ (some 7) rfl rfl Tryz.func75 (by kernel_rfl) rfl #[.string a0_0, .string a0_1] rfl (by (try simp only [List.map_toArray, List.map_cons, List.map_nil]); first | done | rfl | (simp only [List.length_drop, List.length_take]; rfl)) ?_; (with_reducible refine (bursarref13_named.calls k a0_0 a0_1 false _ A2.out).mono ?_); rintro e w21 ⟨rfl, hb⟩; refine ⟨_, rfl, ?_⟩; have n0_ := Aside0.mk (blk_below (g := gb171) (o := .cells #[.string a0_0, .string a0_1, .string a0_2, .int .i64 a0_3] 28 (0, 0)) (by (with_reducible repeat (first | refine blk_drewN ?_ _ | refine blk_drew ?_ | refine blk_alloc ?_ _)); exact BK171.out) hb); have n1_ := Aside0.mk (below_step (by repeat (first | (with_reducible first | exact HB.out | apply below_alloc | apply pw_below_drewN | apply below_drew1 | refine below_set ?_ GE171.out) | exact HB.out)) hb); clear BK171; clear HB; have BK171 := n0_; have HB := n1_; clear n0_ n1_; (try clear hb); (try clear hb2); (try clear hk); (try clear hi)))
    go_ret
    exact ⟨by first | rfl | (simp [errW_none, errW_some] <;> rfl) | (simp [*, errW_none, errW_some] <;> rfl), by repeat (first | (with_reducible first | exact HB.out | apply below_alloc | apply pw_below_drewN | apply below_drew1 | refine below_set ?_ GE171.out) | exact HB.out)⟩
end Go.Proofs.YtphddbijdfmpjaaGreatDoor.Q
namespace Go.Proofs.YtphddbijdfmpjaaGreatDoor.Q
open Go.RowKit Go.Proofs.YtphddbijdfmpjaaGreatDoorW.PrintWords Go.Proofs.YtphddbijdfmpjaaGreatDoorW.PrintLast Go.Proofs.YtphddbijdfmpjaaGreatDoorW.PrintMore
attribute [local go_sem] max2_int min2_int max_two min_two max_three min_three max_four min_four   -- for this text's walks alone
set_option linter.unusedVariables false
set_option linter.unusedSimpArgs false
def bursarref13_judged.f (a0 : Bool) (a1 : ByteArray) : Option (Int) := if a0 = true then (if (a1.size : Int) > 8192 then (some 23) else (some 0)) else (some 130)
set_option maxHeartbeats 8000000 in
set_option maxRecDepth 100000 in
theorem bursarref13_judged.calls (a0 : Bool) (a1 : ByteArray) (r : Int) (w : World) (h : bursarref13_judged.f a0 a1 = some r) :
    Calls Tryz.prog 51 #[.bool a0, .string a1] w fun e w' => e = .returned (.int .i64 r) ∧ Drawn0 w w' := by
  have H : (if a0 = true then (if (a1.size : Int) > 8192 then (some 23) else (some 0)) else (some 130)) = some r := h
  clear h
  by_cases c3 : a0 = true
  · subst c3
    have H1 : (if (a1.size : Int) > 8192 then (some 23) else (some 0)) = some r := by rw [if_pos rfl] at H; exact H
    clear H
    have H := H1
    clear H1
    by_cases c4 : (a1.size : Int) > 8192
    · rw [if_pos c4] at H
      have c4b0 : decide (8192 < (a1.size : Int)) = true := decide_eq_true c4
      have c4b1 : decide (8192 < a1.size) = true := decide_eq_true (by omega)
      clear c4
      obtain rfl := Option.some.inj H
      go_enter Tryz.func51, Tryz.ntmps51
      go_wp2
      go_ret
      exact ⟨by first | rfl | (simp; done) | (simp [*]; done), by repeat (first | exact Drawn0.refl _ | apply Drawn0.step)⟩
    · rw [if_neg c4] at H
      have c4b0 : decide (8192 < (a1.size : Int)) = false := decide_eq_false c4
      have c4b1 : decide (8192 < a1.size) = false := decide_eq_false (by omega)
      clear c4
      obtain rfl := Option.some.inj H
      go_enter Tryz.func51, Tryz.ntmps51
      go_wp2
      go_ret
      exact ⟨by first | rfl | (simp; done) | (simp [*]; done), by repeat (first | exact Drawn0.refl _ | apply Drawn0.step)⟩
  · replace c3 := Bool.eq_false_iff.mpr c3
    subst c3
    have H1 : (some 130) = some r := by rw [if_neg (show ¬ (false = true) by decide)] at H; exact H
    clear H
    have H := H1
    clear H1
    obtain rfl := Option.some.inj H
    go_enter Tryz.func51, Tryz.ntmps51
    go_wp2
    go_ret
    exact ⟨by first | rfl | (simp; done) | (simp [*]; done), by repeat (first | exact Drawn0.refl _ | apply Drawn0.step)⟩
end Go.Proofs.YtphddbijdfmpjaaGreatDoor.Q
namespace Go.Proofs.YtphddbijdfmpjaaGreatDoor.Q
open Go.RowKit Go.Proofs.YtphddbijdfmpjaaGreatDoorW.PrintWords Go.Proofs.YtphddbijdfmpjaaGreatDoorW.PrintLast Go.Proofs.YtphddbijdfmpjaaGreatDoorW.PrintMore
attribute [local go_sem] max2_int min2_int max_two min_two max_three min_three max_four min_four   -- for this text's walks alone
set_option linter.unusedVariables false
set_option linter.unusedSimpArgs false
def bursarref13_ValidBinding.f (k : Nat) (a0_0 : ByteArray) (a0_1 : ByteArray) (a0_2 : ByteArray) (a0_3 : Int) : Option (Int) := (bursarref13_FormedBinding.f k a0_0 a0_1 a0_2 a0_3).bind fun t175 => ((bursarref13_judged.f t175 (⟨#[]⟩ : ByteArray)).bind fun t176 => (some t176))
theorem bursarref13_ValidBinding.mono : ∀ a0 a1 a2 a3 k, LeO (bursarref13_ValidBinding.f k a0 a1 a2 a3) (bursarref13_ValidBinding.f (k + 1) a0 a1 a2 a3) := by
  intro a0 a1 a2 a3 k
  unfold bursarref13_ValidBinding.f
  repeat' first
      | (with_reducible exact bursarref13_FormedBinding.mono _ _ _ _ _)
      | (with_reducible exact LeO.refl _)
      | (with_reducible exact LeO.none _)
      | (with_reducible refine LeO.ite ?_ ?_)
      | (with_reducible refine LeO.bind ?_ (fun _ => ?_))
      | exact bursarref13_FormedBinding.mono _ _ _ _ _
      | exact LeO.none _
      | refine LeO.ite ?_ ?_
      | refine LeO.bind ?_ (fun _ => ?_)
set_option maxHeartbeats 8000000 in
set_option maxRecDepth 100000 in
theorem bursarref13_ValidBinding.calls (k : Nat) (a0_0 : ByteArray) (a0_1 : ByteArray) (a0_2 : ByteArray) (a0_3 : Int) (r : Int) (w : World) (h : bursarref13_ValidBinding.f k a0_0 a0_1 a0_2 a0_3 = some r) :
    Calls Tryz.prog 31 #[.agg #[.string a0_0, .string a0_1, .string a0_2, .int .i64 a0_3]] w fun e w' => e = .returned (.int .i64 r) ∧ Below w.heap.size w w' := by
  have hu28 := Tryz.underlying28
  have HB := Aside0.mk (Below.refl w.heap.size w)
  have H : ((bursarref13_FormedBinding.f k a0_0 a0_1 a0_2 a0_3).bind fun t175 => ((bursarref13_judged.f t175 (⟨#[]⟩ : ByteArray)).bind fun t176 => (some t176))) = some r := h
  clear h
  replace H := Option.bind_eq_some_iff.mp H
  obtain ⟨t175, A20, H⟩ := H
  replace H : ((bursarref13_judged.f t175 (⟨#[]⟩ : ByteArray)).bind fun t176 => (some t176)) = some r := H
  have A2 := Aside0.mk A20
  clear A20
  replace H := Option.bind_eq_some_iff.mp H
  obtain ⟨t176, A30, H⟩ := H
  replace H : (some t176) = some r := H
  have A3 := Aside0.mk A30
  clear A30
  obtain rfl := Option.some.inj H
  go_enter Tryz.func31, Tryz.ntmps31
  go_wp2_with (first | ((with_reducible refine gate_dst (N := 1) rfl ?_); refine box_event ?hg (N := 1) ?hd (cs := #[.string a0_0, .string a0_1, .string a0_2, .int .i64 a0_3]) (t := 28) ?hr ?_; (case hd => rfl); (case hg => rfl); (case hr => first | (go_simp; done) | (go_simp; rfl)); intro gb174 hg w4 hbox hb; have n0_ := Aside0.mk (below_step (by repeat (first | (with_reducible first | exact HB.out | apply below_alloc | apply pw_below_drewN | apply below_drew1) | exact HB.out)) hb); have n1_ := Aside0.mk (hbox); have n2_ := Aside0.mk ((by rw [hg]; exact (below_size (by repeat (first | (with_reducible first | exact HB.out | apply below_alloc | apply pw_below_drewN | apply below_drew1) | exact HB.out))) : w.heap.size ≤ gb174)); have n3_ := Aside0.mk ((by rw [hg]; exact (below_size (by repeat (first | (with_reducible first | exact HB.out | apply below_alloc | apply pw_below_drewN | apply below_drew1) | exact HB.out))) : w.heap.size ≤ gb174)); clear HB; have HB := n0_; have BK174 := n1_; have GW174 := n2_; have GE174 := n3_; clear n0_ n1_ n2_ n3_; clear hb hbox hg; have hcz5_0 : w4.cell? ⟨gb174, 0, none⟩ = some (.string a0_0) := (blk_cell BK174.out 0).trans rfl; have hcz5_1 : w4.cell? ⟨gb174, 1, none⟩ = some (.string a0_1) := (blk_cell BK174.out 1).trans rfl; have hcz5_2 : w4.cell? ⟨gb174, 2, none⟩ = some (.string a0_2) := (blk_cell BK174.out 2).trans rfl; have hcz5_3 : w4.cell? ⟨gb174, 3, none⟩ = some (.int .i64 a0_3) := (blk_cell BK174.out 3).trans rfl; have hfz5_0 := blk_frozen BK174.out 0; have hfz5_1 := blk_frozen BK174.out 1; have hfz5_2 := blk_frozen BK174.out 2; have hfz5_3 := blk_frozen BK174.out 3) | ((with_reducible refine gate_callee (f := 50) rfl ?_); refine goesL_ (some 5) rfl rfl Tryz.func50 (by kernel_rfl) rfl #[.agg #[.string a0_0, .string a0_1, .string a0_2, .int .i64 a0_3]] rfl (by (try simp only [List.map_toArray, List.map_cons, List.map_nil]); first | done | rfl | (simp only [List.length_drop, List.length_take]; rfl)) ?_; (with_reducible refine (bursarref13_FormedBinding.calls k a0_0 a0_1 a0_2 a0_3 t175 _ A2.out).mono ?_); rintro e w6 ⟨rfl, hb⟩; refine ⟨_, rfl, ?_⟩; have n0_ := Aside0.mk (blk_below (g := gb174) (o := .cells #[.string a0_0, .string a0_1, .string a0_2, .int .i64 a0_3] 28 (0, 0)) (by (with_reducible repeat (first | refine blk_drewN ?_ _ | refine blk_drew ?_ | refine blk_alloc ?_ _)); exact BK174.out) hb); have n1_ := Aside0.mk (below_step (by repeat (first | (with_reducible first | exact HB.out | apply below_alloc | apply pw_below_drewN | apply below_drew1 | refine below_set ?_ GE174.out) | exact HB.out)) hb); clear BK174; clear HB; have BK174 := n0_; have HB := n1_; clear n0_ n1_; (try clear hb); (try clear hb2); (try clear hk); (try clear hi)) | ((with_reducible refine gate_callee (f := 51) rfl ?_); refine goesL_ (some 7) rfl rfl Tryz.func51 (by kernel_rfl) rfl #[.bool t175, .string (⟨#[]⟩ : ByteArray)] rfl (by (try simp only [List.map_toArray, List.map_cons, List.map_nil]); first | done | rfl | (simp only [List.length_drop, List.length_take]; rfl)) ?_; (with_reducible refine (bursarref13_judged.calls t175 (⟨#[]⟩ : ByteArray) t176 _ A3.out).mono ?_); rintro e w' ⟨rfl, ⟨nd, rfl⟩⟩; refine ⟨_, rfl, ?_⟩))
  go_ret
  exact ⟨by first | rfl | (simp [errW_none, errW_some] <;> rfl) | (simp [*, errW_none, errW_some] <;> rfl), by repeat (first | (with_reducible first | exact HB.out | apply below_alloc | apply pw_below_drewN | apply below_drew1 | refine below_set ?_ GE174.out) | exact HB.out)⟩
end Go.Proofs.YtphddbijdfmpjaaGreatDoor.Q
namespace Go.Proofs.YtphddbijdfmpjaaGreatDoor.Q
open Go.RowKit Go.MapRaw Go.Proofs.YtphddbijdfmpjaaGreatDoorW.PrintWords Go.Proofs.YtphddbijdfmpjaaGreatDoorW.PrintLast Go.Proofs.YtphddbijdfmpjaaGreatDoor.Wr Go.Proofs.YtphddbijdfmpjaaGreatDoor.Pl
set_option linter.unusedVariables false
set_option linter.unusedSimpArgs false
theorem aheadloop (x y : List ByteArray) (hx : x.length ≤ 1000000) (d : Nat) : ∀ i : Nat, i + d = x.length → i ≤ y.length → Ev (fun k => bursarref17_Ahead.l0 k x y (i : Int)) (decide (cmpL (x.drop i) (y.drop i) < 0)) := by
  induction d with
  | zero =>
    intro i hi hy
    rw [List.drop_of_length_le (by omega)]
    have e : decide (cmpL [] (y.drop i) < 0) = decide ((x.length : Int) < (y.length : Int)) := by
      by_cases h : i < y.length
      · rw [List.drop_eq_getElem_cons h]
        rw [decide_eq_decide]
        exact ⟨fun _ => by omega, fun _ => by show (-1 : Int) < 0; omega⟩
      · rw [List.drop_of_length_le (by omega), decide_eq_decide]
        exact ⟨fun h => absurd h (by show ¬ (0 : Int) < 0; omega), fun h => by omega⟩
    rw [e]
    refine ⟨2, fun k hk => ?_⟩
    obtain ⟨k0, rfl⟩ : ∃ k0, k = k0 + 1 + 1 := ⟨k - 2, by omega⟩
    show bursarref17_Ahead.l0 (k0 + 1 + 1) x y (i : Int) = _
    simp only [bursarref17_Ahead.l0]
    rw [if_neg (by omega)]
    simp [bursarref17_Ahead.j1]
  | succ d ih =>
    intro i hi hy
    have hlt : i < x.length := by omega
    by_cases h : i < y.length
    · rw [List.drop_eq_getElem_cons hlt, List.drop_eq_getElem_cons h]
      have hst : ∀ k, bursarref17_Ahead.l0 (k + 1 + 1) x y (i : Int) = if x[i] = y[i] then bursarref17_Ahead.l0 k x y ((i + 1 : Nat) : Int) else some (Op.bytesLess x[i].toList y[i].toList) := by
        intro k
        simp only [bursarref17_Ahead.l0]
        rw [if_pos (by omega), show decide ((i : Int) < (y.length : Int)) = true from decide_eq_true (by omega)]
        simp only [bursarref17_Ahead.j1]
        rw [if_pos trivial, if_pos (by omega), if_pos (by omega), if_pos (by omega), rd_at x i hlt, rd_at y i h, w64 i (by omega)]
        by_cases e : x[i] = y[i]
        · rw [if_pos (by rw [e]), if_pos e]
        · rw [if_neg (fun h => e ((ba_iff _ _).1 h)), if_neg e]
      by_cases e : x[i] = y[i]
      · obtain ⟨K, hK⟩ := ih (i + 1) (by omega) (by omega)
        refine ⟨K + 2, fun k hk => ?_⟩
        obtain ⟨k0, rfl⟩ : ∃ k0, k = k0 + 1 + 1 := ⟨k - 2, by omega⟩
        show bursarref17_Ahead.l0 (k0 + 1 + 1) x y (i : Int) = _
        rw [hst k0, if_pos e]
        have h1 : cmpL (x[i] :: x.drop (i + 1)) (y[i] :: y.drop (i + 1)) = cmpL (x.drop (i + 1)) (y.drop (i + 1)) := by
          show (if cmpS x[i] y[i] ≠ 0 then cmpS x[i] y[i] else _) = _
          rw [e, if_neg (by rw [ordS.self]; decide)]
        rw [h1]
        exact hK k0 (by omega)
      · refine ⟨2, fun k hk => ?_⟩
        obtain ⟨k0, rfl⟩ : ∃ k0, k = k0 + 1 + 1 := ⟨k - 2, by omega⟩
        show bursarref17_Ahead.l0 (k0 + 1 + 1) x y (i : Int) = _
        rw [hst k0, if_neg e]
        have h1 : cmpL (x[i] :: x.drop (i + 1)) (y[i] :: y.drop (i + 1)) = cmpS x[i] y[i] := by
          show (if cmpS x[i] y[i] ≠ 0 then cmpS x[i] y[i] else _) = _
          rw [if_pos (fun h => e (cmpS_zero h))]
        rw [h1]
        congr 1
        rw [Bool.eq_iff_iff, decide_eq_true_eq, cmpS_lt]
    · rw [List.drop_eq_getElem_cons hlt, List.drop_of_length_le (show y.length ≤ i by omega)]
      refine ⟨2, fun k hk => ?_⟩
      obtain ⟨k0, rfl⟩ : ∃ k0, k = k0 + 1 + 1 := ⟨k - 2, by omega⟩
      show bursarref17_Ahead.l0 (k0 + 1 + 1) x y (i : Int) = _
      simp only [bursarref17_Ahead.l0]
      rw [if_pos (by omega), show decide ((i : Int) < (y.length : Int)) = false from decide_eq_false (by omega)]
      simp only [bursarref17_Ahead.j1]
      rw [if_neg (by decide)]
      congr 1
      rw [decide_eq_decide]
      exact ⟨fun h => by omega, fun h => absurd h (by show ¬ (1 : Int) < 0; omega)⟩
theorem aheadP_ev (a b : ByteArray) (ha : a.size ≤ 1048576) (hb : b.size ≤ 1048576) : Ev (fun k => bursarref17_Ahead.f k a b) (aheadP a b) := by
  have hl : (splitS a).1.length ≤ 1000000 := by
    rcases path_cases a with ⟨ns, h, e⟩ | ⟨_, e⟩
    · rw [e]; have := h.most; simp; omega
    · rw [e]; simp
  have h := aheadloop (splitS a).1 (splitS b).1 hl (splitS a).1.length 0 (by omega) (by omega)
  rw [List.drop_zero, List.drop_zero] at h
  exact Ev.bind (refSplit_ev a ha) (Ev.bind (refSplit_ev b hb) h)
theorem ahead_ok (a b : ByteArray) (w : World) (ha : a.size ≤ 1048576) (hb : b.size ≤ 1048576) : Calls Tryz.prog 33 #[.string a, .string b] w fun e w' => e = .returned (.bool (aheadP a b)) ∧ Below w.heap.size w w' := by
  obtain ⟨K, hK⟩ := aheadP_ev a b ha hb
  exact bursarref17_Ahead.calls K _ _ _ w (hK K (Nat.le_refl _))
theorem rvalid_ev (b : Bnd) (hb : b.path.size ≤ 1048576) : ∃ k, bursarref13_ValidBinding.f k b.path b.name b.subject b.verb = some (if formedB b = true then 0 else 130) := by
  obtain ⟨K1, h1⟩ := refSplit_ev b.path hb
  obtain ⟨K2, h2⟩ := name_ev b.name
  obtain ⟨K3, h3⟩ := name_ev b.subject
  refine ⟨K1 + K2 + K3, ?_⟩
  have h1 : bursarref04_Split.f (K1 + K2 + K3) b.path = _ := h1 _ (by omega)
  have h2 : bursarref04_Name.f (K1 + K2 + K3) b.name = _ := h2 _ (by omega)
  have h3 : bursarref04_Name.f (K1 + K2 + K3) b.subject = _ := h3 _ (by omega)
  have hp : bursarref04_Path.f (K1 + K2 + K3) b.path = some (pathS b.path) := by unfold bursarref04_Path.f; rw [h1]; rfl
  unfold bursarref13_ValidBinding.f bursarref13_FormedBinding.f bursarref13_named.f
  rw [hp, h2, h3]
  simp only [Option.bind_some]
  unfold formedB
  have hj : ∀ q : Bool, bursarref13_judged.f q ⟨#[]⟩ = some (if q = true then 0 else 130) := by intro q; cases q <;> rfl
  by_cases e1 : pathS b.path = 0
  · rw [if_pos e1]
    simp only [Option.bind_some, e1]
    cases nameB b.name <;> cases nameB b.subject <;> by_cases e2 : b.verb ≥ 0 <;> simp [hj, e2]
  · rw [if_neg e1]
    simp [e1, hj]
theorem rvalid_ok (b : Bnd) (w : World) (hb : b.path.size ≤ 1048576) : Calls Tryz.prog 31 #[eV b] w fun e w' => e = .returned (.int .i64 (if formedB b = true then 0 else 130)) ∧ Below w.heap.size w w' := by
  obtain ⟨K, hK⟩ := rvalid_ev b hb
  exact bursarref13_ValidBinding.calls K _ _ _ _ _ w hK
end Go.Proofs.YtphddbijdfmpjaaGreatDoor.Q
namespace Go.Proofs.YtphddbijdfmpjaaGreatDoor.Q
open Go.RowKit Go.Sort Go.MapRaw Go.Proofs.YtphddbijdfmpjaaGreatDoorW.PrintWords Go.Proofs.YtphddbijdfmpjaaGreatDoorW.PrintLast Go.Proofs.YtphddbijdfmpjaaGreatDoor.Wr
set_option linter.unusedVariables false
set_option linter.unusedSimpArgs false
def put4 (w : World) (g o : Nat) (x : Bnd) : World := (((w.setCell ⟨g, o, none⟩ (.string x.path)).setCell ⟨g, o + 1, none⟩ (.string x.name)).setCell ⟨g, o + 2, none⟩ (.string x.subject)).setCell ⟨g, o + 3, none⟩ (.int .i64 x.verb)
theorem put4_grown (w : World) (g o : Nat) (x : Bnd) : w.grownBy (put4 w g o x) (some g) := by
  unfold put4
  refine ⟨rfl, rfl, rfl, by simp, fun k hk hne => ?_⟩
  have h : k ≠ g := fun e => hne (by rw [e])
  rw [Below.heap_setCell _ _ _ _ h, Below.heap_setCell _ _ _ _ h, Below.heap_setCell _ _ _ _ h, Below.heap_setCell _ _ _ _ h]
theorem put4_heap {w : World} {g o : Nat} {x : Bnd} {cur : Array Value} (h : w.heap[g]? = some (.cells cur 28 (0, 0))) :
    (put4 w g o x).heap[g]? = some (.cells ((((cur.setIfInBounds o (.string x.path)).setIfInBounds (o + 1) (.string x.name)).setIfInBounds (o + 2) (.string x.subject)).setIfInBounds (o + 3) (.int .i64 x.verb)) 28 (0, 0)) :=
  blk_put (blk_put (blk_put (blk_put h o _ rfl) (o + 1) _ rfl) (o + 2) _ rfl) (o + 3) _ rfl
theorem R_put4 {w : World} {base g cap : Nat} {ok : Nat → Prop} {xs : List Bnd} (h : Kd.R k27 28 w base ok (.slice (some ⟨g, 0, none⟩) xs.length cap) xs) (i : Nat) (hi : i < xs.length) (x : Bnd) :
    Kd.R k27 28 (put4 w g (i * 4) x) base ok (.slice (some ⟨g, 0, none⟩) xs.length cap) (xs.set i x) := by
  obtain ⟨h0, inner, ho, hin⟩ := h
  rcases ho.2 with ⟨he, _⟩ | ⟨g', cap', cur, he, hg, hb, h1, h2, h3, h4⟩
  · cases he
  · injection he with he1 _ he3
    injection he1 with he1
    injection he1 with he1
    subst he1 he3
    have hin' := inner27 hin
    have hl : (xs.set i x).length = xs.length := List.length_set
    have h4' : cur.toList.take (xs.length * 4) = (flatK encB 4 xs.toArray).toList := h4.trans hin'
    have h3' : cur.size = cap * 4 := h3
    refine ⟨h0, (flatK encB 4 (xs.set i x).toArray).toList, ⟨by rw [hl]; exact (flat_len _).trans (by rw [hl]; rfl), .inr ⟨g, cap, _, by rw [hl], hg, put4_heap hb, by rw [hl]; exact h1, h2, by simp [h3'] <;> rfl, ?_⟩⟩, reps27 _ _ _ _⟩
    rw [hl]
    show List.take (xs.length * 4) _ = _
    apply List.ext_getElem?
    intro t
    by_cases ht : t < xs.length * 4
    · rw [List.getElem?_take_of_lt ht, flat_get (by rw [hl]; exact ht)]
      have hcur : cur.toList[t]? = (encB (xs.getD (t / 4) zb))[t % 4]? := by
        rw [← flat_get ht, ← h4', List.getElem?_take_of_lt ht]
      have hcs : i * 4 + 3 < cur.size := by omega
      have hd : t % 4 = 0 ∨ t % 4 = 1 ∨ t % 4 = 2 ∨ t % 4 = 3 := by omega
      by_cases hti : t / 4 = i
      · have hgx : (xs.set i x).getD (t / 4) zb = x := by rw [hti]; simp [List.getD_eq_getElem?_getD, hi]
        rw [hgx, Array.getElem?_toList]
        rcases hd with hd | hd | hd | hd
        · have : t = i * 4 := by omega
          subst this
          rw [hd]
          simp [Array.getElem?_setIfInBounds, encB, show i * 4 < cur.size by omega]
        · have : t = i * 4 + 1 := by omega
          subst this
          rw [hd]
          simp [Array.getElem?_setIfInBounds, encB, show i * 4 + 1 < cur.size by omega]
        · have : t = i * 4 + 2 := by omega
          subst this
          rw [hd]
          simp [Array.getElem?_setIfInBounds, encB, show i * 4 + 2 < cur.size by omega]
        · have : t = i * 4 + 3 := by omega
          subst this
          rw [hd]
          simp [Array.getElem?_setIfInBounds, encB, hcs]
      · have hgx : (xs.set i x).getD (t / 4) zb = xs.getD (t / 4) zb := by simp [List.getD_eq_getElem?_getD, Ne.symm hti]
        rw [hgx, ← hcur, Array.getElem?_toList, Array.getElem?_toList]
        rw [Array.getElem?_setIfInBounds_ne (by omega), Array.getElem?_setIfInBounds_ne (by omega), Array.getElem?_setIfInBounds_ne (by omega), Array.getElem?_setIfInBounds_ne (by omega)]
    · rw [List.getElem?_take_eq_none (by omega), List.getElem?_eq_none (by rw [flat_len, hl]; omega)]
theorem R_cells {w : World} {base g cap : Nat} {ok : Nat → Prop} {xs : List Bnd} (h : Kd.R k27 28 w base ok (.slice (some ⟨g, 0, none⟩) xs.length cap) xs) (i : Nat) (hi : i < xs.length) :
    (∀ j u, (encB xs[i])[j]? = some u → w.cell? ⟨g, i * 4 + j, none⟩ = some u) ∧ ∀ j, w.frozen? ⟨g, j, none⟩ = false := by
  obtain ⟨ad, hA, hx0, hx⟩ := bnd_at (Kd.R_reads' h).2.2 i hi
  cases hA
  refine ⟨fun j u hu => ?_, fun j => ?_⟩
  · have ha : (⟨g, 0, none⟩ : Addr).add (i * 4) = ⟨g, i * 4, none⟩ := by
      unfold Addr.add
      by_cases h0 : i * 4 = 0
      · rw [if_pos h0, h0]
      · rw [if_neg h0]; simp
    rw [ha] at hx0 hx
    cases j with
    | zero =>
      have : u = .string xs[i].path := by simpa [encB] using hu.symm
      rw [this]; exact hx0
    | succ j => exact hx (j + 1) u (by omega) hu
  · obtain ⟨h0, inner, ho, hin⟩ := h
    rcases ho.2 with ⟨he, _⟩ | ⟨g', cap', cur, he, hg, hb, _⟩
    · cases he
    · injection he with he1 _ he3
      injection he1 with he1
      injection he1 with he1
      subst he1
      exact blk_frozen hb j
end Go.Proofs.YtphddbijdfmpjaaGreatDoor.Q
namespace Go.Proofs.YtphddbijdfmpjaaGreatDoor.Q
open Go.RowKit Go.MapRaw Go.Proofs.YtphddbijdfmpjaaGreatDoorW.PrintWords Go.Proofs.YtphddbijdfmpjaaGreatDoorW.PrintLast Go.Proofs.YtphddbijdfmpjaaGreatDoor.Wr
set_option linter.unusedVariables false
set_option linter.unusedSimpArgs false
theorem parkR_ {p : Prop} (h : Aside0 p) : p := h.out
structure RT (w : World) (r base : Nat) (v : Value) (L : List Bnd) : Prop where
  blk : w.heap[r]? = some (.cells #[v] 40 (0, 0))
  row : Kd.R k27 28 w base (fun k => k ≠ r) v L
theorem RT.below {w w' : World} {r base : Nat} {v : Value} {L : List Bnd} (h : RT w r base v L) (hb : Below w.heap.size w w') : RT w' r base v L := ⟨blk_below h.blk hb, Kd.R_below h.row hb⟩
theorem RT.lt {w : World} {r base : Nat} {v : Value} {L : List Bnd} (h : RT w r base v L) : r < w.heap.size := blk_lt h.blk
theorem rnew_ok (w : World) : Calls Tryz.prog 5 #[] w fun e w' => ∃ r, e = .returned (.pointer (some ⟨r, 0, none⟩)) ∧ RT w' r w.heap.size (.slice none 0 0) [] ∧ w.heap.size ≤ r ∧ Below w.heap.size w w' := by
  have hu79 := Tryz.underlying40
  have hz := Tryz.zeroValue40
  go_enter Tryz.func5, Tryz.ntmps5
  go_wp2
  go_ret
  exact ⟨_, rfl, ⟨blk_new w _, Kd.R_nil _ _ _ _ _⟩, Nat.le_refl _, (Below.refl _ _).alloc (Nat.le_refl _) _⟩
set_option maxRecDepth 100000 in
set_option maxHeartbeats 16000000 in
theorem rat_ok (w : World) (r base : Nat) (v : Value) (L : List Bnd) (q n : ByteArray) (hT : RT w r base v L) (hL : L.length ≤ 2513169434843) :
    Calls Tryz.prog 32 #[.pointer (some ⟨r, 0, none⟩), .string q, .string n] w fun e w' => e = .returned (.int .i64 (idxB q n 0 L)) ∧ w' = w := by
  have hu79 := Tryz.underlying40
  have hu27 := Tryz.underlying28
  obtain ⟨A, c, rfl⟩ := Kd.R_slice hT.row
  have hcell := (blk_cell hT.blk 0).trans rfl
  have HR := Aside0.mk (Kd.R_reads' hT.row).2.2
  have HLL := Lib.hid hL
  clear hT hL
  obtain ⟨res, hres⟩ : ∃ res, res = idxB q n 0 L := ⟨_, rfl⟩
  rw [← hres]
  have HRES := Lib.hid hres
  clear hres
  go_enter Tryz.func32, Tryz.ntmps32
  go_upto_region 2 with fail
  go_loopg [7] L.length (fun g v7 wr => ∃ (i : Nat), v7 = .int .i64 (i : Int) ∧ Aside0 (i + g = L.length) ∧ Aside0 (idxB q n i (L.drop i) = res) ∧ wr = w)
  case atStart => exact ⟨0, rfl, ⟨by omega⟩, ⟨by rw [List.drop_zero]; exact HRES.out.symm⟩, rfl⟩
  case round =>
    obtain ⟨i, rfl, HI, HS, rfl⟩ := hrel
    by_cases hi : i < L.length
    rotate_left
    · have q1 : decide ((i : Int) < (L.length : Int)) = false := decide_eq_false (by omega)
      have q1n : decide (i < L.length) = false := decide_eq_false hi
      have HD := Lib.hid (show L.drop i = [] from List.drop_of_length_le (by omega))
      clear hi
      go_wp2
      go_ret
      exact ⟨by rw [← HS.out, HD.out] <;> rfl, rfl⟩
    have q1 : decide ((i : Int) < (L.length : Int)) = true := decide_eq_true (by omega)
    have q1n : decide (i < L.length) = true := decide_eq_true hi
    have p1 : (0 ≤ (i : Int)) = True := eq_true (by omega)
    have p2 : ((i : Int) < (L.length : Int)) = True := eq_true (by omega)
    obtain ⟨ad, hA, hx0, hx⟩ := bnd_at HR.out i hi
    cases hA
    have HDX := Lib.hid (List.drop_eq_getElem_cons hi)
    obtain ⟨g0, rfl⟩ : ∃ g0, gk = g0 + 1 := ⟨gk - 1, by have := HI.out; omega⟩
    have HLT := Lib.hid hi
    generalize L[i] = xx at hx0 hx HDX
    obtain ⟨xp, xn, xs, xv⟩ := xx
    have hx1 := hx 1 (.string xn) (by decide) rfl
    clear hi hx
    have HST := Lib.hid (show idxB q n i (L.drop i) = if xp = q ∧ xn = n then (i : Int) else idxB q n (i + 1) (L.drop (i + 1)) by rw [HDX.out]; rfl)
    by_cases hp : xp = q
    · have e1 : (xp.toList == q.toList) = true := by rw [hp]; simp
      by_cases hn : xn = n
      · have e2 : (xn.toList == n.toList) = true := by rw [hn]; simp
        have HE := Lib.hid (And.intro hp hn)
        clear hp hn
        go_wp2
        go_ret
        exact ⟨by rw [← HS.out, HST.out, if_pos HE.out] <;> rfl, rfl⟩
      · have e2 : (xn.toList == n.toList) = false := by rw [toList_beq, Bool.eq_false_iff, Ne, ba_beq]; exact hn
        have HE := Lib.hid (show ¬ (xp = q ∧ xn = n) from fun h => hn h.2)
        clear hp hn
        go_wp2
        go_roundg g0
        case measure => omega
        case rel => exact ⟨i + 1, congrArg (Value.int .i64) (by rw [w64 i (by have := HLT.out; have := HLL.out; omega)]), ⟨by have := HI.out; omega⟩, ⟨by rw [← HS.out, HST.out, if_neg HE.out]⟩, rfl⟩
    · have e1 : (xp.toList == q.toList) = false := by rw [toList_beq, Bool.eq_false_iff, Ne, ba_beq]; exact hp
      have HE := Lib.hid (show ¬ (xp = q ∧ xn = n) from fun h => hp h.1)
      clear hp
      go_wp2
      go_roundg g0
      case measure => omega
      case rel => exact ⟨i + 1, congrArg (Value.int .i64) (by rw [w64 i (by have := HLT.out; have := HLL.out; omega)]), ⟨by have := HI.out; omega⟩, ⟨by rw [← HS.out, HST.out, if_neg HE.out]⟩, rfl⟩
set_option maxRecDepth 100000 in
set_option maxHeartbeats 16000000 in
theorem rlist_ok (w : World) (r base : Nat) (v : Value) (L : List Bnd) (hT : RT w r base v L) (hL : L.length ≤ 2513169434843) :
    Calls Tryz.prog 9 #[.pointer (some ⟨r, 0, none⟩)] w fun e w' => ∃ v', e = .returned v' ∧ Kd.R k27 28 w' w.heap.size (fun _ => True) v' L ∧ Below w.heap.size w w' := by
  have hu79 := Tryz.underlying40
  have hu27 := Tryz.underlying28
  obtain ⟨A, c, rfl⟩ := Kd.R_slice hT.row
  have hcell := (blk_cell hT.blk 0).trans rfl
  have HR := Aside0.mk (Kd.R_reads' hT.row).2.2
  have HLL := Lib.hid hL
  clear hT hL
  go_enter Tryz.func9, Tryz.ntmps9
  go_upto_region 1 with fail
  go_wp2_with ((with_reducible refine gate_builtin (b := .append) (xs := #[.const (.slice none 0 0), .tmp 6]) rfl ?_); at_builtin; refine parkR_ ?_)
  refine Aside0.mk ?_
  refine Kd.R_append_rows k27 (Rr := k27.K w) (w0 := w) w.heap.size rfl (.const (.slice none 0 0)) (.tmp 6) 33 28 (.agg #[.string ⟨#[]⟩, .string ⟨#[]⟩, .string ⟨#[]⟩, .int .i64 0]) 56 rfl Tryz.underlying33 info27 rfl (by decide) (by omega) (.slice none 0 0) ([] : List Bnd) L A L.length c (fun _ => True) (fun _ => False) rfl rfl ?aO ?aR ?aK (fun _ h => h.elim) ?aF ?aB ?aS ?aL ?_
  (case aR => exact HR.out)
  (case aK => exact (fun x cs h => by rw [k27_cells h]; exact k27_mkM _ _ _ _))
  (case aB => exact Below.refl _ _)
  (case aF => exact (fun _ _ => trivial))
  (case aO => exact (Kd.R_nil _ _ _ _ (fun _ => True)))
  (case aS => exact Nat.le_refl _)
  (case aL => have := HLL.out; simp; omega)
  intro v2 w4 ho hb2 hg2 hat2
  rw [List.nil_append] at ho
  have O4 := Aside0.mk ho
  have B4 := Aside0.mk hb2
  clear ho hb2 hg2 hat2
  go_wp2
  go_ret
  exact ⟨_, rfl, O4.out, B4.out⟩
end Go.Proofs.YtphddbijdfmpjaaGreatDoor.Q
namespace Go.Proofs.YtphddbijdfmpjaaGreatDoor.Q
open Go.RowKit Go.MapRaw Go.Proofs.YtphddbijdfmpjaaGreatDoorW.PrintWords Go.Proofs.YtphddbijdfmpjaaGreatDoorW.PrintLast Go.Proofs.YtphddbijdfmpjaaGreatDoor.Wr Go.Proofs.YtphddbijdfmpjaaGreatDoor.Pl
set_option linter.unusedVariables false
set_option linter.unusedSimpArgs false
theorem compact_mem (zs : List (List UInt8)) (x : List UInt8) : x ∈ Go.Lib.compact zs ↔ x ∈ zs := by
  unfold Go.Lib.compact Go.Lib.compactUpTo
  constructor
  · intro h
    obtain ⟨j, hj, rfl⟩ := List.mem_map.1 h
    have hj2 : j < zs.length := List.mem_range.1 (List.mem_filter.1 hj).1
    have : zs.toArray[j]! = zs[j] := by simp [hj2]
    rw [this]; exact List.getElem_mem hj2
  · intro h
    obtain ⟨j, hj, rfl⟩ := List.getElem_of_mem h
    have key : ∀ j (hj : j < zs.length), zs.toArray[j]! ∈ ((List.range zs.length).filter (Go.Lib.keeps zs.toArray)).map (zs.toArray[·]!) := by
      intro j
      induction j with
      | zero => intro hj; exact List.mem_map.2 ⟨0, List.mem_filter.2 ⟨List.mem_range.2 hj, by simp [Go.Lib.keeps]⟩, rfl⟩
      | succ j ih =>
        intro hj
        by_cases he : zs.toArray[j + 1]! = zs.toArray[j]!
        · rw [he]; exact ih (by omega)
        · exact List.mem_map.2 ⟨j + 1, List.mem_filter.2 ⟨List.mem_range.2 hj, by simp only [Go.Lib.keeps, Nat.add_sub_cancel]; exact decide_eq_true (Or.inr he)⟩, rfl⟩
    have := key j hj
    have h2 : zs.toArray[j]! = zs[j] := by simp [hj]
    rw [h2] at this; exact this
theorem compact_nodup {zs : List (List UInt8)} {R : List UInt8 → List UInt8 → Prop} (hs : zs.Pairwise R) (ha : ∀ x ∈ zs, ∀ y ∈ zs, R x y → R y x → x = y) : (Go.Lib.compact zs).Nodup := by
  unfold Go.Lib.compact Go.Lib.compactUpTo
  have hg : ∀ j, j < zs.length → ∀ d : zs.length > j, zs.toArray[j]! = zs[j] := fun j hj _ => by simp [hj]
  have hp := List.pairwise_iff_getElem.1 hs
  have hr : ((List.range zs.length).filter (Go.Lib.keeps zs.toArray)).Pairwise (fun i j => i < j) := List.Pairwise.filter _ List.pairwise_lt_range
  rw [List.Nodup, List.pairwise_map]
  refine hr.imp_of_mem ?_
  intro i j hi hj hij he
  have hjl : j < zs.length := List.mem_range.1 (List.mem_filter.1 hj).1
  have hk := (List.mem_filter.1 hj).2
  have hil : i < zs.length := by omega
  unfold Go.Lib.keeps at hk
  rcases of_decide_eq_true hk with h0 | h0
  · omega
  · rw [hg i hil hil, hg j hjl hjl] at he
    have hj1 : j - 1 < zs.length := by omega
    rw [hg j hjl hjl, hg (j - 1) hj1 hj1] at h0
    by_cases e : i = j - 1
    · subst e; exact h0 he.symm
    · have h1 := hp i (j - 1) hil hj1 (by omega)
      have h2 := hp (j - 1) j hj1 hjl (by omega)
      rw [he] at h1
      exact h0 (ha _ (List.getElem_mem _) _ (List.getElem_mem _) h1 h2)
def compactB (xs : List ByteArray) : List ByteArray := (Go.Lib.compact (xs.map (·.data.toList))).map toB
theorem compactB_mem (xs : List ByteArray) (x : ByteArray) : x ∈ compactB xs ↔ x ∈ xs := by
  unfold compactB
  constructor
  · intro h
    obtain ⟨y, hy, rfl⟩ := List.mem_map.1 h
    rw [compact_mem] at hy
    obtain ⟨z, hz, rfl⟩ := List.mem_map.1 hy
    rw [toB_of]; exact hz
  · intro h
    exact List.mem_map.2 ⟨x.data.toList, (compact_mem _ _).2 (List.mem_map.2 ⟨x, h, rfl⟩), toB_of x⟩
theorem compactB_len (xs : List ByteArray) : (compactB xs).length ≤ xs.length := by
  unfold compactB Go.Lib.compact Go.Lib.compactUpTo
  rw [List.length_map, List.length_map]
  refine Nat.le_trans (List.length_filter_le _ _) ?_
  simp
theorem compactB_nodup {xs : List ByteArray} {R : ByteArray → ByteArray → Prop} (hs : xs.Pairwise R) (ha : ∀ x ∈ xs, ∀ y ∈ xs, R x y → R y x → x = y) : (compactB xs).Nodup := by
  unfold compactB
  have h1 : (xs.map (·.data.toList)).Pairwise (fun a b => R (toB a) (toB b)) := by
    rw [List.pairwise_map]
    refine hs.imp ?_
    intro a b h
    rw [toB_of, toB_of]; exact h
  have h2 := compact_nodup h1 (fun x hx y hy p q => by
    obtain ⟨a, ha1, rfl⟩ := List.mem_map.1 hx
    obtain ⟨b, hb1, rfl⟩ := List.mem_map.1 hy
    rw [toB_of, toB_of] at p q
    rw [ha a ha1 b hb1 p q])
  have h3 : ∀ z ∈ Go.Lib.compact (xs.map (·.data.toList)), ∃ x : ByteArray, z = x.data.toList := fun z hz => by
    rw [compact_mem] at hz
    obtain ⟨x, _, rfl⟩ := List.mem_map.1 hz
    exact ⟨x, rfl⟩
  rw [List.Nodup, List.pairwise_map]
  refine List.Pairwise.imp_of_mem ?_ h2
  intro a b ha1 hb1 hne he
  obtain ⟨x, rfl⟩ := h3 a ha1
  obtain ⟨y, rfl⟩ := h3 b hb1
  rw [toB_of, toB_of] at he
  exact hne (by rw [he])
def belowP (p q : ByteArray) : Bool := decide (q ≠ p) && underS p q
theorem belowP_iff (p q : ByteArray) : belowP p q = true ↔ q ≠ p ∧ underS p q = true := by unfold belowP; rw [Bool.and_eq_true, decide_eq_true_eq]
def allL (L : List Bnd) (s : ByteArray) (v : Int) : List ByteArray := compactB ((L.filter fun b => decide (b.subject = s ∧ v ≤ b.verb)).map (·.path))
def reachL (L : List Bnd) (s : ByteArray) (v : Int) : List ByteArray := (allL L s v).filter fun p => !(allL L s v).any (belowP p)
def slashS : ByteArray := ⟨#[47]⟩
def reachS (L : List Bnd) (s : ByteArray) (v : Int) : List ByteArray := if isV v = true then (if s = rootS then [slashS] else reachL L s v) else []
theorem allL_mem {L : List Bnd} {s : ByteArray} {v : Int} {p : ByteArray} : p ∈ allL L s v ↔ ∃ b ∈ L, b.subject = s ∧ v ≤ b.verb ∧ b.path = p := by
  unfold allL
  rw [compactB_mem, List.mem_map]
  constructor
  · rintro ⟨b, hb, rfl⟩
    obtain ⟨h1, h2⟩ := List.mem_filter.1 hb
    obtain ⟨h3, h4⟩ := of_decide_eq_true h2
    exact ⟨b, h1, h3, h4, rfl⟩
  · rintro ⟨b, hb, h3, h4, rfl⟩
    exact ⟨b, List.mem_filter.2 ⟨hb, decide_eq_true ⟨h3, h4⟩⟩, rfl⟩
theorem path_is {p : ByteArray} (h : pathS p = 0) : ∃ ns, IsPath p ns ∧ splitS p = (ns.map toB, 0) := by
  rcases path_cases p with h1 | ⟨h1, h2⟩
  · exact h1
  · rw [pathS_bad h1] at h; cases h
theorem split_inj {p q : ByteArray} (hp : pathS p = 0) (hq : pathS q = 0) (h : (splitS p).1 = (splitS q).1) : p = q := by
  obtain ⟨ns, h1, h2⟩ := path_is hp
  obtain ⟨ms, h3, h4⟩ := path_is hq
  rw [h2, h4] at h
  have hnm : ns = ms := by
    have := congrArg (List.map (·.data.toList)) h
    simp only [List.map_map] at this
    have hid : ((fun x : ByteArray => x.data.toList) ∘ toB) = id := by funext x; exact toB_list x
    rw [hid, List.map_id, List.map_id] at this
    exact this
  rw [s_of h1, s_of h3, hnm]
theorem allL_nodup {L : List Bnd} (hR : Rising L) (hF : ∀ b ∈ L, formedB b = true) (s : ByteArray) (v : Int) : (allL L s v).Nodup := by
  unfold allL
  refine compactB_nodup (R := fun a b => cmpL (splitS a).1 (splitS b).1 ≤ 0) ?_ ?_
  · rw [List.pairwise_map]
    refine (List.Pairwise.filter _ hR).imp ?_
    intro a b h
    unfold cmpB at h
    by_cases e : cmpL (splitS a.path).1 (splitS b.path).1 ≠ 0
    · rw [if_pos e] at h; exact h
    · omega
  · intro x hx y hy h1 h2
    obtain ⟨a, ha, rfl⟩ := List.mem_map.1 hx
    obtain ⟨b, hb, rfl⟩ := List.mem_map.1 hy
    have := cmpL_neg (splitS a.path).1 (splitS b.path).1
    exact split_inj (formed_path (hF a (List.mem_filter.1 ha).1)) (formed_path (hF b (List.mem_filter.1 hb).1)) (cmpL_zero (by omega))
theorem reachL_mem {L : List Bnd} {s : ByteArray} {v : Int} {p : ByteArray} : p ∈ reachL L s v ↔ p ∈ allL L s v ∧ ∀ q ∈ allL L s v, belowP p q = false := by
  unfold reachL
  rw [List.mem_filter]
  simp only [Bool.not_eq_true', List.any_eq_false, Bool.not_eq_true]
theorem under_self {p : ByteArray} (h : pathS p = 0) : underS p p = true := by
  obtain ⟨ns, h1, _⟩ := path_is h
  unfold underS
  rw [memB_iff, lineS_path h1]
  exact (mem_line h1 h1).2 (List.prefix_refl _)
theorem under_iff (p q : ByteArray) : underS p q = true ↔ q ∈ (lineS p).1 := memB_iff _ _
theorem under_trans {p q r : ByteArray} (h1 : underS p q = true) (h2 : underS q r = true) : underS p r = true := by
  rw [under_iff] at h1 h2 ⊢
  exact (line_mem h1).2.2 _ h2
theorem under_len {p q : ByteArray} (h1 : underS p q = true) : (splitS q).1.length ≤ (splitS p).1.length ∧ (q ≠ p → (splitS q).1.length < (splitS p).1.length) := by
  rw [under_iff] at h1
  obtain ⟨hp, hq, _⟩ := line_mem h1
  obtain ⟨ns, a1, a2⟩ := path_is hp
  obtain ⟨ms, b1, b2⟩ := path_is hq
  rw [lineS_path a1] at h1
  have hpre := (mem_line a1 b1).1 h1
  rw [a2, b2]
  simp only [List.length_map]
  refine ⟨hpre.length_le, fun hne => ?_⟩
  rcases Nat.lt_or_ge ms.length ns.length with h | h
  · exact h
  · have := hpre.eq_of_length (by have := hpre.length_le; omega)
    exact absurd (by rw [s_of b1, s_of a1, this]) hne
structure Told (M : Tab) (L : List Bnd) : Prop where
  perm : L.Perm (M.map fun p => p.2)
  rises : Rising L
  fits : ∀ p ∈ M, p.1 = (p.2.path, p.2.name) ∧ formedB p.2 = true
theorem Told.mem {M : Tab} {L : List Bnd} (h : Told M L) (b : Bnd) : b ∈ L ↔ ((b.path, b.name), b) ∈ M := by
  rw [h.perm.mem_iff, List.mem_map]
  constructor
  · rintro ⟨x, hx, rfl⟩
    rw [← (h.fits x hx).1]; exact hx
  · intro hx; exact ⟨_, hx, rfl⟩
theorem Told.formed {M : Tab} {L : List Bnd} (h : Told M L) {b : Bnd} (hb : b ∈ L) : formedB b = true := (h.fits _ ((h.mem b).1 hb)).2
theorem Told.has {M : Tab} {L : List Bnd} (h : Told M L) {s : ByteArray} {v : Int} {q : ByteArray} : hasAt M s v q = true ↔ ∃ b ∈ L, b.path = q ∧ b.subject = s ∧ v ≤ b.verb := by
  rw [hasAt_iff]
  constructor
  · rintro ⟨x, hx, h1, h2, h3⟩
    refine ⟨x.2, (h.mem _).2 ?_, ?_, h2, h3⟩
    · rw [← (h.fits x hx).1]; exact hx
    · rw [← h1, (h.fits x hx).1]
  · rintro ⟨b, hb, h1, h2, h3⟩
    exact ⟨_, (h.mem b).1 hb, h1, h2, h3⟩
theorem formed_verb {b : Bnd} (h : formedB b = true) : b.verb ≤ 3 := by
  unfold formedB at h
  simp at h
  omega
def givesB (b : Bnd) (s : ByteArray) (v : Int) (p : ByteArray) : Bool := decide (b.subject = s) && (decide (0 ≤ v) && (decide (v ≤ b.verb) && underS p b.path))
theorem givesB_iff (b : Bnd) (s : ByteArray) (v : Int) (p : ByteArray) : givesB b s v p = true ↔ b.subject = s ∧ 0 ≤ v ∧ v ≤ b.verb ∧ underS p b.path = true := by
  unfold givesB; simp only [Bool.and_eq_true, decide_eq_true_eq]
theorem Told.any {M : Tab} {L : List Bnd} (h : Told M L) (s : ByteArray) (v : Int) (p : ByteArray) : (L.any fun b => givesB b s v p) = whyB M s v p := by
  rw [Bool.eq_iff_iff, List.any_eq_true]
  unfold whyB
  rw [Bool.and_eq_true, isV_iff, List.any_eq_true]
  constructor
  · rintro ⟨b, hb, hg⟩
    obtain ⟨h1, h2, h3, h4⟩ := (givesB_iff _ _ _ _).1 hg
    exact ⟨⟨h2, by have := formed_verb (h.formed hb); omega⟩, b.path, (under_iff _ _).1 h4, h.has.2 ⟨b, hb, rfl, h1, h3⟩⟩
  · rintro ⟨⟨h1, h2⟩, q, hq, hh⟩
    obtain ⟨b, hb, rfl, h4, h5⟩ := h.has.1 hh
    exact ⟨b, hb, (givesB_iff _ _ _ _).2 ⟨h4, h1, h5, (under_iff _ _).2 hq⟩⟩
theorem why_none {M : Tab} {s : ByteArray} {v : Int} {p : ByteArray} {c : Bnd} (h : WhyIs M s v p c false) : c = zb := by
  rcases h with ⟨_, h, _⟩ | ⟨h, _⟩
  · exact h
  · cases h
theorem upto_cut {ns : List (List UInt8)} : ∀ {i : Nat} {A B : List ByteArray} {q : ByteArray}, upto ns i = A ++ q :: B → ∃ j, j ≤ i ∧ q = toB (pathL (ns.take j)) ∧ B = (upto ns j).tail ∧ ∀ k, k ≤ i → j < k → toB (pathL (ns.take k)) ∈ A
  | 0, [], B, q, h => by
    simp only [upto, List.nil_append, List.cons.injEq] at h
    exact ⟨0, Nat.le_refl _, h.1 ▸ rfl, by rw [← h.2]; rfl, fun k h1 h2 => by omega⟩
  | 0, a :: A, B, q, h => by
    have := congrArg List.length h
    simp [upto] at this
  | i + 1, [], B, q, h => by
    simp only [upto, List.nil_append, List.cons.injEq] at h
    exact ⟨i + 1, Nat.le_refl _, h.1 ▸ rfl, by rw [← h.2]; rfl, fun k h1 h2 => by omega⟩
  | i + 1, a :: A, B, q, h => by
    simp only [upto, List.cons_append, List.cons.injEq] at h
    obtain ⟨j, hj, h1, h2, h3⟩ := upto_cut h.2
    refine ⟨j, by omega, h1, h2, fun k hk hjk => ?_⟩
    rcases Nat.lt_or_ge i k with h4 | h4
    · obtain rfl : k = i + 1 := by omega
      rw [h.1]; simp
    · exact List.mem_cons_of_mem _ (h3 k h4 hjk)
theorem why_found {M : Tab} {L : List Bnd} (h : Told M L) {s : ByteArray} {v : Int} {p : ByteArray} {c : Bnd} (hw : WhyIs M s v p c true) :
    c ∈ L ∧ givesB c s v p = true ∧ ∀ b ∈ L, givesB b s v p = true → (splitS b.path).1.length ≤ (splitS c.path).1.length ∧ ¬ (b.path = c.path ∧ Op.bytesLess b.name.toList c.name.toList = true) := by
  rcases hw with ⟨h0, _⟩ | ⟨_, hv, A, q, B, hl, hA, ⟨x, hx, hxc, hm1, hm2, hm3⟩, hB⟩
  · cases h0
  obtain ⟨hf1, hf2⟩ := h.fits x hx
  have hcL : c ∈ L := by rw [h.mem, ← hxc, ← hf1]; exact hx
  have hq : c.path = q := by rw [← hxc, ← hm1, hf1]
  have hqm : q ∈ (lineS p).1 := by rw [hl]; simp
  obtain ⟨hpp, hqp, _⟩ := line_mem hqm
  obtain ⟨ns, a1, a2⟩ := path_is hpp
  rw [lineS_path a1] at hl
  obtain ⟨j, hj, e1, e2, e3⟩ := upto_cut hl
  have hqs := isPath_of q _ (e1 ▸ isPath_take a1 j)
  refine ⟨hcL, (givesB_iff _ _ _ _).2 ⟨by rw [← hxc]; exact hm2, ((isV_iff v).1 hv).1, by rw [← hxc]; exact hm3, by rw [hq]; exact (under_iff _ _).2 hqm⟩, fun b hb hg => ?_⟩
  obtain ⟨g1, g2, g3, g4⟩ := (givesB_iff _ _ _ _).1 hg
  have hbl := (under_iff _ _).1 g4
  rw [lineS_path a1] at hbl
  obtain ⟨k, hk, ek⟩ := (mem_upto _ _ _).1 hbl
  have hkj : k ≤ j := by
    rcases Nat.lt_or_ge j k with h4 | h4
    · have := hA _ (e3 k hk h4)
      have h5 : hasAt M s v (toB (pathL (ns.take k))) = true := h.has.2 ⟨b, hb, ek, g1, g3⟩
      rw [h5] at this; cases this
    · exact h4
  have hbs := isPath_of b.path _ (ek ▸ isPath_take a1 k)
  refine ⟨?_, ?_⟩
  · rw [hq, hqs, hbs]
    simp only [List.length_map, List.length_take]
    omega
  · rintro ⟨hbp, hlt⟩
    have := hB ((b.path, b.name), b) ((h.mem b).1 hb) ⟨by rw [← hq]; exact hbp, g1, g3⟩
    rw [hlt] at this; cases this
end Go.Proofs.YtphddbijdfmpjaaGreatDoor.Q
namespace Go.Proofs.YtphddbijdfmpjaaGreatDoor.Q
open Go.RowKit Go.MapRaw Go.Proofs.YtphddbijdfmpjaaGreatDoorW.PrintWords Go.Proofs.YtphddbijdfmpjaaGreatDoorW.PrintLast Go.Proofs.YtphddbijdfmpjaaGreatDoor.Wr
set_option linter.unusedVariables false
set_option linter.unusedSimpArgs false
theorem under_ok (p q : ByteArray) (w : World) (hq : q.size + 1 ≤ 9223372036854775807) (hG : Glob w) : Calls Tryz.prog 43 #[.string p, .string q] w fun e w' => e = .returned (.bool (underS p q)) ∧ Below w.heap.size w w' := by
  obtain ⟨k, h⟩ := under_ev p q hq
  exact label_Under.calls k _ _ _ w (h k (Nat.le_refl _)) hG
def closV (pb : Nat) : Value := .func (.func 42) #[] #[.pointer (some ⟨pb, 0, none⟩)]
set_option maxRecDepth 100000 in
set_option maxHeartbeats 16000000 in
theorem clos_ok (pb : Nat) (p q : ByteArray) (w : World) (hb : w.heap[pb]? = some (.cells #[.string p] 9 (0, 0))) (hq : q.size + 1 ≤ 9223372036854775807) (hG : Glob w) :
    Calls Tryz.prog 42 #[.string q, .pointer (some ⟨pb, 0, none⟩)] w fun e w' => e = .returned (.bool (belowP p q)) ∧ Below w.heap.size w w' := by
  have hc : w.cell? ⟨pb, 0, none⟩ = some (.string p) := (blk_cell hb 0).trans rfl
  have UK := Lib.hid (under_ok p q w hq hG)
  obtain ⟨res, hres⟩ : ∃ res, res = belowP p q := ⟨_, rfl⟩
  rw [← hres]
  have HRES := Lib.hid hres
  obtain ⟨u, hu⟩ : ∃ u, u = underS p q := ⟨_, rfl⟩
  rw [← hu] at UK
  have HU := Lib.hid hu
  clear hb hq hG hres hu
  by_cases hne : q = p
  · have e1 : (q.toList == p.toList) = true := by rw [toList_beq, ba_beq]; exact hne
    have HNE := Lib.hid hne
    clear hne
    go_enter Tryz.func42, Tryz.ntmps42
    go_wp2
    go_ret
    exact ⟨by rw [HRES.out]; unfold belowP; rw [HNE.out]; simp <;> rfl, Below.refl _ _⟩
  have e1 : (q.toList == p.toList) = false := by rw [toList_beq, Bool.eq_false_iff, Ne, ba_beq]; exact hne
  have HNE := Lib.hid hne
  clear hne
  go_enter Tryz.func42, Tryz.ntmps42
  go_wp2_with (go_at_call 43; refine UK.out.mono ?_; rintro e wx ⟨rfl, hb⟩; have B1 := Aside0.mk hb; clear hb)
  go_ret
  exact ⟨by rw [HRES.out]; unfold belowP; rw [decide_eq_true HNE.out, Bool.true_and, HU.out] <;> rfl, B1.out⟩
set_option maxRecDepth 100000 in
set_option maxHeartbeats 16000000 in
theorem index_ok (A : Option Addr) (c : Nat) (xs : List ByteArray) (pb : Nat) (p : ByteArray) (w : World) (hx : Kd.string.C w A xs.length xs) (hl : xs.length ≤ 2513169434843) (hb : w.heap[pb]? = some (.cells #[.string p] 9 (0, 0))) (hq : ∀ q ∈ xs, q.size + 1 ≤ 9223372036854775807) (hG : Glob w) :
    Calls Tryz.prog 54 #[.slice A xs.length c, closV pb] w fun e w' => ∃ r : Int, e = .returned (.int .i64 r) ∧ decide (0 ≤ r) = xs.any (belowP p) ∧ Below w.heap.size w w' := by
  obtain ⟨res, hres⟩ : ∃ res, res = xs.any (belowP p) := ⟨_, rfl⟩
  rw [← hres]
  have HRES := Lib.hid hres
  have HX := Lib.hid hx
  have HLL := Lib.hid hl
  have PB := Lib.hid hb
  have HQ := Lib.hid hq
  have G1 := Lib.hid hG
  clear hx hl hb hq hG hres
  unfold closV
  go_enter Tryz.func54, Tryz.ntmps54
  go_upto_region 2 with fail
  go_loopg [8] xs.length (fun g v8 wr => ∃ (i : Nat), v8 = .int .i64 (i : Int) ∧ Aside0 (i + g = xs.length) ∧ Aside0 ((xs.drop i).any (belowP p) = res) ∧ Aside0 (Below w.heap.size w wr))
  case atStart => exact ⟨0, rfl, ⟨by omega⟩, ⟨by rw [List.drop_zero]; exact HRES.out.symm⟩, ⟨Below.refl _ _⟩⟩
  case round =>
    obtain ⟨i, rfl, HI, HS, HB⟩ := hrel
    by_cases hi : i < xs.length
    rotate_left
    · have q1 : decide ((i : Int) < (xs.length : Int)) = false := decide_eq_false (by omega)
      have q1n : decide (i < xs.length) = false := decide_eq_false hi
      have HD := Lib.hid (show xs.drop i = [] from List.drop_of_length_le (by omega))
      clear hi
      go_wp2
      go_ret
      exact ⟨-1, rfl, by rw [← HS.out, HD.out]; rfl, HB.out⟩
    have q1 : decide ((i : Int) < (xs.length : Int)) = true := decide_eq_true (by omega)
    have q1n : decide (i < xs.length) = true := decide_eq_true hi
    have p1 : (0 ≤ (i : Int)) = True := eq_true (by omega)
    have p2 : ((i : Int) < (xs.length : Int)) = True := eq_true (by omega)
    obtain ⟨ad, hA, hx0⟩ := txt_at (Kd.C_below HX.out HB.out) hi
    cases hA
    have HDX := Lib.hid (show (xs.drop i).any (belowP p) = (belowP p xs[i] || (xs.drop (i + 1)).any (belowP p)) by rw [List.drop_eq_getElem_cons hi, List.any_cons])
    obtain ⟨g0, rfl⟩ : ∃ g0, gk = g0 + 1 := ⟨gk - 1, by have := HI.out; omega⟩
    have HLT := Lib.hid hi
    have HC := Lib.hid (clos_ok pb p xs[i] wr (blk_below PB.out HB.out) (HQ.out _ (List.getElem_mem hi)) (G1.out.below HB.out))
    generalize xs[i] = q at hx0 HDX HC
    clear hi
    obtain ⟨r, hr⟩ : ∃ r, r = belowP p q := ⟨_, rfl⟩
    rw [← hr] at HC HDX
    clear hr
    cases r with
    | true =>
      go_wp2_with (go_at_call 42; refine HC.out.mono ?_; rintro e wx ⟨rfl, hb⟩; have B1 := Aside0.mk (HB.out.trans (below_lower hb HB.out.size)); clear hb)
      go_ret
      exact ⟨(i : Int), rfl, by rw [← HS.out, HDX.out, Bool.true_or]; exact decide_eq_true (Int.natCast_nonneg i), B1.out⟩
    | false =>
      go_wp2_with (go_at_call 42; refine HC.out.mono ?_; rintro e wx ⟨rfl, hb⟩; have B1 := Aside0.mk (HB.out.trans (below_lower hb HB.out.size)); clear hb)
      go_roundg g0
      case measure => omega
      case rel => exact ⟨i + 1, congrArg (Value.int .i64) (by rw [w64 i (by have := HLT.out; have := HLL.out; omega)]), ⟨by have := HI.out; omega⟩, ⟨by rw [← HS.out, HDX.out, Bool.false_or]⟩, B1⟩
set_option maxRecDepth 100000 in
set_option maxHeartbeats 16000000 in
theorem contains_ok (A : Option Addr) (c : Nat) (xs : List ByteArray) (pb : Nat) (p : ByteArray) (w : World) (hx : Kd.string.C w A xs.length xs) (hl : xs.length ≤ 2513169434843) (hb : w.heap[pb]? = some (.cells #[.string p] 9 (0, 0))) (hq : ∀ q ∈ xs, q.size + 1 ≤ 9223372036854775807) (hG : Glob w) :
    Calls Tryz.prog 41 #[.slice A xs.length c, closV pb] w fun e w' => e = .returned (.bool (xs.any (belowP p))) ∧ Below w.heap.size w w' := by
  have IX := Lib.hid (index_ok A c xs pb p w hx hl hb hq hG)
  obtain ⟨res, hres⟩ : ∃ res, res = xs.any (belowP p) := ⟨_, rfl⟩
  rw [← hres] at IX ⊢
  clear hres hx hl hb hq hG
  unfold closV at IX ⊢
  go_enter Tryz.func41, Tryz.ntmps41
  go_wp2_with (go_at_call 54; refine IX.out.mono ?_; rintro e wx ⟨r, rfl, hr, hb⟩; have B1 := Aside0.mk hb; have HR := Lib.hid hr; clear hb hr)
  go_ret
  exact ⟨by rw [← HR.out] <;> rfl, B1.out⟩
end Go.Proofs.YtphddbijdfmpjaaGreatDoor.Q
namespace Go.Proofs.YtphddbijdfmpjaaGreatDoor.Q
open Go.RowKit Go.MapRaw Go.Proofs.YtphddbijdfmpjaaGreatDoorW.PrintWords Go.Proofs.YtphddbijdfmpjaaGreatDoorW.PrintLast Go.Proofs.YtphddbijdfmpjaaGreatDoor.Wr Go.Proofs.YtphddbijdfmpjaaGreatDoor.Pl Go.Sort
set_option linter.unusedVariables false
set_option linter.unusedSimpArgs false
theorem innerS {w : World} {base : Nat} {ok : Nat → Prop} {xs : List ByteArray} {inner : List Value} (h : Reps (Kd.string.M w base ok) 1 xs inner) : inner = xs.map Value.string := by
  have hlen : inner.length = xs.length := by have := h.1; omega
  apply List.ext_getElem?
  intro t
  by_cases ht : t < xs.length
  · have hk : (inner.drop (t * 1)).take 1 = [.string xs[t]] := h.2 t _ (List.getElem?_eq_getElem ht)
    have h1 : inner[t]? = ((inner.drop (t * 1)).take 1)[0]? := by
      rw [List.getElem?_take_of_lt (by omega), List.getElem?_drop]
      congr 1
      omega
    rw [h1, hk, List.getElem?_map, List.getElem?_eq_getElem ht]
    rfl
  · rw [List.getElem?_eq_none (by omega), List.getElem?_eq_none (by rw [List.length_map]; omega)]
theorem repsS (w : World) (base : Nat) (ok : Nat → Prop) (xs : List ByteArray) : Reps (Kd.string.M w base ok) 1 xs (xs.map Value.string) := by
  refine ⟨by rw [List.length_map]; omega, fun j p hj => ?_⟩
  obtain ⟨hl, rfl⟩ := List.getElem?_eq_some_iff.1 hj
  show ((xs.map Value.string).drop (j * 1)).take 1 = [.string xs[j]]
  rw [Nat.mul_one, List.drop_eq_getElem_cons (by rw [List.length_map]; exact hl), List.getElem_map]
  rfl
theorem compact_row {w : World} {base : Nat} {ok : Nat → Prop} {v : Value} {xs : List ByteArray} (HR : Kd.R Kd.string 9 w base ok v xs) (hl : xs.length ≤ 2513169434843) :
    Calls Tryz.prog 40 #[v] w fun e w' => ∃ v', e = .returned v' ∧ Kd.R Kd.string 9 w' base ok v' (compactB xs) ∧ v'.ownBlock = v.ownBlock ∧ w.grownBy w' v.ownBlock := by
  obtain ⟨h0, inner, ho, hi⟩ := HR
  rcases ho.2 with ⟨rfl, hn⟩ | ⟨g, cap, cur, rfl, hg, hb, h1, h2, h3, h4⟩
  · obtain rfl := List.eq_nil_of_length_eq_zero hn
    refine Calls.mono (Tryz.slices_Compact_string_empty none 0 w) ?_
    rintro e w' ⟨rfl, rfl⟩
    exact ⟨_, rfl, Kd.R_nil _ _ _ _ _, rfl, ⟨rfl, rfl, rfl, Nat.le_refl _, fun _ _ _ => rfl⟩⟩
  · have hin := innerS hi
    have hz1 : Kd.string.sz = 1 := rfl
    have hlt : g < w.heap.size := (Array.getElem?_eq_some_iff.1 hb).1
    obtain ⟨zs, hzs⟩ : ∃ zs, zs = xs.map (·.data.toList) := ⟨_, rfl⟩
    have hzl : zs.length = xs.length := by rw [hzs, List.length_map]
    have hcur : ∀ j (h : j < xs.length), cur[j]? = some (.string xs[j]) := by
      intro j hj
      have h5 : (cur.toList.take (xs.length * 1))[j]? = (xs.map Value.string)[j]? := by rw [← hin]; exact congrArg (·[j]?) h4
      rw [List.getElem?_take_of_lt (by omega), List.getElem?_map, List.getElem?_eq_getElem hj, Array.getElem?_toList] at h5
      exact h5
    have hH : Holds encStr w g 0 zs.toArray := by
      intro j hj
      have hj' : j < xs.length := by simpa [hzl] using hj
      refine ⟨?_, by simp [World.frozen?, hb]⟩
      have e1 : zs.toArray[j]! = xs[j].data.toList := by
        rw [getElem!_pos zs.toArray j (by simpa using (show j < zs.length by omega))]
        simp [hzs]
      rw [e1]
      simp only [World.cell?, hb, Nat.zero_add]
      simp only [Option.isSome_none, Bool.false_eq_true, if_false]
      rw [hcur j hj']
    have hc := Tryz.slices_Compact_string g 0 cap zs w hH (by omega) (by omega)
    rw [hzl] at hc
    refine hc.mono ?_
    rintro e w' ⟨rfl, q, rfl⟩
    obtain ⟨cs, hcs⟩ : ∃ cs, cs = Go.Lib.compact zs := ⟨_, rfl⟩
    have hcb : compactB xs = cs.map toB := by unfold compactB; rw [hcs, hzs]
    have hcl : cs.length ≤ xs.length := by have := compactB_len xs; rw [hcb, List.length_map] at this; exact this
    rw [← hcs]
    obtain ⟨d, hd⟩ : ∃ d, d = (cs ++ List.replicate (xs.length - cs.length) ([] : List UInt8)).toArray := ⟨_, rfl⟩
    rw [← hd]
    have hds : d.size = xs.length := by rw [hd]; simp; omega
    have hdg : ∀ j (h : j < cs.length), d[j]! = cs[j] := by
      intro j hj
      rw [getElem!_pos d j (by omega)]
      simp [hd, List.getElem_append_left hj]
    have hlc : (compactB xs).length = cs.length := by rw [hcb, List.length_map]
    refine ⟨_, rfl, ⟨h0, (compactB xs).map Value.string, ⟨by rw [List.length_map, hz1, Nat.mul_one], .inr ⟨g, cap, putCells encStr 0 d cur, by rw [hlc], hg, ?_, by omega, h2, by simp [putCells, h3], ?_⟩⟩, repsS _ _ _ _⟩, rfl, ⟨rfl, rfl, rfl, by simp [putRow, mapBlock, Sort.ahead], fun k hk hne => ?_⟩⟩
    · simp [putRow, mapBlock, Sort.ahead, Array.getElem?_modify, hb, onCells]
    · rw [hlc, hcb, hz1, Nat.mul_one]
      apply List.ext_getElem?
      intro j
      by_cases hj : j < cs.length
      · have hjc : j < cur.size := by rw [h3, hz1]; omega
        rw [List.getElem?_take_of_lt hj, Array.getElem?_toList, List.getElem?_map, List.getElem?_map, List.getElem?_eq_getElem hj]
        simp only [putCells, Array.getElem?_mapIdx, Array.getElem?_eq_getElem hjc, Option.map_some, Nat.sub_zero]
        rw [if_pos ⟨by omega, by omega⟩, hdg j hj]
        rfl
      · rw [List.getElem?_take_eq_none (by omega), List.getElem?_eq_none (by simp; omega)]
    · have : g ≠ k := fun e => hne (by rw [e]; rfl)
      simp [putRow, mapBlock, Sort.ahead, Array.getElem?_modify, this]
end Go.Proofs.YtphddbijdfmpjaaGreatDoor.Q
namespace Go.Proofs.YtphddbijdfmpjaaGreatDoor.Q
open Go.RowKit Go.MapRaw Go.Proofs.YtphddbijdfmpjaaGreatDoorW.PrintWords Go.Proofs.YtphddbijdfmpjaaGreatDoorW.PrintLast Go.Proofs.YtphddbijdfmpjaaGreatDoor.Wr Go.Proofs.YtphddbijdfmpjaaGreatDoor.Pl
open Go.ChangeMaps (setBlock)
set_option linter.unusedVariables false
set_option linter.unusedSimpArgs false
theorem Told.unique {M : Tab} {L L2 : List Bnd} (hn : (M.map (fun x => x.1)).Nodup) (h : Told M L) (h2 : Told M L2) : L2 = L := by
  have hk : (L.map keyB).Nodup := by
    refine (h.perm.map keyB).nodup_iff.2 ?_
    rw [List.map_map]
    have : (M.map (keyB ∘ fun p => p.2)) = M.map (fun x => x.1) := List.map_congr_left fun x hx => (h.fits x hx).1.symm
    rw [this]; exact hn
  have hp : L2.Perm L := h2.perm.trans h.perm.symm
  refine List.Perm.eq_of_pairwise (le := fun a b => cmpB a b ≤ 0) ?_ h2.rises h.rises hp
  intro a b ha hb h3 h4
  have hb' : b ∈ L := hb
  have ha' : a ∈ L := hp.mem_iff.1 ha
  have := ordB.neg a b
  exact key_inj hk ha' hb' (cmpB_key (h.formed ha') (h.formed hb') (by omega))
def fits (s : ByteArray) (v : Int) (b : Bnd) : Bool := decide (b.subject = s ∧ v ≤ b.verb)
theorem filt_take {α β : Type} (L : List α) (f : α → Bool) (p : α → β) (i : Nat) (h : i < L.length) : ((L.take (i + 1)).filter f).map p = ((L.take i).filter f).map p ++ (if f L[i] = true then [p L[i]] else []) := by
  rw [List.take_add_one, List.getElem?_eq_getElem h, List.filter_append, List.map_append]
  congr 1
  show (List.filter f [L[i]]).map p = _
  by_cases e : f L[i] = true
  · rw [if_pos e, List.filter_cons_of_pos e]; rfl
  · rw [if_neg e, List.filter_cons_of_neg e]; rfl
theorem filt_take1 {α : Type} (L : List α) (f : α → Bool) (i : Nat) (h : i < L.length) : (L.take (i + 1)).filter f = (L.take i).filter f ++ (if f L[i] = true then [L[i]] else []) := by
  have := filt_take L f id i h
  simpa using this
theorem take_filt_len {α : Type} (L : List α) (f : α → Bool) (i : Nat) : ((L.take i).filter f).length ≤ L.length := Nat.le_trans (List.length_filter_le _ _) (by rw [List.length_take]; omega)
theorem path_size {p : ByteArray} (h : pathS p = 0) : p.size ≤ 64 := by
  obtain ⟨ns, h1, _⟩ := path_is h
  exact h1.size
set_option maxRecDepth 100000 in
set_option maxHeartbeats 16000000 in
theorem reach_ok (w : World) (t b : Nat) (M : Tab) (L : List Bnd) (s : ByteArray) (v : Int) (hT : TB w t b M) (hL : Told M L) (hG : Glob w) (hM : M.length ≤ 2513169434843) :
    Calls Tryz.prog 21 #[.pointer (some ⟨t, 0, none⟩), .string s, .int .i64 v] w fun e w' => ∃ v0, e = .returned v0 ∧ Kd.R Kd.string 9 w' w.heap.size (fun _ => True) v0 (reachS L s v) ∧ Below w.heap.size w w' := by
  have hu27 := Tryz.underlying28
  obtain ⟨rs, hrs⟩ : ∃ rs, rs = reachS L s v := ⟨_, rfl⟩
  rw [← hrs]
  have HRS := Lib.hid hrs
  have key := verb_ok v
  have GL := Lib.hid hG
  have TL := Lib.hid hL
  have HT := Lib.hid hT
  have HM := Lib.hid hM
  clear hrs hL hT hG hM
  cases hv : isV v with
  | false =>
    rw [hv] at key
    have KEY := Lib.hid key
    have HV := Lib.hid hv
    clear key hv
    go_enter Tryz.func21, Tryz.ntmps21
    go_wp2_with (go_at_call 37; refine (KEY.out _).mono ?_; rintro e w2 ⟨rfl, hb2⟩; have B2 := Lib.hid hb2; clear hb2)
    go_ret
    refine ⟨_, rfl, ?_, B2.out⟩
    rw [HRS.out]
    unfold reachS
    rw [HV.out, if_neg (by decide)]
    exact Kd.R_nil _ _ _ _ _
  | true =>
  rw [hv] at key
  have KEY := Lib.hid key
  have HV := Lib.hid hv
  clear key hv
  by_cases hs : s = rootS
  · have hr : (s.toList == ([114, 111, 111, 116] : List UInt8)) = true := by rw [root_list, toList_beq, ba_beq]; exact hs
    have HS := Lib.hid hs
    clear hs
    go_enter Tryz.func21, Tryz.ntmps21
    go_wp2_with (go_at_call 37; refine (KEY.out _).mono ?_; rintro e w2 ⟨rfl, hb2⟩; have B2 := Lib.hid hb2; clear hb2)
    go_ret
    refine ⟨_, rfl, ?_, B2.out.alloc B2.out.size _⟩
    rw [HRS.out]
    unfold reachS
    rw [HV.out, if_pos rfl, if_pos HS.out]
    exact ⟨fun _ _ => trivial, [.string slashS], ⟨rfl, .inr ⟨_, 1, #[.string slashS], rfl, B2.out.size, blk_new _ _, Nat.le_refl _, by decide, rfl, rfl⟩⟩, repsS _ _ _ [slashS]⟩
  have hr : (s.toList == ([114, 111, 111, 116] : List UInt8)) = false := by rw [root_list, toList_beq, Bool.eq_false_iff, Ne, ba_beq]; exact hs
  have HRES := Lib.hid (show rs = reachL L s v by rw [HRS.out]; unfold reachS; rw [HV.out, if_pos rfl, if_neg hs])
  clear hs HRS HV
  go_enter Tryz.func21, Tryz.ntmps21
  go_upto_region 6 with (go_at_call 37; refine (KEY.out _).mono ?_; rintro e w2 ⟨rfl, hb2⟩; have B2 := Aside0.mk hb2; clear hb2)
  clear hr
  have LST := Lib.hid (list_ok w2 t b M (HT.out.below B2.out) (GL.out.below B2.out) HM.out)
  go_wp2_with (go_at_call 8; refine LST.out.mono ?_; rintro e w3 ⟨v0, L6, rfl, hP6, hS6, hR6, hb6⟩; obtain ⟨A0, c0, rfl⟩ := Kd.R_slice hR6; have hL6 := (Told.unique HT.out.nodup TL.out ⟨hP6, hS6, HT.out.fits⟩).symm; subst hL6; have C3 := Aside0.mk (Kd.R_reads' hR6).2.2; have B3 := Aside0.mk (B2.out.trans (below_lower hb6 B2.out.size)); clear hP6 hS6 hR6 hb6)
  clear LST B2
  have HLL := Lib.hid (show L.length ≤ 2513169434843 by have := TL.out.perm.length_eq; rw [List.length_map] at this; have := HM.out; omega)
  go_loopg [7, 22] L.length (fun g v7 v22 wr => ∃ (i : Nat), v22 = .int .i64 (i : Int) ∧ Aside0 (i + g = L.length) ∧ Aside0 (Kd.R Kd.string 9 wr w3.heap.size (fun _ => True) v7 (((L.take i).filter (fits s v)).map (·.path))) ∧ Aside0 (Below w3.heap.size w3 wr))
  case atStart => exact ⟨0, rfl, ⟨by omega⟩, ⟨Kd.R_nil _ _ _ _ _⟩, ⟨Below.refl _ _⟩⟩
  case round =>
    obtain ⟨i, rfl, HI, HR, HB⟩ := hrel
    by_cases hi : i < L.length
    · have q1 : decide ((i : Int) < (L.length : Int)) = true := decide_eq_true (by omega)
      have q1n : decide (i < L.length) = true := decide_eq_true hi
      have p1 : (0 ≤ (i : Int)) = True := eq_true (by omega)
      have p2 : ((i : Int) < (L.length : Int)) = True := eq_true (by omega)
      obtain ⟨ad, hA, hx0, hx⟩ := bnd_at (Kd.C_below C3.out HB.out) i hi
      cases hA
      obtain ⟨g0, rfl⟩ : ∃ g0, gk = g0 + 1 := ⟨gk - 1, by have := HI.out; omega⟩
      have HLT := Lib.hid (show i < 2513169434843 by have := HLL.out; omega)
      have HF := Lib.hid (filt_take L (fits s v) (·.path) i hi)
      have HLX := Lib.hid (show (((L.take i).filter (fits s v)).map (·.path)).length ≤ 2513169434843 by rw [List.length_map]; have := take_filt_len L (fits s v) i; have := HLL.out; omega)
      generalize L[i] = x at hx0 hx HF
      clear hi
      obtain ⟨xp, xn, xs, xv⟩ := x
      have hx1 := hx 1 (.string xn) (by decide) rfl
      have hx2 := hx 2 (.string xs) (by decide) rfl
      have hx3 := hx 3 (.int .i64 xv) (by decide) rfl
      clear hx
      generalize (((L.take i).filter (fits s v)).map (·.path)) = ys at HR HF HLX
      have HWR := Lib.hid (show w3.heap.size ≤ wr.heap.size from HB.out.size)
      go_upto_region 9 with fail
      have HB4 := Aside0.mk (HB.out.alloc HB.out.size (.cells #[.string xp, .string xn, .string xs, .int .i64 xv] 28))
      have HR4 := Aside0.mk (Kd.R_alloc HR.out (.cells #[.string xp, .string xn, .string xs, .int .i64 xv] 28))
      have HV4 := Aside0.mk (blk_new wr (.cells #[.string xp, .string xn, .string xs, .int .i64 xv] 28))
      obtain ⟨vb, hvb⟩ : ∃ vb, vb = wr.heap.size := ⟨_, rfl⟩
      rw [← hvb] at HV4 ⊢
      clear hvb HB HR hx0 hx1 hx2 hx3
      generalize wr.alloc _ = w4 at HB4 HR4 HV4 ⊢
      have hv0 := (blk_cell HV4.out 0).trans rfl
      have hv1 := (blk_cell HV4.out 1).trans rfl
      have hv2 := (blk_cell HV4.out 2).trans rfl
      have hv3 := (blk_cell HV4.out 3).trans rfl
      by_cases hsub : xs = s
      · have e1 : (xs.toList == s.toList) = true := by rw [toList_beq, ba_beq]; exact hsub
        by_cases hvb : v ≤ xv
        · have e2 : decide (v ≤ xv) = true := decide_eq_true hvb
          have HN := Lib.hid (show ((L.take (i + 1)).filter (fits s v)).map (·.path) = ys ++ [xp] by rw [HF.out, if_pos (show fits s v ⟨xp, xn, xs, xv⟩ = true from decide_eq_true ⟨hsub, hvb⟩)])
          have HL1 := Lib.hid (show (ys.length + 1) * 16 ≤ 140737488355328 by have := HLX.out; omega)
          clear hsub hvb
          go_wp2_with (first
          | ((with_reducible refine gate_builtin (b := .append) (xs := #[.tmp 36, .tmp 39]) rfl ?_); at_builtin; refine Kd.R_append Kd.string (w0 := w3) w3.heap.size rfl (.tmp 36) (.tmp 39) 49 9 (.string ⟨#[]⟩) 16 rfl Tryz.underlying49 info9 rfl (by decide) (by omega) u7 ys xp [.string xp] (fun _ => True) (fun _ => False) rfl rfl ?aP (fun _ hk => hk.elim) ?aF ?aO ?aB ?aS ?aL ?_; (case aP => exact (show [Value.string xp] = [Value.string xp] from rfl)); (case aB => exact HB4.out); (case aF => exact (fun _ _ => trivial)); (case aO => exact HR4.out); (case aS => exact HB4.out.size); (case aL => exact HL1.out);
                intro v2 w6 ho hb2 hg2 hat2; have RN := Aside0.mk ho; have BN := Aside0.mk hb2; clear ho hb2 hg2 hat2))
          go_roundg g0
          case measure => omega
          case rel => exact ⟨i + 1, congrArg (Value.int .i64) (by rw [w64 i (by have := HLT.out; omega)]), ⟨by have := HI.out; omega⟩, ⟨by rw [HN.out]; exact RN.out⟩, BN⟩
        · have e2 : decide (v ≤ xv) = false := decide_eq_false hvb
          have HN := Lib.hid (show ((L.take (i + 1)).filter (fits s v)).map (·.path) = ys by rw [HF.out, if_neg (show ¬ fits s v ⟨xp, xn, xs, xv⟩ = true from fun e => hvb (of_decide_eq_true e).2), List.append_nil])
          clear hsub hvb
          go_wp2
          go_roundg g0
          case measure => omega
          case rel => exact ⟨i + 1, congrArg (Value.int .i64) (by rw [w64 i (by have := HLT.out; omega)]), ⟨by have := HI.out; omega⟩, ⟨by rw [HN.out]; exact HR4.out⟩, HB4⟩
      · have e1 : (xs.toList == s.toList) = false := by rw [toList_beq, Bool.eq_false_iff, Ne, ba_beq]; exact hsub
        have HN := Lib.hid (show ((L.take (i + 1)).filter (fits s v)).map (·.path) = ys by rw [HF.out, if_neg (show ¬ fits s v ⟨xp, xn, xs, xv⟩ = true from fun e => hsub (of_decide_eq_true e).1), List.append_nil])
        clear hsub
        go_wp2
        go_roundg g0
        case measure => omega
        case rel => exact ⟨i + 1, congrArg (Value.int .i64) (by rw [w64 i (by have := HLT.out; omega)]), ⟨by have := HI.out; omega⟩, ⟨by rw [HN.out]; exact HR4.out⟩, HB4⟩
    have q1 : decide ((i : Int) < (L.length : Int)) = false := decide_eq_false (by omega)
    have q1n : decide (i < L.length) = false := decide_eq_false hi
    rw [List.take_of_length_le (show L.length ≤ i by omega)] at HR
    clear hi C3
    have HLX := Lib.hid (show ((L.filter (fits s v)).map (·.path)).length ≤ 2513169434843 by rw [List.length_map]; have := List.length_filter_le (fits s v) L; have := HLL.out; omega)
    obtain ⟨al, hal⟩ : ∃ al, al = compactB ((L.filter (fits s v)).map (·.path)) := ⟨_, rfl⟩
    have CK := Lib.hid (compact_row HR.out HLX.out)
    have HAL := Lib.hid (show al = allL L s v from hal)
    have HALn := Lib.hid (show al.length ≤ 2513169434843 by rw [hal]; exact Nat.le_trans (compactB_len _) HLX.out)
    have HALs := Lib.hid (show ∀ q ∈ al, q.size + 1 ≤ 9223372036854775807 from fun q hq => by
      rw [HAL.out] at hq
      obtain ⟨bb, hb1, _, _, hb4⟩ := allL_mem.1 hq
      have := path_size (formed_path (TL.out.formed hb1))
      rw [hb4] at this; omega)
    rw [← hal] at CK
    clear hal
    go_upto_region 13 with (go_at_call 40; refine CK.out.mono ?_; rintro e w4 ⟨v4, rfl, hR4, _, hg4⟩; obtain ⟨A7, c7, rfl⟩ := Kd.R_slice hR4; have C4 := Aside0.mk (Kd.R_reads' hR4).2.2; have B4 := Aside0.mk (HB.out.grown hg4 HB.out.size (fun j hj => own_base HR.out.2.choose_spec.1 j hj)); clear hR4 hg4)
    clear CK HR
    have BW := Lib.hid (B3.out.trans (below_lower B4.out B3.out.size))
    clear HB B4
    go_upto_region 15 with fail
    go_loopg [10, 46] al.length (fun g v10 v46 wr => ∃ (i : Nat), v46 = .int .i64 (i : Int) ∧ Aside0 (i + g = al.length) ∧ Aside0 (Kd.R Kd.string 9 wr w4.heap.size (fun _ => True) v10 ((al.take i).filter fun p => !al.any (belowP p))) ∧ Aside0 (Below w4.heap.size w4 wr))
    case atStart => exact ⟨0, rfl, ⟨by omega⟩, ⟨Kd.R_nil _ _ _ _ _⟩, ⟨Below.refl _ _⟩⟩
    case round =>
      obtain ⟨j, rfl, HI, HR, HB⟩ := hrel
      by_cases hi : j < al.length
      rotate_left
      · have d1 : decide ((j : Int) < (al.length : Int)) = false := decide_eq_false (by omega)
        have d1n : decide (j < al.length) = false := decide_eq_false hi
        rw [List.take_of_length_le (show al.length ≤ j by omega)] at HR
        clear hi
        go_wp2
        go_ret
        exact ⟨_, rfl, Kd.R_lower (by rw [HRES.out]; unfold reachL; rw [← HAL.out]; exact HR.out) BW.out.size, BW.out.trans (below_lower HB.out BW.out.size)⟩
      have d1 : decide ((j : Int) < (al.length : Int)) = true := decide_eq_true (by omega)
      have d1n : decide (j < al.length) = true := decide_eq_true hi
      have p1 : (0 ≤ (j : Int)) = True := eq_true (by omega)
      have p2 : ((j : Int) < (al.length : Int)) = True := eq_true (by omega)
      obtain ⟨ad, hA, hx0⟩ := txt_at (Kd.C_below C4.out HB.out) hi
      cases hA
      obtain ⟨g0, rfl⟩ : ∃ g0, gk = g0 + 1 := ⟨gk - 1, by have := HI.out; omega⟩
      have HLT := Lib.hid (show j < 2513169434843 by have := HALn.out; omega)
      have HF := Lib.hid (filt_take1 al (fun p => !al.any (belowP p)) j hi)
      have HLX2 := Lib.hid (show ((al.take j).filter fun p => !al.any (belowP p)).length ≤ 2513169434843 from Nat.le_trans (take_filt_len al _ j) HALn.out)
      generalize al[j] = x at hx0 HF
      clear hi
      generalize ((al.take j).filter fun p => !al.any (belowP p)) = ys at HR HF HLX2
      go_upto_region 17 with fail
      have HB4 := Aside0.mk (HB.out.alloc HB.out.size (.cells #[.string x] 9))
      have HR4 := Aside0.mk (Kd.R_alloc HR.out (.cells #[.string x] 9))
      have HV4 := Aside0.mk (blk_new wr (.cells #[.string x] 9))
      obtain ⟨pb, hpb⟩ : ∃ pb, pb = wr.heap.size := ⟨_, rfl⟩
      rw [← hpb] at HV4 ⊢
      clear hpb HB HR hx0
      generalize wr.alloc _ = w5 at HB4 HR4 HV4 ⊢
      have CT := Lib.hid (contains_ok (some ad) c7 al pb x w5 (Kd.C_below C4.out HB4.out) HALn.out HV4.out HALs.out (GL.out.below (BW.out.trans (below_lower HB4.out BW.out.size))))
      unfold closV at CT
      obtain ⟨r, hr⟩ : ∃ r, r = al.any (belowP x) := ⟨_, rfl⟩
      rw [← hr] at CT
      have HRR := Lib.hid hr
      clear hr
      have hmf : ∀ (fn : Fn) (first cap : Array Value) (w : World), (Instr.makeFunc fn first cap).run Tryz.prog w = .ok (.func fn first cap) w := fun _ _ _ _ => rfl
      cases r with
      | true =>
        have HN := Lib.hid (show ((al.take (j + 1)).filter fun p => !al.any (belowP p)) = ys by rw [HF.out, ← HRR.out]; simp)
        go_wp2_with (go_at_call 41; refine CT.out.mono ?_; rintro e w8 ⟨rfl, hb⟩; have B8 := Aside0.mk (HB4.out.trans (below_lower hb HB4.out.size)); have R8 := Aside0.mk (Kd.R_below HR4.out hb); clear hb)
        go_roundg g0
        case measure => omega
        case rel => exact ⟨j + 1, congrArg (Value.int .i64) (by rw [w64 j (by have := HLT.out; omega)]), ⟨by have := HI.out; omega⟩, ⟨by rw [HN.out]; exact R8.out⟩, B8⟩
      | false =>
        have HN := Lib.hid (show ((al.take (j + 1)).filter fun p => !al.any (belowP p)) = ys ++ [x] by rw [HF.out, ← HRR.out]; simp)
        have HL1 := Lib.hid (show (ys.length + 1) * 16 ≤ 140737488355328 by have := HLX2.out; omega)
        go_upto_region 18 with (go_at_call 41; refine CT.out.mono ?_; rintro e w8 ⟨rfl, hb⟩; have B8 := Aside0.mk (HB4.out.trans (below_lower hb HB4.out.size)); have R8 := Aside0.mk (Kd.R_below HR4.out hb); have V8 := Aside0.mk (blk_below HV4.out hb); clear hb)
        have hv0 := (blk_cell V8.out 0).trans rfl
        go_wp2_with (first
          | ((with_reducible refine gate_builtin (b := .append) (xs := #[.tmp 54, .tmp 56]) rfl ?_); at_builtin; refine Kd.R_append Kd.string (w0 := w4) w4.heap.size rfl (.tmp 54) (.tmp 56) 49 9 (.string ⟨#[]⟩) 16 rfl Tryz.underlying49 info9 rfl (by decide) (by omega) u10 ys x [.string x] (fun _ => True) (fun _ => False) rfl rfl ?aP (fun _ hk => hk.elim) ?aF ?aO ?aB ?aS ?aL ?_; (case aP => exact (show [Value.string x] = [Value.string x] from rfl)); (case aB => exact B8.out); (case aF => exact (fun _ _ => trivial)); (case aO => exact R8.out); (case aS => exact B8.out.size); (case aL => exact HL1.out);
                intro v2 w6 ho hb2 hg2 hat2; have RN := Aside0.mk ho; have BN := Aside0.mk hb2; clear ho hb2 hg2 hat2))
        go_roundg g0
        case measure => omega
        case rel => exact ⟨j + 1, congrArg (Value.int .i64) (by rw [w64 j (by have := HLT.out; omega)]), ⟨by have := HI.out; omega⟩, ⟨by rw [HN.out]; exact RN.out⟩, BN⟩
end Go.Proofs.YtphddbijdfmpjaaGreatDoor.Q
namespace Go.Proofs.YtphddbijdfmpjaaGreatDoor.Q
open Go.RowKit Go.Sort Go.MapRaw Go.Proofs.YtphddbijdfmpjaaGreatDoorW.PrintWords Go.Proofs.YtphddbijdfmpjaaGreatDoorW.PrintLast Go.Proofs.YtphddbijdfmpjaaGreatDoor.Wr
set_option linter.unusedVariables false
set_option linter.unusedSimpArgs false
theorem _root_.Go.Proofs.YtphddbijdfmpjaaGreatDoor.Wr.TB.grown {w w' : World} {t b : Nat} {M : Tab} {row : Option Nat} (h : TB w t b M) (hg : w.grownBy w' row) (ht : some t ≠ row) (hb : some b ≠ row) : TB w' t b M :=
  ⟨(hg.block _ (blk_lt h.at_) ht).trans h.at_, h.ne, Holds_move h.holds (hg.block _ (Holds_lt h.holds) hb), h.nodup, h.fits⟩
theorem R_ownG {α : Type} {d : Kd α} {e : Nat} {w : World} {base n c : Nat} {ok : Nat → Prop} {A : Option Addr} {xs : List α} (h : d.R e w base ok (.slice A n c) xs) (hn : 0 < n) : ∃ g, A = some ⟨g, 0, none⟩ ∧ base ≤ g := by
  have hx := (Kd.R_reads' h).1
  obtain ⟨h0, inner, ho, hin⟩ := h
  rcases ho.2 with ⟨he, h1⟩ | ⟨g', cap', cur, he, hg, _⟩
  · omega
  · injection he with he1
    exact ⟨g', he1, hg⟩
theorem reachS_len {L : List Bnd} {s : ByteArray} {v : Int} (h : L.length ≤ 2513169434843) : (reachS L s v).length ≤ 2513169434843 := by
  unfold reachS
  by_cases hv : isV v = true
  · rw [if_pos hv]
    by_cases hs : s = rootS
    · rw [if_pos hs]; simp
    · rw [if_neg hs]
      unfold reachL
      refine Nat.le_trans (List.length_filter_le _ _) ?_
      unfold allL
      refine Nat.le_trans (compactB_len _) ?_
      rw [List.length_map]
      exact Nat.le_trans (List.length_filter_le _ _) h
  · rw [if_neg hv]; exact Nat.zero_le _
section
variable {P : Program}
end
section
variable {P : Program} {ops : Array Oper} {rest : List Oper} {o : Oper} {a : Act} {Q : Exit → Act → World → Prop} {α : Type}
end
set_option maxRecDepth 100000 in
set_option maxHeartbeats 16000000 in
theorem texts_same (A B : Option Addr) (c d : Nat) (x : List ByteArray) (w : World) (hx : Kd.string.C w A x.length x) (hy : Kd.string.C w B x.length x) (hl : x.length ≤ 2513169434843) :
    Calls Tryz.prog 20 #[.slice A x.length c, .slice B x.length d] w fun e w' => e = .returned (.bool true) ∧ Below w.heap.size w w' := by
  have HX := Aside0.mk hx
  have HY := Aside0.mk hy
  have HLL := Lib.hid hl
  clear hx hy hl
  have e1 : ((x.length : Int) != (x.length : Int)) = false := bne_eq_false_iff_eq.2 rfl
  go_enter Tryz.func20, Tryz.ntmps20
  go_upto_region 4 with fail
  clear e1
  go_loopg [5] x.length (fun g v5 wr => ∃ (i : Nat), v5 = .int .i64 (i : Int) ∧ Aside0 (i + g = x.length) ∧ Aside0 (Below w.heap.size w wr))
  case atStart => exact ⟨0, rfl, ⟨by omega⟩, ⟨Below.refl _ _⟩⟩
  case round =>
    obtain ⟨i, rfl, HI, HB⟩ := hrel
    by_cases hi : i < x.length
    rotate_left
    · have q1 : decide ((i : Int) < (x.length : Int)) = false := decide_eq_false (by omega)
      have q1n : decide (i < x.length) = false := decide_eq_false hi
      clear hi
      go_wp2
      go_ret
      exact ⟨rfl, HB.out⟩
    have q1 : decide ((i : Int) < (x.length : Int)) = true := decide_eq_true (by omega)
    have q1n : decide (i < x.length) = true := decide_eq_true hi
    have p1 : (0 ≤ (i : Int)) = True := eq_true (by omega)
    have p2 : ((i : Int) < (x.length : Int)) = True := eq_true (by omega)
    obtain ⟨ad, hA, hx0⟩ := txt_at (Kd.C_below HX.out HB.out) hi
    cases hA
    obtain ⟨ae, hA, hy0⟩ := txt_at (Kd.C_below HY.out HB.out) hi
    cases hA
    obtain ⟨g0, rfl⟩ : ∃ g0, gk = g0 + 1 := ⟨gk - 1, by have := HI.out; omega⟩
    have HLT := Lib.hid hi
    generalize x[i] = z at hx0 hy0
    have hq : (z.toList != z.toList) = false := by simp
    clear hi
    go_upto_region 6 with fail
    refine start_ (n := 9) (S := fun w' => w'.cell? (ad.add i) = some (.string z) ∧ w'.cell? (ae.add i) = some (.string z)) (ds := []) #[false, false, false, false, false, false, false, false, false] (by kernel_rfl) rfl rfl ⟨hx0, hy0⟩ (fun hHeld => ?_)
    have B4 := Aside0.mk (below_drew1 HB.out)
    generalize World.drew _ = w4 at B4 hHeld ⊢
    refine pure_ (i := 0) (N := some 17) (v := ?_) (a' := ?_) #[true, false, false, false, false, false, false, false, false] rfl rfl (by kernel_rfl) (fun _ _ _ h => h) (Or.inl ⟨by rfl, ?_⟩) ?_ ?_
    rotate_left
    · intro w'
      go_simp
      with_reducible rfl
    rotate_left
    · simp only [Act.put, List.setIfInBounds_toArray, List.set_cons_zero, List.set_cons_succ, i64_w, i32_w]
      rfl
    refine pure_ (i := 1) (N := some 18) (v := ?_) (a' := ?_) #[true, true, false, false, false, false, false, false, false] rfl rfl (by kernel_rfl) (fun _ _ _ h => h) (Or.inl ⟨by rfl, ?_⟩) ?_ ?_
    rotate_left
    · intro w'
      go_simp
      with_reducible rfl
    rotate_left
    · simp only [Act.put, List.setIfInBounds_toArray, List.set_cons_zero, List.set_cons_succ, i64_w, i32_w]
      rfl
    refine pure_ (i := 2) (N := some 19) (v := ?_) (a' := ?_) #[true, true, true, false, false, false, false, false, false] rfl rfl (by kernel_rfl) (fun _ _ _ h => h) (Or.inl ⟨by rfl, ?_⟩) ?_ ?_
    rotate_left
    · intro w'
      go_simp
      with_reducible rfl
    rotate_left
    · simp only [Act.put, List.setIfInBounds_toArray, List.set_cons_zero, List.set_cons_succ, i64_w, i32_w]
      rfl
    refine take_ (i := 3) (N := some 20) (v := ?_) (a' := ?_) #[true, true, true, true, false, false, false, false, false] rfl rfl (by kernel_rfl) (fun _ _ _ h => h) (Or.inl ⟨by rfl, ?_⟩) hHeld ?_ ?_
    rotate_left
    · rintro w' ⟨s0, s1⟩
      go_simp
      with_reducible rfl
    rotate_left
    · simp only [Act.put, List.setIfInBounds_toArray, List.set_cons_zero, List.set_cons_succ, i64_w, i32_w]
      rfl
    refine pure_ (i := 4) (N := some 21) (v := ?_) (a' := ?_) #[true, true, true, true, true, false, false, false, false] rfl rfl (by kernel_rfl) (fun _ _ _ h => h) (Or.inl ⟨by rfl, ?_⟩) ?_ ?_
    rotate_left
    · intro w'
      go_simp
      with_reducible rfl
    rotate_left
    · simp only [Act.put, List.setIfInBounds_toArray, List.set_cons_zero, List.set_cons_succ, i64_w, i32_w]
      rfl
    refine pure_ (i := 5) (N := some 22) (v := ?_) (a' := ?_) #[true, true, true, true, true, true, false, false, false] rfl rfl (by kernel_rfl) (fun _ _ _ h => h) (Or.inl ⟨by rfl, ?_⟩) ?_ ?_
    rotate_left
    · intro w'
      go_simp
      with_reducible rfl
    rotate_left
    · simp only [Act.put, List.setIfInBounds_toArray, List.set_cons_zero, List.set_cons_succ, i64_w, i32_w]
      rfl
    refine pure_ (i := 6) (N := some 23) (v := ?_) (a' := ?_) #[true, true, true, true, true, true, true, false, false] rfl rfl (by kernel_rfl) (fun _ _ _ h => h) (Or.inl ⟨by rfl, ?_⟩) ?_ ?_
    rotate_left
    · intro w'
      go_simp
      with_reducible rfl
    rotate_left
    · simp only [Act.put, List.setIfInBounds_toArray, List.set_cons_zero, List.set_cons_succ, i64_w, i32_w]
      rfl
    refine take_ (i := 7) (N := some 24) (v := ?_) (a' := ?_) #[true, true, true, true, true, true, true, true, false] rfl rfl (by kernel_rfl) (fun _ _ _ h => h) (Or.inl ⟨by rfl, ?_⟩) hHeld ?_ ?_
    rotate_left
    · rintro w' ⟨s0, s1⟩
      go_simp
      with_reducible rfl
    rotate_left
    · simp only [Act.put, List.setIfInBounds_toArray, List.set_cons_zero, List.set_cons_succ, i64_w, i32_w]
      rfl
    refine pure_ (i := 8) (N := some 25) (v := ?_) (a' := ?_) #[true, true, true, true, true, true, true, true, true] rfl rfl (by kernel_rfl) (fun _ _ _ h => h) (Or.inl ⟨by rfl, ?_⟩) ?_ ?_
    rotate_left
    · intro w'
      go_simp
      with_reducible rfl
    rotate_left
    · simp only [Act.put, List.setIfInBounds_toArray, List.set_cons_zero, List.set_cons_succ, i64_w, i32_w]
      rfl
    refine done_ (by kernel_rfl) ?_
    clear hx0 hy0 hHeld
    go_wp2
    go_roundg g0
    case measure => omega
    case rel => exact ⟨i + 1, congrArg (Value.int .i64) (by rw [w64 i (by have := HLT.out; have := HLL.out; omega)]), ⟨by have := HI.out; omega⟩, B4⟩
end Go.Proofs.YtphddbijdfmpjaaGreatDoor.Q
namespace Go.Proofs.YtphddbijdfmpjaaGreatDoor.Q
open Go.RowKit Go.MapRaw Go.Proofs.YtphddbijdfmpjaaGreatDoorW.PrintWords Go.Proofs.YtphddbijdfmpjaaGreatDoorW.PrintLast Go.Proofs.YtphddbijdfmpjaaGreatDoor.Wr
set_option linter.unusedVariables false
set_option linter.unusedSimpArgs false
structure RStep (w w' : World) (r : Nat) (v v' : Value) : Prop where
  os : w'.os = w.os
  tape : w'.tape = w.tape
  output : w'.output = w.output
  size : w.heap.size ≤ w'.heap.size
  block : ∀ k, k < w.heap.size → k ≠ r → v.ownBlock ≠ some k → w'.heap[k]? = w.heap[k]?
  own : ∀ k, v'.ownBlock = some k → v.ownBlock = some k ∨ w.heap.size ≤ k
theorem RStep.still {w w' : World} {r : Nat} {v : Value} (h : Below w.heap.size w w') : RStep w w' r v v := ⟨h.os, h.tape, h.output, h.size, fun k hk _ _ => h.block k hk, fun k hk => .inl hk⟩
theorem RStep.set0 {w w1 : World} {r : Nat} {v v' : Value} (h : Below w.heap.size w w1) (u : Value) (ho : ∀ k, v'.ownBlock = some k → w.heap.size ≤ k) : RStep w (w1.setCell ⟨r, 0, none⟩ u) r v v' := by
  refine ⟨h.os, h.tape, h.output, by simpa using h.size, fun k hk hr _ => ?_, fun k hk => .inr (ho k hk)⟩
  rw [Below.heap_setCell w1 ⟨r, 0, none⟩ u k hr]
  exact h.block k hk
theorem RStep.ahead {w w1 w2 : World} {r : Nat} {v v' : Value} (hb : Below w.heap.size w w1) (h : RStep w1 w2 r v v') : RStep w w2 r v v' :=
  ⟨h.os.trans hb.os, h.tape.trans hb.tape, h.output.trans hb.output, Nat.le_trans hb.size h.size, fun k hk hr ho => (h.block k (Nat.lt_of_lt_of_le hk hb.size) hr ho).trans (hb.block k hk), fun k hk => (h.own k hk).imp id (fun h => Nat.le_trans hb.size h)⟩
theorem RStep.below {w w' : World} {r B : Nat} {v v' : Value} (h : RStep w w' r v v') (hB : B ≤ w.heap.size) (hr : B ≤ r) (ho : ∀ k, v.ownBlock = some k → B ≤ k) : Below B w w' :=
  ⟨h.os, h.tape, h.output, h.size, fun k hk => h.block k (by omega) (by omega) (fun e => by have := ho k e; omega)⟩
theorem RT.keep {w w' : World} {r base : Nat} {v : Value} {L : List Bnd} (h : RT w r base v L) (hr : w'.heap[r]? = w.heap[r]?) (ho : ∀ k, v.ownBlock = some k → w'.heap[k]? = w.heap[k]?) : RT w' r base v L := by
  refine ⟨hr.trans h.blk, ?_⟩
  obtain ⟨h0, inner, hw, hin⟩ := h.row
  have hi := inner27 hin
  subst hi
  exact ⟨h0, _, own_move hw ho, reps27 _ _ _ _⟩
theorem RT.own_lt {w : World} {r base : Nat} {v : Value} {L : List Bnd} (h : RT w r base v L) : ∀ k, v.ownBlock = some k → base ≤ k ∧ k < w.heap.size ∧ k ≠ r := fun k hk => ⟨Kd.R_base h.row k hk, Kd.R_lt h.row k hk, h.row.1 k hk⟩
theorem _root_.Go.Proofs.YtphddbijdfmpjaaGreatDoor.Wr.TB.keep {w w' : World} {t b : Nat} {M : Tab} (h : TB w t b M) (ht : w'.heap[t]? = w.heap[t]?) (hb : w'.heap[b]? = w.heap[b]?) : TB w' t b M :=
  ⟨ht.trans h.at_, h.ne, Holds_move h.holds hb, h.nodup, h.fits⟩
theorem slice_own (A : Option Addr) (n m c d : Nat) : (Value.slice A n c).ownBlock = (Value.slice A m d).ownBlock := by cases A <;> rfl
end Go.Proofs.YtphddbijdfmpjaaGreatDoor.Q
namespace Go.Proofs.YtphddbijdfmpjaaGreatDoor.Q
open Go.RowKit Go.MapRaw Go.Proofs.YtphddbijdfmpjaaGreatDoorW.PrintWords Go.Proofs.YtphddbijdfmpjaaGreatDoorW.PrintLast Go.Proofs.YtphddbijdfmpjaaGreatDoor.Wr
set_option linter.unusedVariables false
set_option linter.unusedSimpArgs false
set_option maxRecDepth 100000 in
set_option maxHeartbeats 16000000 in
theorem rset_ok (w0 w : World) (r base : Nat) (v : Value) (L : List Bnd) (b : Bnd) (hT : RT w r base v L) (hB0 : Below base w0 w) (hrb : base ≤ r) (hbw : base ≤ w0.heap.size) (hbs : b.path.size ≤ 1048576) (hLs : ∀ x ∈ L, x.path.size ≤ 1048576) (hn : formedB b = true → keyB b ∉ L.map keyB) (hL : L.length ≤ 1048576) :
    Calls Tryz.prog 11 #[.pointer (some ⟨r, 0, none⟩), eV b] w fun e w' => e = .returned (.int .i64 (rSetE L b)) ∧ ∃ v', RT w' r base v' (if rSetE L b = 0 then insF b false L else L) ∧ RStep w w' r v v' := by
  have hu79 := Tryz.underlying40
  have hu27 := Tryz.underlying28
  obtain ⟨A, c, rfl⟩ := Kd.R_slice hT.row
  have VB := Lib.hid (fun w' => rvalid_ok b w' hbs)
  obtain ⟨bp, bn, bs, bv⟩ := b
  have HBS := Lib.hid hbs
  have HLS := Lib.hid hLs
  have HLL := Lib.hid hL
  have HNN := Lib.hid hn
  have HRB := Lib.hid hrb
  have HBW := Lib.hid (Nat.le_trans hbw hB0.size)
  have HB0 := Lib.hid hB0
  obtain ⟨res, hres⟩ : ∃ res, res = rSetE L ⟨bp, bn, bs, bv⟩ := ⟨_, rfl⟩
  obtain ⟨Lr, hLr⟩ : ∃ Lr, Lr = if rSetE L ⟨bp, bn, bs, bv⟩ = 0 then insF ⟨bp, bn, bs, bv⟩ false L else L := ⟨_, rfl⟩
  rw [← hLr, ← hres]
  have HRES := Lib.hid hres
  have HLR := Lib.hid hLr
  clear hres hLr hbw
  unfold eV at VB ⊢
  have hal := (Below.refl w.heap.size w).alloc (Nat.le_refl _) (.cells #[.string bp, .string bn, .string bs, .int .i64 bv] 28)
  have T1 := Aside0.mk (hT.below hal)
  have B1 := Aside0.mk hal
  have P1 := Aside0.mk (blk_new w (.cells #[.string bp, .string bn, .string bs, .int .i64 bv] 28))
  have HRW := Lib.hid hT.lt
  clear hT hbs hLs hL hn hal hB0 hrb
  go_enter Tryz.func11, Tryz.ntmps11
  go_upto_region 1 with fail
  obtain ⟨pp, hpp⟩ : ∃ pp, pp = w.heap.size := ⟨_, rfl⟩
  rw [← hpp] at P1 ⊢
  clear hpp
  generalize w.alloc _ = w1 at T1 B1 P1 ⊢
  have hq0 := (blk_cell P1.out 0).trans rfl
  have hq1 := (blk_cell P1.out 1).trans rfl
  have hq2 := (blk_cell P1.out 2).trans rfl
  have hq3 := (blk_cell P1.out 3).trans rfl
  by_cases hf : formedB ⟨bp, bn, bs, bv⟩ = true
  rotate_left
  · have HE := Lib.hid (show rSetE L ⟨bp, bn, bs, bv⟩ = 130 by unfold rSetE; rw [if_neg hf])
    have VB2 := Lib.hid (fun w' => (VB.out w').mono (fun e w'' h => show e = .returned (.int .i64 130) ∧ Below w'.heap.size w' w'' from ⟨by rw [h.1, if_neg hf], h.2⟩))
    clear VB hf
    go_wp2_with (go_at_call 31; refine (VB2.out w1).mono ?_; rintro e w2 ⟨rfl, hb⟩; have T2 := Aside0.mk (T1.out.below hb); have B2 := Aside0.mk (B1.out.trans (below_lower hb B1.out.size)); clear hb)
    go_ret
    refine ⟨by rw [HRES.out, HE.out] <;> rfl, _, ?_, RStep.still B2.out⟩
    rw [HLR.out, HE.out, if_neg (by decide)]
    exact T2.out
  have VB2 := Lib.hid (fun w' => (VB.out w').mono (fun e w'' h => show e = .returned (.int .i64 0) ∧ Below w'.heap.size w' w'' from ⟨by rw [h.1, if_pos hf], h.2⟩))
  have HF := Lib.hid hf
  have HE := Lib.hid (show rSetE L ⟨bp, bn, bs, bv⟩ = if 16 ≤ cntB bp L then 194 else 0 by unfold rSetE; rw [if_pos hf])
  have HIX := Lib.hid (show idxB bp bn 0 L < 0 by
    rcases Int.lt_or_le (idxB bp bn 0 L) 0 with h | h
    · exact h
    · exact absurd ((idxB_iff bp bn L 0).1 h) (HNN.out hf))
  clear VB hf HNN
  go_upto_region 4 with (go_at_call 31; refine (VB2.out w1).mono ?_; rintro e w2 ⟨rfl, hb⟩; have T2 := Aside0.mk (T1.out.below hb); have B2 := Aside0.mk (B1.out.trans (below_lower hb B1.out.size)); have P2 := Aside0.mk (blk_below P1.out hb); clear hb)
  clear VB2 T1 B1 P1 hq0 hq1 hq2 hq3
  have hq0 := (blk_cell P2.out 0).trans rfl
  have hq1 := (blk_cell P2.out 1).trans rfl
  have hq2 := (blk_cell P2.out 2).trans rfl
  have hq3 := (blk_cell P2.out 3).trans rfl
  have AT := Lib.hid (rat_ok w2 r base (.slice A L.length c) L bp bn T2.out (by have := HLL.out; omega))
  obtain ⟨ix, hix⟩ : ∃ ix, ix = idxB bp bn 0 L := ⟨_, rfl⟩
  rw [← hix] at AT HIX
  clear hix
  have d0 : decide (ix ≥ 0) = false := decide_eq_false (by have := HIX.out; omega)
  have d0b : decide (0 ≤ ix) = false := decide_eq_false (by have := HIX.out; omega)
  go_upto_region 12 with (go_at_call 32; refine AT.out.mono ?_; rintro e wx ⟨rfl, hw⟩; have hw2 := hw.symm; clear hw; subst hw2)
  clear AT HIX d0 d0b hq0 hq1 hq2 hq3
  go_loopg [7, 8, 9, 10] L.length (fun g v7 v8 v9 v10 wr => ∃ (i n : Nat) (done : Bool) (out : List Bnd), v7 = .int .i64 (n : Int) ∧ v9 = .bool done ∧ v10 = .int .i64 (i : Int) ∧ Aside0 (i + g = L.length) ∧ Aside0 (n = cntB bp (L.take i)) ∧ Aside0 (out ++ insF ⟨bp, bn, bs, bv⟩ done (L.drop i) = insF ⟨bp, bn, bs, bv⟩ false L) ∧ Aside0 (out.length ≤ i + cond done 1 0) ∧ Aside0 (Kd.R k27 28 wr w2.heap.size (fun _ => True) v8 out) ∧ Aside0 (Below w2.heap.size w2 wr))
  case atStart => exact ⟨0, 0, false, [], rfl, rfl, rfl, ⟨by omega⟩, ⟨rfl⟩, ⟨by rw [List.drop_zero]; rfl⟩, ⟨by simp⟩, ⟨Kd.R_nil _ _ _ _ _⟩, ⟨Below.refl _ _⟩⟩
  case round =>
    obtain ⟨i, n, done, out, rfl, rfl, rfl, HI, HN, HO, HOL, HR, HB⟩ := hrel
    have hrc := (blk_cell (blk_below T2.out.blk HB.out) 0).trans rfl
    have P3 := Aside0.mk (blk_below P2.out HB.out)
    have hq0 := (blk_cell P3.out 0).trans rfl
    have hq1 := (blk_cell P3.out 1).trans rfl
    have hq2 := (blk_cell P3.out 2).trans rfl
    have hq3 := (blk_cell P3.out 3).trans rfl
    by_cases hi : i < L.length
    rotate_left
    · have q1 : decide ((i : Int) < (L.length : Int)) = false := decide_eq_false (by omega)
      have q1n : decide (i < L.length) = false := decide_eq_false hi
      have HNL := Lib.hid (show n = cntB bp L by rw [HN.out, List.take_of_length_le (by omega)])
      have HOO := Lib.hid (show out ++ (if done = true then [] else [⟨bp, bn, bs, bv⟩]) = insF ⟨bp, bn, bs, bv⟩ false L by
        have h := HO.out
        rw [List.drop_of_length_le (by omega)] at h
        exact h)
      clear hi
      by_cases h16 : 16 ≤ n
      · have d2 : decide (16 ≤ (n : Int)) = true := decide_eq_true (by omega)
        have d2b : decide ((n : Int) ≥ 16) = true := decide_eq_true (by omega)
        have d2n : decide (16 ≤ n) = true := decide_eq_true h16
        have HE2 := Lib.hid (show rSetE L ⟨bp, bn, bs, bv⟩ = 194 by rw [HE.out, if_pos (by rw [← HNL.out]; exact h16)])
        clear h16
        go_wp2
        go_ret
        refine ⟨by rw [HRES.out, HE2.out] <;> rfl, _, ?_, RStep.still (B2.out.trans (below_lower HB.out B2.out.size))⟩
        rw [HLR.out, HE2.out, if_neg (by decide)]
        exact T2.out.below HB.out
      have d2 : decide (16 ≤ (n : Int)) = false := decide_eq_false (by omega)
      have d2b : decide ((n : Int) ≥ 16) = false := decide_eq_false (by omega)
      have d2n : decide (16 ≤ n) = false := decide_eq_false h16
      have HE2 := Lib.hid (show rSetE L ⟨bp, bn, bs, bv⟩ = 0 by rw [HE.out, if_neg (by rw [← HNL.out]; exact h16)])
      clear h16
      cases done with
      | true =>
        obtain ⟨A8, c8, rfl⟩ := Kd.R_slice HR.out
        have hf0 := blk_frozen (blk_below T2.out.blk HB.out) 0
        go_wp2
        go_ret
        refine ⟨by rw [HRES.out, HE2.out] <;> rfl, _, ?_, RStep.set0 (B2.out.trans (below_lower HB.out B2.out.size)) _ (fun k hk => Nat.le_trans B2.out.size (Kd.R_base HR.out k hk))⟩
        rw [HLR.out, HE2.out, if_pos rfl, ← HOO.out, if_pos trivial, List.append_nil]
        have hrow : Kd.R k27 28 wr base (fun k => k ≠ r) (.slice A8 out.length c8) out := Kd.R_lower (Kd.R_mono (Kd.R_bound HR.out) (fun k hk => by have := hk.2.1; have := blk_lt T2.out.blk; omega)) (Nat.le_trans HBW.out B2.out.size)
        exact ⟨blk_put (blk_below T2.out.blk HB.out) 0 _ rfl, Kd.R_far hrow (fun k hk => hk) _⟩
      | false =>
        go_wp2_with ((with_reducible refine gate_builtin (b := .append) (xs := #[.tmp 89, .tmp 91]) rfl ?_); at_builtin; refine parkR_ ?_)
        refine Aside0.mk ?_
        refine Kd.R_append k27 (w0 := w2) w2.heap.size rfl (.tmp 89) (.tmp 91) 33 28 (.agg #[.string ⟨#[]⟩, .string ⟨#[]⟩, .string ⟨#[]⟩, .int .i64 0]) 56 rfl Tryz.underlying33 info27 rfl (by decide) (by omega) u8 out ⟨bp, bn, bs, bv⟩ [.string bp, .string bn, .string bs, .int .i64 bv] (fun _ => True) (fun _ => False) rfl rfl ?aP (fun _ hk => hk.elim) ?aF ?aO ?aB ?aS ?aL ?_
        (case aP => exact k27_mkM _ _ _ ⟨bp, bn, bs, bv⟩)
        (case aB => exact HB.out)
        (case aF => exact (fun _ _ => trivial))
        (case aO => exact HR.out)
        (case aS => exact HB.out.size)
        (case aL => have := HOL.out; simp only [cond_true, cond_false] at this; have := HI.out; have := HLL.out; omega)
        intro vn_w7 w7 ho hb2 hg2 hat2
        obtain ⟨A8, c8, rfl⟩ := Kd.R_slice ho
        have R7 := Aside0.mk ho
        have B7 := Aside0.mk hb2
        have T7 := Aside0.mk (T2.out.below hb2)
        clear ho hb2 hg2 hat2
        have hf0 := blk_frozen T7.out.blk 0
        have hrc7 := (blk_cell T7.out.blk 0).trans rfl
        go_wp2
        go_ret
        refine ⟨by rw [HRES.out, HE2.out] <;> rfl, _, ?_, RStep.set0 (B2.out.trans (below_lower B7.out B2.out.size)) _ (fun k hk => Nat.le_trans B2.out.size (Kd.R_base R7.out k ((slice_own A8 _ (out.length + 1) c8 c8).trans hk)))⟩
        rw [HLR.out, HE2.out, if_pos rfl, ← HOO.out, if_neg (by decide)]
        have hrow0 := Kd.R_lower (Kd.R_mono (ok' := fun k => k ≠ r) (Kd.R_bound R7.out) (fun k hk => by have := hk.2.1; have := blk_lt T2.out.blk; omega)) (Nat.le_trans HBW.out B2.out.size)
        rw [List.length_append] at hrow0
        have hrow : Kd.R k27 28 w7 base (fun k => k ≠ r) (.slice A8 (out.length + 1) c8) (out ++ [⟨bp, bn, bs, bv⟩]) := hrow0
        exact ⟨blk_put T7.out.blk 0 _ rfl, Kd.R_far hrow (fun k hk => hk) _⟩
    have q1 : decide ((i : Int) < (L.length : Int)) = true := decide_eq_true (by omega)
    have q1n : decide (i < L.length) = true := decide_eq_true hi
    have p1 : (0 ≤ (i : Int)) = True := eq_true (by omega)
    have p2 : ((i : Int) < (L.length : Int)) = True := eq_true (by omega)
    obtain ⟨ad, hA, hx0, hx⟩ := bnd_at (Kd.C_below (Kd.R_reads' T2.out.row).2.2 HB.out) i hi
    cases hA
    have HDX := Lib.hid (List.drop_eq_getElem_cons hi)
    have HTK := Lib.hid (cntB_take_succ bp hi)
    have HXS := Lib.hid (HLS.out L[i] (List.getElem_mem hi))
    obtain ⟨g0, rfl⟩ : ∃ g0, gk = g0 + 1 := ⟨gk - 1, by have := HI.out; omega⟩
    have HLT := Lib.hid hi
    have HNI := Lib.hid (show n ≤ 1048576 by have h := cntB_len bp (L.take i); rw [← HN.out] at h; simp at h; have := HLL.out; omega)
    generalize L[i] = xx0 at hx0 hx HDX HTK HXS
    obtain ⟨xp, xn, xs, xv⟩ := xx0
    have hx1 := hx 1 (.string xn) (by decide) rfl
    have hx2 := hx 2 (.string xs) (by decide) rfl
    have hx3 := hx 3 (.int .i64 xv) (by decide) rfl
    clear hi hx
    have HIN0 := Lib.hid (show insF ⟨bp, bn, bs, bv⟩ done (L.drop i) = if (!done && aheadB ⟨bp, bn, bs, bv⟩ ⟨xp, xn, xs, xv⟩) = true then ⟨bp, bn, bs, bv⟩ :: ⟨xp, xn, xs, xv⟩ :: insF ⟨bp, bn, bs, bv⟩ true (L.drop (i + 1)) else ⟨xp, xn, xs, xv⟩ :: insF ⟨bp, bn, bs, bv⟩ done (L.drop (i + 1)) by rw [HDX.out]; rfl)
    go_upto_region 15 with fail
    have B5 := Aside0.mk (HB.out.alloc HB.out.size (.cells #[.string xp, .string xn, .string xs, .int .i64 xv] 28))
    have R5 := Aside0.mk (Kd.R_alloc HR.out (.cells #[.string xp, .string xn, .string xs, .int .i64 xv] 28))
    have X5 := Aside0.mk (blk_new wr (.cells #[.string xp, .string xn, .string xs, .int .i64 xv] 28))
    have HNE := Lib.hid (show some wr.heap.size ≠ Value.ownBlock u8 from fun e => by have := ((Kd.R_bound HR.out).1 wr.heap.size e.symm).2.2.1; omega)
    obtain ⟨xx, hxx⟩ : ∃ xx, xx = wr.heap.size := ⟨_, rfl⟩
    rw [← hxx] at X5 HNE ⊢
    clear hxx HR HB hx0 hx1 hx2 hx3 hq0 hq1 hq2 hq3 P3 hrc
    generalize wr.alloc _ = w5 at B5 R5 X5 ⊢
    have hx0 := (blk_cell X5.out 0).trans rfl
    have hx1 := (blk_cell X5.out 1).trans rfl
    have hx2 := (blk_cell X5.out 2).trans rfl
    have hx3 := (blk_cell X5.out 3).trans rfl
    have P5 := Aside0.mk (blk_below P2.out B5.out)
    have hq0 := (blk_cell P5.out 0).trans rfl
    have hq1 := (blk_cell P5.out 1).trans rfl
    have hq2 := (blk_cell P5.out 2).trans rfl
    have hq3 := (blk_cell P5.out 3).trans rfl
    by_cases hp : xp = bp
    · have e1 : (xp.toList == bp.toList) = true := by rw [hp]; simp
      have e2 : (bp.toList == xp.toList) = true := by rw [hp]; simp
      obtain ⟨n1, hn1⟩ : ∃ n1, n1 = n + 1 := ⟨_, rfl⟩
      have wn1 : wrap64 ((n : Int) + 1) = (n1 : Int) := by rw [hn1]; exact w64 n (by have := HNI.out; omega)
      have HN1 := Lib.hid (show n1 = cntB bp (L.take (i + 1)) by rw [hn1, HTK.out, if_pos hp, ← HN.out])
      have HA := Lib.hid (show aheadP bp xp = false by rw [hp]; unfold aheadP; rw [ordL.self]; rfl)
      have HAB := Lib.hid (show aheadB ⟨bp, bn, bs, bv⟩ ⟨xp, xn, xs, xv⟩ = Op.bytesLess bn.toList xn.toList by unfold aheadB; rw [HA.out]; simp [hp])
      have AH := Lib.hid (fun w' => (ahead_ok bp xp w' HBS.out HXS.out).mono (fun e w'' h => show e = .returned (.bool false) ∧ Below w'.heap.size w' w'' from ⟨by rw [h.1, HA.out], h.2⟩))
      clear hn1 hp
      cases done with
      | true =>
        have HINS := Lib.hid (show insF ⟨bp, bn, bs, bv⟩ true (L.drop i) = ⟨xp, xn, xs, xv⟩ :: insF ⟨bp, bn, bs, bv⟩ true (L.drop (i + 1)) by rw [HIN0.out, if_neg (by simp)])
        clear HIN0 AH HA HAB
        go_upto_region 17 with fail
        go_wp2_with ((with_reducible refine gate_builtin (b := .append) (xs := #[.tmp 81, .tmp 83]) rfl ?_); at_builtin; refine parkR_ ?_)
        refine Aside0.mk ?_
        refine Kd.R_append k27 (w0 := w2) w2.heap.size rfl (.tmp 81) (.tmp 83) 33 28 (.agg #[.string ⟨#[]⟩, .string ⟨#[]⟩, .string ⟨#[]⟩, .int .i64 0]) 56 rfl Tryz.underlying33 info27 rfl (by decide) (by omega) u8 out ⟨xp, xn, xs, xv⟩ [.string xp, .string xn, .string xs, .int .i64 xv] (fun _ => True) (fun _ => False) rfl rfl ?aP (fun _ hk => hk.elim) ?aF ?aO ?aB ?aS ?aL ?_
        (case aP => exact k27_mkM _ _ _ ⟨xp, xn, xs, xv⟩)
        (case aB => exact B5.out)
        (case aF => exact (fun _ _ => trivial))
        (case aO => exact R5.out)
        (case aS => exact B5.out.size)
        (case aL => have := HOL.out; simp only [cond_true, cond_false] at this; have := HLT.out; have := HLL.out; omega)
        intro vn_w8 w8 ho hb2 hg2 hat2
        have R8 := Aside0.mk ho
        have B8 := Aside0.mk hb2
        clear ho hb2 hg2 hat2
        go_wp2
        go_roundg g0
        case measure => omega
        case rel => exact ⟨i + 1, n1, true, out ++ [⟨xp, xn, xs, xv⟩], (by first | rfl | exact congrArg (Value.int .i64) wn1), rfl, congrArg (Value.int .i64) (by rw [w64 i (by have := HLT.out; have := HLL.out; omega)]), ⟨by have := HI.out; omega⟩, ⟨HN1.out⟩, ⟨by rw [← HO.out, HINS.out]; simp⟩, ⟨by have := HOL.out; simp only [cond_true, cond_false, List.length_append, List.length_cons, List.length_nil] at this ⊢; omega⟩, R8, B8⟩
      | false =>
        obtain ⟨q2, hq2⟩ : ∃ q2, q2 = Op.bytesLess bn.toList xn.toList := ⟨_, rfl⟩
        have HQ2 := Lib.hid hq2
        have hql := hq2.symm
        clear hq2
        cases q2 with
        | true =>
          have HINS := Lib.hid (show insF ⟨bp, bn, bs, bv⟩ false (L.drop i) = ⟨bp, bn, bs, bv⟩ :: ⟨xp, xn, xs, xv⟩ :: insF ⟨bp, bn, bs, bv⟩ true (L.drop (i + 1)) by rw [HIN0.out, if_pos (by rw [HAB.out, ← HQ2.out]; rfl)])
          clear HIN0 HA HAB HQ2
          go_upto_region 17 with fail
          go_wp2_with (first | (go_at_call 33; (with_reducible refine (AH.out w5).mono ?_); rintro e w6 ⟨rfl, hb⟩; have B6 := Aside0.mk (B5.out.trans (below_lower hb B5.out.size)); have R6 := Aside0.mk (Kd.R_below R5.out hb); have X6 := Aside0.mk (blk_below X5.out hb); have hxs0 := (blk_cell X6.out 0).trans rfl; have hxs1 := (blk_cell X6.out 1).trans rfl; have hxs2 := (blk_cell X6.out 2).trans rfl; have hxs3 := (blk_cell X6.out 3).trans rfl; have P6 := Aside0.mk (blk_below P2.out (below_lower B6.out (Nat.le_refl _))); have hps0 := (blk_cell P6.out 0).trans rfl; have hps1 := (blk_cell P6.out 1).trans rfl; have hps2 := (blk_cell P6.out 2).trans rfl; have hps3 := (blk_cell P6.out 3).trans rfl; clear hb) | ((with_reducible refine gate_builtin (b := .append) (xs := #[.tmp 77, .tmp 79]) rfl ?_); at_builtin; refine parkR_ ?_))
          refine Aside0.mk ?_
          refine Kd.R_append k27 (w0 := w2) w2.heap.size rfl (.tmp 77) (.tmp 79) 33 28 (.agg #[.string ⟨#[]⟩, .string ⟨#[]⟩, .string ⟨#[]⟩, .int .i64 0]) 56 rfl Tryz.underlying33 info27 rfl (by decide) (by omega) u8 out ⟨bp, bn, bs, bv⟩ [.string bp, .string bn, .string bs, .int .i64 bv] (fun _ => True) (fun _ => False) rfl rfl ?aP (fun _ hk => hk.elim) ?aF ?aO ?aB ?aS ?aL ?_
          (case aP => exact k27_mkM _ _ _ ⟨bp, bn, bs, bv⟩)
          (case aB => exact B6.out)
          (case aF => exact (fun _ _ => trivial))
          (case aO => exact R6.out)
          (case aS => exact B6.out.size)
          (case aL => have := HOL.out; simp only [cond_true, cond_false] at this; have := HLT.out; have := HLL.out; omega)
          intro vn_w7 w7 ho hb2 hg2 hat2
          have R7 := Aside0.mk ho
          have B7 := Aside0.mk hb2
          have X7 := Aside0.mk ((hg2.block xx (blk_lt X6.out) HNE.out).trans X6.out)
          have hxt0 := (blk_cell X7.out 0).trans rfl
          have hxt1 := (blk_cell X7.out 1).trans rfl
          have hxt2 := (blk_cell X7.out 2).trans rfl
          have hxt3 := (blk_cell X7.out 3).trans rfl
          clear ho hb2 hg2 hat2
          go_wp2_with ((with_reducible refine gate_builtin (b := .append) (xs := #[.tmp 81, .tmp 83]) rfl ?_); at_builtin; refine parkR_ ?_)
          refine Aside0.mk ?_
          refine Kd.R_append k27 (w0 := w2) w2.heap.size rfl (.tmp 81) (.tmp 83) 33 28 (.agg #[.string ⟨#[]⟩, .string ⟨#[]⟩, .string ⟨#[]⟩, .int .i64 0]) 56 rfl Tryz.underlying33 info27 rfl (by decide) (by omega) vn_w7 (out ++ [⟨bp, bn, bs, bv⟩]) ⟨xp, xn, xs, xv⟩ [.string xp, .string xn, .string xs, .int .i64 xv] (fun _ => True) (fun _ => False) rfl rfl ?aP (fun _ hk => hk.elim) ?aF ?aO ?aB ?aS ?aL ?_
          (case aP => exact k27_mkM _ _ _ ⟨xp, xn, xs, xv⟩)
          (case aB => exact B7.out)
          (case aF => exact (fun _ _ => trivial))
          (case aO => exact R7.out)
          (case aS => exact B7.out.size)
          (case aL => have := HOL.out; simp only [cond_true, cond_false] at this; have := HLT.out; have := HLL.out; simp only [List.length_append, List.length_cons, List.length_nil]; omega)
          intro vn_w8 w8 ho hb2 hg2 hat2
          have R8 := Aside0.mk ho
          have B8 := Aside0.mk hb2
          clear ho hb2 hg2 hat2
          go_wp2
          go_roundg g0
          case measure => omega
          case rel => exact ⟨i + 1, n1, true, (out ++ [⟨bp, bn, bs, bv⟩]) ++ [⟨xp, xn, xs, xv⟩], (by first | rfl | exact congrArg (Value.int .i64) wn1), rfl, congrArg (Value.int .i64) (by rw [w64 i (by have := HLT.out; have := HLL.out; omega)]), ⟨by have := HI.out; omega⟩, ⟨HN1.out⟩, ⟨by rw [← HO.out, HINS.out]; simp⟩, ⟨by have := HOL.out; simp only [cond_true, cond_false, List.length_append, List.length_cons, List.length_nil] at this ⊢; omega⟩, R8, B8⟩
        | false =>
          have HINS := Lib.hid (show insF ⟨bp, bn, bs, bv⟩ false (L.drop i) = ⟨xp, xn, xs, xv⟩ :: insF ⟨bp, bn, bs, bv⟩ false (L.drop (i + 1)) by rw [HIN0.out, if_neg (by rw [HAB.out, ← HQ2.out]; decide)])
          clear HIN0 HA HAB HQ2
          go_upto_region 17 with fail
          go_wp2_with (first | (go_at_call 33; (with_reducible refine (AH.out w5).mono ?_); rintro e w6 ⟨rfl, hb⟩; have B6 := Aside0.mk (B5.out.trans (below_lower hb B5.out.size)); have R6 := Aside0.mk (Kd.R_below R5.out hb); have X6 := Aside0.mk (blk_below X5.out hb); have hxs0 := (blk_cell X6.out 0).trans rfl; have hxs1 := (blk_cell X6.out 1).trans rfl; have hxs2 := (blk_cell X6.out 2).trans rfl; have hxs3 := (blk_cell X6.out 3).trans rfl; have P6 := Aside0.mk (blk_below P2.out (below_lower B6.out (Nat.le_refl _))); have hps0 := (blk_cell P6.out 0).trans rfl; have hps1 := (blk_cell P6.out 1).trans rfl; have hps2 := (blk_cell P6.out 2).trans rfl; have hps3 := (blk_cell P6.out 3).trans rfl; clear hb) | ((with_reducible refine gate_builtin (b := .append) (xs := #[.tmp 81, .tmp 83]) rfl ?_); at_builtin; refine parkR_ ?_))
          refine Aside0.mk ?_
          refine Kd.R_append k27 (w0 := w2) w2.heap.size rfl (.tmp 81) (.tmp 83) 33 28 (.agg #[.string ⟨#[]⟩, .string ⟨#[]⟩, .string ⟨#[]⟩, .int .i64 0]) 56 rfl Tryz.underlying33 info27 rfl (by decide) (by omega) u8 out ⟨xp, xn, xs, xv⟩ [.string xp, .string xn, .string xs, .int .i64 xv] (fun _ => True) (fun _ => False) rfl rfl ?aP (fun _ hk => hk.elim) ?aF ?aO ?aB ?aS ?aL ?_
          (case aP => exact k27_mkM _ _ _ ⟨xp, xn, xs, xv⟩)
          (case aB => exact B6.out)
          (case aF => exact (fun _ _ => trivial))
          (case aO => exact R6.out)
          (case aS => exact B6.out.size)
          (case aL => have := HOL.out; simp only [cond_true, cond_false] at this; have := HLT.out; have := HLL.out; omega)
          intro vn_w8 w8 ho hb2 hg2 hat2
          have R8 := Aside0.mk ho
          have B8 := Aside0.mk hb2
          clear ho hb2 hg2 hat2
          go_wp2
          go_roundg g0
          case measure => omega
          case rel => exact ⟨i + 1, n1, false, out ++ [⟨xp, xn, xs, xv⟩], (by first | rfl | exact congrArg (Value.int .i64) wn1), rfl, congrArg (Value.int .i64) (by rw [w64 i (by have := HLT.out; have := HLL.out; omega)]), ⟨by have := HI.out; omega⟩, ⟨HN1.out⟩, ⟨by rw [← HO.out, HINS.out]; simp⟩, ⟨by have := HOL.out; simp only [cond_true, cond_false, List.length_append, List.length_cons, List.length_nil] at this ⊢; omega⟩, R8, B8⟩
    · have e1 : (xp.toList == bp.toList) = false := by rw [toList_beq, Bool.eq_false_iff, Ne, ba_beq]; exact hp
      have e2 : (bp.toList == xp.toList) = false := by rw [toList_beq, Bool.eq_false_iff, Ne, ba_beq]; exact fun h => hp h.symm
      have HN1 := Lib.hid (show n = cntB bp (L.take (i + 1)) by rw [HTK.out, if_neg hp, ← HN.out, Nat.add_zero])
      have HAB := Lib.hid (show aheadB ⟨bp, bn, bs, bv⟩ ⟨xp, xn, xs, xv⟩ = aheadP bp xp by unfold aheadB; rw [show decide (bp = xp) = false from decide_eq_false (fun h => hp h.symm), Bool.false_and, Bool.or_false])
      obtain ⟨q2, hq2⟩ : ∃ q2, q2 = aheadP bp xp := ⟨_, rfl⟩
      rw [← hq2] at HAB
      have AH := Lib.hid (fun w' => (ahead_ok bp xp w' HBS.out HXS.out).mono (fun e w'' h => show e = .returned (.bool q2) ∧ Below w'.heap.size w' w'' from ⟨by rw [h.1, hq2], h.2⟩))
      clear hp hq2
      cases done with
      | true =>
        have HINS := Lib.hid (show insF ⟨bp, bn, bs, bv⟩ true (L.drop i) = ⟨xp, xn, xs, xv⟩ :: insF ⟨bp, bn, bs, bv⟩ true (L.drop (i + 1)) by rw [HIN0.out, if_neg (by simp)])
        clear HIN0 AH HAB
        go_upto_region 17 with fail
        go_wp2_with ((with_reducible refine gate_builtin (b := .append) (xs := #[.tmp 81, .tmp 83]) rfl ?_); at_builtin; refine parkR_ ?_)
        refine Aside0.mk ?_
        refine Kd.R_append k27 (w0 := w2) w2.heap.size rfl (.tmp 81) (.tmp 83) 33 28 (.agg #[.string ⟨#[]⟩, .string ⟨#[]⟩, .string ⟨#[]⟩, .int .i64 0]) 56 rfl Tryz.underlying33 info27 rfl (by decide) (by omega) u8 out ⟨xp, xn, xs, xv⟩ [.string xp, .string xn, .string xs, .int .i64 xv] (fun _ => True) (fun _ => False) rfl rfl ?aP (fun _ hk => hk.elim) ?aF ?aO ?aB ?aS ?aL ?_
        (case aP => exact k27_mkM _ _ _ ⟨xp, xn, xs, xv⟩)
        (case aB => exact B5.out)
        (case aF => exact (fun _ _ => trivial))
        (case aO => exact R5.out)
        (case aS => exact B5.out.size)
        (case aL => have := HOL.out; simp only [cond_true, cond_false] at this; have := HLT.out; have := HLL.out; omega)
        intro vn_w8 w8 ho hb2 hg2 hat2
        have R8 := Aside0.mk ho
        have B8 := Aside0.mk hb2
        clear ho hb2 hg2 hat2
        go_wp2
        go_roundg g0
        case measure => omega
        case rel => exact ⟨i + 1, n, true, out ++ [⟨xp, xn, xs, xv⟩], (by first | rfl | exact congrArg (Value.int .i64) wn1), rfl, congrArg (Value.int .i64) (by rw [w64 i (by have := HLT.out; have := HLL.out; omega)]), ⟨by have := HI.out; omega⟩, ⟨HN1.out⟩, ⟨by rw [← HO.out, HINS.out]; simp⟩, ⟨by have := HOL.out; simp only [cond_true, cond_false, List.length_append, List.length_cons, List.length_nil] at this ⊢; omega⟩, R8, B8⟩
      | false =>
        cases q2 with
        | true =>
          have HINS := Lib.hid (show insF ⟨bp, bn, bs, bv⟩ false (L.drop i) = ⟨bp, bn, bs, bv⟩ :: ⟨xp, xn, xs, xv⟩ :: insF ⟨bp, bn, bs, bv⟩ true (L.drop (i + 1)) by rw [HIN0.out, if_pos (by rw [HAB.out]; rfl)])
          clear HIN0 HAB
          go_upto_region 17 with fail
          go_wp2_with (first | (go_at_call 33; (with_reducible refine (AH.out w5).mono ?_); rintro e w6 ⟨rfl, hb⟩; have B6 := Aside0.mk (B5.out.trans (below_lower hb B5.out.size)); have R6 := Aside0.mk (Kd.R_below R5.out hb); have X6 := Aside0.mk (blk_below X5.out hb); have hxs0 := (blk_cell X6.out 0).trans rfl; have hxs1 := (blk_cell X6.out 1).trans rfl; have hxs2 := (blk_cell X6.out 2).trans rfl; have hxs3 := (blk_cell X6.out 3).trans rfl; have P6 := Aside0.mk (blk_below P2.out (below_lower B6.out (Nat.le_refl _))); have hps0 := (blk_cell P6.out 0).trans rfl; have hps1 := (blk_cell P6.out 1).trans rfl; have hps2 := (blk_cell P6.out 2).trans rfl; have hps3 := (blk_cell P6.out 3).trans rfl; clear hb) | ((with_reducible refine gate_builtin (b := .append) (xs := #[.tmp 77, .tmp 79]) rfl ?_); at_builtin; refine parkR_ ?_))
          refine Aside0.mk ?_
          refine Kd.R_append k27 (w0 := w2) w2.heap.size rfl (.tmp 77) (.tmp 79) 33 28 (.agg #[.string ⟨#[]⟩, .string ⟨#[]⟩, .string ⟨#[]⟩, .int .i64 0]) 56 rfl Tryz.underlying33 info27 rfl (by decide) (by omega) u8 out ⟨bp, bn, bs, bv⟩ [.string bp, .string bn, .string bs, .int .i64 bv] (fun _ => True) (fun _ => False) rfl rfl ?aP (fun _ hk => hk.elim) ?aF ?aO ?aB ?aS ?aL ?_
          (case aP => exact k27_mkM _ _ _ ⟨bp, bn, bs, bv⟩)
          (case aB => exact B6.out)
          (case aF => exact (fun _ _ => trivial))
          (case aO => exact R6.out)
          (case aS => exact B6.out.size)
          (case aL => have := HOL.out; simp only [cond_true, cond_false] at this; have := HLT.out; have := HLL.out; omega)
          intro vn_w7 w7 ho hb2 hg2 hat2
          have R7 := Aside0.mk ho
          have B7 := Aside0.mk hb2
          have X7 := Aside0.mk ((hg2.block xx (blk_lt X6.out) HNE.out).trans X6.out)
          have hxt0 := (blk_cell X7.out 0).trans rfl
          have hxt1 := (blk_cell X7.out 1).trans rfl
          have hxt2 := (blk_cell X7.out 2).trans rfl
          have hxt3 := (blk_cell X7.out 3).trans rfl
          clear ho hb2 hg2 hat2
          go_wp2_with ((with_reducible refine gate_builtin (b := .append) (xs := #[.tmp 81, .tmp 83]) rfl ?_); at_builtin; refine parkR_ ?_)
          refine Aside0.mk ?_
          refine Kd.R_append k27 (w0 := w2) w2.heap.size rfl (.tmp 81) (.tmp 83) 33 28 (.agg #[.string ⟨#[]⟩, .string ⟨#[]⟩, .string ⟨#[]⟩, .int .i64 0]) 56 rfl Tryz.underlying33 info27 rfl (by decide) (by omega) vn_w7 (out ++ [⟨bp, bn, bs, bv⟩]) ⟨xp, xn, xs, xv⟩ [.string xp, .string xn, .string xs, .int .i64 xv] (fun _ => True) (fun _ => False) rfl rfl ?aP (fun _ hk => hk.elim) ?aF ?aO ?aB ?aS ?aL ?_
          (case aP => exact k27_mkM _ _ _ ⟨xp, xn, xs, xv⟩)
          (case aB => exact B7.out)
          (case aF => exact (fun _ _ => trivial))
          (case aO => exact R7.out)
          (case aS => exact B7.out.size)
          (case aL => have := HOL.out; simp only [cond_true, cond_false] at this; have := HLT.out; have := HLL.out; simp only [List.length_append, List.length_cons, List.length_nil]; omega)
          intro vn_w8 w8 ho hb2 hg2 hat2
          have R8 := Aside0.mk ho
          have B8 := Aside0.mk hb2
          clear ho hb2 hg2 hat2
          go_wp2
          go_roundg g0
          case measure => omega
          case rel => exact ⟨i + 1, n, true, (out ++ [⟨bp, bn, bs, bv⟩]) ++ [⟨xp, xn, xs, xv⟩], (by first | rfl | exact congrArg (Value.int .i64) wn1), rfl, congrArg (Value.int .i64) (by rw [w64 i (by have := HLT.out; have := HLL.out; omega)]), ⟨by have := HI.out; omega⟩, ⟨HN1.out⟩, ⟨by rw [← HO.out, HINS.out]; simp⟩, ⟨by have := HOL.out; simp only [cond_true, cond_false, List.length_append, List.length_cons, List.length_nil] at this ⊢; omega⟩, R8, B8⟩
        | false =>
          have HINS := Lib.hid (show insF ⟨bp, bn, bs, bv⟩ false (L.drop i) = ⟨xp, xn, xs, xv⟩ :: insF ⟨bp, bn, bs, bv⟩ false (L.drop (i + 1)) by rw [HIN0.out, if_neg (by rw [HAB.out]; decide)])
          clear HIN0 HAB
          go_upto_region 17 with fail
          go_wp2_with (first | (go_at_call 33; (with_reducible refine (AH.out w5).mono ?_); rintro e w6 ⟨rfl, hb⟩; have B6 := Aside0.mk (B5.out.trans (below_lower hb B5.out.size)); have R6 := Aside0.mk (Kd.R_below R5.out hb); have X6 := Aside0.mk (blk_below X5.out hb); have hxs0 := (blk_cell X6.out 0).trans rfl; have hxs1 := (blk_cell X6.out 1).trans rfl; have hxs2 := (blk_cell X6.out 2).trans rfl; have hxs3 := (blk_cell X6.out 3).trans rfl; have P6 := Aside0.mk (blk_below P2.out (below_lower B6.out (Nat.le_refl _))); have hps0 := (blk_cell P6.out 0).trans rfl; have hps1 := (blk_cell P6.out 1).trans rfl; have hps2 := (blk_cell P6.out 2).trans rfl; have hps3 := (blk_cell P6.out 3).trans rfl; clear hb) | ((with_reducible refine gate_builtin (b := .append) (xs := #[.tmp 81, .tmp 83]) rfl ?_); at_builtin; refine parkR_ ?_))
          refine Aside0.mk ?_
          refine Kd.R_append k27 (w0 := w2) w2.heap.size rfl (.tmp 81) (.tmp 83) 33 28 (.agg #[.string ⟨#[]⟩, .string ⟨#[]⟩, .string ⟨#[]⟩, .int .i64 0]) 56 rfl Tryz.underlying33 info27 rfl (by decide) (by omega) u8 out ⟨xp, xn, xs, xv⟩ [.string xp, .string xn, .string xs, .int .i64 xv] (fun _ => True) (fun _ => False) rfl rfl ?aP (fun _ hk => hk.elim) ?aF ?aO ?aB ?aS ?aL ?_
          (case aP => exact k27_mkM _ _ _ ⟨xp, xn, xs, xv⟩)
          (case aB => exact B6.out)
          (case aF => exact (fun _ _ => trivial))
          (case aO => exact R6.out)
          (case aS => exact B6.out.size)
          (case aL => have := HOL.out; simp only [cond_true, cond_false] at this; have := HLT.out; have := HLL.out; omega)
          intro vn_w8 w8 ho hb2 hg2 hat2
          have R8 := Aside0.mk ho
          have B8 := Aside0.mk hb2
          clear ho hb2 hg2 hat2
          go_wp2
          go_roundg g0
          case measure => omega
          case rel => exact ⟨i + 1, n, false, out ++ [⟨xp, xn, xs, xv⟩], (by first | rfl | exact congrArg (Value.int .i64) wn1), rfl, congrArg (Value.int .i64) (by rw [w64 i (by have := HLT.out; have := HLL.out; omega)]), ⟨by have := HI.out; omega⟩, ⟨HN1.out⟩, ⟨by rw [← HO.out, HINS.out]; simp⟩, ⟨by have := HOL.out; simp only [cond_true, cond_false, List.length_append, List.length_cons, List.length_nil] at this ⊢; omega⟩, R8, B8⟩
end Go.Proofs.YtphddbijdfmpjaaGreatDoor.Q
namespace Go.Proofs.YtphddbijdfmpjaaGreatDoor.Q
open Go.RowKit Go.MapRaw Go.Proofs.YtphddbijdfmpjaaGreatDoorW.PrintWords Go.Proofs.YtphddbijdfmpjaaGreatDoorW.PrintLast Go.Proofs.YtphddbijdfmpjaaGreatDoor.Wr
open Go.ChangeMaps (setBlock)
set_option linter.unusedVariables false
set_option linter.unusedSimpArgs false
theorem idxB_at (q n : ByteArray) : ∀ (L : List Bnd) (j : Nat), 0 ≤ idxB q n j L → ∃ i, idxB q n j L = ((j + i : Nat) : Int) ∧ ∃ h : i < L.length, keyB L[i] = (q, n)
  | [], j, h => by simp [idxB] at h
  | x :: r, j, h => by
    unfold idxB at h ⊢
    by_cases e : x.path = q ∧ x.name = n
    · rw [if_pos e]
      exact ⟨0, rfl, by simp, by show (x.path, x.name) = (q, n); rw [e.1, e.2]⟩
    · rw [if_neg e] at h ⊢
      obtain ⟨i, h1, h2, h3⟩ := idxB_at q n r (j + 1) h
      exact ⟨i + 1, by rw [h1]; congr 1; omega, by simp; omega, h3⟩
set_option maxRecDepth 100000 in
set_option maxHeartbeats 16000000 in
theorem rset2_ok (w : World) (r base : Nat) (v : Value) (L : List Bnd) (b : Bnd) (i : Nat) (hT : RT w r base v L) (hbs : b.path.size ≤ 1048576) (hf : formedB b = true) (hi : i < L.length) (hix : idxB b.path b.name 0 L = (i : Int)) (hL : L.length ≤ 1048576) :
    Calls Tryz.prog 11 #[.pointer (some ⟨r, 0, none⟩), eV b] w fun e w' => e = .returned (.int .i64 0) ∧ RT w' r base v (L.set i b) ∧ RStep w w' r v v := by
  have hu40 := Tryz.underlying40
  have hu28 := Tryz.underlying28
  obtain ⟨A, c, rfl⟩ := Kd.R_slice hT.row
  obtain ⟨g, rfl, hg⟩ := R_ownG hT.row (by omega)
  have VB := Lib.hid (fun w' => (rvalid_ok b w' hbs).mono (fun e w'' h => show e = .returned (.int .i64 0) ∧ Below w'.heap.size w' w'' from ⟨by rw [h.1, if_pos hf], h.2⟩))
  obtain ⟨bp, bn, bs, bv⟩ := b
  have HLL := Lib.hid hL
  have HI := Lib.hid hi
  have p1 : (0 ≤ (i : Int)) = True := eq_true (by omega)
  have p2 : ((i : Int) < (L.length : Int)) = True := eq_true (by omega)
  have d1 : decide ((i : Int) ≥ 0) = true := decide_eq_true (by omega)
  have d1b : decide (0 ≤ (i : Int)) = true := decide_eq_true (by omega)
  unfold eV at VB ⊢
  have hal := (Below.refl w.heap.size w).alloc (Nat.le_refl _) (.cells #[.string bp, .string bn, .string bs, .int .i64 bv] 28)
  have T1 := Aside0.mk (hT.below hal)
  have B1 := Aside0.mk hal
  have P1 := Aside0.mk (blk_new w (.cells #[.string bp, .string bn, .string bs, .int .i64 bv] 28))
  have HIX := Lib.hid hix
  clear hT hbs hL hal hf hi hix hg
  go_enter Tryz.func11, Tryz.ntmps11
  go_upto_region 1 with fail
  obtain ⟨pp, hpp⟩ : ∃ pp, pp = w.heap.size := ⟨_, rfl⟩
  rw [← hpp] at P1 ⊢
  clear hpp
  generalize w.alloc _ = w1 at T1 B1 P1 ⊢
  have hq0 := (blk_cell P1.out 0).trans rfl
  have hq1 := (blk_cell P1.out 1).trans rfl
  have hq2 := (blk_cell P1.out 2).trans rfl
  have hq3 := (blk_cell P1.out 3).trans rfl
  go_upto_region 4 with (go_at_call 31; refine (VB.out w1).mono ?_; rintro e w2 ⟨rfl, hb⟩; have T2 := Aside0.mk (T1.out.below hb); have B2 := Aside0.mk (B1.out.trans (below_lower hb B1.out.size)); have P2 := Aside0.mk (blk_below P1.out hb); clear hb)
  clear VB T1 B1 P1 hq0 hq1 hq2 hq3
  have hq0 := (blk_cell P2.out 0).trans rfl
  have hq1 := (blk_cell P2.out 1).trans rfl
  have hq2 := (blk_cell P2.out 2).trans rfl
  have hq3 := (blk_cell P2.out 3).trans rfl
  have hrc := (blk_cell T2.out.blk 0).trans rfl
  have AT := Lib.hid (rat_ok w2 r base (.slice (some ⟨g, 0, none⟩) L.length c) L bp bn T2.out (by have := HLL.out; omega))
  rw [HIX.out] at AT
  clear HIX
  go_upto_region 6 with (go_at_call 32; refine AT.out.mono ?_; rintro e wx ⟨rfl, hw⟩; have hw2 := hw.symm; clear hw; subst hw2)
  clear AT
  refine start_ (n := 8) (S := fun w' => w'.cell? ⟨r, 0, none⟩ = some (.slice (some ⟨g, 0, none⟩) L.length c) ∧ w'.cell? ⟨pp, 0, none⟩ = some (.string bp) ∧ w'.cell? ⟨pp, 1, none⟩ = some (.string bn) ∧ w'.cell? ⟨pp, 2, none⟩ = some (.string bs) ∧ w'.cell? ⟨pp, 3, none⟩ = some (.int .i64 bv)) (ds := [7]) #[false, false, false, false, false, false, false, false] (by kernel_rfl) rfl rfl ⟨hrc, hq0, hq1, hq2, hq3⟩ (fun hHeld => ?_)
  have B3 := Aside0.mk (below_drew1 B2.out)
  have T3 := Aside0.mk (T2.out.below (below_drew1 (Below.refl _ _)))
  clear B2 T2 P2 hrc hq0 hq1 hq2 hq3
  generalize w2.drew = w3 at B3 T3 hHeld ⊢
  refine pure_ (i := 0) (N := some 24) (v := ?_) (a' := ?_) #[true, false, false, false, false, false, false, false] rfl rfl (by kernel_rfl) (fun _ _ _ h => h) (Or.inl ⟨by rfl, ?_⟩) ?_ ?_
  rotate_left
  · intro w'
    go_simp
    with_reducible rfl
  rotate_left
  · simp only [Act.put, List.setIfInBounds_toArray, List.set_cons_zero, List.set_cons_succ, i64_w, i32_w]
    rfl
  refine pure_ (i := 1) (N := some 25) (v := ?_) (a' := ?_) #[true, true, false, false, false, false, false, false] rfl rfl (by kernel_rfl) (fun _ _ _ h => h) (Or.inl ⟨by rfl, ?_⟩) ?_ ?_
  rotate_left
  · intro w'
    go_simp
    with_reducible rfl
  rotate_left
  · simp only [Act.put, List.setIfInBounds_toArray, List.set_cons_zero, List.set_cons_succ, i64_w, i32_w]
    rfl
  refine pure_ (i := 2) (N := some 26) (v := ?_) (a' := ?_) #[true, true, true, false, false, false, false, false] rfl rfl (by kernel_rfl) (fun _ _ _ h => h) (Or.inl ⟨by rfl, ?_⟩) ?_ ?_
  rotate_left
  · intro w'
    go_simp
    with_reducible rfl
  rotate_left
  · simp only [Act.put, List.setIfInBounds_toArray, List.set_cons_zero, List.set_cons_succ, i64_w, i32_w]
    rfl
  refine take_ (i := 3) (N := some 27) (v := ?_) (a' := ?_) #[true, true, true, true, false, false, false, false] rfl rfl (by kernel_rfl) (fun _ _ _ h => h) (Or.inl ⟨by rfl, ?_⟩) hHeld ?_ ?_
  rotate_left
  · rintro w' ⟨s0, s1, s2, s3, s4⟩
    go_simp
    with_reducible rfl
  rotate_left
  · simp only [Act.put, List.setIfInBounds_toArray, List.set_cons_zero, List.set_cons_succ, i64_w, i32_w]
    rfl
  refine pure_ (i := 4) (N := some 28) (v := ?_) (a' := ?_) #[true, true, true, true, true, false, false, false] rfl rfl (by kernel_rfl) (fun _ _ _ h => h) (Or.inl ⟨by rfl, ?_⟩) ?_ ?_
  rotate_left
  · intro w'
    go_simp
    with_reducible rfl
  rotate_left
  · simp only [Act.put, List.setIfInBounds_toArray, List.set_cons_zero, List.set_cons_succ, i64_w, i32_w]
    rfl
  refine take_ (i := 5) (N := some 29) (v := ?_) (a' := ?_) #[true, true, true, true, true, true, false, false] rfl rfl (by kernel_rfl) (fun _ _ _ h => h) (Or.inl ⟨by rfl, ?_⟩) hHeld ?_ ?_
  rotate_left
  · rintro w' ⟨s0, s1, s2, s3, s4⟩
    go_simp
    with_reducible rfl
  rotate_left
  · simp only [Act.put, List.setIfInBounds_toArray, List.set_cons_zero, List.set_cons_succ, i64_w, i32_w]
    rfl
  refine pure_ (i := 6) (N := some 30) (v := ?_) (a' := ?_) #[true, true, true, true, true, true, true, false] rfl rfl (by kernel_rfl) (fun _ _ _ h => h) (Or.inl ⟨by rfl, ?_⟩) ?_ ?_
  rotate_left
  · intro w'
    go_simp
    with_reducible rfl
  rotate_left
  · simp only [Act.put, List.setIfInBounds_toArray, List.set_cons_zero, List.set_cons_succ, i64_w, i32_w]
    rfl
  refine last_ (i := 7) (N := none) #[true, true, true, true, true, true, true, true] rfl rfl (by kernel_rfl) (by decide) (fun K hK => ?_)
  have hc7 := (R_cells T3.out.row i HI.out).1
  have hfr7 := (R_cells T3.out.row i HI.out).2
  have hz0 : w3.cell? ⟨g, i * 4, none⟩ = _ := hc7 0 _ rfl
  have hz1 := hc7 1 _ rfl
  have hz2 := hc7 2 _ rfl
  have hz3 := hc7 3 _ rfl
  have hf0 := hfr7 (i * 4)
  have hf1 := hfr7 (i * 4 + 1)
  have hf2 := hfr7 (i * 4 + 2)
  have hf3 := hfr7 (i * 4 + 3)
  have R8 := Aside0.mk (R_put4 T3.out.row i HI.out ⟨bp, bn, bs, bv⟩)
  have G8 := Aside0.mk (put4_grown w3 g (i * 4) ⟨bp, bn, bs, bv⟩)
  simp only [put4] at R8 G8
  clear hc7 hfr7
  refine skip_ (w1 := ?_) (by rfl) rfl ?_ ?_
  rotate_left
  · go_simp
    rfl
  refine hK.out _ _ ?_
  clear hK K
  refine done_ (by kernel_rfl) ?_
  clear hz0 hz1 hz2 hz3 hf0 hf1 hf2 hf3 hHeld
  generalize World.setCell _ _ _ = w8 at R8 G8 ⊢
  go_wp2
  go_ret
  refine ⟨rfl, ⟨?_, ?_⟩, ?_⟩
  · exact (G8.out.block r (blk_lt T3.out.blk) (fun e => T3.out.row.1 r e.symm rfl)).trans T3.out.blk
  · exact R8.out
  · exact ⟨G8.out.os.trans B3.out.os, G8.out.tape.trans B3.out.tape, G8.out.output.trans B3.out.output, Nat.le_trans B3.out.size G8.out.size, fun k hk _ ho => (G8.out.block k (Nat.lt_of_lt_of_le hk B3.out.size) (fun e => ho e.symm)).trans (B3.out.block k hk), fun k hk => .inl hk⟩
end Go.Proofs.YtphddbijdfmpjaaGreatDoor.Q
namespace Go.Proofs.YtphddbijdfmpjaaGreatDoor.Q
open Go.RowKit Go.Proofs.YtphddbijdfmpjaaGreatDoorW.PrintWords Go.Proofs.YtphddbijdfmpjaaGreatDoorW.PrintLast Go.Proofs.YtphddbijdfmpjaaGreatDoorW.PrintMore
attribute [local go_sem] max2_int min2_int max_two min_two max_three min_three max_four min_four   -- for this text's walks alone
set_option linter.unusedVariables false
set_option linter.unusedSimpArgs false
mutual
def bursarref04_Join.l0 : Nat → List ByteArray → ByteArray → Int → Option (ByteArray × Int)
  | 0, _, _, _ => none
  | k + 1, x0, x4, x5 => if x5 < (x0.length : Int) then (if 0 ≤ x5 then ((bursarref04_Name.f k (rdOf ByteArray.empty x0 x5)).bind fun t178 => (if t178 = true then (if x4.size + 1 ≤ 9223372036854775807 then (if (x4 ++ (⟨#[47]⟩ : ByteArray)).size + (rdOf ByteArray.empty x0 x5).size ≤ 9223372036854775807 then (bursarref04_Join.l0 k x0 ((x4 ++ (⟨#[47]⟩ : ByteArray)) ++ (rdOf ByteArray.empty x0 x5)) (wrap64 (x5 + 1))) else (none)) else (none)) else (some ((⟨#[]⟩ : ByteArray), 40)))) else (none)) else (if (x0.length : Int) > 8 then (bursarref04_Join.j1 k x4 true) else (bursarref04_Join.j1 k x4 (decide ((x4.size : Int) > 64))))
def bursarref04_Join.j1 : Nat → ByteArray → Bool → Option (ByteArray × Int)
  | 0, _, _ => none
  | k + 1, x4, x34 => if x34 = true then (some ((⟨#[]⟩ : ByteArray), 41)) else (if x4.toList = ([] : List UInt8) then (some ((⟨#[47]⟩ : ByteArray), 0)) else (some (x4, 0)))
end
def bursarref04_Join.f (k : Nat) (l0 : List ByteArray) : Option (ByteArray × Int) := bursarref04_Join.l0 k l0 (⟨#[]⟩ : ByteArray) 0
theorem bursarref04_Join.mono_l : ∀ k, (∀ y0 y1 y2, LeO (bursarref04_Join.l0 k y0 y1 y2) (bursarref04_Join.l0 (k + 1) y0 y1 y2)) ∧ (∀ y0 y1, LeO (bursarref04_Join.j1 k y0 y1) (bursarref04_Join.j1 (k + 1) y0 y1))
  | 0 => ⟨fun _ _ _ r h => by simp [bursarref04_Join.l0] at h, fun _ _ r h => by simp [bursarref04_Join.j1] at h⟩
  | k + 1 => by
    obtain ⟨ih0, ih1⟩ := bursarref04_Join.mono_l k
    refine ⟨?_, ?_⟩
    · intro y0 y1 y2
      unfold bursarref04_Join.l0
      repeat' first
      | (with_reducible exact ih0 _ _ _)
      | (with_reducible exact ih1 _ _)
      | (with_reducible exact bursarref04_Name.mono _ _)
      | (with_reducible exact LeO.refl _)
      | (with_reducible exact LeO.none _)
      | (with_reducible refine LeO.ite ?_ ?_)
      | (with_reducible refine LeO.bind ?_ (fun _ => ?_))
      | exact ih0 _ _ _
      | exact ih1 _ _
      | exact bursarref04_Name.mono _ _
      | exact LeO.none _
      | refine LeO.ite ?_ ?_
      | refine LeO.bind ?_ (fun _ => ?_)
    · intro y0 y1
      unfold bursarref04_Join.j1
      repeat' first
      | (with_reducible exact ih0 _ _ _)
      | (with_reducible exact ih1 _ _)
      | (with_reducible exact bursarref04_Name.mono _ _)
      | (with_reducible exact LeO.refl _)
      | (with_reducible exact LeO.none _)
      | (with_reducible refine LeO.ite ?_ ?_)
      | (with_reducible refine LeO.bind ?_ (fun _ => ?_))
      | exact ih0 _ _ _
      | exact ih1 _ _
      | exact bursarref04_Name.mono _ _
      | exact LeO.none _
      | refine LeO.ite ?_ ?_
      | refine LeO.bind ?_ (fun _ => ?_)
theorem bursarref04_Join.mono : ∀ a0 k, LeO (bursarref04_Join.f k a0) (bursarref04_Join.f (k + 1) a0) := by
  intro a0 k
  obtain ⟨ih0, ih1⟩ := bursarref04_Join.mono_l k
  unfold bursarref04_Join.f
  repeat' first
      | (with_reducible exact ih0 _ _ _)
      | (with_reducible exact ih1 _ _)
      | (with_reducible exact bursarref04_Name.mono _ _)
      | (with_reducible exact LeO.refl _)
      | (with_reducible exact LeO.none _)
      | (with_reducible refine LeO.ite ?_ ?_)
      | (with_reducible refine LeO.bind ?_ (fun _ => ?_))
      | exact ih0 _ _ _
      | exact ih1 _ _
      | exact bursarref04_Name.mono _ _
      | exact LeO.none _
      | refine LeO.ite ?_ ?_
      | refine LeO.bind ?_ (fun _ => ?_)
set_option maxHeartbeats 8000000 in
set_option maxRecDepth 100000 in
theorem bursarref04_Join.calls (k : Nat) (A0 : Option Addr) (c0 : Nat) (l0 : List ByteArray) (r1 : ByteArray) (r2 : Int) (w : World) (hr0 : Kd.C Kd.string w A0 l0.length l0) (hc0 : l0.length ≤ c0) (h : bursarref04_Join.f k l0 = some (r1, r2)) :
    Calls Tryz.prog 80 #[.slice A0 l0.length c0] w fun e w' => e = .returned (.tuple #[.string r1, .int .i64 r2]) ∧ Drawn0 w w' := by
  have HR0 := Aside0.mk hr0
  have HC0 := Aside0.mk hc0
  clear hr0 hc0
  have H : (bursarref04_Join.l0 k l0 (⟨#[]⟩ : ByteArray) 0) = some (r1, r2) := h
  clear h
  have H' := Aside0.mk H
  clear H
  go_enter Tryz.func80, Tryz.ntmps80
  go_wp2
  go_loopg [4, 5] k (fun kq v4 v5 w' => ∃ (x4_1 : ByteArray) (x5_1 : Int), v4 = .string x4_1 ∧ v5 = .int .i64 x5_1 ∧ Aside0 (bursarref04_Join.l0 kq l0 x4_1 x5_1 = some (r1, r2)) ∧ Aside0 (kq ≤ k) ∧ Drawn0 w w')
  case atStart => exact ⟨((⟨#[]⟩ : ByteArray)), (0), (by first | rfl | (simp; done) | (simp [*]; done) | (simp; rw [Bool.eq_iff_iff]; simp; done) | (rw [Bool.eq_iff_iff]; simp; done)), (by first | rfl | (simp; done) | (simp [*]; done) | (simp; rw [Bool.eq_iff_iff]; simp; done) | (rw [Bool.eq_iff_iff]; simp; done)), H', ⟨Nat.le_refl _⟩, by repeat (first | exact Drawn0.refl _ | apply Drawn0.step)⟩
  case round =>
    clear H'
    obtain ⟨x4_1, x5_1, rfl, rfl, HA, HK1, ⟨m1, rfl⟩⟩ := hrel
    cases gk with
    | zero => exact absurd HA.out (by simp [bursarref04_Join.l0])
    | succ k1 =>
      have H := HA.out
      clear HA
      simp only [bursarref04_Join.l0] at H
      by_cases c2 : x5_1 < (l0.length : Int)
      · rw [if_pos c2] at H
        have c2b0 : decide (x5_1 < (l0.length : Int)) = true := decide_eq_true c2
        clear c2
        by_cases c3 : 0 ≤ x5_1
        · rw [if_pos c3] at H
          have c3b0 : decide (0 ≤ x5_1) = true := decide_eq_true c3
          clear c3
          replace H := Option.bind_eq_some_iff.mp H
          obtain ⟨t178, A40, H⟩ := H
          replace H : (if t178 = true then (if x4_1.size + 1 ≤ 9223372036854775807 then (if (x4_1 ++ (⟨#[47]⟩ : ByteArray)).size + (rdOf ByteArray.empty l0 x5_1).size ≤ 9223372036854775807 then (bursarref04_Join.l0 k1 l0 ((x4_1 ++ (⟨#[47]⟩ : ByteArray)) ++ (rdOf ByteArray.empty l0 x5_1)) (wrap64 (x5_1 + 1))) else (none)) else (none)) else (some ((⟨#[]⟩ : ByteArray), 40))) = some (r1, r2) := H
          have A4 := Aside0.mk A40
          clear A40
          by_cases c5 : t178 = true
          · subst c5
            have H1 : (if x4_1.size + 1 ≤ 9223372036854775807 then (if (x4_1 ++ (⟨#[47]⟩ : ByteArray)).size + (rdOf ByteArray.empty l0 x5_1).size ≤ 9223372036854775807 then (bursarref04_Join.l0 k1 l0 ((x4_1 ++ (⟨#[47]⟩ : ByteArray)) ++ (rdOf ByteArray.empty l0 x5_1)) (wrap64 (x5_1 + 1))) else (none)) else (none)) = some (r1, r2) := by rw [if_pos rfl] at H; exact H
            clear H
            have H := H1
            clear H1
            by_cases c6 : x4_1.size + 1 ≤ 9223372036854775807
            · rw [if_pos c6] at H
              have c6b0 := eq_true c6
              have c6b1 : decide (x4_1.size + 1 ≤ 9223372036854775807) = true := decide_eq_true c6
              try have c6b2 : (9223372036854775807 < x4_1.size + 1) = False := eq_false (Nat.not_lt.2 c6)
              by_cases c7 : (x4_1 ++ (⟨#[47]⟩ : ByteArray)).size + (rdOf ByteArray.empty l0 x5_1).size ≤ 9223372036854775807
              · rw [if_pos c7] at H
                have c7b0 := eq_true c7
                have c7b1 : decide ((x4_1 ++ (⟨#[47]⟩ : ByteArray)).size + (rdOf ByteArray.empty l0 x5_1).size ≤ 9223372036854775807) = true := decide_eq_true c7
                try have c7b2 : (9223372036854775807 < (x4_1 ++ (⟨#[47]⟩ : ByteArray)).size + (rdOf ByteArray.empty l0 x5_1).size) = False := eq_false (Nat.not_lt.2 c7)
                try have c7b3 : (9223372036854775807 < x4_1.size + 1 + (rdOf ByteArray.empty l0 x5_1).size) = False := eq_false (Nat.not_lt.2 (by have h_ := c7; simp only [ByteArray.size_append] at h_; exact h_))
                have H' := Aside0.mk H
                clear H
                have p177 : 0 ≤ (x5_1 : Int) := of_decide_eq_true (by first | (with_reducible assumption) | assumption)
                have q177 : x5_1 < (l0.length : Int) := of_decide_eq_true (by first | (with_reducible assumption) | assumption)
                obtain ⟨ad177, e177, hx177_0⟩ := Kd.at_string HR0.out x5_1 p177 q177
                cases e177
                replace p177 := eq_true p177
                replace q177 := eq_true q177
                go_wp2_with (first | ((with_reducible refine gate_callee (f := 76) rfl ?_); refine goesL_ (some 17) rfl rfl Tryz.func76 (by kernel_rfl) rfl #[.string (rdOf ByteArray.empty l0 x5_1)] rfl (by (try simp only [List.map_toArray, List.map_cons, List.map_nil]); first | done | rfl | (simp only [List.length_drop, List.length_take]; rfl)) ?_; (with_reducible refine (bursarref04_Name.calls k1 (rdOf ByteArray.empty l0 x5_1) true _ A4.out).mono ?_); rintro e w' ⟨rfl, ⟨nd, rfl⟩⟩; refine ⟨_, rfl, ?_⟩; have p179 : 0 ≤ (x5_1 : Int) := of_decide_eq_true (by first | (with_reducible assumption) | assumption); have q179 : x5_1 < (l0.length : Int) := of_decide_eq_true (by first | (with_reducible assumption) | assumption); obtain ⟨ad179, e179, hx179_0⟩ := Kd.at_string HR0.out x5_1 p179 q179; obtain rfl : ad177 = ad179 := (by injection e179); replace p179 := eq_true p179; replace q179 := eq_true q179))
                go_roundg k1
                case measure => have := HK1.out; omega
                case rel => exact ⟨((x4_1 ++ (⟨#[47]⟩ : ByteArray)) ++ (rdOf ByteArray.empty l0 x5_1)), (wrap64 (x5_1 + 1)), (by first | rfl | (simp; done) | (simp [*]; done) | (simp; rw [Bool.eq_iff_iff]; simp; done) | (rw [Bool.eq_iff_iff]; simp; done)), (by first | rfl | (simp; done) | (simp [*]; done) | (simp; rw [Bool.eq_iff_iff]; simp; done) | (rw [Bool.eq_iff_iff]; simp; done)), H', ⟨by have := HK1.out; omega⟩, by repeat (first | exact Drawn0.refl _ | apply Drawn0.step)⟩
              · rw [if_neg c7] at H
                exact absurd H (by simp)
            · rw [if_neg c6] at H
              exact absurd H (by simp)
          · replace c5 := Bool.eq_false_iff.mpr c5
            subst c5
            have H1 : (some ((⟨#[]⟩ : ByteArray), 40)) = some (r1, r2) := by rw [if_neg (show ¬ (false = true) by decide)] at H; exact H
            clear H
            have H := H1
            clear H1
            simp only [Option.some.injEq, Prod.mk.injEq] at H
            obtain ⟨rfl, rfl⟩ := H
            have p177 : 0 ≤ (x5_1 : Int) := of_decide_eq_true (by first | (with_reducible assumption) | assumption)
            have q177 : x5_1 < (l0.length : Int) := of_decide_eq_true (by first | (with_reducible assumption) | assumption)
            obtain ⟨ad177, e177, hx177_0⟩ := Kd.at_string HR0.out x5_1 p177 q177
            cases e177
            replace p177 := eq_true p177
            replace q177 := eq_true q177
            go_wp2_with (first | ((with_reducible refine gate_callee (f := 76) rfl ?_); refine goesL_ (some 17) rfl rfl Tryz.func76 (by kernel_rfl) rfl #[.string (rdOf ByteArray.empty l0 x5_1)] rfl (by (try simp only [List.map_toArray, List.map_cons, List.map_nil]); first | done | rfl | (simp only [List.length_drop, List.length_take]; rfl)) ?_; (with_reducible refine (bursarref04_Name.calls k1 (rdOf ByteArray.empty l0 x5_1) false _ A4.out).mono ?_); rintro e w' ⟨rfl, ⟨nd, rfl⟩⟩; refine ⟨_, rfl, ?_⟩))
            go_ret2
            exact ⟨by first | rfl | (simp; done) | (simp [*]; done) | (rw [bne_nil_]; rfl), by repeat (first | exact Drawn0.refl _ | apply Drawn0.step)⟩
        · rw [if_neg c3] at H
          exact absurd H (by simp)
      · rw [if_neg c2] at H
        have c2b0 : decide (x5_1 < (l0.length : Int)) = false := decide_eq_false c2
        clear c2
        have HC8 := Aside0.mk H
        clear H
        go_upto_region 9 with (fail)
        go_cut [34] (fun v34 wc => ∃ (kq : Nat) (x34_7 : Bool), v34 = .bool x34_7 ∧ Aside0 (bursarref04_Join.j1 kq x4_1 x34_7 = some (r1, r2)) ∧ Aside0 (kq ≤ k1) ∧ Drawn0 w wc)
        case first =>
          have H := HC8.out
          clear HC8
          by_cases c9 : (l0.length : Int) > 8
          · rw [if_pos c9] at H
            have c9b0 : decide (8 < (l0.length : Int)) = true := decide_eq_true c9
            have c9b1 : decide (8 < l0.length) = true := decide_eq_true (by omega)
            clear c9
            (first | rw [c9b0] | (simp only [i64_w, i32_w]; rw [c9b0]) | skip)
            have H' := Aside0.mk H
            clear H
            go_wp2
            go_meet
            case rel => exact ⟨_, (true), (by first | rfl | (simp; done) | (simp [*]; done) | (simp; rw [Bool.eq_iff_iff]; simp; done) | (rw [Bool.eq_iff_iff]; simp; done)), H', ⟨by have := HK1.out; first | omega | exact Nat.le_refl _⟩, by repeat (first | exact Drawn0.refl _ | apply Drawn0.step)⟩
          · rw [if_neg c9] at H
            have c9b0 : decide (8 < (l0.length : Int)) = false := decide_eq_false c9
            have c9b1 : decide (8 < l0.length) = false := decide_eq_false (by omega)
            clear c9
            (first | rw [c9b0] | (simp only [i64_w, i32_w]; rw [c9b0]) | skip)
            have H' := Aside0.mk H
            clear H
            go_wp2
            go_meet
            case rel => exact ⟨_, (decide ((x4_1.size : Int) > 64)), (by first | rfl | (simp; done) | (simp [*]; done) | (simp; rw [Bool.eq_iff_iff]; simp; done) | (rw [Bool.eq_iff_iff]; simp; done)), H', ⟨by have := HK1.out; first | omega | exact Nat.le_refl _⟩, by repeat (first | exact Drawn0.refl _ | apply Drawn0.step)⟩
        case rest =>
          clear HC8
          try clear p1
          try clear q1
          try clear hx1
          try clear c2
          try clear c2b0
          try clear p2
          try clear c3
          try clear c3b0
          try clear c5
          try clear c6
          try clear c6b0
          try clear c6b1
          try clear c6b2
          try clear p6
          try clear c7
          try clear c7b0
          try clear c7b1
          try clear c7b2
          try clear c8
          try clear c9
          try clear c9b0
          try clear c9b1
          try clear hx177_0
          try clear hx179_0
          try clear p177
          try clear p179
          try clear q177
          try clear q179
          obtain ⟨kq, x34_7, rfl, HA, HJ7, ⟨mc7, rfl⟩⟩ := hcut
          cases kq with
          | zero => exact absurd HA.out (by simp [bursarref04_Join.j1])
          | succ kj7 =>
            have H := HA.out
            clear HA
            simp only [bursarref04_Join.j1] at H
            by_cases c10 : x34_7 = true
            · subst c10
              have H1 : (some ((⟨#[]⟩ : ByteArray), 41)) = some (r1, r2) := by rw [if_pos rfl] at H; exact H
              clear H
              have H := H1
              clear H1
              simp only [Option.some.injEq, Prod.mk.injEq] at H
              obtain ⟨rfl, rfl⟩ := H
              go_wp2
              go_ret2
              exact ⟨by first | rfl | (simp; done) | (simp [*]; done) | (rw [bne_nil_]; rfl), by repeat (first | exact Drawn0.refl _ | apply Drawn0.step)⟩
            · replace c10 := Bool.eq_false_iff.mpr c10
              subst c10
              have H1 : (if x4_1.toList = ([] : List UInt8) then (some ((⟨#[47]⟩ : ByteArray), 0)) else (some (x4_1, 0))) = some (r1, r2) := by rw [if_neg (show ¬ (false = true) by decide)] at H; exact H
              clear H
              have H := H1
              clear H1
              by_cases c11 : x4_1.toList = ([] : List UInt8)
              · rw [if_pos c11] at H
                have c11b0 : (x4_1.toList == ([] : List UInt8)) = true := beq_iff_eq.mpr c11
                have c11b1 : (x4_1.toList != ([] : List UInt8)) = false := bne_eq_false_iff_eq.mpr c11
                clear c11
                simp only [Option.some.injEq, Prod.mk.injEq] at H
                obtain ⟨rfl, rfl⟩ := H
                go_wp2
                go_ret2
                exact ⟨by first | rfl | (simp; done) | (simp [*]; done) | (rw [bne_nil_]; rfl), by repeat (first | exact Drawn0.refl _ | apply Drawn0.step)⟩
              · rw [if_neg c11] at H
                have c11b0 : (x4_1.toList == ([] : List UInt8)) = false := beq_eq_false_iff_ne.mpr c11
                have c11b1 : (x4_1.toList != ([] : List UInt8)) = true := bne_iff_ne.mpr c11
                simp only [Option.some.injEq, Prod.mk.injEq] at H
                obtain ⟨rfl, rfl⟩ := H
                go_wp2
                go_ret2
                exact ⟨by first | rfl | (simp; done) | (simp [*]; done) | (rw [bne_nil_]; rfl), by repeat (first | exact Drawn0.refl _ | apply Drawn0.step)⟩
end Go.Proofs.YtphddbijdfmpjaaGreatDoor.Q
namespace Go.Proofs.YtphddbijdfmpjaaGreatDoor.Q
open Go.RowKit Go.Proofs.YtphddbijdfmpjaaGreatDoorW.PrintWords Go.Proofs.YtphddbijdfmpjaaGreatDoorW.PrintLast Go.Proofs.YtphddbijdfmpjaaGreatDoorW.PrintMore
attribute [local go_sem] max2_int min2_int max_two min_two max_three min_three max_four min_four   -- for this text's walks alone
set_option linter.unusedVariables false
set_option linter.unusedSimpArgs false
def bursarref04_Line.l0 : Nat → List ByteArray → List ByteArray → Int → Option (List ByteArray × Int)
  | 0, _, _, _ => none
  | k + 1, x4, x6, x7 => if x7 ≥ 0 then (if 0 ≤ x7 then (if x7 ≤ (x4.length : Int) then ((bursarref04_Join.f k (x4.take (x7 : Int).toNat)).bind fun bt188 => (if x6.length < 8796093022208 then (bursarref04_Line.l0 k x4 (x6 ++ [bt188.1]) (wrap64 (x7 - 1))) else (none))) else (none)) else (none)) else (some (x6, 0))
def bursarref04_Line.f (k : Nat) (a0 : ByteArray) : Option (List ByteArray × Int) := (bursarref04_Split.f k a0).bind fun bt180 => (if bt180.2 = 0 then (bursarref04_Line.l0 k bt180.1 ([] : List ByteArray) (bt180.1.length : Int)) else (some (([] : List ByteArray), bt180.2)))
theorem bursarref04_Line.mono_l : ∀ k, (∀ y0 y1 y2, LeO (bursarref04_Line.l0 k y0 y1 y2) (bursarref04_Line.l0 (k + 1) y0 y1 y2))
  | 0 => fun _ _ _ r h => by simp [bursarref04_Line.l0] at h
  | k + 1 => by
    have ih0 := bursarref04_Line.mono_l k
    · intro y0 y1 y2
      unfold bursarref04_Line.l0
      repeat' first
      | (with_reducible exact ih0 _ _ _)
      | (with_reducible exact bursarref04_Join.mono _ _)
      | (with_reducible exact bursarref04_Split.mono _ _)
      | (with_reducible exact LeO.refl _)
      | (with_reducible exact LeO.none _)
      | (with_reducible refine LeO.ite ?_ ?_)
      | (with_reducible refine LeO.bind ?_ (fun _ => ?_))
      | exact ih0 _ _ _
      | exact bursarref04_Join.mono _ _
      | exact bursarref04_Split.mono _ _
      | exact LeO.none _
      | refine LeO.ite ?_ ?_
      | refine LeO.bind ?_ (fun _ => ?_)
theorem bursarref04_Line.mono : ∀ a0 k, LeO (bursarref04_Line.f k a0) (bursarref04_Line.f (k + 1) a0) := by
  intro a0 k
  have ih0 := bursarref04_Line.mono_l k
  unfold bursarref04_Line.f
  repeat' first
      | (with_reducible exact ih0 _ _ _)
      | (with_reducible exact bursarref04_Join.mono _ _)
      | (with_reducible exact bursarref04_Split.mono _ _)
      | (with_reducible exact LeO.refl _)
      | (with_reducible exact LeO.none _)
      | (with_reducible refine LeO.ite ?_ ?_)
      | (with_reducible refine LeO.bind ?_ (fun _ => ?_))
      | exact ih0 _ _ _
      | exact bursarref04_Join.mono _ _
      | exact bursarref04_Split.mono _ _
      | exact LeO.none _
      | refine LeO.ite ?_ ?_
      | refine LeO.bind ?_ (fun _ => ?_)
set_option maxHeartbeats 8000000 in
set_option maxRecDepth 100000 in
theorem bursarref04_Line.calls (k : Nat) (a0 : ByteArray) (r1 : List ByteArray) (r2 : Int) (w : World) (h : bursarref04_Line.f k a0 = some (r1, r2)) :
    Calls Tryz.prog 56 #[.string a0] w fun e w' => ∃ v0_ : Value, e = .returned (.tuple #[v0_, .int .i64 r2]) ∧ Kd.R Kd.string 9 w' w.heap.size (fun _ => True) v0_ r1 ∧ Below w.heap.size w w' := by
  have HB := Aside0.mk (Below.refl w.heap.size w)
  have H : ((bursarref04_Split.f k a0).bind fun bt180 => (if bt180.2 = 0 then (bursarref04_Line.l0 k bt180.1 ([] : List ByteArray) (bt180.1.length : Int)) else (some (([] : List ByteArray), bt180.2)))) = some (r1, r2) := h
  clear h
  replace H := Option.bind_eq_some_iff.mp H
  obtain ⟨⟨t180, t181⟩, A20, H⟩ := H
  replace H : (if t181 = 0 then (bursarref04_Line.l0 k t180 ([] : List ByteArray) (t180.length : Int)) else (some (([] : List ByteArray), t181))) = some (r1, r2) := H
  have A2 := Aside0.mk A20
  clear A20
  by_cases c3 : t181 = 0
  · rw [if_pos c3] at H
    have c3b0 : (t181 == 0) = true := beq_iff_eq.mpr c3
    have c3b1 : (t181 != 0) = false := bne_eq_false_iff_eq.mpr c3
    clear c3
    have H' := Aside0.mk H
    clear H
    go_enter Tryz.func56, Tryz.ntmps56
    go_wp2_with (first | ((with_reducible refine gate_callee (f := 52) rfl ?_); refine goesL_ (some 12) rfl rfl Tryz.func52 (by kernel_rfl) rfl #[.string a0] rfl (by (try simp only [List.map_toArray, List.map_cons, List.map_nil]); first | done | rfl | (simp only [List.length_drop, List.length_take]; rfl)) ?_; (with_reducible refine (bursarref04_Split.calls k a0 t180 t181 _ A2.out).mono ?_); rintro e w4 ⟨v182, rfl, ho0, hb⟩; refine ⟨_, rfl, ?_⟩; have n0_ := Aside0.mk (Kd.Q_lower ho0 (below_size (by repeat (first | (with_reducible first | exact HB.out | apply below_alloc | apply pw_below_drewN | apply below_drew1) | exact HB.out)))); have n1_ := Aside0.mk (below_step (by repeat (first | (with_reducible first | exact HB.out | apply below_alloc | apply pw_below_drewN | apply below_drew1) | exact HB.out)) hb); clear HB; have HO183 := n0_; have HB := n1_; clear n0_ n1_; (try clear hb); (try clear hb2); (try clear hk); (try clear hi); (try clear ho0); obtain ⟨Ao5, co5, eo5, _⟩ := Kd.Q_slice HO183.out; subst eo5))
    go_loopg [6, 7] k (fun kq v6 v7 w' => ∃ (x6_1 : List ByteArray) (x7_1 : Int), v7 = .int .i64 x7_1 ∧ Aside0 (bursarref04_Line.l0 kq t180 x6_1 x7_1 = some (r1, r2)) ∧ Aside0 (kq ≤ k) ∧ Aside0 (Kd.Q Kd.string 9 w' w.heap.size (fun k_ => some k_ ≠ (v6 : Value).ownBlock) (.slice Ao5 t180.length co5) t180) ∧ Aside0 (Kd.R Kd.string 9 w' w.heap.size (fun k_ => some k_ ≠ ((.slice Ao5 t180.length co5) : Value).ownBlock) v6 x6_1) ∧ Aside0 (Below w.heap.size w w'))
    case atStart => exact ⟨(([] : List ByteArray)), ((t180.length : Int)), (by first | rfl | (simp; done) | (simp [*]; done) | (simp; rw [Bool.eq_iff_iff]; simp; done) | (rw [Bool.eq_iff_iff]; simp; done)), H', ⟨Nat.le_refl _⟩, ⟨by (with_reducible repeat (first | apply Kd.Q_alloc | apply Kd.Q_drewN | apply Kd.Q_drew)); exact Kd.Q_mono HO183.out (fun _ hk => (by simp [Value.ownBlock]))⟩, ⟨by first | exact Kd.R_nil _ _ _ _ _ | exact Kd.N_nil _ _ _ _ _ | exact Kd.V_nil _ _ _ _ _ | exact Kd.Q_nil _ _ _ _ _ | exact Kd.S_nil _ _ _ _ _⟩, ⟨by repeat (first | (with_reducible first | exact HB.out | apply below_alloc | apply pw_below_drewN | apply below_drew1) | exact HB.out)⟩⟩
    case round =>
      clear H'
      try clear p2
      try clear c3
      try clear c3b0
      try clear c3b1
      try clear c5
      obtain ⟨x6_1, x7_1, rfl, HA, HK1, HO_4, HO_6, HB⟩ := hrel
      cases gk with
      | zero => exact absurd HA.out (by simp [bursarref04_Line.l0])
      | succ k1 =>
        have H := HA.out
        clear HA
        simp only [bursarref04_Line.l0] at H
        by_cases c6 : x7_1 ≥ 0
        · rw [if_pos c6] at H
          have c6b0 : decide (0 ≤ x7_1) = true := decide_eq_true c6
          clear c6
          by_cases c7 : 0 ≤ x7_1
          · rw [if_pos c7] at H
            have c7b0 := eq_true c7
            have c7b1 : decide (0 ≤ x7_1) = true := decide_eq_true c7
            clear c7
            by_cases c8 : x7_1 ≤ (t180.length : Int)
            · rw [if_pos c8] at H
              have c8b0 := eq_true c8
              have c8b1 : decide (x7_1 ≤ (t180.length : Int)) = true := decide_eq_true c8
              clear c8
              obtain ⟨y184, hy184⟩ : ∃ y_ : List ByteArray, y_ = (t180.take (x7_1 : Int).toNat) := ⟨_, rfl⟩
              replace H : ((bursarref04_Join.f k1 y184).bind fun bt188 => (if x6_1.length < 8796093022208 then (bursarref04_Line.l0 k1 t180 (x6_1 ++ [bt188.1]) (wrap64 (x7_1 - 1))) else (none))) = some (r1, r2) := by first | (rw [hy184]; with_reducible exact H) | (have H2_ := (Option.bind_some _ _).symm.trans H; rw [hy184]; with_reducible exact H2_) | (have H2_ := (Option.bind_some _ _).symm.trans H; with_reducible exact H2_) | with_reducible exact H | (rw [hy184]; exact H) | exact H
              have Ny184 := Aside0.mk hy184
              clear hy184
              replace H := Option.bind_eq_some_iff.mp H
              obtain ⟨⟨t188, t189⟩, A90, H⟩ := H
              replace H : (if x6_1.length < 8796093022208 then (bursarref04_Line.l0 k1 t180 (x6_1 ++ [t188]) (wrap64 (x7_1 - 1))) else (none)) = some (r1, r2) := H
              have A9 := Aside0.mk A90
              clear A90
              by_cases c10 : x6_1.length < 8796093022208
              · rw [if_pos c10] at H
                have LMc10 := Aside0.mk c10
                clear c10
                obtain ⟨y190, hy190⟩ : ∃ y_ : List ByteArray, y_ = (x6_1 ++ [t188]) := ⟨_, rfl⟩
                replace H : (bursarref04_Line.l0 k1 t180 y190 (wrap64 (x7_1 - 1))) = some (r1, r2) := by first | (rw [hy190]; with_reducible exact H) | (have H2_ := (Option.bind_some _ _).symm.trans H; rw [hy190]; with_reducible exact H2_) | (have H2_ := (Option.bind_some _ _).symm.trans H; with_reducible exact H2_) | with_reducible exact H | (rw [hy190]; exact H) | exact H
                have Ny190 := Aside0.mk hy190
                clear hy190
                have H' := Aside0.mk H
                clear H
                have q11 : (x7_1 : Int) ≤ ((t180.length : Int) : Int) := of_decide_eq_true (by first | (with_reducible assumption) | assumption)
                obtain ⟨i011, hi011, _, hsz11, _⟩ := info_parts info9
                have hroom11 : t180.length ≤ co5 := (Kd.Q_reads' HO_4.out).2.1
                have hC11 : Kd.C Kd.string _ Ao5 t180.length t180 := (Kd.Q_reads' HO_4.out).2.2
                have hcut11 := cut_to (P := Tryz.prog) 49 9 .i64 Tryz.underlying49 hi011 Ao5 t180.length co5 x7_1 (of_decide_eq_true (by first | (with_reducible assumption) | assumption)) q11 hroom11
                have hr11 := Kd.C_take (m := (x7_1 : Int).toNat) hC11 (by omega)
                have hy11 : y184.length = (x7_1 : Int).toNat := (by rw [Ny184.out, List.length_take]; omega)
                rw [← Ny184.out] at hr11
                rw [← hy11] at hcut11
                have HR187 := Aside0.mk hr11
                have HC187 := Aside0.mk (show y184.length ≤ co5 from by omega)
                clear hr11 hC11 hroom11 hi011 hsz11
                have KY11 := Aside0.mk hy11
                clear hy11
                have KL11 := Aside0.mk (show (x7_1 : Int).toNat ≤ t180.length from by omega)
                replace q11 := eq_true q11
                go_wp2_with (first | ((with_reducible refine gate_callee (f := 80) rfl ?_); refine goesL_ (some 28) rfl rfl Tryz.func80 (by kernel_rfl) rfl #[.slice Ao5 y184.length co5] rfl (by (try simp only [List.map_toArray, List.map_cons, List.map_nil]); first | done | rfl | (simp only [List.length_drop, List.length_take]; rfl)) ?_; (with_reducible refine (bursarref04_Join.calls k1 _ _ y184 t188 t189 _ ?side1 ?side2 A9.out).mono ?_); (case side1 => repeat (first | exact (by repeat (first | (with_reducible exact HR187.out) | (with_reducible refine Kd.C_alloc ?_ _) | (with_reducible refine Kd.C_drewN ?_ _) | (with_reducible refine Kd.C_drew ?_) | exact HR187.out)) | (with_reducible refine Kd.C_alloc ?_ _) | (with_reducible refine Kd.C_drewN ?_ _) | (with_reducible refine Kd.C_drew ?_))); (case side2 => exact HC187.out); rintro e w' ⟨rfl, ⟨nd, rfl⟩⟩; refine ⟨_, rfl, ?_⟩) | ((with_reducible refine gate_builtin (b := .append) (xs := #[.tmp 31, .tmp 33]) rfl ?_); at_builtin; refine Kd.R_append Kd.string (w0 := w) w.heap.size rfl (.tmp 31) (.tmp 33) 49 9 (.string ⟨#[]⟩) 16 rfl Tryz.underlying49 info9 rfl (by decide) (by omega) u6 x6_1 t188 [.string t188] (fun k_ => some k_ ≠ (.slice Ao5 t180.length co5 : Value).ownBlock) (fun _ => False) rfl rfl ?aP (fun _ hk => hk.elim) ?aF ?aO ?aB ?aS ?aL ?_; (case aP => exact rfl); (case aB => exact (by repeat (first | (with_reducible first | exact HB.out | apply below_alloc | apply pw_below_drewN | apply below_drew1) | exact HB.out))); (case aF => exact (fun k_ hk => Kd.fresh' (Kd.Q_lt (by (with_reducible repeat (first | apply Kd.Q_alloc | apply Kd.Q_drewN | apply Kd.Q_drew)); exact HO_4.out)) k_ hk)); (case aO => exact (by (with_reducible repeat (first | apply Kd.R_alloc | apply Kd.R_drewN | apply Kd.R_drew)); exact HO_6.out)); (case aS => exact (below_size (by repeat (first | (with_reducible first | exact HB.out | apply below_alloc | apply pw_below_drewN | apply below_drew1) | exact HB.out)))); (case aL => have := LMc10.out; omega); intro v191 w12 ho hb hg hat; rw [← Ny190.out] at ho; have n0_ := Aside0.mk (Kd.Q_after (ok := (fun _ => True)) (by (with_reducible repeat (first | apply Kd.Q_alloc | apply Kd.Q_drewN | apply Kd.Q_drew)); exact Kd.Q_mono HO_4.out (fun _ hk => ⟨trivial, hk⟩)) hg hat); have n1_ := Aside0.mk (hb); have n2_ := Aside0.mk ((show Kd.C Kd.string w12 Ao5 y184.length y184 from by rw [Ny184.out]; exact Kd.C_take (m := (x7_1 : Int).toNat) ((Kd.Q_reads' (Kd.Q_after (ok := (fun _ => True)) (by (with_reducible repeat (first | apply Kd.Q_alloc | apply Kd.Q_drewN | apply Kd.Q_drew)); exact Kd.Q_mono HO_4.out (fun _ hk => ⟨trivial, hk⟩)) hg hat)).2.2) KL11.out)); have n3_ := Aside0.mk (ho); clear HO_4; clear HB; clear HR187; clear HO_6; have HO_4 := n0_; have HB := n1_; have HR187 := n2_; have HO192 := n3_; clear n0_ n1_ n2_ n3_; clear ho hb hg hat))
                go_roundg k1
                case measure => have := HK1.out; omega
                case rel => exact ⟨(y190), (wrap64 (x7_1 - 1)), (by first | rfl | (simp; done) | (simp [*]; done) | (simp; rw [Bool.eq_iff_iff]; simp; done) | (rw [Bool.eq_iff_iff]; simp; done)), H', ⟨by have := HK1.out; omega⟩, ⟨by (with_reducible repeat (first | apply Kd.Q_alloc | apply Kd.Q_drewN | apply Kd.Q_drew)); exact Kd.Q_mono HO_4.out (fun _ hk => hk.2)⟩, ⟨by (with_reducible repeat (first | apply Kd.R_alloc | apply Kd.R_drewN | apply Kd.R_drew)); exact HO192.out⟩, ⟨by repeat (first | (with_reducible first | exact HB.out | apply below_alloc | apply pw_below_drewN | apply below_drew1) | exact HB.out)⟩⟩
              · rw [if_neg c10] at H
                exact absurd H (by simp)
            · rw [if_neg c8] at H
              exact absurd H (by simp)
          · rw [if_neg c7] at H
            exact absurd H (by simp)
        · rw [if_neg c6] at H
          have c6b0 : decide (0 ≤ x7_1) = false := decide_eq_false c6
          clear c6
          simp only [Option.some.injEq, Prod.mk.injEq] at H
          obtain ⟨rfl, rfl⟩ := H
          go_wp2
          go_ret2
          exact ⟨_, by first | rfl | (simp [errW_none, errW_some] <;> rfl) | (simp [*, errW_none, errW_some] <;> rfl), by (with_reducible repeat (first | apply Kd.R_alloc | apply Kd.R_drewN | apply Kd.R_drew)); exact Kd.R_mono HO_6.out (fun _ hk => trivial), by repeat (first | (with_reducible first | exact HB.out | apply below_alloc | apply pw_below_drewN | apply below_drew1) | exact HB.out)⟩
  · rw [if_neg c3] at H
    have c3b0 : (t181 == 0) = false := beq_eq_false_iff_ne.mpr c3
    have c3b1 : (t181 != 0) = true := bne_iff_ne.mpr c3
    simp only [Option.some.injEq, Prod.mk.injEq] at H
    obtain ⟨rfl, rfl⟩ := H
    go_enter Tryz.func56, Tryz.ntmps56
    go_wp2_with (first | ((with_reducible refine gate_callee (f := 52) rfl ?_); refine goesL_ (some 12) rfl rfl Tryz.func52 (by kernel_rfl) rfl #[.string a0] rfl (by (try simp only [List.map_toArray, List.map_cons, List.map_nil]); first | done | rfl | (simp only [List.length_drop, List.length_take]; rfl)) ?_; (with_reducible refine (bursarref04_Split.calls k a0 t180 t181 _ A2.out).mono ?_); rintro e w13 ⟨v182, rfl, ho0, hb⟩; refine ⟨_, rfl, ?_⟩; have n0_ := Aside0.mk (Kd.Q_lower ho0 (below_size (by repeat (first | (with_reducible first | exact HB.out | apply below_alloc | apply pw_below_drewN | apply below_drew1) | exact HB.out)))); have n1_ := Aside0.mk (below_step (by repeat (first | (with_reducible first | exact HB.out | apply below_alloc | apply pw_below_drewN | apply below_drew1) | exact HB.out)) hb); clear HB; have HO183 := n0_; have HB := n1_; clear n0_ n1_; (try clear hb); (try clear hb2); (try clear hk); (try clear hi); (try clear ho0)))
    go_ret2
    exact ⟨_, by first | rfl | (simp [errW_none, errW_some] <;> rfl) | (simp [*, errW_none, errW_some] <;> rfl), by first | exact Kd.R_nil _ _ _ _ _ | exact Kd.N_nil _ _ _ _ _ | exact Kd.V_nil _ _ _ _ _ | exact Kd.Q_nil _ _ _ _ _ | exact Kd.S_nil _ _ _ _ _, by repeat (first | (with_reducible first | exact HB.out | apply below_alloc | apply pw_below_drewN | apply below_drew1) | exact HB.out)⟩
end Go.Proofs.YtphddbijdfmpjaaGreatDoor.Q
namespace Go.Proofs.YtphddbijdfmpjaaGreatDoor.Q
open Go.RowKit Go.Proofs.YtphddbijdfmpjaaGreatDoorW.PrintWords Go.Proofs.YtphddbijdfmpjaaGreatDoorW.PrintLast Go.Proofs.YtphddbijdfmpjaaGreatDoorW.PrintMore
attribute [local go_sem] max2_int min2_int max_two min_two max_three min_three max_four min_four   -- for this text's walks alone
set_option linter.unusedVariables false
set_option linter.unusedSimpArgs false
def bursarref04_Under.l0 : Nat → ByteArray → List ByteArray → Int → Option (Bool)
  | 0, _, _, _ => none
  | k + 1, x1, x5, x7 => if x7 < (x5.length : Int) then (if 0 ≤ x7 then (if (rdOf ByteArray.empty x5 x7).toList = x1.toList then (some true) else (bursarref04_Under.l0 k x1 x5 (wrap64 (x7 + 1)))) else (none)) else (some false)
def bursarref04_Under.f (k : Nat) (a0 : ByteArray) (a1 : ByteArray) : Option (Bool) := (bursarref04_Line.f k a0).bind fun bt193 => (bursarref04_Under.l0 k a1 bt193.1 0)
theorem bursarref04_Under.mono_l : ∀ k, (∀ y0 y1 y2, LeO (bursarref04_Under.l0 k y0 y1 y2) (bursarref04_Under.l0 (k + 1) y0 y1 y2))
  | 0 => fun _ _ _ r h => by simp [bursarref04_Under.l0] at h
  | k + 1 => by
    have ih0 := bursarref04_Under.mono_l k
    · intro y0 y1 y2
      unfold bursarref04_Under.l0
      repeat' first
      | (with_reducible exact ih0 _ _ _)
      | (with_reducible exact bursarref04_Line.mono _ _)
      | (with_reducible exact LeO.refl _)
      | (with_reducible exact LeO.none _)
      | (with_reducible refine LeO.ite ?_ ?_)
      | (with_reducible refine LeO.bind ?_ (fun _ => ?_))
      | exact ih0 _ _ _
      | exact bursarref04_Line.mono _ _
      | exact LeO.none _
      | refine LeO.ite ?_ ?_
      | refine LeO.bind ?_ (fun _ => ?_)
theorem bursarref04_Under.mono : ∀ a0 a1 k, LeO (bursarref04_Under.f k a0 a1) (bursarref04_Under.f (k + 1) a0 a1) := by
  intro a0 a1 k
  have ih0 := bursarref04_Under.mono_l k
  unfold bursarref04_Under.f
  repeat' first
      | (with_reducible exact ih0 _ _ _)
      | (with_reducible exact bursarref04_Line.mono _ _)
      | (with_reducible exact LeO.refl _)
      | (with_reducible exact LeO.none _)
      | (with_reducible refine LeO.ite ?_ ?_)
      | (with_reducible refine LeO.bind ?_ (fun _ => ?_))
      | exact ih0 _ _ _
      | exact bursarref04_Line.mono _ _
      | exact LeO.none _
      | refine LeO.ite ?_ ?_
      | refine LeO.bind ?_ (fun _ => ?_)
set_option maxHeartbeats 8000000 in
set_option maxRecDepth 100000 in
theorem bursarref04_Under.calls (k : Nat) (a0 : ByteArray) (a1 : ByteArray) (r : Bool) (w : World) (h : bursarref04_Under.f k a0 a1 = some r) :
    Calls Tryz.prog 44 #[.string a0, .string a1] w fun e w' => e = .returned (.bool r) ∧ Below w.heap.size w w' := by
  have HB := Aside0.mk (Below.refl w.heap.size w)
  have H : ((bursarref04_Line.f k a0).bind fun bt193 => (bursarref04_Under.l0 k a1 bt193.1 0)) = some r := h
  clear h
  replace H := Option.bind_eq_some_iff.mp H
  obtain ⟨⟨t193, t194⟩, A30, H⟩ := H
  replace H : (bursarref04_Under.l0 k a1 t193 0) = some r := H
  have A3 := Aside0.mk A30
  clear A30
  have H' := Aside0.mk H
  clear H
  go_enter Tryz.func44, Tryz.ntmps44
  go_wp2_with (first | ((with_reducible refine gate_callee (f := 56) rfl ?_); refine goesL_ (some 10) rfl rfl Tryz.func56 (by kernel_rfl) rfl #[.string a0] rfl (by (try simp only [List.map_toArray, List.map_cons, List.map_nil]); first | done | rfl | (simp only [List.length_drop, List.length_take]; rfl)) ?_; (with_reducible refine (bursarref04_Line.calls k a0 t193 t194 _ A3.out).mono ?_); rintro e w4 ⟨v195, rfl, ho0, hb⟩; refine ⟨_, rfl, ?_⟩; have n0_ := Aside0.mk (Kd.R_lower ho0 (below_size (by repeat (first | (with_reducible first | exact HB.out | apply below_alloc | apply pw_below_drewN | apply below_drew1) | exact HB.out)))); have n1_ := Aside0.mk (below_step (by repeat (first | (with_reducible first | exact HB.out | apply below_alloc | apply pw_below_drewN | apply below_drew1) | exact HB.out)) hb); clear HB; have HO196 := n0_; have HB := n1_; clear n0_ n1_; (try clear hb); (try clear hb2); (try clear hk); (try clear hi); (try clear ho0)))
  go_loopg [7] k (fun kq v7 w' => ∃ (x7_1 : Int), v7 = .int .i64 x7_1 ∧ Aside0 (bursarref04_Under.l0 kq a1 t193 x7_1 = some r) ∧ Aside0 (kq ≤ k) ∧ Aside0 (Kd.R Kd.string 9 w' w.heap.size (fun _ => True) v195 t193) ∧ Aside0 (Below w.heap.size w w'))
  case atStart => exact ⟨(0), (by first | rfl | (simp; done) | (simp [*]; done) | (simp; rw [Bool.eq_iff_iff]; simp; done) | (rw [Bool.eq_iff_iff]; simp; done)), H', ⟨Nat.le_refl _⟩, ⟨by (with_reducible repeat (first | apply Kd.R_alloc | apply Kd.R_drewN | apply Kd.R_drew)); exact HO196.out⟩, ⟨by repeat (first | (with_reducible first | exact HB.out | apply below_alloc | apply pw_below_drewN | apply below_drew1) | exact HB.out)⟩⟩
  case round =>
    clear H'
    try clear p2
    try clear c4
    obtain ⟨x7_1, rfl, HA, HK1, HO_5, HB⟩ := hrel
    cases gk with
    | zero => exact absurd HA.out (by simp [bursarref04_Under.l0])
    | succ k1 =>
      have H := HA.out
      clear HA
      simp only [bursarref04_Under.l0] at H
      by_cases c5 : x7_1 < (t193.length : Int)
      · rw [if_pos c5] at H
        have c5b0 : decide (x7_1 < (t193.length : Int)) = true := decide_eq_true c5
        clear c5
        by_cases c6 : 0 ≤ x7_1
        · rw [if_pos c6] at H
          have c6b0 : decide (0 ≤ x7_1) = true := decide_eq_true c6
          clear c6
          by_cases c7 : (rdOf ByteArray.empty t193 x7_1).toList = a1.toList
          · rw [if_pos c7] at H
            have c7b0 : ((rdOf ByteArray.empty t193 x7_1).toList == a1.toList) = true := beq_iff_eq.mpr c7
            have c7b1 : ((rdOf ByteArray.empty t193 x7_1).toList != a1.toList) = false := bne_eq_false_iff_eq.mpr c7
            clear c7
            obtain rfl := Option.some.inj H
            obtain ⟨Ao8, co8, eo8⟩ := Kd.R_slice HO_5.out
            subst eo8
            have p197 : 0 ≤ (x7_1 : Int) := of_decide_eq_true (by first | (with_reducible assumption) | assumption)
            have q197 : x7_1 < (t193.length : Int) := of_decide_eq_true (by first | (with_reducible assumption) | assumption)
            obtain ⟨ad197, e197, hx197_0⟩ := Kd.at_string (Kd.R_reads' HO_5.out).2.2 x7_1 p197 q197
            cases e197
            replace p197 := eq_true p197
            replace q197 := eq_true q197
            go_wp2
            go_ret
            exact ⟨by first | rfl | (simp [errW_none, errW_some] <;> rfl) | (simp [*, errW_none, errW_some] <;> rfl), by repeat (first | (with_reducible first | exact HB.out | apply below_alloc | apply pw_below_drewN | apply below_drew1) | exact HB.out)⟩
          · rw [if_neg c7] at H
            have c7b0 : ((rdOf ByteArray.empty t193 x7_1).toList == a1.toList) = false := beq_eq_false_iff_ne.mpr c7
            have c7b1 : ((rdOf ByteArray.empty t193 x7_1).toList != a1.toList) = true := bne_iff_ne.mpr c7
            have H' := Aside0.mk H
            clear H
            obtain ⟨Ao9, co9, eo9⟩ := Kd.R_slice HO_5.out
            subst eo9
            have p197 : 0 ≤ (x7_1 : Int) := of_decide_eq_true (by first | (with_reducible assumption) | assumption)
            have q197 : x7_1 < (t193.length : Int) := of_decide_eq_true (by first | (with_reducible assumption) | assumption)
            obtain ⟨ad197, e197, hx197_0⟩ := Kd.at_string (Kd.R_reads' HO_5.out).2.2 x7_1 p197 q197
            cases e197
            replace p197 := eq_true p197
            replace q197 := eq_true q197
            go_wp2
            go_roundg k1
            case measure => have := HK1.out; omega
            case rel => exact ⟨(wrap64 (x7_1 + 1)), (by first | rfl | (simp; done) | (simp [*]; done) | (simp; rw [Bool.eq_iff_iff]; simp; done) | (rw [Bool.eq_iff_iff]; simp; done)), H', ⟨by have := HK1.out; omega⟩, ⟨by (with_reducible repeat (first | apply Kd.R_alloc | apply Kd.R_drewN | apply Kd.R_drew)); exact HO_5.out⟩, ⟨by repeat (first | (with_reducible first | exact HB.out | apply below_alloc | apply pw_below_drewN | apply below_drew1) | exact HB.out)⟩⟩
        · rw [if_neg c6] at H
          exact absurd H (by simp)
      · rw [if_neg c5] at H
        have c5b0 : decide (x7_1 < (t193.length : Int)) = false := decide_eq_false c5
        clear c5
        obtain rfl := Option.some.inj H
        obtain ⟨Ao10, co10, eo10⟩ := Kd.R_slice HO_5.out
        subst eo10
        go_wp2
        go_ret
        exact ⟨by first | rfl | (simp [errW_none, errW_some] <;> rfl) | (simp [*, errW_none, errW_some] <;> rfl), by repeat (first | (with_reducible first | exact HB.out | apply below_alloc | apply pw_below_drewN | apply below_drew1) | exact HB.out)⟩
end Go.Proofs.YtphddbijdfmpjaaGreatDoor.Q
namespace Go.Proofs.YtphddbijdfmpjaaGreatDoor.Q
open Go.RowKit Go.Proofs.YtphddbijdfmpjaaGreatDoorW.PrintWords Go.Proofs.YtphddbijdfmpjaaGreatDoorW.PrintLast Go.Proofs.YtphddbijdfmpjaaGreatDoor.Pl
set_option linter.unusedVariables false
set_option linter.unusedSimpArgs false
theorem refPath_ev (s : ByteArray) (hs : s.size ≤ 1048576) : Ev (fun k => bursarref04_Path.f k s) (pathS s) :=
  Ev.congr (fun k => rfl) (Ev.bind (refSplit_ev s hs) (f := fun (_ : Nat) (b : List ByteArray × Int) => some b.2) (Ev.now _))
theorem rjloop (ns : List (List UInt8)) (hl : ns.length ≤ 2000000) (hb : (flat ns).length ≤ 4000000) (d : Nat) : ∀ i : Nat, i + d = ns.length → (ns.take i).all nameL = true →
    Ev (fun k => bursarref04_Join.l0 k (ns.map toB) (toB (flat (ns.take i))) (i : Int)) (joinS ns) := by
  induction d with
  | zero =>
    intro i hi hall
    have hi' : i = ns.length := by omega
    subst hi'
    rw [List.take_length] at hall ⊢
    unfold joinS
    rw [if_pos hall]
    by_cases h8 : ns.length ≤ 8
    · by_cases h64 : (flat ns).length ≤ 64
      · rw [if_pos ⟨h8, h64⟩]
        refine Ev.step (f := fun k => bursarref04_Join.j1 k (toB (flat ns)) false) (fun k => ?_) (Ev.step (f := fun _ => some (toB (pathL ns), 0)) (fun k => ?_) (Ev.now _))
        · simp only [bursarref04_Join.l0]
          rw [if_neg (by simp), if_neg (by simp; omega), decide_eq_false (by rw [toB_size]; omega)]
        · simp only [bursarref04_Join.j1]
          rw [if_neg (by decide)]
          unfold pathL
          by_cases hn : ns = []
          · subst hn
            exact (if_pos (lit_list.2 rfl)).trans rfl
          · rw [if_neg (fun e => by
              have e' := lit_list.1 e
              rw [toB_list] at e'
              have := flat_length ns
              rw [e'] at this
              cases ns with
              | nil => exact hn rfl
              | cons _ _ => simp at this), if_neg hn]
      · rw [if_neg (fun h => h64 h.2)]
        refine Ev.step (f := fun k => bursarref04_Join.j1 k (toB (flat ns)) true) (fun k => ?_) (Ev.step (f := fun _ => some (⟨#[]⟩, 41)) (fun k => ?_) (Ev.now _))
        · simp only [bursarref04_Join.l0]
          rw [if_neg (by simp), if_neg (by simp; omega), decide_eq_true (by rw [toB_size]; omega)]
        · simp [bursarref04_Join.j1]
    · rw [if_neg (fun h => h8 h.1)]
      refine Ev.step (f := fun k => bursarref04_Join.j1 k (toB (flat ns)) true) (fun k => ?_) (Ev.step (f := fun _ => some (⟨#[]⟩, 41)) (fun k => ?_) (Ev.now _))
      · simp only [bursarref04_Join.l0]
        rw [if_neg (by simp), if_pos (by simp; omega)]
      · simp [bursarref04_Join.j1]
  | succ d ih =>
    intro i hi hall
    have hlt : i < ns.length := by omega
    have hf1 := flat_take_le ns (i + 1)
    rw [take_snoc ns i hlt, flat_snoc] at hf1
    simp at hf1
    refine Ev.step (fun k => ?_) (Ev.bind (name_ev (toB ns[i])) (f := fun k t => if t = true then (if (toB (flat (ns.take i))).size + 1 ≤ 9223372036854775807 then (if ((toB (flat (ns.take i))) ++ (⟨#[47]⟩ : ByteArray)).size + (toB ns[i]).size ≤ 9223372036854775807 then bursarref04_Join.l0 k (ns.map toB) (((toB (flat (ns.take i))) ++ (⟨#[47]⟩ : ByteArray)) ++ (toB ns[i])) ((i + 1 : Nat) : Int) else none) else none) else some (⟨#[]⟩, 40)) ?_)
    · simp only [bursarref04_Join.l0]
      rw [if_pos (by simp; omega), if_pos (by omega), rd_map ns i hlt, w64 i (by omega)]
    · show Ev (fun k => if nameL ns[i] = true then _ else _) _
      cases hn : nameL ns[i] with
      | true =>
        have hall2 : (ns.take (i + 1)).all nameL = true := by rw [take_snoc ns i hlt, List.all_append, hall]; simp [hn]
        have := ih (i + 1) (by omega) hall2
        have e : ((toB (flat (ns.take i))) ++ (⟨#[47]⟩ : ByteArray)) ++ (toB ns[i]) = toB (flat (ns.take (i + 1))) := by
          rw [take_snoc ns i hlt, flat_snoc, show (⟨#[47]⟩ : ByteArray) = toB [47] from rfl, toB_app, toB_app]
          simp
        refine Ev.congr (fun k => ?_) this
        rw [if_pos rfl, if_pos (by rw [toB_size]; omega), if_pos (by rw [show (⟨#[47]⟩ : ByteArray) = toB [47] from rfl, toB_app, toB_size, toB_size]; simp; omega), e]
      | false =>
        have hna : ¬ ns.all nameL = true := by
          rw [List.all_eq_true]
          intro h
          have := h ns[i] (List.getElem_mem _)
          rw [hn] at this; cases this
        have : joinS ns = (⟨#[]⟩, 40) := by unfold joinS; rw [if_neg hna]
        rw [this]
        simpa using Ev.now ((⟨#[]⟩, 40) : ByteArray × Int)
theorem refJoin_ev (ns : List (List UInt8)) (hl : ns.length ≤ 2000000) (hb : (flat ns).length ≤ 4000000) : Ev (fun k => bursarref04_Join.f k (ns.map toB)) (joinS ns) :=
  rjloop ns hl hb ns.length 0 (by omega) rfl
theorem join_take {s : ByteArray} {ns : List (List UInt8)} (h : IsPath s ns) (i : Nat) : Ev (fun k => bursarref04_Join.f k ((ns.map toB).take i)) (toB (pathL (ns.take i)), 0) := by
  have hp := isPath_take h i
  have hf : (flat (ns.take i)).length ≤ 64 := by
    have h1 := hp.size
    rw [toB_size] at h1
    unfold pathL at h1
    split at h1
    · rename_i h0; rw [h0, flat_nil]; simp
    · exact h1
  have hj := refJoin_ev (ns.take i) (by have := hp.most; omega) (by omega)
  rw [List.map_take] at hj
  unfold joinS at hj
  rw [if_pos hp.names, if_pos ⟨hp.most, hf⟩] at hj
  exact hj
theorem rlineloop (s : ByteArray) (ns : List (List UInt8)) (h : IsPath s ns) : ∀ (i : Nat) (acc : List ByteArray), i ≤ ns.length → acc.length + i ≤ 1000 →
    Ev (fun k => bursarref04_Line.l0 k (ns.map toB) acc (i : Int)) (acc ++ upto ns i, 0) := by
  have hw : ∀ i : Nat, wrap64 (((i + 1 : Nat) : Int) - 1) = (i : Int) ∨ 1000 < i := fun i => by
    rcases Nat.lt_or_ge 1000 i with h | h
    · exact .inr h
    · left; unfold wrap64; omega
  intro i
  induction i with
  | zero =>
    intro acc _ ha
    refine Ev.step (fun k => ?_) (Ev.bind (join_take h 0) (f := fun k b => if acc.length < 8796093022208 then bursarref04_Line.l0 k (ns.map toB) (acc ++ [b.1]) (-1) else none) ?_)
    · simp only [bursarref04_Line.l0]
      rw [if_pos (by omega), if_pos (by omega), if_pos (by simp), show wrap64 (((0 : Nat) : Int) - 1) = -1 by unfold wrap64; omega]
      rfl
    · refine Ev.congr (f := fun k => bursarref04_Line.l0 k (ns.map toB) (acc ++ [toB (pathL (ns.take 0))]) (-1)) (fun k => if_pos (by omega)) ?_
      refine Ev.step (f := fun _ => some (acc ++ upto ns 0, 0)) (fun k => ?_) (Ev.now _)
      simp only [bursarref04_Line.l0]
      rw [if_neg (by omega)]
      rfl
  | succ i ih =>
    intro acc hi ha
    have hih := ih (acc ++ [toB (pathL (ns.take (i + 1)))]) (by omega) (by simp; omega)
    have e : acc ++ [toB (pathL (ns.take (i + 1)))] ++ upto ns i = acc ++ upto ns (i + 1) := by simp [upto]
    rw [e] at hih
    have hw' : wrap64 (((i + 1 : Nat) : Int) - 1) = (i : Int) := (hw i).elim id (fun h => by omega)
    refine Ev.step (fun k => ?_) (Ev.bind (join_take h (i + 1)) (f := fun k b => if acc.length < 8796093022208 then bursarref04_Line.l0 k (ns.map toB) (acc ++ [b.1]) (i : Int) else none) ?_)
    · simp only [bursarref04_Line.l0]
      rw [if_pos (by omega), if_pos (by omega), if_pos (by simp; omega), hw', Int.toNat_natCast]
    · exact Ev.congr (fun k => if_pos (by omega)) hih
theorem refLine_ev (s : ByteArray) (hs : s.size ≤ 1048576) : Ev (fun k => bursarref04_Line.f k s) (lineS s) := by
  rcases path_cases s with ⟨ns, h, hsp⟩ | ⟨hb, hsp⟩
  · rw [lineS_path h]
    have hp := refSplit_ev s hs
    rw [hsp] at hp
    have hl := rlineloop s ns h ns.length [] (Nat.le_refl _) (by have := h.most; simp; omega)
    rw [List.nil_append] at hl
    refine Ev.congr (fun k => rfl) (Ev.bind hp (f := fun k (b : List ByteArray × Int) => if b.2 = 0 then bursarref04_Line.l0 k b.1 [] (b.1.length : Int) else some ([], b.2)) ?_)
    simpa using hl
  · rw [lineS_bad hb]
    have hp := refSplit_ev s hs
    rw [hsp] at hp
    refine Ev.congr (fun k => rfl) (Ev.bind hp (f := fun k (b : List ByteArray × Int) => if b.2 = 0 then bursarref04_Line.l0 k b.1 [] (b.1.length : Int) else some ([], b.2)) ?_)
    simpa using Ev.now (([], 41) : List ByteArray × Int)
theorem ruloop (t : ByteArray) (l : List ByteArray) (hl : l.length ≤ 2000000) (d : Nat) : ∀ i : Nat, i + d = l.length → Ev (fun k => bursarref04_Under.l0 k t l (i : Int)) (memB (l.drop i) t) := by
  induction d with
  | zero =>
    intro i hi
    refine Ev.step (f := fun _ => some false) (fun k => ?_) (by rw [List.drop_of_length_le (by omega)]; exact Ev.now _)
    simp only [bursarref04_Under.l0]; rw [if_neg (by omega)]
  | succ d ih =>
    intro i hi
    have hlt : i < l.length := by omega
    rw [drop_at l i hlt]
    show Ev _ (decide (t = l[i]) || memB (l.drop (i + 1)) t)
    by_cases he : t = l[i]
    · rw [decide_eq_true he, Bool.true_or]
      refine Ev.step (f := fun _ => some true) (fun k => ?_) (Ev.now _)
      simp only [bursarref04_Under.l0]
      rw [if_pos (by omega), if_pos (by omega), rd_at l i hlt, if_pos ((ba_iff _ _).2 he.symm)]
    · rw [decide_eq_false he, Bool.false_or]
      refine Ev.step (fun k => ?_) (ih (i + 1) (by omega))
      simp only [bursarref04_Under.l0]
      rw [if_pos (by omega), if_pos (by omega), rd_at l i hlt, if_neg (fun h => he ((ba_iff _ _).1 h).symm), w64 i (by omega)]
theorem refUnder_ev (s t : ByteArray) (hs : s.size ≤ 1048576) : Ev (fun k => bursarref04_Under.f k s t) (underS s t) := by
  have h := ruloop t (lineS s).1 (by have := line_len s; omega) (lineS s).1.length 0 (by omega)
  rw [List.drop_zero] at h
  exact Ev.congr (fun k => rfl) (Ev.bind (refLine_ev s hs) (f := fun k (b : List ByteArray × Int) => bursarref04_Under.l0 k t b.1 0) h)
end Go.Proofs.YtphddbijdfmpjaaGreatDoor.Q
namespace Go.Proofs.YtphddbijdfmpjaaGreatDoor.Q
open Go.RowKit Go.MapRaw Go.Proofs.YtphddbijdfmpjaaGreatDoorW.PrintWords Go.Proofs.YtphddbijdfmpjaaGreatDoorW.PrintLast Go.Proofs.YtphddbijdfmpjaaGreatDoor.Wr
set_option linter.unusedVariables false
set_option linter.unusedSimpArgs false
def gone (q n : ByteArray) (all : Bool) (b : Bnd) : Bool := decide (b.path = q) && (all || decide (b.name = n))
def keptL (q n : ByteArray) (all : Bool) (L : List Bnd) : List Bnd := L.filter fun b => !gone q n all b
theorem keptL_len (q n : ByteArray) (all : Bool) (L : List Bnd) : (keptL q n all L).length ≤ L.length := List.length_filter_le _ _
theorem keptL_take (q n : ByteArray) (all : Bool) (L : List Bnd) (i : Nat) (h : i < L.length) : keptL q n all (L.take (i + 1)) = keptL q n all (L.take i) ++ (if gone q n all L[i] = true then [] else [L[i]]) := by
  unfold keptL
  rw [filt_take1 L _ i h]
  cases gone q n all L[i] <;> simp
set_option maxRecDepth 100000 in
set_option maxHeartbeats 16000000 in
theorem without_ok (w : World) (r base : Nat) (v : Value) (L : List Bnd) (q n : ByteArray) (all : Bool) (hT : RT w r base v L) (hbw : base ≤ w.heap.size) (hL : L.length ≤ 1048576) :
    Calls Tryz.prog 36 #[.pointer (some ⟨r, 0, none⟩), .string q, .string n, .bool all] w fun e w' => e = .returned (.int .i64 ((L.length - (keptL q n all L).length : Nat) : Int)) ∧ ∃ v', RT w' r base v' (keptL q n all L) ∧ RStep w w' r v v' := by
  have hu40 := Tryz.underlying40
  have hu28 := Tryz.underlying28
  obtain ⟨A, c, rfl⟩ := Kd.R_slice hT.row
  have HT := Lib.hid hT
  have HLL := Lib.hid hL
  have HBW := Lib.hid hbw
  have CELLR := Lib.hid (show ∀ w', Below w.heap.size w w' → w'.cell? ⟨r, 0, none⟩ = some (.slice A L.length c) from fun w' hb => (blk_cell (blk_below hT.blk hb) 0).trans rfl)
  have CR := Lib.hid (Kd.R_reads' hT.row).2.2
  have HKL := Lib.hid (keptL_len q n all L)
  obtain ⟨ks, hks⟩ : ∃ ks, ks = keptL q n all L := ⟨_, rfl⟩
  rw [← hks] at HKL ⊢
  have HKS := Lib.hid hks
  obtain ⟨dd, hdd⟩ : ∃ dd, dd = L.length - ks.length := ⟨_, rfl⟩
  rw [← hdd]
  have HDD := Lib.hid hdd
  clear hT hL hbw hks hdd
  go_enter Tryz.func36, Tryz.ntmps36
  go_upto_region 3 with fail
  go_loopg [9, 10] L.length (fun g v9 v10 wr => ∃ (i : Nat), v10 = .int .i64 (i : Int) ∧ Aside0 (i + g = L.length) ∧ Aside0 (Kd.R k27 28 wr w.heap.size (fun _ => True) v9 (keptL q n all (L.take i))) ∧ Aside0 (Below w.heap.size w wr))
  case atStart => exact ⟨0, rfl, ⟨by omega⟩, ⟨Kd.R_nil _ _ _ _ _⟩, ⟨Below.refl _ _⟩⟩
  case round =>
    obtain ⟨i, rfl, HI, HR, HB⟩ := hrel
    have hrc := CELLR.out _ HB.out
    by_cases hi : i < L.length
    rotate_left
    · have q1 : decide ((i : Int) < (L.length : Int)) = false := decide_eq_false (by omega)
      have q1n : decide (i < L.length) = false := decide_eq_false hi
      rw [List.take_of_length_le (show L.length ≤ i by omega)] at HR
      clear hi
      rw [← HKS.out] at HR
      obtain ⟨A8, c8, rfl⟩ := Kd.R_slice HR.out
      have hf0 := blk_frozen (blk_below HT.out.blk HB.out) 0
      have hsub : wrap64 ((L.length : Int) - (ks.length : Int)) = (dd : Int) := by unfold wrap64; have := HKL.out; have := HLL.out; have := HDD.out; omega
      go_wp2
      go_ret
      refine ⟨by rw [← hsub] <;> rfl, .slice A8 ks.length c8, ?_, RStep.set0 HB.out _ (fun k hk => Kd.R_base HR.out k hk)⟩
      have hrow : Kd.R k27 28 wr base (fun k => k ≠ r) (.slice A8 ks.length c8) ks := Kd.R_lower (Kd.R_mono (Kd.R_bound HR.out) (fun k hk => by have := hk.2.1; have := blk_lt HT.out.blk; omega)) HBW.out
      exact ⟨blk_put (blk_below HT.out.blk HB.out) 0 _ rfl, Kd.R_far hrow (fun k hk => hk) _⟩
    have q1 : decide ((i : Int) < (L.length : Int)) = true := decide_eq_true (by omega)
    have q1n : decide (i < L.length) = true := decide_eq_true hi
    have p1 : (0 ≤ (i : Int)) = True := eq_true (by omega)
    have p2 : ((i : Int) < (L.length : Int)) = True := eq_true (by omega)
    obtain ⟨ad, hA, hx0, hx⟩ := bnd_at (Kd.C_below CR.out HB.out) i hi
    cases hA
    obtain ⟨g0, rfl⟩ : ∃ g0, gk = g0 + 1 := ⟨gk - 1, by have := HI.out; omega⟩
    have HLT := Lib.hid (show i < 1048576 by have := HLL.out; omega)
    have HF := Lib.hid (keptL_take q n all L i hi)
    have HLX := Lib.hid (show (keptL q n all (L.take i)).length ≤ i by have := keptL_len q n all (L.take i); rw [List.length_take] at this; omega)
    generalize L[i] = x at hx0 hx HF
    clear hi
    obtain ⟨xp, xn, xs, xv⟩ := x
    have hx1 := hx 1 (.string xn) (by decide) rfl
    have hx2 := hx 2 (.string xs) (by decide) rfl
    have hx3 := hx 3 (.int .i64 xv) (by decide) rfl
    clear hx
    generalize keptL q n all (L.take i) = ys at HR HF HLX
    by_cases hq : xp = q
    · have e1 : (xp.toList == q.toList) = true := by rw [toList_beq, ba_beq]; exact hq
      cases all with
      | true =>
        have HN := Lib.hid (show keptL q n true (L.take (i + 1)) = ys by rw [HF.out, if_pos (by unfold gone; rw [decide_eq_true hq]; rfl), List.append_nil])
        clear hq
        go_wp2
        go_roundg g0
        case measure => omega
        case rel => exact ⟨i + 1, congrArg (Value.int .i64) (by rw [w64 i (by have := HLT.out; omega)]), ⟨by have := HI.out; omega⟩, ⟨by rw [HN.out]; exact HR.out⟩, HB⟩
      | false =>
        by_cases hn : xn = n
        · have e2 : (xn.toList == n.toList) = true := by rw [toList_beq, ba_beq]; exact hn
          have HN := Lib.hid (show keptL q n false (L.take (i + 1)) = ys by rw [HF.out, if_pos (by unfold gone; rw [decide_eq_true hq, decide_eq_true hn]; rfl), List.append_nil])
          clear hq hn
          go_wp2
          go_roundg g0
          case measure => omega
          case rel => exact ⟨i + 1, congrArg (Value.int .i64) (by rw [w64 i (by have := HLT.out; omega)]), ⟨by have := HI.out; omega⟩, ⟨by rw [HN.out]; exact HR.out⟩, HB⟩
        · have e2 : (xn.toList == n.toList) = false := by rw [toList_beq, Bool.eq_false_iff, Ne, ba_beq]; exact hn
          have HN := Lib.hid (show keptL q n false (L.take (i + 1)) = ys ++ [⟨xp, xn, xs, xv⟩] by rw [HF.out, if_neg (by unfold gone; rw [decide_eq_false hn]; simp)])
          clear hq hn
          go_wp2_with ((with_reducible refine gate_builtin (b := .append) (xs := #[.tmp 46, .tmp 54]) rfl ?_); at_builtin; refine parkR_ ?_)
          refine Aside0.mk ?_
          refine Kd.R_append k27 (w0 := w) w.heap.size rfl (.tmp 46) (.tmp 54) 33 28 (.agg #[.string ⟨#[]⟩, .string ⟨#[]⟩, .string ⟨#[]⟩, .int .i64 0]) 56 rfl Tryz.underlying33 info27 rfl (by decide) (by omega) u9 ys ⟨xp, xn, xs, xv⟩ [.string xp, .string xn, .string xs, .int .i64 xv] (fun _ => True) (fun _ => False) rfl rfl ?aP (fun _ hk => hk.elim) ?aF ?aO ?aB ?aS ?aL ?_
          (case aP => exact k27_mkM _ _ _ ⟨xp, xn, xs, xv⟩)
          (case aB => exact HB.out)
          (case aF => exact (fun _ _ => trivial))
          (case aO => exact HR.out)
          (case aS => exact HB.out.size)
          (case aL => have := HLX.out; have := HLT.out; omega)
          intro v2 w6 ho hb2 hg2 hat2
          have RN := Aside0.mk ho
          have BN := Aside0.mk hb2
          clear ho hb2 hg2 hat2
          go_wp2
          go_roundg g0
          case measure => omega
          case rel => exact ⟨i + 1, congrArg (Value.int .i64) (by rw [w64 i (by have := HLT.out; omega)]), ⟨by have := HI.out; omega⟩, ⟨by rw [HN.out]; exact RN.out⟩, BN⟩
    · have e1 : (xp.toList == q.toList) = false := by rw [toList_beq, Bool.eq_false_iff, Ne, ba_beq]; exact hq
      have HN := Lib.hid (show keptL q n all (L.take (i + 1)) = ys ++ [⟨xp, xn, xs, xv⟩] by rw [HF.out, if_neg (by unfold gone; rw [decide_eq_false hq]; simp)])
      clear hq
      go_wp2_with ((with_reducible refine gate_builtin (b := .append) (xs := #[.tmp 46, .tmp 54]) rfl ?_); at_builtin; refine parkR_ ?_)
      refine Aside0.mk ?_
      refine Kd.R_append k27 (w0 := w) w.heap.size rfl (.tmp 46) (.tmp 54) 33 28 (.agg #[.string ⟨#[]⟩, .string ⟨#[]⟩, .string ⟨#[]⟩, .int .i64 0]) 56 rfl Tryz.underlying33 info27 rfl (by decide) (by omega) u9 ys ⟨xp, xn, xs, xv⟩ [.string xp, .string xn, .string xs, .int .i64 xv] (fun _ => True) (fun _ => False) rfl rfl ?aP (fun _ hk => hk.elim) ?aF ?aO ?aB ?aS ?aL ?_
      (case aP => exact k27_mkM _ _ _ ⟨xp, xn, xs, xv⟩)
      (case aB => exact HB.out)
      (case aF => exact (fun _ _ => trivial))
      (case aO => exact HR.out)
      (case aS => exact HB.out.size)
      (case aL => have := HLX.out; have := HLT.out; omega)
      intro v2 w6 ho hb2 hg2 hat2
      have RN := Aside0.mk ho
      have BN := Aside0.mk hb2
      clear ho hb2 hg2 hat2
      go_wp2
      go_roundg g0
      case measure => omega
      case rel => exact ⟨i + 1, congrArg (Value.int .i64) (by rw [w64 i (by have := HLT.out; omega)]), ⟨by have := HI.out; omega⟩, ⟨by rw [HN.out]; exact RN.out⟩, BN⟩
theorem rpath_ok (s : ByteArray) (w : World) (hs : s.size ≤ 1048576) : Calls Tryz.prog 35 #[.string s] w fun e w' => e = .returned (.int .i64 (pathS s)) ∧ Below w.heap.size w w' := by
  obtain ⟨k, hk⟩ := refPath_ev s hs
  exact bursarref04_Path.calls k _ _ w (hk k (Nat.le_refl _))
def rDropE (L : List Bnd) (q n : ByteArray) : Int := if pathS q ≠ 0 then 41 else if (keptL q n false L).length = L.length then 191 else 0
set_option maxRecDepth 100000 in
set_option maxHeartbeats 16000000 in
theorem rdrop_ok (w : World) (r base : Nat) (v : Value) (L : List Bnd) (q n : ByteArray) (hT : RT w r base v L) (hbw : base ≤ w.heap.size) (hL : L.length ≤ 1048576) (hq : q.size ≤ 1048576) :
    Calls Tryz.prog 13 #[.pointer (some ⟨r, 0, none⟩), .string q, .string n] w fun e w' => e = .returned (.int .i64 (rDropE L q n)) ∧ ∃ v', RT w' r base v' (if pathS q ≠ 0 then L else keptL q n false L) ∧ RStep w w' r v v' := by
  have PK := Lib.hid (rpath_ok q w hq)
  have HT := Lib.hid hT
  have HBW := Lib.hid hbw
  have HLL := Lib.hid hL
  have HKL := Lib.hid (keptL_len q n false L)
  clear hT hbw hL hq
  unfold rDropE
  rcases line_cases q with ⟨h0, _⟩ | ⟨h0, _⟩
  · rw [h0] at PK ⊢
    rw [if_neg (show ¬ ((0 : Int) ≠ 0) by decide), if_neg (show ¬ ((0 : Int) ≠ 0) by decide)]
    clear h0
    by_cases hk : (keptL q n false L).length = L.length
    · rw [if_pos hk]
      have HZ := Lib.hid (show ((L.length - (keptL q n false L).length : Nat) : Int) = 0 by rw [hk]; simp)
      clear hk
      go_enter Tryz.func13, Tryz.ntmps13
      go_upto_region 4 with (go_at_call 35; refine PK.out.mono ?_; rintro e w2 ⟨rfl, hb⟩; have B2 := Aside0.mk hb; have T2 := Aside0.mk (HT.out.below hb); clear hb)
      have WK := Lib.hid (without_ok w2 r base v L q n false T2.out (Nat.le_trans HBW.out B2.out.size) HLL.out)
      rw [HZ.out] at WK
      go_wp2_with (go_at_call 36; refine WK.out.mono ?_; rintro e w3 ⟨rfl, v3, hT3, hS3⟩; have T3 := Aside0.mk hT3; have S3 := Aside0.mk hS3; clear hT3 hS3)
      go_ret
      exact ⟨rfl, v3, T3.out, RStep.ahead B2.out S3.out⟩
    · rw [if_neg hk]
      obtain ⟨z, hz⟩ : ∃ z, z = L.length - (keptL q n false L).length := ⟨_, rfl⟩
      have hz1 : ((z : Int) == 0) = false := beq_eq_false_iff_ne.2 (by have := HKL.out; omega)
      have hz2 : (z == 0) = false := beq_eq_false_iff_ne.2 (by have := HKL.out; omega)
      have hz3 : decide ((z : Int) = 0) = false := decide_eq_false (by have := HKL.out; omega)
      have HZ := Lib.hid hz
      clear hk hz
      go_enter Tryz.func13, Tryz.ntmps13
      go_upto_region 4 with (go_at_call 35; refine PK.out.mono ?_; rintro e w2 ⟨rfl, hb⟩; have B2 := Aside0.mk hb; have T2 := Aside0.mk (HT.out.below hb); clear hb)
      have WK := Lib.hid (without_ok w2 r base v L q n false T2.out (Nat.le_trans HBW.out B2.out.size) HLL.out)
      rw [← HZ.out] at WK
      go_wp2_with (go_at_call 36; refine WK.out.mono ?_; rintro e w3 ⟨rfl, v3, hT3, hS3⟩; have T3 := Aside0.mk hT3; have S3 := Aside0.mk hS3; clear hT3 hS3)
      go_ret
      exact ⟨rfl, v3, T3.out, RStep.ahead B2.out S3.out⟩
  · rw [h0] at PK ⊢
    rw [if_pos (show (41 : Int) ≠ 0 by decide), if_pos (show (41 : Int) ≠ 0 by decide)]
    clear h0
    go_enter Tryz.func13, Tryz.ntmps13
    go_wp2_with (go_at_call 35; refine PK.out.mono ?_; rintro e w2 ⟨rfl, hb⟩; have B2 := Aside0.mk hb; clear hb)
    go_ret
    exact ⟨rfl, v, HT.out.below B2.out, RStep.still B2.out⟩
set_option maxRecDepth 100000 in
set_option maxHeartbeats 16000000 in
theorem rleave_ok (w : World) (r base : Nat) (v : Value) (L : List Bnd) (q : ByteArray) (hT : RT w r base v L) (hbw : base ≤ w.heap.size) (hL : L.length ≤ 1048576) :
    Calls Tryz.prog 15 #[.pointer (some ⟨r, 0, none⟩), .string q] w fun e w' => e = .returned (.int .i64 ((L.length - (keptL q ⟨#[]⟩ true L).length : Nat) : Int)) ∧ ∃ v', RT w' r base v' (keptL q ⟨#[]⟩ true L) ∧ RStep w w' r v v' := by
  have WK := Lib.hid (without_ok w r base v L q ⟨#[]⟩ true hT hbw hL)
  clear hT hbw hL
  obtain ⟨z, hz⟩ : ∃ z, z = L.length - (keptL q ⟨#[]⟩ true L).length := ⟨_, rfl⟩
  rw [← hz] at WK ⊢
  clear hz
  go_enter Tryz.func15, Tryz.ntmps15
  go_wp2_with (go_at_call 36; refine WK.out.mono ?_; rintro e w3 ⟨rfl, v3, hT3, hS3⟩; have T3 := Aside0.mk hT3; have S3 := Aside0.mk hS3; clear hT3 hS3)
  go_ret
  exact ⟨rfl, v3, T3.out, S3.out⟩
end Go.Proofs.YtphddbijdfmpjaaGreatDoor.Q
namespace Go.Proofs.YtphddbijdfmpjaaGreatDoor.Q
open Go.RowKit Go.Proofs.YtphddbijdfmpjaaGreatDoorW.PrintWords Go.Proofs.YtphddbijdfmpjaaGreatDoorW.PrintLast Go.Proofs.YtphddbijdfmpjaaGreatDoorW.PrintMore
attribute [local go_sem] max2_int min2_int max_two min_two max_three min_three max_four min_four   -- for this text's walks alone
set_option linter.unusedVariables false
set_option linter.unusedSimpArgs false
def bursarref21_gives.f (k : Nat) (a0_0 : ByteArray) (a0_1 : ByteArray) (a0_2 : ByteArray) (a0_3 : Int) (a1 : ByteArray) (a2 : Int) (a3 : ByteArray) : Option (Bool) := if a0_2.toList = a1.toList then (if a2 ≥ 0 then (if a2 ≤ a0_3 then ((bursarref04_Under.f k a3 a0_0).bind fun t199 => (some t199)) else (some false)) else (some false)) else (some false)
theorem bursarref21_gives.mono : ∀ a0 a1 a2 a3 a4 a5 a6 k, LeO (bursarref21_gives.f k a0 a1 a2 a3 a4 a5 a6) (bursarref21_gives.f (k + 1) a0 a1 a2 a3 a4 a5 a6) := by
  intro a0 a1 a2 a3 a4 a5 a6 k
  unfold bursarref21_gives.f
  repeat' first
      | (with_reducible exact bursarref04_Under.mono _ _ _)
      | (with_reducible exact LeO.refl _)
      | (with_reducible exact LeO.none _)
      | (with_reducible refine LeO.ite ?_ ?_)
      | (with_reducible refine LeO.bind ?_ (fun _ => ?_))
      | exact bursarref04_Under.mono _ _ _
      | exact LeO.none _
      | refine LeO.ite ?_ ?_
      | refine LeO.bind ?_ (fun _ => ?_)
set_option maxHeartbeats 8000000 in
set_option maxRecDepth 100000 in
theorem bursarref21_gives.calls (k : Nat) (a0_0 : ByteArray) (a0_1 : ByteArray) (a0_2 : ByteArray) (a0_3 : Int) (a1 : ByteArray) (a2 : Int) (a3 : ByteArray) (r : Bool) (w : World) (h : bursarref21_gives.f k a0_0 a0_1 a0_2 a0_3 a1 a2 a3 = some r) :
    Calls Tryz.prog 39 #[.agg #[.string a0_0, .string a0_1, .string a0_2, .int .i64 a0_3], .string a1, .int .i64 a2, .string a3] w fun e w' => e = .returned (.bool r) ∧ Below w.heap.size w w' := by
  have hu28 := Tryz.underlying28
  have HB := Aside0.mk (Below.refl w.heap.size w)
  have H : (if a0_2.toList = a1.toList then (if a2 ≥ 0 then (if a2 ≤ a0_3 then ((bursarref04_Under.f k a3 a0_0).bind fun t199 => (some t199)) else (some false)) else (some false)) else (some false)) = some r := h
  clear h
  by_cases c5 : a0_2.toList = a1.toList
  · rw [if_pos c5] at H
    have c5b0 : (a0_2.toList == a1.toList) = true := beq_iff_eq.mpr c5
    have c5b1 : (a0_2.toList != a1.toList) = false := bne_eq_false_iff_eq.mpr c5
    clear c5
    by_cases c6 : a2 ≥ 0
    · rw [if_pos c6] at H
      have c6b0 : decide (0 ≤ a2) = true := decide_eq_true c6
      clear c6
      by_cases c7 : a2 ≤ a0_3
      · rw [if_pos c7] at H
        have c7b0 : decide (a2 ≤ a0_3) = true := decide_eq_true c7
        clear c7
        replace H := Option.bind_eq_some_iff.mp H
        obtain ⟨t199, A80, H⟩ := H
        replace H : (some t199) = some r := H
        have A8 := Aside0.mk A80
        clear A80
        obtain rfl := Option.some.inj H
        go_enter Tryz.func39, Tryz.ntmps39
        go_wp2_with (first | ((with_reducible refine gate_dst (N := 4) rfl ?_); refine box_event ?hg (N := 4) ?hd (cs := #[.string a0_0, .string a0_1, .string a0_2, .int .i64 a0_3]) (t := 28) ?hr ?_; (case hd => rfl); (case hg => rfl); (case hr => first | (go_simp; done) | (go_simp; rfl)); intro gb198 hg w9 hbox hb; have n0_ := Aside0.mk (below_step (by repeat (first | (with_reducible first | exact HB.out | apply below_alloc | apply pw_below_drewN | apply below_drew1) | exact HB.out)) hb); have n1_ := Aside0.mk (hbox); have n2_ := Aside0.mk ((by rw [hg]; exact (below_size (by repeat (first | (with_reducible first | exact HB.out | apply below_alloc | apply pw_below_drewN | apply below_drew1) | exact HB.out))) : w.heap.size ≤ gb198)); have n3_ := Aside0.mk ((by rw [hg]; exact (below_size (by repeat (first | (with_reducible first | exact HB.out | apply below_alloc | apply pw_below_drewN | apply below_drew1) | exact HB.out))) : w.heap.size ≤ gb198)); clear HB; have HB := n0_; have BK198 := n1_; have GW198 := n2_; have GE198 := n3_; clear n0_ n1_ n2_ n3_; clear hb hbox hg; have hcz10_0 : w9.cell? ⟨gb198, 0, none⟩ = some (.string a0_0) := (blk_cell BK198.out 0).trans rfl; have hcz10_1 : w9.cell? ⟨gb198, 1, none⟩ = some (.string a0_1) := (blk_cell BK198.out 1).trans rfl; have hcz10_2 : w9.cell? ⟨gb198, 2, none⟩ = some (.string a0_2) := (blk_cell BK198.out 2).trans rfl; have hcz10_3 : w9.cell? ⟨gb198, 3, none⟩ = some (.int .i64 a0_3) := (blk_cell BK198.out 3).trans rfl; have hfz10_0 := blk_frozen BK198.out 0; have hfz10_1 := blk_frozen BK198.out 1; have hfz10_2 := blk_frozen BK198.out 2; have hfz10_3 := blk_frozen BK198.out 3) | (go_at_call 44; (with_reducible refine (bursarref04_Under.calls k a3 a0_0 t199 _ A8.out).mono ?_); rintro e w11 ⟨rfl, hb⟩; have n0_ := Aside0.mk (blk_below (g := gb198) (o := .cells #[.string a0_0, .string a0_1, .string a0_2, .int .i64 a0_3] 28 (0, 0)) (by (with_reducible repeat (first | refine blk_drewN ?_ _ | refine blk_drew ?_ | refine blk_alloc ?_ _)); exact BK198.out) hb); have n1_ := Aside0.mk (below_step (by repeat (first | (with_reducible first | exact HB.out | apply below_alloc | apply pw_below_drewN | apply below_drew1 | refine below_set ?_ GE198.out) | exact HB.out)) hb); clear BK198; clear HB; have BK198 := n0_; have HB := n1_; clear n0_ n1_; (try clear hb); (try clear hb2); (try clear hk); (try clear hi)))
        go_ret
        exact ⟨by first | rfl | (simp [errW_none, errW_some] <;> rfl) | (simp [*, errW_none, errW_some] <;> rfl), by repeat (first | (with_reducible first | exact HB.out | apply below_alloc | apply pw_below_drewN | apply below_drew1 | refine below_set ?_ GE198.out) | exact HB.out)⟩
      · rw [if_neg c7] at H
        have c7b0 : decide (a2 ≤ a0_3) = false := decide_eq_false c7
        clear c7
        obtain rfl := Option.some.inj H
        go_enter Tryz.func39, Tryz.ntmps39
        go_wp2_with (first | ((with_reducible refine gate_dst (N := 4) rfl ?_); refine box_event ?hg (N := 4) ?hd (cs := #[.string a0_0, .string a0_1, .string a0_2, .int .i64 a0_3]) (t := 28) ?hr ?_; (case hd => rfl); (case hg => rfl); (case hr => first | (go_simp; done) | (go_simp; rfl)); intro gb198 hg w12 hbox hb; have n0_ := Aside0.mk (below_step (by repeat (first | (with_reducible first | exact HB.out | apply below_alloc | apply pw_below_drewN | apply below_drew1) | exact HB.out)) hb); have n1_ := Aside0.mk (hbox); have n2_ := Aside0.mk ((by rw [hg]; exact (below_size (by repeat (first | (with_reducible first | exact HB.out | apply below_alloc | apply pw_below_drewN | apply below_drew1) | exact HB.out))) : w.heap.size ≤ gb198)); have n3_ := Aside0.mk ((by rw [hg]; exact (below_size (by repeat (first | (with_reducible first | exact HB.out | apply below_alloc | apply pw_below_drewN | apply below_drew1) | exact HB.out))) : w.heap.size ≤ gb198)); clear HB; have HB := n0_; have BK198 := n1_; have GW198 := n2_; have GE198 := n3_; clear n0_ n1_ n2_ n3_; clear hb hbox hg; have hcz13_0 : w12.cell? ⟨gb198, 0, none⟩ = some (.string a0_0) := (blk_cell BK198.out 0).trans rfl; have hcz13_1 : w12.cell? ⟨gb198, 1, none⟩ = some (.string a0_1) := (blk_cell BK198.out 1).trans rfl; have hcz13_2 : w12.cell? ⟨gb198, 2, none⟩ = some (.string a0_2) := (blk_cell BK198.out 2).trans rfl; have hcz13_3 : w12.cell? ⟨gb198, 3, none⟩ = some (.int .i64 a0_3) := (blk_cell BK198.out 3).trans rfl; have hfz13_0 := blk_frozen BK198.out 0; have hfz13_1 := blk_frozen BK198.out 1; have hfz13_2 := blk_frozen BK198.out 2; have hfz13_3 := blk_frozen BK198.out 3))
        go_ret
        exact ⟨by first | rfl | (simp [errW_none, errW_some] <;> rfl) | (simp [*, errW_none, errW_some] <;> rfl), by repeat (first | (with_reducible first | exact HB.out | apply below_alloc | apply pw_below_drewN | apply below_drew1 | refine below_set ?_ GE198.out) | exact HB.out)⟩
    · rw [if_neg c6] at H
      have c6b0 : decide (0 ≤ a2) = false := decide_eq_false c6
      clear c6
      obtain rfl := Option.some.inj H
      go_enter Tryz.func39, Tryz.ntmps39
      go_wp2_with (first | ((with_reducible refine gate_dst (N := 4) rfl ?_); refine box_event ?hg (N := 4) ?hd (cs := #[.string a0_0, .string a0_1, .string a0_2, .int .i64 a0_3]) (t := 28) ?hr ?_; (case hd => rfl); (case hg => rfl); (case hr => first | (go_simp; done) | (go_simp; rfl)); intro gb198 hg w14 hbox hb; have n0_ := Aside0.mk (below_step (by repeat (first | (with_reducible first | exact HB.out | apply below_alloc | apply pw_below_drewN | apply below_drew1) | exact HB.out)) hb); have n1_ := Aside0.mk (hbox); have n2_ := Aside0.mk ((by rw [hg]; exact (below_size (by repeat (first | (with_reducible first | exact HB.out | apply below_alloc | apply pw_below_drewN | apply below_drew1) | exact HB.out))) : w.heap.size ≤ gb198)); have n3_ := Aside0.mk ((by rw [hg]; exact (below_size (by repeat (first | (with_reducible first | exact HB.out | apply below_alloc | apply pw_below_drewN | apply below_drew1) | exact HB.out))) : w.heap.size ≤ gb198)); clear HB; have HB := n0_; have BK198 := n1_; have GW198 := n2_; have GE198 := n3_; clear n0_ n1_ n2_ n3_; clear hb hbox hg; have hcz15_0 : w14.cell? ⟨gb198, 0, none⟩ = some (.string a0_0) := (blk_cell BK198.out 0).trans rfl; have hcz15_1 : w14.cell? ⟨gb198, 1, none⟩ = some (.string a0_1) := (blk_cell BK198.out 1).trans rfl; have hcz15_2 : w14.cell? ⟨gb198, 2, none⟩ = some (.string a0_2) := (blk_cell BK198.out 2).trans rfl; have hcz15_3 : w14.cell? ⟨gb198, 3, none⟩ = some (.int .i64 a0_3) := (blk_cell BK198.out 3).trans rfl; have hfz15_0 := blk_frozen BK198.out 0; have hfz15_1 := blk_frozen BK198.out 1; have hfz15_2 := blk_frozen BK198.out 2; have hfz15_3 := blk_frozen BK198.out 3))
      go_ret
      exact ⟨by first | rfl | (simp [errW_none, errW_some] <;> rfl) | (simp [*, errW_none, errW_some] <;> rfl), by repeat (first | (with_reducible first | exact HB.out | apply below_alloc | apply pw_below_drewN | apply below_drew1 | refine below_set ?_ GE198.out) | exact HB.out)⟩
  · rw [if_neg c5] at H
    have c5b0 : (a0_2.toList == a1.toList) = false := beq_eq_false_iff_ne.mpr c5
    have c5b1 : (a0_2.toList != a1.toList) = true := bne_iff_ne.mpr c5
    obtain rfl := Option.some.inj H
    go_enter Tryz.func39, Tryz.ntmps39
    go_wp2_with (first | ((with_reducible refine gate_dst (N := 4) rfl ?_); refine box_event ?hg (N := 4) ?hd (cs := #[.string a0_0, .string a0_1, .string a0_2, .int .i64 a0_3]) (t := 28) ?hr ?_; (case hd => rfl); (case hg => rfl); (case hr => first | (go_simp; done) | (go_simp; rfl)); intro gb198 hg w16 hbox hb; have n0_ := Aside0.mk (below_step (by repeat (first | (with_reducible first | exact HB.out | apply below_alloc | apply pw_below_drewN | apply below_drew1) | exact HB.out)) hb); have n1_ := Aside0.mk (hbox); have n2_ := Aside0.mk ((by rw [hg]; exact (below_size (by repeat (first | (with_reducible first | exact HB.out | apply below_alloc | apply pw_below_drewN | apply below_drew1) | exact HB.out))) : w.heap.size ≤ gb198)); have n3_ := Aside0.mk ((by rw [hg]; exact (below_size (by repeat (first | (with_reducible first | exact HB.out | apply below_alloc | apply pw_below_drewN | apply below_drew1) | exact HB.out))) : w.heap.size ≤ gb198)); clear HB; have HB := n0_; have BK198 := n1_; have GW198 := n2_; have GE198 := n3_; clear n0_ n1_ n2_ n3_; clear hb hbox hg; have hcz17_0 : w16.cell? ⟨gb198, 0, none⟩ = some (.string a0_0) := (blk_cell BK198.out 0).trans rfl; have hcz17_1 : w16.cell? ⟨gb198, 1, none⟩ = some (.string a0_1) := (blk_cell BK198.out 1).trans rfl; have hcz17_2 : w16.cell? ⟨gb198, 2, none⟩ = some (.string a0_2) := (blk_cell BK198.out 2).trans rfl; have hcz17_3 : w16.cell? ⟨gb198, 3, none⟩ = some (.int .i64 a0_3) := (blk_cell BK198.out 3).trans rfl; have hfz17_0 := blk_frozen BK198.out 0; have hfz17_1 := blk_frozen BK198.out 1; have hfz17_2 := blk_frozen BK198.out 2; have hfz17_3 := blk_frozen BK198.out 3))
    go_ret
    exact ⟨by first | rfl | (simp [errW_none, errW_some] <;> rfl) | (simp [*, errW_none, errW_some] <;> rfl), by repeat (first | (with_reducible first | exact HB.out | apply below_alloc | apply pw_below_drewN | apply below_drew1 | refine below_set ?_ GE198.out) | exact HB.out)⟩
end Go.Proofs.YtphddbijdfmpjaaGreatDoor.Q
namespace Go.Proofs.YtphddbijdfmpjaaGreatDoor.Q
open Go.RowKit Go.MapRaw Go.Proofs.YtphddbijdfmpjaaGreatDoorW.PrintWords Go.Proofs.YtphddbijdfmpjaaGreatDoorW.PrintLast Go.Proofs.YtphddbijdfmpjaaGreatDoor.Wr
set_option linter.unusedVariables false
set_option linter.unusedSimpArgs false
theorem rgives_ok (b : Bnd) (s : ByteArray) (v : Int) (p : ByteArray) (w : World) (hp : p.size ≤ 1048576) :
    Calls Tryz.prog 39 #[.agg #[.string b.path, .string b.name, .string b.subject, .int .i64 b.verb], .string s, .int .i64 v, .string p] w fun e w' => e = .returned (.bool (givesB b s v p)) ∧ Below w.heap.size w w' := by
  obtain ⟨k, hk⟩ := refUnder_ev p b.path hp
  have hk : bursarref04_Under.f k p b.path = some (underS p b.path) := hk k (Nat.le_refl _)
  refine bursarref21_gives.calls k b.path b.name b.subject b.verb s v p _ w ?_
  unfold bursarref21_gives.f givesB
  by_cases h1 : b.subject = s
  · rw [if_pos (by rw [h1]), decide_eq_true h1]
    by_cases h2 : v ≥ 0
    · rw [if_pos h2, decide_eq_true (show 0 ≤ v from h2)]
      by_cases h3 : v ≤ b.verb
      · rw [if_pos h3, decide_eq_true h3]
        show (bursarref04_Under.f k p b.path).bind _ = _
        rw [hk]; rfl
      · rw [if_neg h3, decide_eq_false h3]; rfl
    · rw [if_neg h2, decide_eq_false (show ¬ 0 ≤ v from h2)]; rfl
  · rw [if_neg (fun e => h1 ((ba_iff _ _).1 e)), decide_eq_false h1]; rfl
def ob : Option Nat → Int
  | none => -1
  | some j => (j : Int)
def BestI (L : List Bnd) (f : Bnd → Bool) (i : Nat) : Option Nat → Prop
  | none => ∀ k (h : k < L.length), k < i → f L[k] = false
  | some j => ∃ hj : j < L.length, j < i ∧ f L[j] = true ∧ ∀ k (h : k < L.length), k < i → f L[k] = true → L[k].path.size ≤ L[j].path.size ∧ (k < j → L[k].path.size < L[j].path.size)
theorem BestI.skip {L : List Bnd} {f : Bnd → Bool} {i : Nat} {o : Option Nat} (h : BestI L f i o) (hi : i < L.length) (hf : f L[i] = false) : BestI L f (i + 1) o := by
  cases o with
  | none =>
    intro k hk hki
    rcases Nat.lt_or_ge k i with h1 | h1
    · exact h k hk h1
    · obtain rfl : k = i := by omega
      exact hf
  | some j =>
    obtain ⟨hj, h1, h2, h3⟩ := h
    refine ⟨hj, by omega, h2, fun k hk hki hfk => ?_⟩
    rcases Nat.lt_or_ge k i with h4 | h4
    · exact h3 k hk h4 hfk
    · obtain rfl : k = i := by omega
      rw [hf] at hfk; cases hfk
theorem BestI.first {L : List Bnd} {f : Bnd → Bool} {i : Nat} (h : BestI L f i none) (hi : i < L.length) (hf : f L[i] = true) : BestI L f (i + 1) (some i) := by
  refine ⟨hi, by omega, hf, fun k hk hki hfk => ?_⟩
  rcases Nat.lt_or_ge k i with h4 | h4
  · have := h k hk h4
    rw [hfk] at this; cases this
  · obtain rfl : k = i := by omega
    exact ⟨Nat.le_refl _, fun h => absurd h (Nat.lt_irrefl _)⟩
theorem BestI.less {L : List Bnd} {f : Bnd → Bool} {i j : Nat} (h : BestI L f i (some j)) (hi : i < L.length) (hj : j < L.length) (hlt : ¬ L[j].path.size < L[i].path.size) : BestI L f (i + 1) (some j) := by
  obtain ⟨_, h1, h2, h3⟩ := h
  refine ⟨hj, by omega, h2, fun k hk hki hfk => ?_⟩
  rcases Nat.lt_or_ge k i with h4 | h4
  · exact h3 k hk h4 hfk
  · obtain rfl : k = i := by omega
    exact ⟨by omega, fun h => by omega⟩
theorem BestI.more {L : List Bnd} {f : Bnd → Bool} {i j : Nat} (h : BestI L f i (some j)) (hi : i < L.length) (hf : f L[i] = true) (hj : j < L.length) (hlt : L[j].path.size < L[i].path.size) : BestI L f (i + 1) (some i) := by
  obtain ⟨_, h1, h2, h3⟩ := h
  refine ⟨hi, by omega, hf, fun k hk hki hfk => ?_⟩
  rcases Nat.lt_or_ge k i with h4 | h4
  · have := (h3 k hk h4 hfk).1
    exact ⟨by omega, fun _ => by omega⟩
  · obtain rfl : k = i := by omega
    exact ⟨Nat.le_refl _, fun h => absurd h (Nat.lt_irrefl _)⟩
def whyL (L : List Bnd) : Option Nat → Bnd
  | none => zb
  | some j => L.getD j zb
set_option maxRecDepth 100000 in
set_option maxHeartbeats 16000000 in
theorem rwhy_ok (w : World) (r base : Nat) (v0 : Value) (L : List Bnd) (s : ByteArray) (v : Int) (p : ByteArray) (hT : RT w r base v0 L) (hL : L.length ≤ 1048576) (hp : p.size ≤ 1048576) (hps : ∀ x ∈ L, x.path.size ≤ 1048576) :
    Calls Tryz.prog 17 #[.pointer (some ⟨r, 0, none⟩), .string s, .int .i64 v, .string p] w fun e w' => (∃ o, BestI L (fun b => givesB b s v p) L.length o ∧ e = .returned (.tuple #[eV (whyL L o), .bool o.isSome])) ∧ Below w.heap.size w w' := by
  have hu40 := Tryz.underlying40
  have hu28 := Tryz.underlying28
  obtain ⟨A, c, rfl⟩ := Kd.R_slice hT.row
  have hal := (Below.refl w.heap.size w).alloc (Nat.le_refl _) (.cells #[.string ⟨#[]⟩, .string ⟨#[]⟩, .string ⟨#[]⟩, .int .i64 0] 28)
  have B1 := Aside0.mk hal
  have N1 := Aside0.mk (blk_new w (.cells #[.string ⟨#[]⟩, .string ⟨#[]⟩, .string ⟨#[]⟩, .int .i64 0] 28))
  have T1 := Aside0.mk (hT.below hal)
  have HLL := Lib.hid hL
  have HPS := Lib.hid hp
  have HXS := Lib.hid hps
  clear hT hL hp hal hps
  go_enter Tryz.func17, Tryz.ntmps17
  go_upto_region 3 with fail
  obtain ⟨gb, hgb⟩ : ∃ gb, gb = w.heap.size := ⟨_, rfl⟩
  have HGB := Lib.hid hgb
  rw [← hgb] at N1 ⊢
  clear hgb
  generalize w.alloc _ = w1 at B1 N1 T1 ⊢
  have CELLR := Lib.hid (show ∀ w', Below w1.heap.size w1 w' → w'.cell? ⟨r, 0, none⟩ = some (.slice A L.length c) from fun w' hb => (blk_cell (blk_below T1.out.blk hb) 0).trans rfl)
  have CR := Lib.hid (Kd.R_reads' T1.out.row).2.2
  clear T1
  go_loopg [10, 11] L.length (fun g v10 v11 wr => ∃ (i : Nat) (o : Option Nat), v11 = .int .i64 (i : Int) ∧ v10 = .int .i64 (ob o) ∧ Aside0 (i + g = L.length) ∧ Aside0 (BestI L (fun b => givesB b s v p) i o) ∧ Aside0 (Below w1.heap.size w1 wr))
  case atStart => exact ⟨0, none, rfl, rfl, ⟨by omega⟩, ⟨fun k h h0 => absurd h0 (Nat.not_lt_zero _)⟩, ⟨Below.refl _ _⟩⟩
  case round =>
    obtain ⟨i, o, rfl, rfl, HI, HO, HBq⟩ := hrel
    have hrc := CELLR.out _ HBq.out
    by_cases hi : i < L.length
    rotate_left
    · have q1 : decide ((i : Int) < (L.length : Int)) = false := decide_eq_false (by omega)
      have q1n : decide (i < L.length) = false := decide_eq_false hi
      have HIL := Lib.hid (show i = L.length by have := HI.out; omega)
      clear hi
      have NB := Lib.hid (blk_below N1.out HBq.out)
      have BB := Lib.hid (B1.out.trans (below_lower HBq.out B1.out.size))
      cases o with
      | none =>
        unfold ob
        have d0 : decide ((-1 : Int) < 0) = true := rfl
        have hc0 := (blk_cell NB.out 0).trans rfl
        have hc1 := (blk_cell NB.out 1).trans rfl
        have hc2 := (blk_cell NB.out 2).trans rfl
        have hc3 := (blk_cell NB.out 3).trans rfl
        have hf0 := blk_frozen NB.out 0
        have hf1 := blk_frozen NB.out 1
        have hf2 := blk_frozen NB.out 2
        have hf3 := blk_frozen NB.out 3
        go_wp2
        have Z4 := Lib.hid (blk_put4 (b0 := .string ⟨#[]⟩) (b1 := .string ⟨#[]⟩) (b2 := .string ⟨#[]⟩) (b3 := .int .i64 0) NB.out)
        have B4 := Lib.hid (below_put4 (b0 := .string ⟨#[]⟩) (b1 := .string ⟨#[]⟩) (b2 := .string ⟨#[]⟩) (b3 := .int .i64 0) BB.out (Nat.le_of_eq HGB.out.symm))
        clear hc0 hc1 hc2 hc3 hf0 hf1 hf2 hf3
        generalize World.setCell _ _ _ = w4 at Z4 B4 ⊢
        (try simp only [Exit.inBlock, Exit.then])
        refine bodyPost_ret (results_cell_row_tmp rfl _ _ gb 28 _ (0, 0) _ rfl Z4.out hu28 rfl (by kernel_rfl)) rfl ?_
        exact ⟨⟨none, by rw [← HIL.out]; exact HO.out, rfl⟩, B4.out⟩
      | some j =>
        unfold ob
        have d0 : decide ((j : Int) < 0) = false := decide_eq_false (by omega)
        have hj : j < L.length := by obtain ⟨hj, _⟩ := HO.out; exact hj
        have p1 : (0 ≤ (j : Int)) = True := eq_true (by omega)
        have p2 : ((j : Int) < (L.length : Int)) = True := eq_true (by omega)
        obtain ⟨ad, hA, hx0, hx⟩ := bnd_at (Kd.C_below CR.out HBq.out) j hj
        cases hA
        have HWL := Lib.hid (show whyL L (some j) = L[j] by unfold whyL; simp [List.getD_eq_getElem?_getD, hj])
        generalize L[j] = x at hx0 hx HWL
        clear hj
        obtain ⟨xp, xn, xs, xv⟩ := x
        have hx1 := hx 1 (.string xn) (by decide) rfl
        have hx2 := hx 2 (.string xs) (by decide) rfl
        have hx3 := hx 3 (.int .i64 xv) (by decide) rfl
        clear hx
        have hc0 := (blk_cell NB.out 0).trans rfl
        have hc1 := (blk_cell NB.out 1).trans rfl
        have hc2 := (blk_cell NB.out 2).trans rfl
        have hc3 := (blk_cell NB.out 3).trans rfl
        have hf0 := blk_frozen NB.out 0
        have hf1 := blk_frozen NB.out 1
        have hf2 := blk_frozen NB.out 2
        have hf3 := blk_frozen NB.out 3
        go_wp2
        have Z4 := Lib.hid (blk_put4 (b0 := .string xp) (b1 := .string xn) (b2 := .string xs) (b3 := .int .i64 xv) NB.out)
        have B4 := Lib.hid (below_put4 (b0 := .string xp) (b1 := .string xn) (b2 := .string xs) (b3 := .int .i64 xv) BB.out (Nat.le_of_eq HGB.out.symm))
        clear hc0 hc1 hc2 hc3 hf0 hf1 hf2 hf3
        generalize World.setCell _ _ _ = w4 at Z4 B4 ⊢
        (try simp only [Exit.inBlock, Exit.then])
        refine bodyPost_ret (results_cell_row_tmp rfl _ _ gb 28 _ (0, 0) _ rfl Z4.out hu28 rfl (by kernel_rfl)) rfl ?_
        refine ⟨⟨some j, by rw [← HIL.out]; exact HO.out, ?_⟩, B4.out⟩
        rw [HWL.out]
        rfl
    have q1 : decide ((i : Int) < (L.length : Int)) = true := decide_eq_true (by omega)
    have q1n : decide (i < L.length) = true := decide_eq_true hi
    have p1 : (0 ≤ (i : Int)) = True := eq_true (by omega)
    have p2 : ((i : Int) < (L.length : Int)) = True := eq_true (by omega)
    obtain ⟨ad, hA, hx0, hx⟩ := bnd_at (Kd.C_below CR.out HBq.out) i hi
    cases hA
    obtain ⟨g0, rfl⟩ : ∃ g0, gk = g0 + 1 := ⟨gk - 1, by have := HI.out; omega⟩
    have HLT := Lib.hid (show i < 1048576 by have := HLL.out; omega)
    have CPJ := Lib.hid (show ∀ w', Below w1.heap.size w1 w' → ∀ j (hj : j < L.length), w'.cell? (ad.add (j * 4)) = some (.string L[j].path) from fun w' hb j hj => by
      obtain ⟨ae, hA, h0, _⟩ := bnd_at (Kd.C_below CR.out hb) j hj
      cases hA
      exact h0)
    have CPI := Lib.hid (show ∀ w', Below w1.heap.size w1 w' → w'.cell? (ad.add (i * 4)) = some (.string L[i].path) from fun w' hb => CPJ.out w' hb i hi)
    have GV := Lib.hid (rgives_ok L[i] s v p wr HPS.out)
    have HSK := Lib.hid (show givesB L[i] s v p = false → ∀ o, BestI L (fun b => givesB b s v p) i o → BestI L (fun b => givesB b s v p) (i + 1) o from fun h o ho => ho.skip hi h)
    have HFI := Lib.hid (show givesB L[i] s v p = true → BestI L (fun b => givesB b s v p) i none → BestI L (fun b => givesB b s v p) (i + 1) (some i) from fun h ho => ho.first hi h)
    have HMO := Lib.hid (show givesB L[i] s v p = true → ∀ j (hj : j < L.length), BestI L (fun b => givesB b s v p) i (some j) → L[j].path.size < L[i].path.size → BestI L (fun b => givesB b s v p) (i + 1) (some i) from fun h j hj ho hlt => ho.more hi h hj hlt)
    have HLS := Lib.hid (show ∀ j (hj : j < L.length), BestI L (fun b => givesB b s v p) i (some j) → ¬ L[j].path.size < L[i].path.size → BestI L (fun b => givesB b s v p) (i + 1) (some j) from fun j hj ho hlt => ho.less hi hj hlt)
    generalize L[i] = x at hx0 hx GV CPI HSK HFI HMO HLS
    generalize givesB x s v p = z at GV HSK HFI HMO
    clear hi
    obtain ⟨xp, xn, xs, xv⟩ := x
    have hx1 := hx 1 (.string xn) (by decide) rfl
    have hx2 := hx 2 (.string xs) (by decide) rfl
    have hx3 := hx 3 (.int .i64 xv) (by decide) rfl
    clear hx
    cases z with
    | false =>
      have HN := Lib.hid (HSK.out rfl o HO.out)
      go_wp2_with (go_at_call 39; refine GV.out.mono ?_; rintro e wx ⟨rfl, hb⟩; have HBr := Aside0.mk (HBq.out.trans (below_lower hb HBq.out.size)); clear HBq hb; have HBq := HBr; clear HBr)
      go_roundg g0
      case measure => omega
      case rel => exact ⟨i + 1, o, congrArg (Value.int .i64) (by rw [w64 i (by have := HLT.out; omega)]), rfl, ⟨by have := HI.out; omega⟩, ⟨HN.out⟩, HBq⟩
    | true =>
      go_upto_region 6 with (go_at_call 39; refine GV.out.mono ?_; rintro e wx ⟨rfl, hb⟩; have HBr := Aside0.mk (HBq.out.trans (below_lower hb HBq.out.size)); clear HBq hb; have HBq := HBr; clear HBr)
      clear hx0 hx1 hx2 hx3 hrc
      cases o with
      | none =>
        unfold ob
        have HN := Lib.hid (HFI.out (by trivial) HO.out)
        refine start_ (n := 23) (S := fun w' => True) (ds := []) #[false, false, false, false, false, false, false, false, false, false, false, false, false, false, false, false, false, false, false, false, false, false, false] (by kernel_rfl) rfl rfl trivial (fun hHeld => ?_)
        have HBr := Aside0.mk (below_drew1 HBq.out)
        clear HBq
        have HBq := HBr
        clear HBr
        generalize World.drew _ = wd at HBq hHeld ⊢
        refine pure_ (i := 0) (N := some 33) (v := ?_) (a' := ?_) #[true, false, false, false, false, false, false, false, false, false, false, false, false, false, false, false, false, false, false, false, false, false, false] rfl rfl (by kernel_rfl) (fun _ _ _ h => h) (Or.inl ⟨by rfl, ?_⟩) ?_ ?_
        rotate_left
        · intro w'
          go_simp
          with_reducible rfl
        rotate_left
        · simp only [Act.put, List.setIfInBounds_toArray, List.set_cons_zero, List.set_cons_succ, i64_w, i32_w]
          rfl
        refine pure_ (i := 1) (N := some 34) (v := ?_) (a' := ?_) #[true, true, false, false, false, false, false, false, false, false, false, false, false, false, false, false, false, false, false, false, false, false, false] rfl rfl (by kernel_rfl) (fun _ _ _ h => h) (Or.inl ⟨by rfl, ?_⟩) ?_ ?_
        rotate_left
        · intro w'
          go_simp
          with_reducible rfl
        rotate_left
        · simp only [Act.put, List.setIfInBounds_toArray, List.set_cons_zero, List.set_cons_succ, i64_w, i32_w]
          rfl
        refine pure_ (i := 2) (N := some 35) (v := ?_) (a' := ?_) #[true, true, true, false, false, false, false, false, false, false, false, false, false, false, false, false, false, false, false, false, false, false, false] rfl rfl (by kernel_rfl) (fun _ _ _ h => h) (Or.inl ⟨by rfl, ?_⟩) ?_ ?_
        rotate_left
        · intro w'
          go_simp
          with_reducible rfl
        rotate_left
        · simp only [Act.put, List.setIfInBounds_toArray, List.set_cons_zero, List.set_cons_succ, i64_w, i32_w]
          rfl
        refine pure_ (i := 3) (N := some 36) (v := undef) (a' := ?_) #[true, true, true, true, false, false, false, false, false, false, false, false, false, false, false, false, false, false, false, false, false, false, false] rfl rfl (by kernel_rfl) (fun _ _ _ h => h) (Or.inr ⟨by rfl, rfl⟩) ?_ ?_
        rotate_left
        · simp only [Act.put, List.setIfInBounds_toArray, List.set_cons_zero, List.set_cons_succ, i64_w, i32_w]
          rfl
        refine pure_ (i := 4) (N := some 37) (v := undef) (a' := ?_) #[true, true, true, true, true, false, false, false, false, false, false, false, false, false, false, false, false, false, false, false, false, false, false] rfl rfl (by kernel_rfl) (fun _ _ _ h => h) (Or.inr ⟨by rfl, rfl⟩) ?_ ?_
        rotate_left
        · simp only [Act.put, List.setIfInBounds_toArray, List.set_cons_zero, List.set_cons_succ, i64_w, i32_w]
          rfl
        refine pure_ (i := 5) (N := some 38) (v := undef) (a' := ?_) #[true, true, true, true, true, true, false, false, false, false, false, false, false, false, false, false, false, false, false, false, false, false, false] rfl rfl (by kernel_rfl) (fun _ _ _ h => h) (Or.inr ⟨by rfl, rfl⟩) ?_ ?_
        rotate_left
        · simp only [Act.put, List.setIfInBounds_toArray, List.set_cons_zero, List.set_cons_succ, i64_w, i32_w]
          rfl
        refine pure_ (i := 6) (N := some 39) (v := undef) (a' := ?_) #[true, true, true, true, true, true, true, false, false, false, false, false, false, false, false, false, false, false, false, false, false, false, false] rfl rfl (by kernel_rfl) (fun _ _ _ h => h) (Or.inr ⟨by rfl, rfl⟩) ?_ ?_
        rotate_left
        · simp only [Act.put, List.setIfInBounds_toArray, List.set_cons_zero, List.set_cons_succ, i64_w, i32_w]
          rfl
        refine pure_ (i := 7) (N := some 40) (v := undef) (a' := ?_) #[true, true, true, true, true, true, true, true, false, false, false, false, false, false, false, false, false, false, false, false, false, false, false] rfl rfl (by kernel_rfl) (fun _ _ _ h => h) (Or.inr ⟨by rfl, rfl⟩) ?_ ?_
        rotate_left
        · simp only [Act.put, List.setIfInBounds_toArray, List.set_cons_zero, List.set_cons_succ, i64_w, i32_w]
          rfl
        refine pure_ (i := 8) (N := some 41) (v := undef) (a' := ?_) #[true, true, true, true, true, true, true, true, true, false, false, false, false, false, false, false, false, false, false, false, false, false, false] rfl rfl (by kernel_rfl) (fun _ _ _ h => h) (Or.inr ⟨by rfl, rfl⟩) ?_ ?_
        rotate_left
        · simp only [Act.put, List.setIfInBounds_toArray, List.set_cons_zero, List.set_cons_succ, i64_w, i32_w]
          rfl
        refine pure_ (i := 9) (N := some 42) (v := undef) (a' := ?_) #[true, true, true, true, true, true, true, true, true, true, false, false, false, false, false, false, false, false, false, false, false, false, false] rfl rfl (by kernel_rfl) (fun _ _ _ h => h) (Or.inr ⟨by rfl, rfl⟩) ?_ ?_
        rotate_left
        · simp only [Act.put, List.setIfInBounds_toArray, List.set_cons_zero, List.set_cons_succ, i64_w, i32_w]
          rfl
        refine pure_ (i := 10) (N := some 43) (v := undef) (a' := ?_) #[true, true, true, true, true, true, true, true, true, true, true, false, false, false, false, false, false, false, false, false, false, false, false] rfl rfl (by kernel_rfl) (fun _ _ _ h => h) (Or.inr ⟨by rfl, rfl⟩) ?_ ?_
        rotate_left
        · simp only [Act.put, List.setIfInBounds_toArray, List.set_cons_zero, List.set_cons_succ, i64_w, i32_w]
          rfl
        refine pure_ (i := 11) (N := some 44) (v := undef) (a' := ?_) #[true, true, true, true, true, true, true, true, true, true, true, true, false, false, false, false, false, false, false, false, false, false, false] rfl rfl (by kernel_rfl) (fun _ _ _ h => h) (Or.inr ⟨by rfl, rfl⟩) ?_ ?_
        rotate_left
        · simp only [Act.put, List.setIfInBounds_toArray, List.set_cons_zero, List.set_cons_succ, i64_w, i32_w]
          rfl
        refine pure_ (i := 12) (N := some 45) (v := undef) (a' := ?_) #[true, true, true, true, true, true, true, true, true, true, true, true, true, false, false, false, false, false, false, false, false, false, false] rfl rfl (by kernel_rfl) (fun _ _ _ h => h) (Or.inr ⟨by rfl, rfl⟩) ?_ ?_
        rotate_left
        · simp only [Act.put, List.setIfInBounds_toArray, List.set_cons_zero, List.set_cons_succ, i64_w, i32_w]
          rfl
        refine pure_ (i := 13) (N := some 46) (v := undef) (a' := ?_) #[true, true, true, true, true, true, true, true, true, true, true, true, true, true, false, false, false, false, false, false, false, false, false] rfl rfl (by kernel_rfl) (fun _ _ _ h => h) (Or.inr ⟨by rfl, rfl⟩) ?_ ?_
        rotate_left
        · simp only [Act.put, List.setIfInBounds_toArray, List.set_cons_zero, List.set_cons_succ, i64_w, i32_w]
          rfl
        refine pure_ (i := 14) (N := some 47) (v := undef) (a' := ?_) #[true, true, true, true, true, true, true, true, true, true, true, true, true, true, true, false, false, false, false, false, false, false, false] rfl rfl (by kernel_rfl) (fun _ _ _ h => h) (Or.inr ⟨by rfl, rfl⟩) ?_ ?_
        rotate_left
        · simp only [Act.put, List.setIfInBounds_toArray, List.set_cons_zero, List.set_cons_succ, i64_w, i32_w]
          rfl
        refine pure_ (i := 15) (N := some 48) (v := undef) (a' := ?_) #[true, true, true, true, true, true, true, true, true, true, true, true, true, true, true, true, false, false, false, false, false, false, false] rfl rfl (by kernel_rfl) (fun _ _ _ h => h) (Or.inr ⟨by rfl, rfl⟩) ?_ ?_
        rotate_left
        · simp only [Act.put, List.setIfInBounds_toArray, List.set_cons_zero, List.set_cons_succ, i64_w, i32_w]
          rfl
        refine pure_ (i := 16) (N := some 49) (v := undef) (a' := ?_) #[true, true, true, true, true, true, true, true, true, true, true, true, true, true, true, true, true, false, false, false, false, false, false] rfl rfl (by kernel_rfl) (fun _ _ _ h => h) (Or.inr ⟨by rfl, rfl⟩) ?_ ?_
        rotate_left
        · simp only [Act.put, List.setIfInBounds_toArray, List.set_cons_zero, List.set_cons_succ, i64_w, i32_w]
          rfl
        refine pure_ (i := 17) (N := some 50) (v := undef) (a' := ?_) #[true, true, true, true, true, true, true, true, true, true, true, true, true, true, true, true, true, true, false, false, false, false, false] rfl rfl (by kernel_rfl) (fun _ _ _ h => h) (Or.inr ⟨by rfl, rfl⟩) ?_ ?_
        rotate_left
        · simp only [Act.put, List.setIfInBounds_toArray, List.set_cons_zero, List.set_cons_succ, i64_w, i32_w]
          rfl
        refine pure_ (i := 18) (N := some 51) (v := undef) (a' := ?_) #[true, true, true, true, true, true, true, true, true, true, true, true, true, true, true, true, true, true, true, false, false, false, false] rfl rfl (by kernel_rfl) (fun _ _ _ h => h) (Or.inr ⟨by rfl, rfl⟩) ?_ ?_
        rotate_left
        · simp only [Act.put, List.setIfInBounds_toArray, List.set_cons_zero, List.set_cons_succ, i64_w, i32_w]
          rfl
        refine pure_ (i := 19) (N := some 52) (v := undef) (a' := ?_) #[true, true, true, true, true, true, true, true, true, true, true, true, true, true, true, true, true, true, true, true, false, false, false] rfl rfl (by kernel_rfl) (fun _ _ _ h => h) (Or.inr ⟨by rfl, rfl⟩) ?_ ?_
        rotate_left
        · simp only [Act.put, List.setIfInBounds_toArray, List.set_cons_zero, List.set_cons_succ, i64_w, i32_w]
          rfl
        refine pure_ (i := 20) (N := some 53) (v := undef) (a' := ?_) #[true, true, true, true, true, true, true, true, true, true, true, true, true, true, true, true, true, true, true, true, true, false, false] rfl rfl (by kernel_rfl) (fun _ _ _ h => h) (Or.inr ⟨by rfl, rfl⟩) ?_ ?_
        rotate_left
        · simp only [Act.put, List.setIfInBounds_toArray, List.set_cons_zero, List.set_cons_succ, i64_w, i32_w]
          rfl
        refine pure_ (i := 21) (N := some 54) (v := undef) (a' := ?_) #[true, true, true, true, true, true, true, true, true, true, true, true, true, true, true, true, true, true, true, true, true, true, false] rfl rfl (by kernel_rfl) (fun _ _ _ h => h) (Or.inr ⟨by rfl, rfl⟩) ?_ ?_
        rotate_left
        · simp only [Act.put, List.setIfInBounds_toArray, List.set_cons_zero, List.set_cons_succ, i64_w, i32_w]
          rfl
        refine pure_ (i := 22) (N := some 55) (v := ?_) (a' := ?_) #[true, true, true, true, true, true, true, true, true, true, true, true, true, true, true, true, true, true, true, true, true, true, true] rfl rfl (by kernel_rfl) (fun _ _ _ h => h) (Or.inl ⟨by rfl, ?_⟩) ?_ ?_
        rotate_left
        · intro w'
          go_simp
          with_reducible rfl
        rotate_left
        · simp only [Act.put, List.setIfInBounds_toArray, List.set_cons_zero, List.set_cons_succ, i64_w, i32_w]
          rfl
        refine done_ (by kernel_rfl) ?_
        clear hHeld
        go_wp2
        go_roundg g0
        case measure => omega
        case rel => exact ⟨i + 1, some i, congrArg (Value.int .i64) (by rw [w64 i (by have := HLT.out; omega)]), rfl, ⟨by have := HI.out; omega⟩, ⟨HN.out⟩, HBq⟩
      | some j =>
        unfold ob
        have hj : j < L.length := by obtain ⟨hj, _⟩ := HO.out; exact hj
        have p3 : (0 ≤ (j : Int)) = True := eq_true (by omega)
        have p4 : ((j : Int) < (L.length : Int)) = True := eq_true (by omega)
        have d0 : decide ((j : Int) < 0) = false := decide_eq_false (by omega)
        have CELL := Lib.hid (show ∀ w', Below w1.heap.size w1 w' → w'.cell? ⟨r, 0, none⟩ = some (.slice (some ad) L.length c) ∧ w'.cell? (ad.add (i * 4)) = some (.string xp) ∧ w'.cell? (ad.add (j * 4)) = some (.string L[j].path) from fun w' hb => ⟨CELLR.out w' hb, CPI.out w' hb, CPJ.out w' hb j hj⟩)
        by_cases hlt : L[j].path.size < xp.size
        · have HN := Lib.hid (HMO.out (by trivial) j hj HO.out hlt)
          have z1 : decide ((L[j].path.size : Int) < (xp.size : Int)) = true := decide_eq_true (by omega)
          have z1n : decide (L[j].path.size < xp.size) = true := decide_eq_true hlt
          generalize L[j].path = yp at CELL z1 z1n
          clear hlt hj
          refine start_ (n := 23) (S := fun w' => w'.cell? ⟨r, 0, none⟩ = some (.slice (some ad) L.length c) ∧ w'.cell? (ad.add (i * 4)) = some (.string xp) ∧ w'.cell? (ad.add (j * 4)) = some (.string yp)) (ds := []) #[false, false, false, false, false, false, false, false, false, false, false, false, false, false, false, false, false, false, false, false, false, false, false] (by kernel_rfl) rfl rfl (CELL.out _ (below_drew1 HBq.out)) (fun hHeld => ?_)
          have HBr := Aside0.mk (below_drew1 HBq.out)
          clear HBq
          have HBq := HBr
          clear HBr
          generalize World.drew _ = wd at HBq hHeld ⊢
          refine pure_ (i := 0) (N := some 33) (v := ?_) (a' := ?_) #[true, false, false, false, false, false, false, false, false, false, false, false, false, false, false, false, false, false, false, false, false, false, false] rfl rfl (by kernel_rfl) (fun _ _ _ h => h) (Or.inl ⟨by rfl, ?_⟩) ?_ ?_
          rotate_left
          · intro w'
            go_simp
            with_reducible rfl
          rotate_left
          · simp only [Act.put, List.setIfInBounds_toArray, List.set_cons_zero, List.set_cons_succ, i64_w, i32_w]
            rfl
          refine pure_ (i := 1) (N := some 34) (v := ?_) (a' := ?_) #[true, true, false, false, false, false, false, false, false, false, false, false, false, false, false, false, false, false, false, false, false, false, false] rfl rfl (by kernel_rfl) (fun _ _ _ h => h) (Or.inl ⟨by rfl, ?_⟩) ?_ ?_
          rotate_left
          · intro w'
            go_simp
            with_reducible rfl
          rotate_left
          · simp only [Act.put, List.setIfInBounds_toArray, List.set_cons_zero, List.set_cons_succ, i64_w, i32_w]
            rfl
          refine pure_ (i := 2) (N := some 35) (v := ?_) (a' := ?_) #[true, true, true, false, false, false, false, false, false, false, false, false, false, false, false, false, false, false, false, false, false, false, false] rfl rfl (by kernel_rfl) (fun _ _ _ h => h) (Or.inl ⟨by rfl, ?_⟩) ?_ ?_
          rotate_left
          · intro w'
            go_simp
            with_reducible rfl
          rotate_left
          · simp only [Act.put, List.setIfInBounds_toArray, List.set_cons_zero, List.set_cons_succ, i64_w, i32_w]
            rfl
          refine pure_ (i := 3) (N := some 36) (v := ?_) (a' := ?_) #[true, true, true, true, false, false, false, false, false, false, false, false, false, false, false, false, false, false, false, false, false, false, false] rfl rfl (by kernel_rfl) (fun _ _ _ h => h) (Or.inl ⟨by rfl, ?_⟩) ?_ ?_
          rotate_left
          · intro w'
            go_simp
            with_reducible rfl
          rotate_left
          · simp only [Act.put, List.setIfInBounds_toArray, List.set_cons_zero, List.set_cons_succ, i64_w, i32_w]
            rfl
          refine pure_ (i := 4) (N := some 37) (v := ?_) (a' := ?_) #[true, true, true, true, true, false, false, false, false, false, false, false, false, false, false, false, false, false, false, false, false, false, false] rfl rfl (by kernel_rfl) (fun _ _ _ h => h) (Or.inl ⟨by rfl, ?_⟩) ?_ ?_
          rotate_left
          · intro w'
            go_simp
            with_reducible rfl
          rotate_left
          · simp only [Act.put, List.setIfInBounds_toArray, List.set_cons_zero, List.set_cons_succ, i64_w, i32_w]
            rfl
          refine pure_ (i := 5) (N := some 38) (v := ?_) (a' := ?_) #[true, true, true, true, true, true, false, false, false, false, false, false, false, false, false, false, false, false, false, false, false, false, false] rfl rfl (by kernel_rfl) (fun _ _ _ h => h) (Or.inl ⟨by rfl, ?_⟩) ?_ ?_
          rotate_left
          · intro w'
            go_simp
            with_reducible rfl
          rotate_left
          · simp only [Act.put, List.setIfInBounds_toArray, List.set_cons_zero, List.set_cons_succ, i64_w, i32_w]
            rfl
          refine take_ (i := 6) (N := some 39) (v := ?_) (a' := ?_) #[true, true, true, true, true, true, true, false, false, false, false, false, false, false, false, false, false, false, false, false, false, false, false] rfl rfl (by kernel_rfl) (fun _ _ _ h => h) (Or.inl ⟨by rfl, ?_⟩) hHeld ?_ ?_
          rotate_left
          · rintro w' ⟨s0, s1, s2⟩
            go_simp
            with_reducible rfl
          rotate_left
          · simp only [Act.put, List.setIfInBounds_toArray, List.set_cons_zero, List.set_cons_succ, i64_w, i32_w]
            rfl
          refine pure_ (i := 7) (N := some 40) (v := ?_) (a' := ?_) #[true, true, true, true, true, true, true, true, false, false, false, false, false, false, false, false, false, false, false, false, false, false, false] rfl rfl (by kernel_rfl) (fun _ _ _ h => h) (Or.inl ⟨by rfl, ?_⟩) ?_ ?_
          rotate_left
          · intro w'
            go_simp
            with_reducible rfl
          rotate_left
          · simp only [Act.put, List.setIfInBounds_toArray, List.set_cons_zero, List.set_cons_succ, i64_w, i32_w]
            rfl
          refine pure_ (i := 8) (N := some 41) (v := ?_) (a' := ?_) #[true, true, true, true, true, true, true, true, true, false, false, false, false, false, false, false, false, false, false, false, false, false, false] rfl rfl (by kernel_rfl) (fun _ _ _ h => h) (Or.inl ⟨by rfl, ?_⟩) ?_ ?_
          rotate_left
          · intro w'
            go_simp
            with_reducible rfl
          rotate_left
          · simp only [Act.put, List.setIfInBounds_toArray, List.set_cons_zero, List.set_cons_succ, i64_w, i32_w]
            rfl
          refine pure_ (i := 9) (N := some 42) (v := ?_) (a' := ?_) #[true, true, true, true, true, true, true, true, true, true, false, false, false, false, false, false, false, false, false, false, false, false, false] rfl rfl (by kernel_rfl) (fun _ _ _ h => h) (Or.inl ⟨by rfl, ?_⟩) ?_ ?_
          rotate_left
          · intro w'
            go_simp
            with_reducible rfl
          rotate_left
          · simp only [Act.put, List.setIfInBounds_toArray, List.set_cons_zero, List.set_cons_succ, i64_w, i32_w]
            rfl
          refine take_ (i := 10) (N := some 43) (v := ?_) (a' := ?_) #[true, true, true, true, true, true, true, true, true, true, true, false, false, false, false, false, false, false, false, false, false, false, false] rfl rfl (by kernel_rfl) (fun _ _ _ h => h) (Or.inl ⟨by rfl, ?_⟩) hHeld ?_ ?_
          rotate_left
          · rintro w' ⟨s0, s1, s2⟩
            go_simp
            with_reducible rfl
          rotate_left
          · simp only [Act.put, List.setIfInBounds_toArray, List.set_cons_zero, List.set_cons_succ, i64_w, i32_w]
            rfl
          refine pure_ (i := 11) (N := some 44) (v := ?_) (a' := ?_) #[true, true, true, true, true, true, true, true, true, true, true, true, false, false, false, false, false, false, false, false, false, false, false] rfl rfl (by kernel_rfl) (fun _ _ _ h => h) (Or.inl ⟨by rfl, ?_⟩) ?_ ?_
          rotate_left
          · intro w'
            go_simp
            with_reducible rfl
          rotate_left
          · simp only [Act.put, List.setIfInBounds_toArray, List.set_cons_zero, List.set_cons_succ, i64_w, i32_w]
            rfl
          refine pure_ (i := 12) (N := some 45) (v := ?_) (a' := ?_) #[true, true, true, true, true, true, true, true, true, true, true, true, true, false, false, false, false, false, false, false, false, false, false] rfl rfl (by kernel_rfl) (fun _ _ _ h => h) (Or.inl ⟨by rfl, ?_⟩) ?_ ?_
          rotate_left
          · intro w'
            go_simp
            with_reducible rfl
          rotate_left
          · simp only [Act.put, List.setIfInBounds_toArray, List.set_cons_zero, List.set_cons_succ, i64_w, i32_w]
            rfl
          refine pure_ (i := 13) (N := some 46) (v := ?_) (a' := ?_) #[true, true, true, true, true, true, true, true, true, true, true, true, true, true, false, false, false, false, false, false, false, false, false] rfl rfl (by kernel_rfl) (fun _ _ _ h => h) (Or.inl ⟨by rfl, ?_⟩) ?_ ?_
          rotate_left
          · intro w'
            go_simp
            with_reducible rfl
          rotate_left
          · simp only [Act.put, List.setIfInBounds_toArray, List.set_cons_zero, List.set_cons_succ, i64_w, i32_w]
            rfl
          refine pure_ (i := 14) (N := some 47) (v := ?_) (a' := ?_) #[true, true, true, true, true, true, true, true, true, true, true, true, true, true, true, false, false, false, false, false, false, false, false] rfl rfl (by kernel_rfl) (fun _ _ _ h => h) (Or.inl ⟨by rfl, ?_⟩) ?_ ?_
          rotate_left
          · intro w'
            go_simp
            with_reducible rfl
          rotate_left
          · simp only [Act.put, List.setIfInBounds_toArray, List.set_cons_zero, List.set_cons_succ, i64_w, i32_w]
            rfl
          refine take_ (i := 15) (N := some 48) (v := ?_) (a' := ?_) #[true, true, true, true, true, true, true, true, true, true, true, true, true, true, true, true, false, false, false, false, false, false, false] rfl rfl (by kernel_rfl) (fun _ _ _ h => h) (Or.inl ⟨by rfl, ?_⟩) hHeld ?_ ?_
          rotate_left
          · rintro w' ⟨s0, s1, s2⟩
            go_simp
            with_reducible rfl
          rotate_left
          · simp only [Act.put, List.setIfInBounds_toArray, List.set_cons_zero, List.set_cons_succ, i64_w, i32_w]
            rfl
          refine pure_ (i := 16) (N := some 49) (v := ?_) (a' := ?_) #[true, true, true, true, true, true, true, true, true, true, true, true, true, true, true, true, true, false, false, false, false, false, false] rfl rfl (by kernel_rfl) (fun _ _ _ h => h) (Or.inl ⟨by rfl, ?_⟩) ?_ ?_
          rotate_left
          · intro w'
            go_simp
            with_reducible rfl
          rotate_left
          · simp only [Act.put, List.setIfInBounds_toArray, List.set_cons_zero, List.set_cons_succ, i64_w, i32_w]
            rfl
          refine pure_ (i := 17) (N := some 50) (v := ?_) (a' := ?_) #[true, true, true, true, true, true, true, true, true, true, true, true, true, true, true, true, true, true, false, false, false, false, false] rfl rfl (by kernel_rfl) (fun _ _ _ h => h) (Or.inl ⟨by rfl, ?_⟩) ?_ ?_
          rotate_left
          · intro w'
            go_simp
            with_reducible rfl
          rotate_left
          · simp only [Act.put, List.setIfInBounds_toArray, List.set_cons_zero, List.set_cons_succ, i64_w, i32_w]
            rfl
          refine pure_ (i := 18) (N := some 51) (v := ?_) (a' := ?_) #[true, true, true, true, true, true, true, true, true, true, true, true, true, true, true, true, true, true, true, false, false, false, false] rfl rfl (by kernel_rfl) (fun _ _ _ h => h) (Or.inl ⟨by rfl, ?_⟩) ?_ ?_
          rotate_left
          · intro w'
            go_simp
            with_reducible rfl
          rotate_left
          · simp only [Act.put, List.setIfInBounds_toArray, List.set_cons_zero, List.set_cons_succ, i64_w, i32_w]
            rfl
          refine take_ (i := 19) (N := some 52) (v := ?_) (a' := ?_) #[true, true, true, true, true, true, true, true, true, true, true, true, true, true, true, true, true, true, true, true, false, false, false] rfl rfl (by kernel_rfl) (fun _ _ _ h => h) (Or.inl ⟨by rfl, ?_⟩) hHeld ?_ ?_
          rotate_left
          · rintro w' ⟨s0, s1, s2⟩
            go_simp
            with_reducible rfl
          rotate_left
          · simp only [Act.put, List.setIfInBounds_toArray, List.set_cons_zero, List.set_cons_succ, i64_w, i32_w]
            rfl
          refine pure_ (i := 20) (N := some 53) (v := ?_) (a' := ?_) #[true, true, true, true, true, true, true, true, true, true, true, true, true, true, true, true, true, true, true, true, true, false, false] rfl rfl (by kernel_rfl) (fun _ _ _ h => h) (Or.inl ⟨by rfl, ?_⟩) ?_ ?_
          rotate_left
          · intro w'
            go_simp
            with_reducible rfl
          rotate_left
          · simp only [Act.put, List.setIfInBounds_toArray, List.set_cons_zero, List.set_cons_succ, i64_w, i32_w]
            rfl
          refine pure_ (i := 21) (N := some 54) (v := ?_) (a' := ?_) #[true, true, true, true, true, true, true, true, true, true, true, true, true, true, true, true, true, true, true, true, true, true, false] rfl rfl (by kernel_rfl) (fun _ _ _ h => h) (Or.inl ⟨by rfl, ?_⟩) ?_ ?_
          rotate_left
          · intro w'
            go_simp
            with_reducible rfl
          rotate_left
          · simp only [Act.put, List.setIfInBounds_toArray, List.set_cons_zero, List.set_cons_succ, i64_w, i32_w]
            rfl
          refine pure_ (i := 22) (N := some 55) (v := ?_) (a' := ?_) #[true, true, true, true, true, true, true, true, true, true, true, true, true, true, true, true, true, true, true, true, true, true, true] rfl rfl (by kernel_rfl) (fun _ _ _ h => h) (Or.inl ⟨by rfl, ?_⟩) ?_ ?_
          rotate_left
          · intro w'
            go_simp
            with_reducible rfl
          rotate_left
          · simp only [Act.put, List.setIfInBounds_toArray, List.set_cons_zero, List.set_cons_succ, i64_w, i32_w]
            rfl
          refine done_ (by kernel_rfl) ?_
          clear hHeld
          go_wp2
          go_roundg g0
          case measure => omega
          case rel => exact ⟨i + 1, some i, congrArg (Value.int .i64) (by rw [w64 i (by have := HLT.out; omega)]), rfl, ⟨by have := HI.out; omega⟩, ⟨HN.out⟩, HBq⟩
        · have HN := Lib.hid (HLS.out j hj HO.out hlt)
          have z1 : decide ((L[j].path.size : Int) < (xp.size : Int)) = false := decide_eq_false (by omega)
          have z1n : decide (L[j].path.size < xp.size) = false := decide_eq_false hlt
          generalize L[j].path = yp at CELL z1 z1n
          clear hlt hj
          refine start_ (n := 23) (S := fun w' => w'.cell? ⟨r, 0, none⟩ = some (.slice (some ad) L.length c) ∧ w'.cell? (ad.add (i * 4)) = some (.string xp) ∧ w'.cell? (ad.add (j * 4)) = some (.string yp)) (ds := []) #[false, false, false, false, false, false, false, false, false, false, false, false, false, false, false, false, false, false, false, false, false, false, false] (by kernel_rfl) rfl rfl (CELL.out _ (below_drew1 HBq.out)) (fun hHeld => ?_)
          have HBr := Aside0.mk (below_drew1 HBq.out)
          clear HBq
          have HBq := HBr
          clear HBr
          generalize World.drew _ = wd at HBq hHeld ⊢
          refine pure_ (i := 0) (N := some 33) (v := ?_) (a' := ?_) #[true, false, false, false, false, false, false, false, false, false, false, false, false, false, false, false, false, false, false, false, false, false, false] rfl rfl (by kernel_rfl) (fun _ _ _ h => h) (Or.inl ⟨by rfl, ?_⟩) ?_ ?_
          rotate_left
          · intro w'
            go_simp
            with_reducible rfl
          rotate_left
          · simp only [Act.put, List.setIfInBounds_toArray, List.set_cons_zero, List.set_cons_succ, i64_w, i32_w]
            rfl
          refine pure_ (i := 1) (N := some 34) (v := ?_) (a' := ?_) #[true, true, false, false, false, false, false, false, false, false, false, false, false, false, false, false, false, false, false, false, false, false, false] rfl rfl (by kernel_rfl) (fun _ _ _ h => h) (Or.inl ⟨by rfl, ?_⟩) ?_ ?_
          rotate_left
          · intro w'
            go_simp
            with_reducible rfl
          rotate_left
          · simp only [Act.put, List.setIfInBounds_toArray, List.set_cons_zero, List.set_cons_succ, i64_w, i32_w]
            rfl
          refine pure_ (i := 2) (N := some 35) (v := ?_) (a' := ?_) #[true, true, true, false, false, false, false, false, false, false, false, false, false, false, false, false, false, false, false, false, false, false, false] rfl rfl (by kernel_rfl) (fun _ _ _ h => h) (Or.inl ⟨by rfl, ?_⟩) ?_ ?_
          rotate_left
          · intro w'
            go_simp
            with_reducible rfl
          rotate_left
          · simp only [Act.put, List.setIfInBounds_toArray, List.set_cons_zero, List.set_cons_succ, i64_w, i32_w]
            rfl
          refine pure_ (i := 3) (N := some 36) (v := ?_) (a' := ?_) #[true, true, true, true, false, false, false, false, false, false, false, false, false, false, false, false, false, false, false, false, false, false, false] rfl rfl (by kernel_rfl) (fun _ _ _ h => h) (Or.inl ⟨by rfl, ?_⟩) ?_ ?_
          rotate_left
          · intro w'
            go_simp
            with_reducible rfl
          rotate_left
          · simp only [Act.put, List.setIfInBounds_toArray, List.set_cons_zero, List.set_cons_succ, i64_w, i32_w]
            rfl
          refine pure_ (i := 4) (N := some 37) (v := ?_) (a' := ?_) #[true, true, true, true, true, false, false, false, false, false, false, false, false, false, false, false, false, false, false, false, false, false, false] rfl rfl (by kernel_rfl) (fun _ _ _ h => h) (Or.inl ⟨by rfl, ?_⟩) ?_ ?_
          rotate_left
          · intro w'
            go_simp
            with_reducible rfl
          rotate_left
          · simp only [Act.put, List.setIfInBounds_toArray, List.set_cons_zero, List.set_cons_succ, i64_w, i32_w]
            rfl
          refine pure_ (i := 5) (N := some 38) (v := ?_) (a' := ?_) #[true, true, true, true, true, true, false, false, false, false, false, false, false, false, false, false, false, false, false, false, false, false, false] rfl rfl (by kernel_rfl) (fun _ _ _ h => h) (Or.inl ⟨by rfl, ?_⟩) ?_ ?_
          rotate_left
          · intro w'
            go_simp
            with_reducible rfl
          rotate_left
          · simp only [Act.put, List.setIfInBounds_toArray, List.set_cons_zero, List.set_cons_succ, i64_w, i32_w]
            rfl
          refine take_ (i := 6) (N := some 39) (v := ?_) (a' := ?_) #[true, true, true, true, true, true, true, false, false, false, false, false, false, false, false, false, false, false, false, false, false, false, false] rfl rfl (by kernel_rfl) (fun _ _ _ h => h) (Or.inl ⟨by rfl, ?_⟩) hHeld ?_ ?_
          rotate_left
          · rintro w' ⟨s0, s1, s2⟩
            go_simp
            with_reducible rfl
          rotate_left
          · simp only [Act.put, List.setIfInBounds_toArray, List.set_cons_zero, List.set_cons_succ, i64_w, i32_w]
            rfl
          refine pure_ (i := 7) (N := some 40) (v := ?_) (a' := ?_) #[true, true, true, true, true, true, true, true, false, false, false, false, false, false, false, false, false, false, false, false, false, false, false] rfl rfl (by kernel_rfl) (fun _ _ _ h => h) (Or.inl ⟨by rfl, ?_⟩) ?_ ?_
          rotate_left
          · intro w'
            go_simp
            with_reducible rfl
          rotate_left
          · simp only [Act.put, List.setIfInBounds_toArray, List.set_cons_zero, List.set_cons_succ, i64_w, i32_w]
            rfl
          refine pure_ (i := 8) (N := some 41) (v := ?_) (a' := ?_) #[true, true, true, true, true, true, true, true, true, false, false, false, false, false, false, false, false, false, false, false, false, false, false] rfl rfl (by kernel_rfl) (fun _ _ _ h => h) (Or.inl ⟨by rfl, ?_⟩) ?_ ?_
          rotate_left
          · intro w'
            go_simp
            with_reducible rfl
          rotate_left
          · simp only [Act.put, List.setIfInBounds_toArray, List.set_cons_zero, List.set_cons_succ, i64_w, i32_w]
            rfl
          refine pure_ (i := 9) (N := some 42) (v := ?_) (a' := ?_) #[true, true, true, true, true, true, true, true, true, true, false, false, false, false, false, false, false, false, false, false, false, false, false] rfl rfl (by kernel_rfl) (fun _ _ _ h => h) (Or.inl ⟨by rfl, ?_⟩) ?_ ?_
          rotate_left
          · intro w'
            go_simp
            with_reducible rfl
          rotate_left
          · simp only [Act.put, List.setIfInBounds_toArray, List.set_cons_zero, List.set_cons_succ, i64_w, i32_w]
            rfl
          refine take_ (i := 10) (N := some 43) (v := ?_) (a' := ?_) #[true, true, true, true, true, true, true, true, true, true, true, false, false, false, false, false, false, false, false, false, false, false, false] rfl rfl (by kernel_rfl) (fun _ _ _ h => h) (Or.inl ⟨by rfl, ?_⟩) hHeld ?_ ?_
          rotate_left
          · rintro w' ⟨s0, s1, s2⟩
            go_simp
            with_reducible rfl
          rotate_left
          · simp only [Act.put, List.setIfInBounds_toArray, List.set_cons_zero, List.set_cons_succ, i64_w, i32_w]
            rfl
          refine pure_ (i := 11) (N := some 44) (v := ?_) (a' := ?_) #[true, true, true, true, true, true, true, true, true, true, true, true, false, false, false, false, false, false, false, false, false, false, false] rfl rfl (by kernel_rfl) (fun _ _ _ h => h) (Or.inl ⟨by rfl, ?_⟩) ?_ ?_
          rotate_left
          · intro w'
            go_simp
            with_reducible rfl
          rotate_left
          · simp only [Act.put, List.setIfInBounds_toArray, List.set_cons_zero, List.set_cons_succ, i64_w, i32_w]
            rfl
          refine pure_ (i := 12) (N := some 45) (v := ?_) (a' := ?_) #[true, true, true, true, true, true, true, true, true, true, true, true, true, false, false, false, false, false, false, false, false, false, false] rfl rfl (by kernel_rfl) (fun _ _ _ h => h) (Or.inl ⟨by rfl, ?_⟩) ?_ ?_
          rotate_left
          · intro w'
            go_simp
            with_reducible rfl
          rotate_left
          · simp only [Act.put, List.setIfInBounds_toArray, List.set_cons_zero, List.set_cons_succ, i64_w, i32_w]
            rfl
          refine pure_ (i := 13) (N := some 46) (v := ?_) (a' := ?_) #[true, true, true, true, true, true, true, true, true, true, true, true, true, true, false, false, false, false, false, false, false, false, false] rfl rfl (by kernel_rfl) (fun _ _ _ h => h) (Or.inl ⟨by rfl, ?_⟩) ?_ ?_
          rotate_left
          · intro w'
            go_simp
            with_reducible rfl
          rotate_left
          · simp only [Act.put, List.setIfInBounds_toArray, List.set_cons_zero, List.set_cons_succ, i64_w, i32_w]
            rfl
          refine pure_ (i := 14) (N := some 47) (v := ?_) (a' := ?_) #[true, true, true, true, true, true, true, true, true, true, true, true, true, true, true, false, false, false, false, false, false, false, false] rfl rfl (by kernel_rfl) (fun _ _ _ h => h) (Or.inl ⟨by rfl, ?_⟩) ?_ ?_
          rotate_left
          · intro w'
            go_simp
            with_reducible rfl
          rotate_left
          · simp only [Act.put, List.setIfInBounds_toArray, List.set_cons_zero, List.set_cons_succ, i64_w, i32_w]
            rfl
          refine take_ (i := 15) (N := some 48) (v := ?_) (a' := ?_) #[true, true, true, true, true, true, true, true, true, true, true, true, true, true, true, true, false, false, false, false, false, false, false] rfl rfl (by kernel_rfl) (fun _ _ _ h => h) (Or.inl ⟨by rfl, ?_⟩) hHeld ?_ ?_
          rotate_left
          · rintro w' ⟨s0, s1, s2⟩
            go_simp
            with_reducible rfl
          rotate_left
          · simp only [Act.put, List.setIfInBounds_toArray, List.set_cons_zero, List.set_cons_succ, i64_w, i32_w]
            rfl
          refine pure_ (i := 16) (N := some 49) (v := ?_) (a' := ?_) #[true, true, true, true, true, true, true, true, true, true, true, true, true, true, true, true, true, false, false, false, false, false, false] rfl rfl (by kernel_rfl) (fun _ _ _ h => h) (Or.inl ⟨by rfl, ?_⟩) ?_ ?_
          rotate_left
          · intro w'
            go_simp
            with_reducible rfl
          rotate_left
          · simp only [Act.put, List.setIfInBounds_toArray, List.set_cons_zero, List.set_cons_succ, i64_w, i32_w]
            rfl
          refine pure_ (i := 17) (N := some 50) (v := ?_) (a' := ?_) #[true, true, true, true, true, true, true, true, true, true, true, true, true, true, true, true, true, true, false, false, false, false, false] rfl rfl (by kernel_rfl) (fun _ _ _ h => h) (Or.inl ⟨by rfl, ?_⟩) ?_ ?_
          rotate_left
          · intro w'
            go_simp
            with_reducible rfl
          rotate_left
          · simp only [Act.put, List.setIfInBounds_toArray, List.set_cons_zero, List.set_cons_succ, i64_w, i32_w]
            rfl
          refine pure_ (i := 18) (N := some 51) (v := ?_) (a' := ?_) #[true, true, true, true, true, true, true, true, true, true, true, true, true, true, true, true, true, true, true, false, false, false, false] rfl rfl (by kernel_rfl) (fun _ _ _ h => h) (Or.inl ⟨by rfl, ?_⟩) ?_ ?_
          rotate_left
          · intro w'
            go_simp
            with_reducible rfl
          rotate_left
          · simp only [Act.put, List.setIfInBounds_toArray, List.set_cons_zero, List.set_cons_succ, i64_w, i32_w]
            rfl
          refine take_ (i := 19) (N := some 52) (v := ?_) (a' := ?_) #[true, true, true, true, true, true, true, true, true, true, true, true, true, true, true, true, true, true, true, true, false, false, false] rfl rfl (by kernel_rfl) (fun _ _ _ h => h) (Or.inl ⟨by rfl, ?_⟩) hHeld ?_ ?_
          rotate_left
          · rintro w' ⟨s0, s1, s2⟩
            go_simp
            with_reducible rfl
          rotate_left
          · simp only [Act.put, List.setIfInBounds_toArray, List.set_cons_zero, List.set_cons_succ, i64_w, i32_w]
            rfl
          refine pure_ (i := 20) (N := some 53) (v := ?_) (a' := ?_) #[true, true, true, true, true, true, true, true, true, true, true, true, true, true, true, true, true, true, true, true, true, false, false] rfl rfl (by kernel_rfl) (fun _ _ _ h => h) (Or.inl ⟨by rfl, ?_⟩) ?_ ?_
          rotate_left
          · intro w'
            go_simp
            with_reducible rfl
          rotate_left
          · simp only [Act.put, List.setIfInBounds_toArray, List.set_cons_zero, List.set_cons_succ, i64_w, i32_w]
            rfl
          refine pure_ (i := 21) (N := some 54) (v := ?_) (a' := ?_) #[true, true, true, true, true, true, true, true, true, true, true, true, true, true, true, true, true, true, true, true, true, true, false] rfl rfl (by kernel_rfl) (fun _ _ _ h => h) (Or.inl ⟨by rfl, ?_⟩) ?_ ?_
          rotate_left
          · intro w'
            go_simp
            with_reducible rfl
          rotate_left
          · simp only [Act.put, List.setIfInBounds_toArray, List.set_cons_zero, List.set_cons_succ, i64_w, i32_w]
            rfl
          refine pure_ (i := 22) (N := some 55) (v := ?_) (a' := ?_) #[true, true, true, true, true, true, true, true, true, true, true, true, true, true, true, true, true, true, true, true, true, true, true] rfl rfl (by kernel_rfl) (fun _ _ _ h => h) (Or.inl ⟨by rfl, ?_⟩) ?_ ?_
          rotate_left
          · intro w'
            go_simp
            with_reducible rfl
          rotate_left
          · simp only [Act.put, List.setIfInBounds_toArray, List.set_cons_zero, List.set_cons_succ, i64_w, i32_w]
            rfl
          refine done_ (by kernel_rfl) ?_
          clear hHeld
          go_wp2
          go_roundg g0
          case measure => omega
          case rel => exact ⟨i + 1, some j, congrArg (Value.int .i64) (by rw [w64 i (by have := HLT.out; omega)]), rfl, ⟨by have := HI.out; omega⟩, ⟨HN.out⟩, HBq⟩
end Go.Proofs.YtphddbijdfmpjaaGreatDoor.Q
