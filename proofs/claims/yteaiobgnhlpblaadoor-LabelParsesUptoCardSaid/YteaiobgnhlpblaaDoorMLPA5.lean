/- What the statement LabelParsesUptoCardSaid rests on, part 5 of 7: walks and plain laws; what of the printer's words it leans on. -/
import Derived.Test.YteaiobgnhlpblaaDoorMLPA3
import Derived.Test.YteaiobgnhlpblaaDoorMLPA4
namespace Go.Proofs.YteaiobgnhlpblaaDoor.Q
open Go.RowKit Go.Proofs.YteaiobgnhlpblaaDoorW.PrintWords Go.Proofs.YteaiobgnhlpblaaDoorW.PrintLast Go.Proofs.YteaiobgnhlpblaaDoorW.PrintMore
attribute [local go_sem] max2_int min2_int max_two min_two max_three min_three max_four min_four   -- for this text's walks alone
set_option linter.unusedVariables false
set_option linter.unusedSimpArgs false
mutual
def bursarref04_written.j0 : Nat → Bool → ByteArray → Int → List ByteArray → Option (ByteArray)
  | 0, _, _, _, _ => none
  | k + 1, x18, x148000, x148001, x148002 => if x18 = true then (if x148000.size + 1 ≤ 9223372036854775807 then (if 0 < (x148002.length : Int) then (if (x148000 ++ (⟨#[61]⟩ : ByteArray)).size + (rdOf ByteArray.empty x148002 0).size ≤ 9223372036854775807 then (some ((x148000 ++ (⟨#[61]⟩ : ByteArray)) ++ (rdOf ByteArray.empty x148002 0))) else (none)) else (none)) else (none)) else (if (x148002.length : Int) = 1 then (if x148000.size + 2 ≤ 9223372036854775807 then (if 0 < (x148002.length : Int) then (if (x148000 ++ (⟨#[33, 61]⟩ : ByteArray)).size + (rdOf ByteArray.empty x148002 0).size ≤ 9223372036854775807 then (some ((x148000 ++ (⟨#[33, 61]⟩ : ByteArray)) ++ (rdOf ByteArray.empty x148002 0))) else (none)) else (none)) else (none)) else (if x148000.size + 5 ≤ 9223372036854775807 then (if x148001 = 1 then (if x148000.size + 8 ≤ 9223372036854775807 then (bursarref04_written.j1 k (x148000 ++ (⟨#[32, 110, 111, 116, 105, 110, 32, 40]⟩ : ByteArray)) x148000 x148001 x148002) else (none)) else (bursarref04_written.j1 k (x148000 ++ (⟨#[32, 105, 110, 32, 40]⟩ : ByteArray)) x148000 x148001 x148002)) else (none)))
def bursarref04_written.j1 : Nat → ByteArray → ByteArray → Int → List ByteArray → Option (ByteArray)
  | 0, _, _, _, _ => none
  | k + 1, x3, x148000, x148001, x148002 => bursarref04_written.l0 k x3 0 x148000 x148001 x148002
def bursarref04_written.l0 : Nat → ByteArray → Int → ByteArray → Int → List ByteArray → Option (ByteArray)
  | 0, _, _, _, _, _ => none
  | k + 1, x3, x4, x148000, x148001, x148002 => if x4 < (x148002.length : Int) then (if x4 > 0 then (if x3.size + 1 ≤ 9223372036854775807 then (if 0 ≤ x4 then (if (x3 ++ (⟨#[32]⟩ : ByteArray)).size + (rdOf ByteArray.empty x148002 x4).size ≤ 9223372036854775807 then (bursarref04_written.l0 k ((x3 ++ (⟨#[32]⟩ : ByteArray)) ++ (rdOf ByteArray.empty x148002 x4)) (wrap64 (x4 + 1)) x148000 x148001 x148002) else (none)) else (none)) else (none)) else (if 0 ≤ x4 then (if x3.size + (rdOf ByteArray.empty x148002 x4).size ≤ 9223372036854775807 then (bursarref04_written.l0 k (x3 ++ (rdOf ByteArray.empty x148002 x4)) (wrap64 (x4 + 1)) x148000 x148001 x148002) else (none)) else (none))) else (if x3.size + 1 ≤ 9223372036854775807 then (some (x3 ++ (⟨#[41]⟩ : ByteArray))) else (none))
end
def bursarref04_written.f (k : Nat) (a0_0 : ByteArray) (a0_1 : Int) (l0_2 : List ByteArray) : Option (ByteArray) := if a0_1 = 2 then (some a0_0) else (if a0_1 = 3 then (if 1 + a0_0.size ≤ 9223372036854775807 then (some ((⟨#[33]⟩ : ByteArray) ++ a0_0)) else (none)) else (if (l0_2.length : Int) = 1 then (bursarref04_written.j0 k (a0_1 == 0) a0_0 a0_1 l0_2) else (bursarref04_written.j0 k false a0_0 a0_1 l0_2)))
theorem bursarref04_written.mono_l : ∀ k, (∀ y0 y1 y2 y3, LeO (bursarref04_written.j0 k y0 y1 y2 y3) (bursarref04_written.j0 (k + 1) y0 y1 y2 y3)) ∧ (∀ y0 y1 y2 y3, LeO (bursarref04_written.j1 k y0 y1 y2 y3) (bursarref04_written.j1 (k + 1) y0 y1 y2 y3)) ∧ (∀ y0 y1 y2 y3 y4, LeO (bursarref04_written.l0 k y0 y1 y2 y3 y4) (bursarref04_written.l0 (k + 1) y0 y1 y2 y3 y4))
  | 0 => ⟨fun _ _ _ _ r h => by simp [bursarref04_written.j0] at h, fun _ _ _ _ r h => by simp [bursarref04_written.j1] at h, fun _ _ _ _ _ r h => by simp [bursarref04_written.l0] at h⟩
  | k + 1 => by
    obtain ⟨ih0, ih1, ih2⟩ := bursarref04_written.mono_l k
    refine ⟨?_, ?_, ?_⟩
    · intro y0 y1 y2 y3
      unfold bursarref04_written.j0
      repeat' first
      | (with_reducible exact ih0 _ _ _ _)
      | (with_reducible exact ih1 _ _ _ _)
      | (with_reducible exact ih2 _ _ _ _ _)
      | (with_reducible exact LeO.refl _)
      | (with_reducible exact LeO.none _)
      | (with_reducible refine LeO.ite ?_ ?_)
      | (with_reducible refine LeO.bind ?_ (fun _ => ?_))
      | exact ih0 _ _ _ _
      | exact ih1 _ _ _ _
      | exact ih2 _ _ _ _ _
      | exact LeO.none _
      | refine LeO.ite ?_ ?_
      | refine LeO.bind ?_ (fun _ => ?_)
    · intro y0 y1 y2 y3
      unfold bursarref04_written.j1
      repeat' first
      | (with_reducible exact ih0 _ _ _ _)
      | (with_reducible exact ih1 _ _ _ _)
      | (with_reducible exact ih2 _ _ _ _ _)
      | (with_reducible exact LeO.refl _)
      | (with_reducible exact LeO.none _)
      | (with_reducible refine LeO.ite ?_ ?_)
      | (with_reducible refine LeO.bind ?_ (fun _ => ?_))
      | exact ih0 _ _ _ _
      | exact ih1 _ _ _ _
      | exact ih2 _ _ _ _ _
      | exact LeO.none _
      | refine LeO.ite ?_ ?_
      | refine LeO.bind ?_ (fun _ => ?_)
    · intro y0 y1 y2 y3 y4
      unfold bursarref04_written.l0
      repeat' first
      | (with_reducible exact ih0 _ _ _ _)
      | (with_reducible exact ih1 _ _ _ _)
      | (with_reducible exact ih2 _ _ _ _ _)
      | (with_reducible exact LeO.refl _)
      | (with_reducible exact LeO.none _)
      | (with_reducible refine LeO.ite ?_ ?_)
      | (with_reducible refine LeO.bind ?_ (fun _ => ?_))
      | exact ih0 _ _ _ _
      | exact ih1 _ _ _ _
      | exact ih2 _ _ _ _ _
      | exact LeO.none _
      | refine LeO.ite ?_ ?_
      | refine LeO.bind ?_ (fun _ => ?_)
theorem bursarref04_written.mono : ∀ a0 a1 a2 k, LeO (bursarref04_written.f k a0 a1 a2) (bursarref04_written.f (k + 1) a0 a1 a2) := by
  intro a0 a1 a2 k
  obtain ⟨ih0, ih1, ih2⟩ := bursarref04_written.mono_l k
  unfold bursarref04_written.f
  repeat' first
      | (with_reducible exact ih0 _ _ _ _)
      | (with_reducible exact ih1 _ _ _ _)
      | (with_reducible exact ih2 _ _ _ _ _)
      | (with_reducible exact LeO.refl _)
      | (with_reducible exact LeO.none _)
      | (with_reducible refine LeO.ite ?_ ?_)
      | (with_reducible refine LeO.bind ?_ (fun _ => ?_))
      | exact ih0 _ _ _ _
      | exact ih1 _ _ _ _
      | exact ih2 _ _ _ _ _
      | exact LeO.none _
      | refine LeO.ite ?_ ?_
      | refine LeO.bind ?_ (fun _ => ?_)
set_option maxHeartbeats 8000000 in
set_option maxRecDepth 100000 in
theorem bursarref04_written.calls (k : Nat) (a0_0 : ByteArray) (a0_1 : Int) (A0_2 : Option Addr) (c0_2 : Nat) (l0_2 : List ByteArray) (r : ByteArray) (w : World) (hr0_2 : Kd.C Kd.string w A0_2 l0_2.length l0_2) (hc0_2 : l0_2.length ≤ c0_2) (h : bursarref04_written.f k a0_0 a0_1 l0_2 = some r) :
    Calls Tryd.prog 53 #[.agg #[.string a0_0, .int .i64 a0_1, .slice A0_2 l0_2.length c0_2]] w fun e w' => e = .returned (.string r) ∧ Below w.heap.size w w' := by
  have hu45 := Tryd.underlying45
  have HR0_2 := Aside0.mk hr0_2
  have HC0_2 := Aside0.mk hc0_2
  clear hr0_2 hc0_2
  have HB := Aside0.mk (Below.refl w.heap.size w)
  have H : (if a0_1 = 2 then (some a0_0) else (if a0_1 = 3 then (if 1 + a0_0.size ≤ 9223372036854775807 then (some ((⟨#[33]⟩ : ByteArray) ++ a0_0)) else (none)) else (if (l0_2.length : Int) = 1 then (bursarref04_written.j0 k (a0_1 == 0) a0_0 a0_1 l0_2) else (bursarref04_written.j0 k false a0_0 a0_1 l0_2)))) = some r := h
  clear h
  by_cases c2 : a0_1 = 2
  · rw [if_pos c2] at H
    have c2b0 : (a0_1 == 2) = true := beq_iff_eq.mpr c2
    have c2b1 : (a0_1 != 2) = false := bne_eq_false_iff_eq.mpr c2
    clear c2
    obtain rfl := Option.some.inj H
    go_enter Tryd.func53, Tryd.ntmps53
    go_wp2_with (first | ((with_reducible refine gate_dst (N := 1) rfl ?_); refine box_event ?hg (N := 1) ?hd (cs := #[.string a0_0, .int .i64 a0_1, .slice A0_2 l0_2.length c0_2]) (t := 45) ?hr ?_; (case hd => rfl); (case hg => rfl); (case hr => first | (go_simp; done) | (go_simp; rfl)); intro gb147 hg w3 hbox hb; have n0_ := Aside0.mk (below_step (by repeat (first | (with_reducible first | exact HB.out | apply below_alloc | apply pw_below_drewN | apply below_drew1) | exact HB.out)) hb); have n1_ := Aside0.mk (hbox); have n2_ := Aside0.mk ((by rw [hg]; exact (below_size (by repeat (first | (with_reducible first | exact HB.out | apply below_alloc | apply pw_below_drewN | apply below_drew1) | exact HB.out))) : w.heap.size ≤ gb147)); have n3_ := Aside0.mk ((by rw [hg]; exact (below_size (by repeat (first | (with_reducible first | exact HB.out | apply below_alloc | apply pw_below_drewN | apply below_drew1) | exact HB.out))) : w.heap.size ≤ gb147)); clear HB; have HB := n0_; have BK147 := n1_; have GW147 := n2_; have GE147 := n3_; clear n0_ n1_ n2_ n3_; clear hb hbox hg; have hcz4_0 : w3.cell? ⟨gb147, 0, none⟩ = some (.string a0_0) := (blk_cell BK147.out 0).trans rfl; have hcz4_1 : w3.cell? ⟨gb147, 1, none⟩ = some (.int .i64 a0_1) := (blk_cell BK147.out 1).trans rfl; have hcz4_2 : w3.cell? ⟨gb147, 2, none⟩ = some (.slice A0_2 l0_2.length c0_2) := (blk_cell BK147.out 2).trans rfl; have hfz4_0 := blk_frozen BK147.out 0; have hfz4_1 := blk_frozen BK147.out 1; have hfz4_2 := blk_frozen BK147.out 2))
    repeat (go_quiet (first | ((with_reducible refine gate_dst (N := 1) rfl ?_); refine box_event ?hg (N := 1) ?hd (cs := #[.string a0_0, .int .i64 a0_1, .slice A0_2 l0_2.length c0_2]) (t := 45) ?hr ?_; (case hd => rfl); (case hg => rfl); (case hr => first | (go_simp; done) | (go_simp; rfl)); intro gb147 hg w3 hbox hb; have n0_ := Aside0.mk (below_step (by repeat (first | (with_reducible first | exact HB.out | apply below_alloc | apply pw_below_drewN | apply below_drew1) | exact HB.out)) hb); have n1_ := Aside0.mk (hbox); have n2_ := Aside0.mk ((by rw [hg]; exact (below_size (by repeat (first | (with_reducible first | exact HB.out | apply below_alloc | apply pw_below_drewN | apply below_drew1) | exact HB.out))) : w.heap.size ≤ gb147)); have n3_ := Aside0.mk ((by rw [hg]; exact (below_size (by repeat (first | (with_reducible first | exact HB.out | apply below_alloc | apply pw_below_drewN | apply below_drew1) | exact HB.out))) : w.heap.size ≤ gb147)); clear HB; have HB := n0_; have BK147 := n1_; have GW147 := n2_; have GE147 := n3_; clear n0_ n1_ n2_ n3_; clear hb hbox hg; have hcz4_0 : w3.cell? ⟨gb147, 0, none⟩ = some (.string a0_0) := (blk_cell BK147.out 0).trans rfl; have hcz4_1 : w3.cell? ⟨gb147, 1, none⟩ = some (.int .i64 a0_1) := (blk_cell BK147.out 1).trans rfl; have hcz4_2 : w3.cell? ⟨gb147, 2, none⟩ = some (.slice A0_2 l0_2.length c0_2) := (blk_cell BK147.out 2).trans rfl; have hfz4_0 := blk_frozen BK147.out 0; have hfz4_1 := blk_frozen BK147.out 1; have hfz4_2 := blk_frozen BK147.out 2)); try go_wp2_with (first | ((with_reducible refine gate_dst (N := 1) rfl ?_); refine box_event ?hg (N := 1) ?hd (cs := #[.string a0_0, .int .i64 a0_1, .slice A0_2 l0_2.length c0_2]) (t := 45) ?hr ?_; (case hd => rfl); (case hg => rfl); (case hr => first | (go_simp; done) | (go_simp; rfl)); intro gb147 hg w3 hbox hb; have n0_ := Aside0.mk (below_step (by repeat (first | (with_reducible first | exact HB.out | apply below_alloc | apply pw_below_drewN | apply below_drew1) | exact HB.out)) hb); have n1_ := Aside0.mk (hbox); have n2_ := Aside0.mk ((by rw [hg]; exact (below_size (by repeat (first | (with_reducible first | exact HB.out | apply below_alloc | apply pw_below_drewN | apply below_drew1) | exact HB.out))) : w.heap.size ≤ gb147)); have n3_ := Aside0.mk ((by rw [hg]; exact (below_size (by repeat (first | (with_reducible first | exact HB.out | apply below_alloc | apply pw_below_drewN | apply below_drew1) | exact HB.out))) : w.heap.size ≤ gb147)); clear HB; have HB := n0_; have BK147 := n1_; have GW147 := n2_; have GE147 := n3_; clear n0_ n1_ n2_ n3_; clear hb hbox hg; have hcz4_0 : w3.cell? ⟨gb147, 0, none⟩ = some (.string a0_0) := (blk_cell BK147.out 0).trans rfl; have hcz4_1 : w3.cell? ⟨gb147, 1, none⟩ = some (.int .i64 a0_1) := (blk_cell BK147.out 1).trans rfl; have hcz4_2 : w3.cell? ⟨gb147, 2, none⟩ = some (.slice A0_2 l0_2.length c0_2) := (blk_cell BK147.out 2).trans rfl; have hfz4_0 := blk_frozen BK147.out 0; have hfz4_1 := blk_frozen BK147.out 1; have hfz4_2 := blk_frozen BK147.out 2)))
    go_ret
    exact ⟨by first | rfl | (simp [errW_none, errW_some] <;> rfl) | (simp [*, errW_none, errW_some] <;> rfl), by repeat (first | (with_reducible first | exact HB.out | apply below_alloc | apply pw_below_drewN | apply below_drew1 | refine below_set ?_ GE147.out) | exact HB.out)⟩
  · rw [if_neg c2] at H
    have c2b0 : (a0_1 == 2) = false := beq_eq_false_iff_ne.mpr c2
    have c2b1 : (a0_1 != 2) = true := bne_iff_ne.mpr c2
    by_cases c5 : a0_1 = 3
    · rw [if_pos c5] at H
      have c5b0 : (a0_1 == 3) = true := beq_iff_eq.mpr c5
      have c5b1 : (a0_1 != 3) = false := bne_eq_false_iff_eq.mpr c5
      clear c5
      by_cases c6 : 1 + a0_0.size ≤ 9223372036854775807
      · rw [if_pos c6] at H
        have c6b0 := eq_true c6
        have c6b1 : decide (1 + a0_0.size ≤ 9223372036854775807) = true := decide_eq_true c6
        try have c6b2 : (9223372036854775807 < 1 + a0_0.size) = False := eq_false (Nat.not_lt.2 c6)
        obtain rfl := Option.some.inj H
        go_enter Tryd.func53, Tryd.ntmps53
        go_wp2_with (first | ((with_reducible refine gate_dst (N := 1) rfl ?_); refine box_event ?hg (N := 1) ?hd (cs := #[.string a0_0, .int .i64 a0_1, .slice A0_2 l0_2.length c0_2]) (t := 45) ?hr ?_; (case hd => rfl); (case hg => rfl); (case hr => first | (go_simp; done) | (go_simp; rfl)); intro gb147 hg w7 hbox hb; have n0_ := Aside0.mk (below_step (by repeat (first | (with_reducible first | exact HB.out | apply below_alloc | apply pw_below_drewN | apply below_drew1) | exact HB.out)) hb); have n1_ := Aside0.mk (hbox); have n2_ := Aside0.mk ((by rw [hg]; exact (below_size (by repeat (first | (with_reducible first | exact HB.out | apply below_alloc | apply pw_below_drewN | apply below_drew1) | exact HB.out))) : w.heap.size ≤ gb147)); have n3_ := Aside0.mk ((by rw [hg]; exact (below_size (by repeat (first | (with_reducible first | exact HB.out | apply below_alloc | apply pw_below_drewN | apply below_drew1) | exact HB.out))) : w.heap.size ≤ gb147)); clear HB; have HB := n0_; have BK147 := n1_; have GW147 := n2_; have GE147 := n3_; clear n0_ n1_ n2_ n3_; clear hb hbox hg; have hcz8_0 : w7.cell? ⟨gb147, 0, none⟩ = some (.string a0_0) := (blk_cell BK147.out 0).trans rfl; have hcz8_1 : w7.cell? ⟨gb147, 1, none⟩ = some (.int .i64 a0_1) := (blk_cell BK147.out 1).trans rfl; have hcz8_2 : w7.cell? ⟨gb147, 2, none⟩ = some (.slice A0_2 l0_2.length c0_2) := (blk_cell BK147.out 2).trans rfl; have hfz8_0 := blk_frozen BK147.out 0; have hfz8_1 := blk_frozen BK147.out 1; have hfz8_2 := blk_frozen BK147.out 2))
        repeat (go_quiet (first | ((with_reducible refine gate_dst (N := 1) rfl ?_); refine box_event ?hg (N := 1) ?hd (cs := #[.string a0_0, .int .i64 a0_1, .slice A0_2 l0_2.length c0_2]) (t := 45) ?hr ?_; (case hd => rfl); (case hg => rfl); (case hr => first | (go_simp; done) | (go_simp; rfl)); intro gb147 hg w7 hbox hb; have n0_ := Aside0.mk (below_step (by repeat (first | (with_reducible first | exact HB.out | apply below_alloc | apply pw_below_drewN | apply below_drew1) | exact HB.out)) hb); have n1_ := Aside0.mk (hbox); have n2_ := Aside0.mk ((by rw [hg]; exact (below_size (by repeat (first | (with_reducible first | exact HB.out | apply below_alloc | apply pw_below_drewN | apply below_drew1) | exact HB.out))) : w.heap.size ≤ gb147)); have n3_ := Aside0.mk ((by rw [hg]; exact (below_size (by repeat (first | (with_reducible first | exact HB.out | apply below_alloc | apply pw_below_drewN | apply below_drew1) | exact HB.out))) : w.heap.size ≤ gb147)); clear HB; have HB := n0_; have BK147 := n1_; have GW147 := n2_; have GE147 := n3_; clear n0_ n1_ n2_ n3_; clear hb hbox hg; have hcz8_0 : w7.cell? ⟨gb147, 0, none⟩ = some (.string a0_0) := (blk_cell BK147.out 0).trans rfl; have hcz8_1 : w7.cell? ⟨gb147, 1, none⟩ = some (.int .i64 a0_1) := (blk_cell BK147.out 1).trans rfl; have hcz8_2 : w7.cell? ⟨gb147, 2, none⟩ = some (.slice A0_2 l0_2.length c0_2) := (blk_cell BK147.out 2).trans rfl; have hfz8_0 := blk_frozen BK147.out 0; have hfz8_1 := blk_frozen BK147.out 1; have hfz8_2 := blk_frozen BK147.out 2)); try go_wp2_with (first | ((with_reducible refine gate_dst (N := 1) rfl ?_); refine box_event ?hg (N := 1) ?hd (cs := #[.string a0_0, .int .i64 a0_1, .slice A0_2 l0_2.length c0_2]) (t := 45) ?hr ?_; (case hd => rfl); (case hg => rfl); (case hr => first | (go_simp; done) | (go_simp; rfl)); intro gb147 hg w7 hbox hb; have n0_ := Aside0.mk (below_step (by repeat (first | (with_reducible first | exact HB.out | apply below_alloc | apply pw_below_drewN | apply below_drew1) | exact HB.out)) hb); have n1_ := Aside0.mk (hbox); have n2_ := Aside0.mk ((by rw [hg]; exact (below_size (by repeat (first | (with_reducible first | exact HB.out | apply below_alloc | apply pw_below_drewN | apply below_drew1) | exact HB.out))) : w.heap.size ≤ gb147)); have n3_ := Aside0.mk ((by rw [hg]; exact (below_size (by repeat (first | (with_reducible first | exact HB.out | apply below_alloc | apply pw_below_drewN | apply below_drew1) | exact HB.out))) : w.heap.size ≤ gb147)); clear HB; have HB := n0_; have BK147 := n1_; have GW147 := n2_; have GE147 := n3_; clear n0_ n1_ n2_ n3_; clear hb hbox hg; have hcz8_0 : w7.cell? ⟨gb147, 0, none⟩ = some (.string a0_0) := (blk_cell BK147.out 0).trans rfl; have hcz8_1 : w7.cell? ⟨gb147, 1, none⟩ = some (.int .i64 a0_1) := (blk_cell BK147.out 1).trans rfl; have hcz8_2 : w7.cell? ⟨gb147, 2, none⟩ = some (.slice A0_2 l0_2.length c0_2) := (blk_cell BK147.out 2).trans rfl; have hfz8_0 := blk_frozen BK147.out 0; have hfz8_1 := blk_frozen BK147.out 1; have hfz8_2 := blk_frozen BK147.out 2)))
        go_ret
        exact ⟨by first | rfl | (simp [errW_none, errW_some] <;> rfl) | (simp [*, errW_none, errW_some] <;> rfl), by repeat (first | (with_reducible first | exact HB.out | apply below_alloc | apply pw_below_drewN | apply below_drew1 | refine below_set ?_ GE147.out) | exact HB.out)⟩
      · rw [if_neg c6] at H
        exact absurd H (by simp)
    · rw [if_neg c5] at H
      have c5b0 : (a0_1 == 3) = false := beq_eq_false_iff_ne.mpr c5
      have c5b1 : (a0_1 != 3) = true := bne_iff_ne.mpr c5
      have HC9 := Aside0.mk H
      clear H
      go_enter Tryd.func53, Tryd.ntmps53
      go_upto_region 5 with (first | ((with_reducible refine gate_dst (N := 1) rfl ?_); refine box_event ?hg (N := 1) ?hd (cs := #[.string a0_0, .int .i64 a0_1, .slice A0_2 l0_2.length c0_2]) (t := 45) ?hr ?_; (case hd => rfl); (case hg => rfl); (case hr => first | (go_simp; done) | (go_simp; rfl)); intro gb147 hg w10 hbox hb; have n0_ := Aside0.mk (below_step (by repeat (first | (with_reducible first | exact HB.out | apply below_alloc | apply pw_below_drewN | apply below_drew1) | exact HB.out)) hb); have n1_ := Aside0.mk (hbox); have n2_ := Aside0.mk ((by rw [hg]; exact (below_size (by repeat (first | (with_reducible first | exact HB.out | apply below_alloc | apply pw_below_drewN | apply below_drew1) | exact HB.out))) : w.heap.size ≤ gb147)); have n3_ := Aside0.mk ((by rw [hg]; exact (below_size (by repeat (first | (with_reducible first | exact HB.out | apply below_alloc | apply pw_below_drewN | apply below_drew1) | exact HB.out))) : w.heap.size ≤ gb147)); clear HB; have HB := n0_; have BK147 := n1_; have GW147 := n2_; have GE147 := n3_; clear n0_ n1_ n2_ n3_; clear hb hbox hg; have hcz11_0 : w10.cell? ⟨gb147, 0, none⟩ = some (.string a0_0) := (blk_cell BK147.out 0).trans rfl; have hcz11_1 : w10.cell? ⟨gb147, 1, none⟩ = some (.int .i64 a0_1) := (blk_cell BK147.out 1).trans rfl; have hcz11_2 : w10.cell? ⟨gb147, 2, none⟩ = some (.slice A0_2 l0_2.length c0_2) := (blk_cell BK147.out 2).trans rfl; have hfz11_0 := blk_frozen BK147.out 0; have hfz11_1 := blk_frozen BK147.out 1; have hfz11_2 := blk_frozen BK147.out 2))
      repeat (go_quiet (first | ((with_reducible refine gate_dst (N := 1) rfl ?_); refine box_event ?hg (N := 1) ?hd (cs := #[.string a0_0, .int .i64 a0_1, .slice A0_2 l0_2.length c0_2]) (t := 45) ?hr ?_; (case hd => rfl); (case hg => rfl); (case hr => first | (go_simp; done) | (go_simp; rfl)); intro gb147 hg w10 hbox hb; have n0_ := Aside0.mk (below_step (by repeat (first | (with_reducible first | exact HB.out | apply below_alloc | apply pw_below_drewN | apply below_drew1) | exact HB.out)) hb); have n1_ := Aside0.mk (hbox); have n2_ := Aside0.mk ((by rw [hg]; exact (below_size (by repeat (first | (with_reducible first | exact HB.out | apply below_alloc | apply pw_below_drewN | apply below_drew1) | exact HB.out))) : w.heap.size ≤ gb147)); have n3_ := Aside0.mk ((by rw [hg]; exact (below_size (by repeat (first | (with_reducible first | exact HB.out | apply below_alloc | apply pw_below_drewN | apply below_drew1) | exact HB.out))) : w.heap.size ≤ gb147)); clear HB; have HB := n0_; have BK147 := n1_; have GW147 := n2_; have GE147 := n3_; clear n0_ n1_ n2_ n3_; clear hb hbox hg; have hcz11_0 : w10.cell? ⟨gb147, 0, none⟩ = some (.string a0_0) := (blk_cell BK147.out 0).trans rfl; have hcz11_1 : w10.cell? ⟨gb147, 1, none⟩ = some (.int .i64 a0_1) := (blk_cell BK147.out 1).trans rfl; have hcz11_2 : w10.cell? ⟨gb147, 2, none⟩ = some (.slice A0_2 l0_2.length c0_2) := (blk_cell BK147.out 2).trans rfl; have hfz11_0 := blk_frozen BK147.out 0; have hfz11_1 := blk_frozen BK147.out 1; have hfz11_2 := blk_frozen BK147.out 2)); go_upto_region 5 with (first | ((with_reducible refine gate_dst (N := 1) rfl ?_); refine box_event ?hg (N := 1) ?hd (cs := #[.string a0_0, .int .i64 a0_1, .slice A0_2 l0_2.length c0_2]) (t := 45) ?hr ?_; (case hd => rfl); (case hg => rfl); (case hr => first | (go_simp; done) | (go_simp; rfl)); intro gb147 hg w10 hbox hb; have n0_ := Aside0.mk (below_step (by repeat (first | (with_reducible first | exact HB.out | apply below_alloc | apply pw_below_drewN | apply below_drew1) | exact HB.out)) hb); have n1_ := Aside0.mk (hbox); have n2_ := Aside0.mk ((by rw [hg]; exact (below_size (by repeat (first | (with_reducible first | exact HB.out | apply below_alloc | apply pw_below_drewN | apply below_drew1) | exact HB.out))) : w.heap.size ≤ gb147)); have n3_ := Aside0.mk ((by rw [hg]; exact (below_size (by repeat (first | (with_reducible first | exact HB.out | apply below_alloc | apply pw_below_drewN | apply below_drew1) | exact HB.out))) : w.heap.size ≤ gb147)); clear HB; have HB := n0_; have BK147 := n1_; have GW147 := n2_; have GE147 := n3_; clear n0_ n1_ n2_ n3_; clear hb hbox hg; have hcz11_0 : w10.cell? ⟨gb147, 0, none⟩ = some (.string a0_0) := (blk_cell BK147.out 0).trans rfl; have hcz11_1 : w10.cell? ⟨gb147, 1, none⟩ = some (.int .i64 a0_1) := (blk_cell BK147.out 1).trans rfl; have hcz11_2 : w10.cell? ⟨gb147, 2, none⟩ = some (.slice A0_2 l0_2.length c0_2) := (blk_cell BK147.out 2).trans rfl; have hfz11_0 := blk_frozen BK147.out 0; have hfz11_1 := blk_frozen BK147.out 1; have hfz11_2 := blk_frozen BK147.out 2)))
      (try simp only [Act.put, List.setIfInBounds_toArray, List.set_cons_zero, List.set_cons_succ])
      go_cut [18] (fun v18 wc => ∃ (kq : Nat) (x18_8 : Bool), v18 = .bool x18_8 ∧ Aside0 (bursarref04_written.j0 kq x18_8 a0_0 a0_1 l0_2 = some r) ∧ Aside0 (kq ≤ k) ∧ Aside0 (wc.heap[gb147]? = some (.cells #[.string a0_0, .int .i64 a0_1, (.slice A0_2 l0_2.length c0_2)] 45 (0, 0))) ∧ Aside0 (Below w.heap.size w wc))
      case first =>
        have H := HC9.out
        clear HC9
        by_cases c12 : (l0_2.length : Int) = 1
        · rw [if_pos c12] at H
          have c12b0 : ((l0_2.length : Int) == 1) = true := beq_iff_eq.mpr c12
          have c12b1 : ((l0_2.length : Int) != 1) = false := bne_eq_false_iff_eq.mpr c12
          clear c12
          (first | rw [c12b0] | (simp only [i64_w, i32_w]; rw [c12b0]) | skip)
          have H' := Aside0.mk H
          clear H
          have hcz13_0 : w10.cell? ⟨gb147, 0, none⟩ = some (.string a0_0) := (blk_cell BK147.out 0).trans rfl
          have hcz13_1 : w10.cell? ⟨gb147, 1, none⟩ = some (.int .i64 a0_1) := (blk_cell BK147.out 1).trans rfl
          have hcz13_2 : w10.cell? ⟨gb147, 2, none⟩ = some (.slice A0_2 l0_2.length c0_2) := (blk_cell BK147.out 2).trans rfl
          have hfz13_0 := blk_frozen BK147.out 0
          have hfz13_1 := blk_frozen BK147.out 1
          have hfz13_2 := blk_frozen BK147.out 2
          go_wp2
          repeat (go_quiet (fail); try go_wp2)
          go_meet
          case rel => exact ⟨_, ((a0_1 == 0)), (by first | rfl | (simp; done) | (simp [*]; done) | (simp; rw [Bool.eq_iff_iff]; simp; done) | (rw [Bool.eq_iff_iff]; simp; done)), H', ⟨by first | omega | exact Nat.le_refl _⟩, ⟨by (with_reducible repeat (first | refine blk_drewN ?_ _ | refine blk_drew ?_ | refine blk_alloc ?_ _)); exact BK147.out⟩, ⟨by repeat (first | (with_reducible first | exact HB.out | apply below_alloc | apply pw_below_drewN | apply below_drew1 | refine below_set ?_ GE147.out) | exact HB.out)⟩⟩
        · rw [if_neg c12] at H
          have c12b0 : ((l0_2.length : Int) == 1) = false := beq_eq_false_iff_ne.mpr c12
          have c12b1 : ((l0_2.length : Int) != 1) = true := bne_iff_ne.mpr c12
          (first | rw [c12b0] | (simp only [i64_w, i32_w]; rw [c12b0]) | skip)
          have H' := Aside0.mk H
          clear H
          have hcz14_0 : w10.cell? ⟨gb147, 0, none⟩ = some (.string a0_0) := (blk_cell BK147.out 0).trans rfl
          have hcz14_1 : w10.cell? ⟨gb147, 1, none⟩ = some (.int .i64 a0_1) := (blk_cell BK147.out 1).trans rfl
          have hcz14_2 : w10.cell? ⟨gb147, 2, none⟩ = some (.slice A0_2 l0_2.length c0_2) := (blk_cell BK147.out 2).trans rfl
          have hfz14_0 := blk_frozen BK147.out 0
          have hfz14_1 := blk_frozen BK147.out 1
          have hfz14_2 := blk_frozen BK147.out 2
          go_wp2
          repeat (go_quiet (fail); try go_wp2)
          go_meet
          case rel => exact ⟨_, (false), (by first | rfl | (simp; done) | (simp [*]; done) | (simp; rw [Bool.eq_iff_iff]; simp; done) | (rw [Bool.eq_iff_iff]; simp; done)), H', ⟨by first | omega | exact Nat.le_refl _⟩, ⟨by (with_reducible repeat (first | refine blk_drewN ?_ _ | refine blk_drew ?_ | refine blk_alloc ?_ _)); exact BK147.out⟩, ⟨by repeat (first | (with_reducible first | exact HB.out | apply below_alloc | apply pw_below_drewN | apply below_drew1 | refine below_set ?_ GE147.out) | exact HB.out)⟩⟩
      case rest =>
        clear HC9
        try clear c1
        try clear c2
        try clear c2b0
        try clear c2b1
        try clear p2
        try clear c5
        try clear c5b0
        try clear c5b1
        try clear c6
        try clear c6b0
        try clear c6b1
        try clear c6b2
        try clear c12
        try clear c12b0
        try clear c12b1
        try clear hcz11_0
        try clear hcz11_1
        try clear hcz11_2
        try clear hcz13_0
        try clear hcz13_1
        try clear hcz13_2
        try clear hcz14_0
        try clear hcz14_1
        try clear hcz14_2
        try clear hcz4_0
        try clear hcz4_1
        try clear hcz4_2
        try clear hcz8_0
        try clear hcz8_1
        try clear hcz8_2
        try clear hfz11_0
        try clear hfz11_1
        try clear hfz11_2
        try clear hfz13_0
        try clear hfz13_1
        try clear hfz13_2
        try clear hfz14_0
        try clear hfz14_1
        try clear hfz14_2
        try clear hfz4_0
        try clear hfz4_1
        try clear hfz4_2
        try clear hfz8_0
        try clear hfz8_1
        try clear hfz8_2
        obtain ⟨kq, x18_8, rfl, HA, HJ8, BK147, HB⟩ := hcut
        cases kq with
        | zero => exact absurd HA.out (by simp [bursarref04_written.j0])
        | succ kj8 =>
          have H := HA.out
          clear HA
          simp only [bursarref04_written.j0] at H
          by_cases c15 : x18_8 = true
          · subst c15
            have H1 : (if a0_0.size + 1 ≤ 9223372036854775807 then (if 0 < (l0_2.length : Int) then (if (a0_0 ++ (⟨#[61]⟩ : ByteArray)).size + (rdOf ByteArray.empty l0_2 0).size ≤ 9223372036854775807 then (some ((a0_0 ++ (⟨#[61]⟩ : ByteArray)) ++ (rdOf ByteArray.empty l0_2 0))) else (none)) else (none)) else (none)) = some r := by rw [if_pos rfl] at H; exact H
            clear H
            have H := H1
            clear H1
            by_cases c16 : a0_0.size + 1 ≤ 9223372036854775807
            · rw [if_pos c16] at H
              have c16b0 := eq_true c16
              have c16b1 : decide (a0_0.size + 1 ≤ 9223372036854775807) = true := decide_eq_true c16
              try have c16b2 : (9223372036854775807 < a0_0.size + 1) = False := eq_false (Nat.not_lt.2 c16)
              by_cases c17 : 0 < (l0_2.length : Int)
              · rw [if_pos c17] at H
                have c17b0 : decide (0 < (l0_2.length : Int)) = true := decide_eq_true c17
                have c17b1 : decide (0 < l0_2.length) = true := decide_eq_true (by omega)
                clear c17
                by_cases c18 : (a0_0 ++ (⟨#[61]⟩ : ByteArray)).size + (rdOf ByteArray.empty l0_2 0).size ≤ 9223372036854775807
                · rw [if_pos c18] at H
                  have c18b0 := eq_true c18
                  have c18b1 : decide ((a0_0 ++ (⟨#[61]⟩ : ByteArray)).size + (rdOf ByteArray.empty l0_2 0).size ≤ 9223372036854775807) = true := decide_eq_true c18
                  try have c18b2 : (9223372036854775807 < (a0_0 ++ (⟨#[61]⟩ : ByteArray)).size + (rdOf ByteArray.empty l0_2 0).size) = False := eq_false (Nat.not_lt.2 c18)
                  try have c18b3 : (9223372036854775807 < a0_0.size + 1 + (rdOf ByteArray.empty l0_2 0).size) = False := eq_false (Nat.not_lt.2 (by have h_ := c18; simp only [ByteArray.size_append] at h_; exact h_))
                  obtain rfl := Option.some.inj H
                  have hcz19_0 : wc.cell? ⟨gb147, 0, none⟩ = some (.string a0_0) := (blk_cell BK147.out 0).trans rfl
                  have hcz19_1 : wc.cell? ⟨gb147, 1, none⟩ = some (.int .i64 a0_1) := (blk_cell BK147.out 1).trans rfl
                  have hcz19_2 : wc.cell? ⟨gb147, 2, none⟩ = some (.slice A0_2 l0_2.length c0_2) := (blk_cell BK147.out 2).trans rfl
                  have hfz19_0 := blk_frozen BK147.out 0
                  have hfz19_1 := blk_frozen BK147.out 1
                  have hfz19_2 := blk_frozen BK147.out 2
                  have p148 : 0 ≤ (0 : Int) := (by omega)
                  have q148 : 0 < (l0_2.length : Int) := of_decide_eq_true (by first | (with_reducible assumption) | assumption)
                  obtain ⟨ad148, e148, hx148_0⟩ := Kd.at_string HR0_2.out 0 p148 q148
                  cases e148
                  have qi148 : (0 < l0_2.length) = True := eq_true (by omega)
                  (try rw [show ((0 : Int)).toNat = 0 from rfl] at hx148_0)
                  (try rw [Addr.add_zero'] at hx148_0)
                  replace hx148_0 := (HB.out.cell (World.block_lt_of_cell? w _ hx148_0)).trans hx148_0
                  replace p148 := eq_true p148
                  replace q148 := eq_true q148
                  go_wp2
                  repeat (go_quiet (fail); try go_wp2)
                  go_ret
                  exact ⟨by first | rfl | (simp [errW_none, errW_some] <;> rfl) | (simp [*, errW_none, errW_some] <;> rfl), by repeat (first | (with_reducible first | exact HB.out | apply below_alloc | apply pw_below_drewN | apply below_drew1 | refine below_set ?_ GE147.out) | exact HB.out)⟩
                · rw [if_neg c18] at H
                  exact absurd H (by simp)
              · rw [if_neg c17] at H
                exact absurd H (by simp)
            · rw [if_neg c16] at H
              exact absurd H (by simp)
          · replace c15 := Bool.eq_false_iff.mpr c15
            subst c15
            have H1 : (if (l0_2.length : Int) = 1 then (if a0_0.size + 2 ≤ 9223372036854775807 then (if 0 < (l0_2.length : Int) then (if (a0_0 ++ (⟨#[33, 61]⟩ : ByteArray)).size + (rdOf ByteArray.empty l0_2 0).size ≤ 9223372036854775807 then (some ((a0_0 ++ (⟨#[33, 61]⟩ : ByteArray)) ++ (rdOf ByteArray.empty l0_2 0))) else (none)) else (none)) else (none)) else (if a0_0.size + 5 ≤ 9223372036854775807 then (if a0_1 = 1 then (if a0_0.size + 8 ≤ 9223372036854775807 then (bursarref04_written.j1 kj8 (a0_0 ++ (⟨#[32, 110, 111, 116, 105, 110, 32, 40]⟩ : ByteArray)) a0_0 a0_1 l0_2) else (none)) else (bursarref04_written.j1 kj8 (a0_0 ++ (⟨#[32, 105, 110, 32, 40]⟩ : ByteArray)) a0_0 a0_1 l0_2)) else (none))) = some r := by rw [if_neg (show ¬ (false = true) by decide)] at H; exact H
            clear H
            have H := H1
            clear H1
            by_cases c20 : (l0_2.length : Int) = 1
            · rw [if_pos c20] at H
              have c20b0 : ((l0_2.length : Int) == 1) = true := beq_iff_eq.mpr c20
              have c20b1 : ((l0_2.length : Int) != 1) = false := bne_eq_false_iff_eq.mpr c20
              clear c20
              by_cases c21 : a0_0.size + 2 ≤ 9223372036854775807
              · rw [if_pos c21] at H
                have c21b0 := eq_true c21
                have c21b1 : decide (a0_0.size + 2 ≤ 9223372036854775807) = true := decide_eq_true c21
                try have c21b2 : (9223372036854775807 < a0_0.size + 2) = False := eq_false (Nat.not_lt.2 c21)
                by_cases c22 : 0 < (l0_2.length : Int)
                · rw [if_pos c22] at H
                  have c22b0 : decide (0 < (l0_2.length : Int)) = true := decide_eq_true c22
                  have c22b1 : decide (0 < l0_2.length) = true := decide_eq_true (by omega)
                  clear c22
                  by_cases c23 : (a0_0 ++ (⟨#[33, 61]⟩ : ByteArray)).size + (rdOf ByteArray.empty l0_2 0).size ≤ 9223372036854775807
                  · rw [if_pos c23] at H
                    have c23b0 := eq_true c23
                    have c23b1 : decide ((a0_0 ++ (⟨#[33, 61]⟩ : ByteArray)).size + (rdOf ByteArray.empty l0_2 0).size ≤ 9223372036854775807) = true := decide_eq_true c23
                    try have c23b2 : (9223372036854775807 < (a0_0 ++ (⟨#[33, 61]⟩ : ByteArray)).size + (rdOf ByteArray.empty l0_2 0).size) = False := eq_false (Nat.not_lt.2 c23)
                    try have c23b3 : (9223372036854775807 < a0_0.size + 2 + (rdOf ByteArray.empty l0_2 0).size) = False := eq_false (Nat.not_lt.2 (by have h_ := c23; simp only [ByteArray.size_append] at h_; exact h_))
                    obtain rfl := Option.some.inj H
                    have hcz24_0 : wc.cell? ⟨gb147, 0, none⟩ = some (.string a0_0) := (blk_cell BK147.out 0).trans rfl
                    have hcz24_1 : wc.cell? ⟨gb147, 1, none⟩ = some (.int .i64 a0_1) := (blk_cell BK147.out 1).trans rfl
                    have hcz24_2 : wc.cell? ⟨gb147, 2, none⟩ = some (.slice A0_2 l0_2.length c0_2) := (blk_cell BK147.out 2).trans rfl
                    have hfz24_0 := blk_frozen BK147.out 0
                    have hfz24_1 := blk_frozen BK147.out 1
                    have hfz24_2 := blk_frozen BK147.out 2
                    have p149 : 0 ≤ (0 : Int) := (by omega)
                    have q149 : 0 < (l0_2.length : Int) := of_decide_eq_true (by first | (with_reducible assumption) | assumption)
                    obtain ⟨ad149, e149, hx149_0⟩ := Kd.at_string HR0_2.out 0 p149 q149
                    cases e149
                    have qi149 : (0 < l0_2.length) = True := eq_true (by omega)
                    (try rw [show ((0 : Int)).toNat = 0 from rfl] at hx149_0)
                    (try rw [Addr.add_zero'] at hx149_0)
                    replace hx149_0 := (HB.out.cell (World.block_lt_of_cell? w _ hx149_0)).trans hx149_0
                    replace p149 := eq_true p149
                    replace q149 := eq_true q149
                    go_wp2
                    repeat (go_quiet (fail); try go_wp2)
                    go_ret
                    exact ⟨by first | rfl | (simp [errW_none, errW_some] <;> rfl) | (simp [*, errW_none, errW_some] <;> rfl), by repeat (first | (with_reducible first | exact HB.out | apply below_alloc | apply pw_below_drewN | apply below_drew1 | refine below_set ?_ GE147.out) | exact HB.out)⟩
                  · rw [if_neg c23] at H
                    exact absurd H (by simp)
                · rw [if_neg c22] at H
                  exact absurd H (by simp)
              · rw [if_neg c21] at H
                exact absurd H (by simp)
            · rw [if_neg c20] at H
              have c20b0 : ((l0_2.length : Int) == 1) = false := beq_eq_false_iff_ne.mpr c20
              have c20b1 : ((l0_2.length : Int) != 1) = true := bne_iff_ne.mpr c20
              by_cases c25 : a0_0.size + 5 ≤ 9223372036854775807
              · rw [if_pos c25] at H
                have c25b0 := eq_true c25
                have c25b1 : decide (a0_0.size + 5 ≤ 9223372036854775807) = true := decide_eq_true c25
                try have c25b2 : (9223372036854775807 < a0_0.size + 5) = False := eq_false (Nat.not_lt.2 c25)
                have HC26 := Aside0.mk H
                clear H
                have hcz27_0 : wc.cell? ⟨gb147, 0, none⟩ = some (.string a0_0) := (blk_cell BK147.out 0).trans rfl
                have hcz27_1 : wc.cell? ⟨gb147, 1, none⟩ = some (.int .i64 a0_1) := (blk_cell BK147.out 1).trans rfl
                have hcz27_2 : wc.cell? ⟨gb147, 2, none⟩ = some (.slice A0_2 l0_2.length c0_2) := (blk_cell BK147.out 2).trans rfl
                have hfz27_0 := blk_frozen BK147.out 0
                have hfz27_1 := blk_frozen BK147.out 1
                have hfz27_2 := blk_frozen BK147.out 2
                go_upto_if 54 with (fail)
                repeat (go_quiet (fail); go_upto_if 54 with (fail))
                go_cut [3] (fun v3 wc => ∃ (kq : Nat) (x3_25 : ByteArray), v3 = .string x3_25 ∧ Aside0 (bursarref04_written.j1 kq x3_25 a0_0 a0_1 l0_2 = some r) ∧ Aside0 (kq ≤ kj8) ∧ Aside0 (wc.heap[gb147]? = some (.cells #[.string a0_0, .int .i64 a0_1, (.slice A0_2 l0_2.length c0_2)] 45 (0, 0))) ∧ Aside0 (Below w.heap.size w wc))
                case first =>
                  have H := HC26.out
                  clear HC26
                  by_cases c28 : a0_1 = 1
                  · rw [if_pos c28] at H
                    have c28b0 : (a0_1 == 1) = true := beq_iff_eq.mpr c28
                    have c28b1 : (a0_1 != 1) = false := bne_eq_false_iff_eq.mpr c28
                    clear c28
                    (first | rw [c28b0] | (simp only [i64_w, i32_w]; rw [c28b0]) | skip)
                    by_cases c29 : a0_0.size + 8 ≤ 9223372036854775807
                    · rw [if_pos c29] at H
                      have c29b0 := eq_true c29
                      have c29b1 : decide (a0_0.size + 8 ≤ 9223372036854775807) = true := decide_eq_true c29
                      try have c29b2 : (9223372036854775807 < a0_0.size + 8) = False := eq_false (Nat.not_lt.2 c29)
                      have H' := Aside0.mk H
                      clear H
                      have hcz30_0 : wc.cell? ⟨gb147, 0, none⟩ = some (.string a0_0) := (blk_cell BK147.out 0).trans rfl
                      have hcz30_1 : wc.cell? ⟨gb147, 1, none⟩ = some (.int .i64 a0_1) := (blk_cell BK147.out 1).trans rfl
                      have hcz30_2 : wc.cell? ⟨gb147, 2, none⟩ = some (.slice A0_2 l0_2.length c0_2) := (blk_cell BK147.out 2).trans rfl
                      have hfz30_0 := blk_frozen BK147.out 0
                      have hfz30_1 := blk_frozen BK147.out 1
                      have hfz30_2 := blk_frozen BK147.out 2
                      go_wp2
                      repeat (go_quiet (fail); try go_wp2)
                      go_meet
                      case rel => exact ⟨_, (a0_0 ++ (⟨#[32, 110, 111, 116, 105, 110, 32, 40]⟩ : ByteArray)), (by first | rfl | (simp; done) | (simp [*]; done) | (simp; rw [Bool.eq_iff_iff]; simp; done) | (rw [Bool.eq_iff_iff]; simp; done)), H', ⟨by have := HJ8.out; first | omega | exact Nat.le_refl _⟩, ⟨by (with_reducible repeat (first | refine blk_drewN ?_ _ | refine blk_drew ?_ | refine blk_alloc ?_ _)); exact BK147.out⟩, ⟨by repeat (first | (with_reducible first | exact HB.out | apply below_alloc | apply pw_below_drewN | apply below_drew1 | refine below_set ?_ GE147.out) | exact HB.out)⟩⟩
                    · rw [if_neg c29] at H
                      exact absurd H (by simp)
                  · rw [if_neg c28] at H
                    have c28b0 : (a0_1 == 1) = false := beq_eq_false_iff_ne.mpr c28
                    have c28b1 : (a0_1 != 1) = true := bne_iff_ne.mpr c28
                    (first | rw [c28b0] | (simp only [i64_w, i32_w]; rw [c28b0]) | skip)
                    have H' := Aside0.mk H
                    clear H
                    go_wp2
                    repeat (go_quiet (fail); try go_wp2)
                    go_meet
                    case rel => exact ⟨_, (a0_0 ++ (⟨#[32, 105, 110, 32, 40]⟩ : ByteArray)), (by first | rfl | (simp; done) | (simp [*]; done) | (simp; rw [Bool.eq_iff_iff]; simp; done) | (rw [Bool.eq_iff_iff]; simp; done)), H', ⟨by have := HJ8.out; first | omega | exact Nat.le_refl _⟩, ⟨by (with_reducible repeat (first | refine blk_drewN ?_ _ | refine blk_drew ?_ | refine blk_alloc ?_ _)); exact BK147.out⟩, ⟨by repeat (first | (with_reducible first | exact HB.out | apply below_alloc | apply pw_below_drewN | apply below_drew1 | refine below_set ?_ GE147.out) | exact HB.out)⟩⟩
                case rest =>
                  clear HC26
                  try clear c1
                  try clear p1
                  try clear q1
                  try clear hx1
                  try clear qi1
                  try clear c2
                  try clear c2b0
                  try clear c2b1
                  try clear p2
                  try clear c5
                  try clear c5b0
                  try clear c5b1
                  try clear c6
                  try clear c6b0
                  try clear c6b1
                  try clear c6b2
                  try clear c12
                  try clear c12b0
                  try clear c12b1
                  try clear p14
                  try clear q14
                  try clear hx14
                  try clear qi14
                  try clear c15
                  try clear c16
                  try clear c16b0
                  try clear c16b1
                  try clear c16b2
                  try clear c17
                  try clear c17b0
                  try clear c17b1
                  try clear c18
                  try clear c18b0
                  try clear c18b1
                  try clear c18b2
                  try clear c20
                  try clear c20b0
                  try clear c20b1
                  try clear c21
                  try clear c21b0
                  try clear c21b1
                  try clear c21b2
                  try clear c22
                  try clear c22b0
                  try clear c22b1
                  try clear c23
                  try clear c23b0
                  try clear c23b1
                  try clear c23b2
                  try clear c25
                  try clear c25b0
                  try clear c25b1
                  try clear c25b2
                  try clear c28
                  try clear c28b0
                  try clear c28b1
                  try clear c29
                  try clear c29b0
                  try clear c29b1
                  try clear c29b2
                  try clear hcz11_0
                  try clear hcz11_1
                  try clear hcz11_2
                  try clear hcz13_0
                  try clear hcz13_1
                  try clear hcz13_2
                  try clear hcz14_0
                  try clear hcz14_1
                  try clear hcz14_2
                  try clear hcz19_0
                  try clear hcz19_1
                  try clear hcz19_2
                  try clear hcz24_0
                  try clear hcz24_1
                  try clear hcz24_2
                  try clear hcz27_0
                  try clear hcz27_1
                  try clear hcz27_2
                  try clear hcz30_0
                  try clear hcz30_1
                  try clear hcz30_2
                  try clear hcz4_0
                  try clear hcz4_1
                  try clear hcz4_2
                  try clear hcz8_0
                  try clear hcz8_1
                  try clear hcz8_2
                  try clear hfz11_0
                  try clear hfz11_1
                  try clear hfz11_2
                  try clear hfz13_0
                  try clear hfz13_1
                  try clear hfz13_2
                  try clear hfz14_0
                  try clear hfz14_1
                  try clear hfz14_2
                  try clear hfz19_0
                  try clear hfz19_1
                  try clear hfz19_2
                  try clear hfz24_0
                  try clear hfz24_1
                  try clear hfz24_2
                  try clear hfz27_0
                  try clear hfz27_1
                  try clear hfz27_2
                  try clear hfz30_0
                  try clear hfz30_1
                  try clear hfz30_2
                  try clear hfz4_0
                  try clear hfz4_1
                  try clear hfz4_2
                  try clear hfz8_0
                  try clear hfz8_1
                  try clear hfz8_2
                  try clear hx148_0
                  try clear hx149_0
                  try clear p148
                  try clear p149
                  try clear p2
                  try clear q148
                  try clear q149
                  obtain ⟨kq, x3_25, rfl, HA, HJ25, BK147, HB⟩ := hcut
                  cases kq with
                  | zero => exact absurd HA.out (by simp [bursarref04_written.j1])
                  | succ kj25 =>
                    have H := HA.out
                    clear HA
                    simp only [bursarref04_written.j1] at H
                    have H' := Aside0.mk H
                    clear H
                    go_wp2
                    repeat (go_quiet (fail); try go_wp2)
                    go_loopg [3, 4] kj25 (fun kq v3 v4 w' => ∃ (x3_3 : ByteArray) (x4_3 : Int), v3 = .string x3_3 ∧ v4 = .int .i64 x4_3 ∧ Aside0 (bursarref04_written.l0 kq x3_3 x4_3 a0_0 a0_1 l0_2 = some r) ∧ Aside0 (kq ≤ kj25) ∧ Aside0 (w'.heap[gb147]? = some (.cells #[.string a0_0, .int .i64 a0_1, (.slice A0_2 l0_2.length c0_2)] 45 (0, 0))) ∧ Aside0 (Below w.heap.size w w'))
                    case atStart => exact ⟨(x3_25), (0), (by first | rfl | (simp; done) | (simp [*]; done) | (simp; rw [Bool.eq_iff_iff]; simp; done) | (rw [Bool.eq_iff_iff]; simp; done)), (by first | rfl | (simp; done) | (simp [*]; done) | (simp; rw [Bool.eq_iff_iff]; simp; done) | (rw [Bool.eq_iff_iff]; simp; done)), H', ⟨Nat.le_refl _⟩, ⟨by (with_reducible repeat (first | refine blk_drewN ?_ _ | refine blk_drew ?_ | refine blk_alloc ?_ _)); exact BK147.out⟩, ⟨by repeat (first | (with_reducible first | exact HB.out | apply below_alloc | apply pw_below_drewN | apply below_drew1 | refine below_set ?_ GE147.out) | exact HB.out)⟩⟩
                    case round =>
                      clear H'
                      try clear c1
                      try clear p1
                      try clear q1
                      try clear hx1
                      try clear qi1
                      try clear c2
                      try clear c2b0
                      try clear c2b1
                      try clear p2
                      try clear c5
                      try clear c5b0
                      try clear c5b1
                      try clear c6
                      try clear c6b0
                      try clear c6b1
                      try clear c6b2
                      try clear c12
                      try clear c12b0
                      try clear c12b1
                      try clear p14
                      try clear q14
                      try clear hx14
                      try clear qi14
                      try clear c15
                      try clear c16
                      try clear c16b0
                      try clear c16b1
                      try clear c16b2
                      try clear c17
                      try clear c17b0
                      try clear c17b1
                      try clear c18
                      try clear c18b0
                      try clear c18b1
                      try clear c18b2
                      try clear c20
                      try clear c20b0
                      try clear c20b1
                      try clear c21
                      try clear c21b0
                      try clear c21b1
                      try clear c21b2
                      try clear c22
                      try clear c22b0
                      try clear c22b1
                      try clear c23
                      try clear c23b0
                      try clear c23b1
                      try clear c23b2
                      try clear c25
                      try clear c25b0
                      try clear c25b1
                      try clear c25b2
                      try clear c28
                      try clear c28b0
                      try clear c28b1
                      try clear c29
                      try clear c29b0
                      try clear c29b1
                      try clear c29b2
                      try clear hcz11_0
                      try clear hcz11_1
                      try clear hcz11_2
                      try clear hcz13_0
                      try clear hcz13_1
                      try clear hcz13_2
                      try clear hcz14_0
                      try clear hcz14_1
                      try clear hcz14_2
                      try clear hcz19_0
                      try clear hcz19_1
                      try clear hcz19_2
                      try clear hcz24_0
                      try clear hcz24_1
                      try clear hcz24_2
                      try clear hcz27_0
                      try clear hcz27_1
                      try clear hcz27_2
                      try clear hcz30_0
                      try clear hcz30_1
                      try clear hcz30_2
                      try clear hcz4_0
                      try clear hcz4_1
                      try clear hcz4_2
                      try clear hcz8_0
                      try clear hcz8_1
                      try clear hcz8_2
                      try clear hfz11_0
                      try clear hfz11_1
                      try clear hfz11_2
                      try clear hfz13_0
                      try clear hfz13_1
                      try clear hfz13_2
                      try clear hfz14_0
                      try clear hfz14_1
                      try clear hfz14_2
                      try clear hfz19_0
                      try clear hfz19_1
                      try clear hfz19_2
                      try clear hfz24_0
                      try clear hfz24_1
                      try clear hfz24_2
                      try clear hfz27_0
                      try clear hfz27_1
                      try clear hfz27_2
                      try clear hfz30_0
                      try clear hfz30_1
                      try clear hfz30_2
                      try clear hfz4_0
                      try clear hfz4_1
                      try clear hfz4_2
                      try clear hfz8_0
                      try clear hfz8_1
                      try clear hfz8_2
                      try clear hx148_0
                      try clear hx149_0
                      try clear p1
                      try clear p14
                      try clear p148
                      try clear p149
                      try clear p2
                      try clear q1
                      try clear q14
                      try clear q148
                      try clear q149
                      obtain ⟨x3_3, x4_3, rfl, rfl, HA, HK3, BK147, HB⟩ := hrel
                      cases gk with
                      | zero => exact absurd HA.out (by simp [bursarref04_written.l0])
                      | succ k3 =>
                        have H := HA.out
                        clear HA
                        simp only [bursarref04_written.l0] at H
                        by_cases c31 : x4_3 < (l0_2.length : Int)
                        · rw [if_pos c31] at H
                          have c31b0 : decide (x4_3 < (l0_2.length : Int)) = true := decide_eq_true c31
                          clear c31
                          by_cases c32 : x4_3 > 0
                          · rw [if_pos c32] at H
                            have c32b0 : decide (0 < x4_3) = true := decide_eq_true c32
                            clear c32
                            by_cases c33 : x3_3.size + 1 ≤ 9223372036854775807
                            · rw [if_pos c33] at H
                              have c33b0 := eq_true c33
                              have c33b1 : decide (x3_3.size + 1 ≤ 9223372036854775807) = true := decide_eq_true c33
                              try have c33b2 : (9223372036854775807 < x3_3.size + 1) = False := eq_false (Nat.not_lt.2 c33)
                              by_cases c34 : 0 ≤ x4_3
                              · rw [if_pos c34] at H
                                have c34b0 : decide (0 ≤ x4_3) = true := decide_eq_true c34
                                clear c34
                                by_cases c35 : (x3_3 ++ (⟨#[32]⟩ : ByteArray)).size + (rdOf ByteArray.empty l0_2 x4_3).size ≤ 9223372036854775807
                                · rw [if_pos c35] at H
                                  have c35b0 := eq_true c35
                                  have c35b1 : decide ((x3_3 ++ (⟨#[32]⟩ : ByteArray)).size + (rdOf ByteArray.empty l0_2 x4_3).size ≤ 9223372036854775807) = true := decide_eq_true c35
                                  try have c35b2 : (9223372036854775807 < (x3_3 ++ (⟨#[32]⟩ : ByteArray)).size + (rdOf ByteArray.empty l0_2 x4_3).size) = False := eq_false (Nat.not_lt.2 c35)
                                  try have c35b3 : (9223372036854775807 < x3_3.size + 1 + (rdOf ByteArray.empty l0_2 x4_3).size) = False := eq_false (Nat.not_lt.2 (by have h_ := c35; simp only [ByteArray.size_append] at h_; exact h_))
                                  have H' := Aside0.mk H
                                  clear H
                                  have hcz36_0 : wr.cell? ⟨gb147, 0, none⟩ = some (.string a0_0) := (blk_cell BK147.out 0).trans rfl
                                  have hcz36_1 : wr.cell? ⟨gb147, 1, none⟩ = some (.int .i64 a0_1) := (blk_cell BK147.out 1).trans rfl
                                  have hcz36_2 : wr.cell? ⟨gb147, 2, none⟩ = some (.slice A0_2 l0_2.length c0_2) := (blk_cell BK147.out 2).trans rfl
                                  have hfz36_0 := blk_frozen BK147.out 0
                                  have hfz36_1 := blk_frozen BK147.out 1
                                  have hfz36_2 := blk_frozen BK147.out 2
                                  have p150 : 0 ≤ (x4_3 : Int) := of_decide_eq_true (by first | (with_reducible assumption) | assumption)
                                  have q150 : x4_3 < (l0_2.length : Int) := of_decide_eq_true (by first | (with_reducible assumption) | assumption)
                                  obtain ⟨ad150, e150, hx150_0⟩ := Kd.at_string HR0_2.out x4_3 p150 q150
                                  cases e150
                                  replace hx150_0 := (HB.out.cell (World.block_lt_of_cell? w _ hx150_0)).trans hx150_0
                                  replace p150 := eq_true p150
                                  replace q150 := eq_true q150
                                  go_wp2
                                  repeat (go_quiet (fail); try go_wp2)
                                  go_roundg k3
                                  case measure => have := HJ8.out; have := HJ25.out; have := HK3.out; omega
                                  case rel => exact ⟨((x3_3 ++ (⟨#[32]⟩ : ByteArray)) ++ (rdOf ByteArray.empty l0_2 x4_3)), (wrap64 (x4_3 + 1)), (by first | rfl | (simp; done) | (simp [*]; done) | (simp; rw [Bool.eq_iff_iff]; simp; done) | (rw [Bool.eq_iff_iff]; simp; done)), (by first | rfl | (simp; done) | (simp [*]; done) | (simp; rw [Bool.eq_iff_iff]; simp; done) | (rw [Bool.eq_iff_iff]; simp; done)), H', ⟨by have := HJ8.out; have := HJ25.out; have := HK3.out; omega⟩, ⟨by (with_reducible repeat (first | refine blk_drewN ?_ _ | refine blk_drew ?_ | refine blk_alloc ?_ _)); exact BK147.out⟩, ⟨by repeat (first | (with_reducible first | exact HB.out | apply below_alloc | apply pw_below_drewN | apply below_drew1 | refine below_set ?_ GE147.out) | exact HB.out)⟩⟩
                                · rw [if_neg c35] at H
                                  exact absurd H (by simp)
                              · rw [if_neg c34] at H
                                exact absurd H (by simp)
                            · rw [if_neg c33] at H
                              exact absurd H (by simp)
                          · rw [if_neg c32] at H
                            have c32b0 : decide (0 < x4_3) = false := decide_eq_false c32
                            clear c32
                            by_cases c37 : 0 ≤ x4_3
                            · rw [if_pos c37] at H
                              have c37b0 : decide (0 ≤ x4_3) = true := decide_eq_true c37
                              clear c37
                              by_cases c38 : x3_3.size + (rdOf ByteArray.empty l0_2 x4_3).size ≤ 9223372036854775807
                              · rw [if_pos c38] at H
                                have c38b0 := eq_true c38
                                have c38b1 : decide (x3_3.size + (rdOf ByteArray.empty l0_2 x4_3).size ≤ 9223372036854775807) = true := decide_eq_true c38
                                try have c38b2 : (9223372036854775807 < x3_3.size + (rdOf ByteArray.empty l0_2 x4_3).size) = False := eq_false (Nat.not_lt.2 c38)
                                have H' := Aside0.mk H
                                clear H
                                have hcz39_0 : wr.cell? ⟨gb147, 0, none⟩ = some (.string a0_0) := (blk_cell BK147.out 0).trans rfl
                                have hcz39_1 : wr.cell? ⟨gb147, 1, none⟩ = some (.int .i64 a0_1) := (blk_cell BK147.out 1).trans rfl
                                have hcz39_2 : wr.cell? ⟨gb147, 2, none⟩ = some (.slice A0_2 l0_2.length c0_2) := (blk_cell BK147.out 2).trans rfl
                                have hfz39_0 := blk_frozen BK147.out 0
                                have hfz39_1 := blk_frozen BK147.out 1
                                have hfz39_2 := blk_frozen BK147.out 2
                                have p151 : 0 ≤ (x4_3 : Int) := of_decide_eq_true (by first | (with_reducible assumption) | assumption)
                                have q151 : x4_3 < (l0_2.length : Int) := of_decide_eq_true (by first | (with_reducible assumption) | assumption)
                                obtain ⟨ad151, e151, hx151_0⟩ := Kd.at_string HR0_2.out x4_3 p151 q151
                                cases e151
                                replace hx151_0 := (HB.out.cell (World.block_lt_of_cell? w _ hx151_0)).trans hx151_0
                                replace p151 := eq_true p151
                                replace q151 := eq_true q151
                                go_wp2
                                repeat (go_quiet (fail); try go_wp2)
                                go_roundg k3
                                case measure => have := HJ8.out; have := HJ25.out; have := HK3.out; omega
                                case rel => exact ⟨(x3_3 ++ (rdOf ByteArray.empty l0_2 x4_3)), (wrap64 (x4_3 + 1)), (by first | rfl | (simp; done) | (simp [*]; done) | (simp; rw [Bool.eq_iff_iff]; simp; done) | (rw [Bool.eq_iff_iff]; simp; done)), (by first | rfl | (simp; done) | (simp [*]; done) | (simp; rw [Bool.eq_iff_iff]; simp; done) | (rw [Bool.eq_iff_iff]; simp; done)), H', ⟨by have := HJ8.out; have := HJ25.out; have := HK3.out; omega⟩, ⟨by (with_reducible repeat (first | refine blk_drewN ?_ _ | refine blk_drew ?_ | refine blk_alloc ?_ _)); exact BK147.out⟩, ⟨by repeat (first | (with_reducible first | exact HB.out | apply below_alloc | apply pw_below_drewN | apply below_drew1 | refine below_set ?_ GE147.out) | exact HB.out)⟩⟩
                              · rw [if_neg c38] at H
                                exact absurd H (by simp)
                            · rw [if_neg c37] at H
                              exact absurd H (by simp)
                        · rw [if_neg c31] at H
                          have c31b0 : decide (x4_3 < (l0_2.length : Int)) = false := decide_eq_false c31
                          clear c31
                          by_cases c40 : x3_3.size + 1 ≤ 9223372036854775807
                          · rw [if_pos c40] at H
                            have c40b0 := eq_true c40
                            have c40b1 : decide (x3_3.size + 1 ≤ 9223372036854775807) = true := decide_eq_true c40
                            try have c40b2 : (9223372036854775807 < x3_3.size + 1) = False := eq_false (Nat.not_lt.2 c40)
                            obtain rfl := Option.some.inj H
                            have hcz41_0 : wr.cell? ⟨gb147, 0, none⟩ = some (.string a0_0) := (blk_cell BK147.out 0).trans rfl
                            have hcz41_1 : wr.cell? ⟨gb147, 1, none⟩ = some (.int .i64 a0_1) := (blk_cell BK147.out 1).trans rfl
                            have hcz41_2 : wr.cell? ⟨gb147, 2, none⟩ = some (.slice A0_2 l0_2.length c0_2) := (blk_cell BK147.out 2).trans rfl
                            have hfz41_0 := blk_frozen BK147.out 0
                            have hfz41_1 := blk_frozen BK147.out 1
                            have hfz41_2 := blk_frozen BK147.out 2
                            go_wp2
                            repeat (go_quiet (fail); try go_wp2)
                            go_ret
                            exact ⟨by first | rfl | (simp [errW_none, errW_some] <;> rfl) | (simp [*, errW_none, errW_some] <;> rfl), by repeat (first | (with_reducible first | exact HB.out | apply below_alloc | apply pw_below_drewN | apply below_drew1 | refine below_set ?_ GE147.out) | exact HB.out)⟩
                          · rw [if_neg c40] at H
                            exact absurd H (by simp)
              · rw [if_neg c25] at H
                exact absurd H (by simp)
end Go.Proofs.YteaiobgnhlpblaaDoor.Q
namespace Go.Proofs.YteaiobgnhlpblaaDoor.Q
open Go.RowKit Go.Proofs.YteaiobgnhlpblaaDoorW.PrintWords Go.Proofs.YteaiobgnhlpblaaDoorW.PrintLast Go.Proofs.YteaiobgnhlpblaaDoorW.PrintMore
attribute [local go_sem] max2_int min2_int max_two min_two max_three min_three max_four min_four   -- for this text's walks alone
set_option linter.unusedVariables false
set_option linter.unusedSimpArgs false
def bursarref04_Print.l0 : Nat → List (S45) → ByteArray → Int → Option (ByteArray × Int)
  | 0, _, _, _ => none
  | k + 1, x0, x5, x6 => if x6 < (x0.length : Int) then (if x6 > 0 then (if x5.size + 1 ≤ 9223372036854775807 then (if 0 ≤ x6 then ((bursarref04_written.f k ((rd_T45 x0 x6).f0) ((rd_T45 x0 x6).f1) ((rd_T45 x0 x6).f2)).bind fun t154 => (if (x5 ++ (⟨#[44]⟩ : ByteArray)).size + t154.size ≤ 9223372036854775807 then (bursarref04_Print.l0 k x0 ((x5 ++ (⟨#[44]⟩ : ByteArray)) ++ t154) (wrap64 (x6 + 1))) else (none))) else (none)) else (none)) else (if 0 ≤ x6 then ((bursarref04_written.f k ((rd_T45 x0 x6).f0) ((rd_T45 x0 x6).f1) ((rd_T45 x0 x6).f2)).bind fun t156 => (if x5.size + t156.size ≤ 9223372036854775807 then (bursarref04_Print.l0 k x0 (x5 ++ t156) (wrap64 (x6 + 1))) else (none))) else (none))) else (some (x5, 0))
def bursarref04_Print.f (k : Nat) (l0 : List (S45)) : Option (ByteArray × Int) := (bursarref04_terms.f k l0).bind fun t152 => (if t152 = true then (bursarref04_Print.l0 k l0 (⟨#[]⟩ : ByteArray) 0) else (some ((⟨#[]⟩ : ByteArray), 43)))
theorem bursarref04_Print.mono_l : ∀ k, (∀ y0 y1 y2, LeO (bursarref04_Print.l0 k y0 y1 y2) (bursarref04_Print.l0 (k + 1) y0 y1 y2))
  | 0 => fun _ _ _ r h => by simp [bursarref04_Print.l0] at h
  | k + 1 => by
    have ih0 := bursarref04_Print.mono_l k
    · intro y0 y1 y2
      unfold bursarref04_Print.l0
      repeat' first
      | (with_reducible exact ih0 _ _ _)
      | (with_reducible exact bursarref04_terms.mono _ _)
      | (with_reducible exact bursarref04_written.mono _ _ _ _)
      | (with_reducible exact LeO.refl _)
      | (with_reducible exact LeO.none _)
      | (with_reducible refine LeO.ite ?_ ?_)
      | (with_reducible refine LeO.bind ?_ (fun _ => ?_))
      | exact ih0 _ _ _
      | exact bursarref04_terms.mono _ _
      | exact bursarref04_written.mono _ _ _ _
      | exact LeO.none _
      | refine LeO.ite ?_ ?_
      | refine LeO.bind ?_ (fun _ => ?_)
theorem bursarref04_Print.mono : ∀ a0 k, LeO (bursarref04_Print.f k a0) (bursarref04_Print.f (k + 1) a0) := by
  intro a0 k
  have ih0 := bursarref04_Print.mono_l k
  unfold bursarref04_Print.f
  repeat' first
      | (with_reducible exact ih0 _ _ _)
      | (with_reducible exact bursarref04_terms.mono _ _)
      | (with_reducible exact bursarref04_written.mono _ _ _ _)
      | (with_reducible exact LeO.refl _)
      | (with_reducible exact LeO.none _)
      | (with_reducible refine LeO.ite ?_ ?_)
      | (with_reducible refine LeO.bind ?_ (fun _ => ?_))
      | exact ih0 _ _ _
      | exact bursarref04_terms.mono _ _
      | exact bursarref04_written.mono _ _ _ _
      | exact LeO.none _
      | refine LeO.ite ?_ ?_
      | refine LeO.bind ?_ (fun _ => ?_)
set_option maxHeartbeats 8000000 in
set_option maxRecDepth 100000 in
theorem bursarref04_Print.calls (k : Nat) (A0 : Option Addr) (c0 : Nat) (l0 : List (S45)) (r1 : ByteArray) (r2 : Int) (w : World) (hr0 : Kd.C k45 w A0 l0.length l0) (hc0 : l0.length ≤ c0) (h : bursarref04_Print.f k l0 = some (r1, r2)) :
    Calls Tryd.prog 34 #[.slice A0 l0.length c0] w fun e w' => e = .returned (.tuple #[.string r1, .int .i64 r2]) ∧ Below w.heap.size w w' := by
  have hu45 := Tryd.underlying45
  have HR0 := Aside0.mk hr0
  have HC0 := Aside0.mk hc0
  clear hr0 hc0
  have HB := Aside0.mk (Below.refl w.heap.size w)
  have H : ((bursarref04_terms.f k l0).bind fun t152 => (if t152 = true then (bursarref04_Print.l0 k l0 (⟨#[]⟩ : ByteArray) 0) else (some ((⟨#[]⟩ : ByteArray), 43)))) = some (r1, r2) := h
  clear h
  replace H := Option.bind_eq_some_iff.mp H
  obtain ⟨t152, A20, H⟩ := H
  replace H : (if t152 = true then (bursarref04_Print.l0 k l0 (⟨#[]⟩ : ByteArray) 0) else (some ((⟨#[]⟩ : ByteArray), 43))) = some (r1, r2) := H
  have A2 := Aside0.mk A20
  clear A20
  by_cases c3 : t152 = true
  · subst c3
    have H1 : (bursarref04_Print.l0 k l0 (⟨#[]⟩ : ByteArray) 0) = some (r1, r2) := by rw [if_pos rfl] at H; exact H
    clear H
    have H := H1
    clear H1
    have H' := Aside0.mk H
    clear H
    go_enter Tryd.func34, Tryd.ntmps34
    go_wp2_with (first | ((with_reducible refine gate_callee (f := 52) rfl ?_); refine goesL_ (some 8) rfl rfl Tryd.func52 (by kernel_rfl) rfl #[.slice A0 l0.length c0] rfl (by (try simp only [List.map_toArray, List.map_cons, List.map_nil]); first | done | rfl | (simp only [List.length_drop, List.length_take]; rfl)) ?_; (with_reducible refine (bursarref04_terms.calls k _ _ l0 true _ ?side1 ?side2 A2.out).mono ?_); (case side1 => repeat (first | exact HR0.out | (with_reducible refine Kd.C_alloc ?_ _) | (with_reducible refine Kd.C_drewN ?_ _) | (with_reducible refine Kd.C_drew ?_))); (case side2 => exact HC0.out); rintro e w4 ⟨rfl, hb⟩; refine ⟨_, rfl, ?_⟩; have n0_ := Aside0.mk (below_step (by repeat (first | (with_reducible first | exact HB.out | apply below_alloc | apply pw_below_drewN | apply below_drew1) | exact HB.out)) hb); clear HB; have HB := n0_; clear n0_; (try clear hb); (try clear hb2); (try clear hk); (try clear hi)))
    go_loopg [5, 6] k (fun kq v5 v6 w' => ∃ (x5_1 : ByteArray) (x6_1 : Int), v5 = .string x5_1 ∧ v6 = .int .i64 x6_1 ∧ Aside0 (bursarref04_Print.l0 kq l0 x5_1 x6_1 = some (r1, r2)) ∧ Aside0 (kq ≤ k) ∧ Aside0 (Below w.heap.size w w'))
    case atStart => exact ⟨((⟨#[]⟩ : ByteArray)), (0), (by first | rfl | (simp; done) | (simp [*]; done) | (simp; rw [Bool.eq_iff_iff]; simp; done) | (rw [Bool.eq_iff_iff]; simp; done)), (by first | rfl | (simp; done) | (simp [*]; done) | (simp; rw [Bool.eq_iff_iff]; simp; done) | (rw [Bool.eq_iff_iff]; simp; done)), H', ⟨Nat.le_refl _⟩, ⟨by repeat (first | (with_reducible first | exact HB.out | apply below_alloc | apply pw_below_drewN | apply below_drew1) | exact HB.out)⟩⟩
    case round =>
      clear H'
      try clear p2
      try clear c3
      obtain ⟨x5_1, x6_1, rfl, rfl, HA, HK1, HB⟩ := hrel
      cases gk with
      | zero => exact absurd HA.out (by simp [bursarref04_Print.l0])
      | succ k1 =>
        have H := HA.out
        clear HA
        simp only [bursarref04_Print.l0] at H
        by_cases c5 : x6_1 < (l0.length : Int)
        · rw [if_pos c5] at H
          have c5b0 : decide (x6_1 < (l0.length : Int)) = true := decide_eq_true c5
          clear c5
          by_cases c6 : x6_1 > 0
          · rw [if_pos c6] at H
            have c6b0 : decide (0 < x6_1) = true := decide_eq_true c6
            clear c6
            by_cases c7 : x5_1.size + 1 ≤ 9223372036854775807
            · rw [if_pos c7] at H
              have c7b0 := eq_true c7
              have c7b1 : decide (x5_1.size + 1 ≤ 9223372036854775807) = true := decide_eq_true c7
              try have c7b2 : (9223372036854775807 < x5_1.size + 1) = False := eq_false (Nat.not_lt.2 c7)
              by_cases c8 : 0 ≤ x6_1
              · rw [if_pos c8] at H
                have c8b0 : decide (0 ≤ x6_1) = true := decide_eq_true c8
                clear c8
                replace H := Option.bind_eq_some_iff.mp H
                obtain ⟨t154, A90, H⟩ := H
                replace H : (if (x5_1 ++ (⟨#[44]⟩ : ByteArray)).size + t154.size ≤ 9223372036854775807 then (bursarref04_Print.l0 k1 l0 ((x5_1 ++ (⟨#[44]⟩ : ByteArray)) ++ t154) (wrap64 (x6_1 + 1))) else (none)) = some (r1, r2) := H
                have A9 := Aside0.mk A90
                clear A90
                by_cases c10 : (x5_1 ++ (⟨#[44]⟩ : ByteArray)).size + t154.size ≤ 9223372036854775807
                · rw [if_pos c10] at H
                  have c10b0 := eq_true c10
                  have c10b1 : decide ((x5_1 ++ (⟨#[44]⟩ : ByteArray)).size + t154.size ≤ 9223372036854775807) = true := decide_eq_true c10
                  try have c10b2 : (9223372036854775807 < (x5_1 ++ (⟨#[44]⟩ : ByteArray)).size + t154.size) = False := eq_false (Nat.not_lt.2 c10)
                  try have c10b3 : (9223372036854775807 < x5_1.size + 1 + t154.size) = False := eq_false (Nat.not_lt.2 (by have h_ := c10; simp only [ByteArray.size_append] at h_; exact h_))
                  have H' := Aside0.mk H
                  clear H
                  have p153 : 0 ≤ (x6_1 : Int) := of_decide_eq_true (by first | (with_reducible assumption) | assumption)
                  have q153 : x6_1 < (l0.length : Int) := of_decide_eq_true (by first | (with_reducible assumption) | assumption)
                  obtain ⟨ad153, A153_2, c153_2, e153, hx153_0, hx153_1, hx153_2, hl153_2, hi153_2⟩ := at_T45 HR0.out x6_1 p153 q153
                  cases e153
                  replace hx153_0 := (HB.out.cell (World.block_lt_of_cell? w _ hx153_0)).trans hx153_0
                  replace hx153_1 := (HB.out.cell (World.block_lt_of_cell? w _ hx153_1)).trans hx153_1
                  replace hx153_2 := (HB.out.cell (World.block_lt_of_cell? w _ hx153_2)).trans hx153_2
                  have HR153_2 := Aside0.mk hi153_2
                  have HC153_2 := Aside0.mk hl153_2
                  clear hi153_2 hl153_2
                  replace p153 := eq_true p153
                  replace q153 := eq_true q153
                  go_wp2_with (first | ((with_reducible refine gate_callee (f := 53) rfl ?_); refine goesL_ (some 26) rfl rfl Tryd.func53 (by kernel_rfl) rfl #[.agg #[.string ((rd_T45 l0 x6_1).f0), .int .i64 ((rd_T45 l0 x6_1).f1), .slice A153_2 ((rd_T45 l0 x6_1).f2).length c153_2]] rfl (by (try simp only [List.map_toArray, List.map_cons, List.map_nil]); first | done | rfl | (simp only [List.length_drop, List.length_take]; rfl)) ?_; (with_reducible refine (bursarref04_written.calls k1 ((rd_T45 l0 x6_1).f0) ((rd_T45 l0 x6_1).f1) _ _ ((rd_T45 l0 x6_1).f2) t154 _ ?side1 ?side2 A9.out).mono ?_); (case side1 => repeat (first | exact (Kd.C_below HR153_2.out HB.out) | (with_reducible refine Kd.C_alloc ?_ _) | (with_reducible refine Kd.C_drewN ?_ _) | (with_reducible refine Kd.C_drew ?_))); (case side2 => exact HC153_2.out); rintro e w11 ⟨rfl, hb⟩; refine ⟨_, rfl, ?_⟩; have n0_ := Aside0.mk (below_step (by repeat (first | (with_reducible first | exact HB.out | apply below_alloc | apply pw_below_drewN | apply below_drew1) | exact HB.out)) hb); clear HB; have HB := n0_; clear n0_; (try clear hb); (try clear hb2); (try clear hk); (try clear hi)))
                  go_roundg k1
                  case measure => have := HK1.out; omega
                  case rel => exact ⟨((x5_1 ++ (⟨#[44]⟩ : ByteArray)) ++ t154), (wrap64 (x6_1 + 1)), (by first | rfl | (simp; done) | (simp [*]; done) | (simp; rw [Bool.eq_iff_iff]; simp; done) | (rw [Bool.eq_iff_iff]; simp; done)), (by first | rfl | (simp; done) | (simp [*]; done) | (simp; rw [Bool.eq_iff_iff]; simp; done) | (rw [Bool.eq_iff_iff]; simp; done)), H', ⟨by have := HK1.out; omega⟩, ⟨by repeat (first | (with_reducible first | exact HB.out | apply below_alloc | apply pw_below_drewN | apply below_drew1) | exact HB.out)⟩⟩
                · rw [if_neg c10] at H
                  exact absurd H (by simp)
              · rw [if_neg c8] at H
                exact absurd H (by simp)
            · rw [if_neg c7] at H
              exact absurd H (by simp)
          · rw [if_neg c6] at H
            have c6b0 : decide (0 < x6_1) = false := decide_eq_false c6
            clear c6
            by_cases c12 : 0 ≤ x6_1
            · rw [if_pos c12] at H
              have c12b0 : decide (0 ≤ x6_1) = true := decide_eq_true c12
              clear c12
              replace H := Option.bind_eq_some_iff.mp H
              obtain ⟨t156, A130, H⟩ := H
              replace H : (if x5_1.size + t156.size ≤ 9223372036854775807 then (bursarref04_Print.l0 k1 l0 (x5_1 ++ t156) (wrap64 (x6_1 + 1))) else (none)) = some (r1, r2) := H
              have A13 := Aside0.mk A130
              clear A130
              by_cases c14 : x5_1.size + t156.size ≤ 9223372036854775807
              · rw [if_pos c14] at H
                have c14b0 := eq_true c14
                have c14b1 : decide (x5_1.size + t156.size ≤ 9223372036854775807) = true := decide_eq_true c14
                try have c14b2 : (9223372036854775807 < x5_1.size + t156.size) = False := eq_false (Nat.not_lt.2 c14)
                have H' := Aside0.mk H
                clear H
                have p155 : 0 ≤ (x6_1 : Int) := of_decide_eq_true (by first | (with_reducible assumption) | assumption)
                have q155 : x6_1 < (l0.length : Int) := of_decide_eq_true (by first | (with_reducible assumption) | assumption)
                obtain ⟨ad155, A155_2, c155_2, e155, hx155_0, hx155_1, hx155_2, hl155_2, hi155_2⟩ := at_T45 HR0.out x6_1 p155 q155
                cases e155
                replace hx155_0 := (HB.out.cell (World.block_lt_of_cell? w _ hx155_0)).trans hx155_0
                replace hx155_1 := (HB.out.cell (World.block_lt_of_cell? w _ hx155_1)).trans hx155_1
                replace hx155_2 := (HB.out.cell (World.block_lt_of_cell? w _ hx155_2)).trans hx155_2
                have HR155_2 := Aside0.mk hi155_2
                have HC155_2 := Aside0.mk hl155_2
                clear hi155_2 hl155_2
                replace p155 := eq_true p155
                replace q155 := eq_true q155
                go_wp2_with (first | ((with_reducible refine gate_callee (f := 53) rfl ?_); refine goesL_ (some 26) rfl rfl Tryd.func53 (by kernel_rfl) rfl #[.agg #[.string ((rd_T45 l0 x6_1).f0), .int .i64 ((rd_T45 l0 x6_1).f1), .slice A155_2 ((rd_T45 l0 x6_1).f2).length c155_2]] rfl (by (try simp only [List.map_toArray, List.map_cons, List.map_nil]); first | done | rfl | (simp only [List.length_drop, List.length_take]; rfl)) ?_; (with_reducible refine (bursarref04_written.calls k1 ((rd_T45 l0 x6_1).f0) ((rd_T45 l0 x6_1).f1) _ _ ((rd_T45 l0 x6_1).f2) t156 _ ?side1 ?side2 A13.out).mono ?_); (case side1 => repeat (first | exact (Kd.C_below HR155_2.out HB.out) | (with_reducible refine Kd.C_alloc ?_ _) | (with_reducible refine Kd.C_drewN ?_ _) | (with_reducible refine Kd.C_drew ?_))); (case side2 => exact HC155_2.out); rintro e w15 ⟨rfl, hb⟩; refine ⟨_, rfl, ?_⟩; have n0_ := Aside0.mk (below_step (by repeat (first | (with_reducible first | exact HB.out | apply below_alloc | apply pw_below_drewN | apply below_drew1) | exact HB.out)) hb); clear HB; have HB := n0_; clear n0_; (try clear hb); (try clear hb2); (try clear hk); (try clear hi)))
                go_roundg k1
                case measure => have := HK1.out; omega
                case rel => exact ⟨(x5_1 ++ t156), (wrap64 (x6_1 + 1)), (by first | rfl | (simp; done) | (simp [*]; done) | (simp; rw [Bool.eq_iff_iff]; simp; done) | (rw [Bool.eq_iff_iff]; simp; done)), (by first | rfl | (simp; done) | (simp [*]; done) | (simp; rw [Bool.eq_iff_iff]; simp; done) | (rw [Bool.eq_iff_iff]; simp; done)), H', ⟨by have := HK1.out; omega⟩, ⟨by repeat (first | (with_reducible first | exact HB.out | apply below_alloc | apply pw_below_drewN | apply below_drew1) | exact HB.out)⟩⟩
              · rw [if_neg c14] at H
                exact absurd H (by simp)
            · rw [if_neg c12] at H
              exact absurd H (by simp)
        · rw [if_neg c5] at H
          have c5b0 : decide (x6_1 < (l0.length : Int)) = false := decide_eq_false c5
          clear c5
          simp only [Option.some.injEq, Prod.mk.injEq] at H
          obtain ⟨rfl, rfl⟩ := H
          go_wp2
          go_ret2
          exact ⟨by first | rfl | (simp [errW_none, errW_some] <;> rfl) | (simp [*, errW_none, errW_some] <;> rfl), by repeat (first | (with_reducible first | exact HB.out | apply below_alloc | apply pw_below_drewN | apply below_drew1) | exact HB.out)⟩
  · replace c3 := Bool.eq_false_iff.mpr c3
    subst c3
    have H1 : (some ((⟨#[]⟩ : ByteArray), 43)) = some (r1, r2) := by rw [if_neg (show ¬ (false = true) by decide)] at H; exact H
    clear H
    have H := H1
    clear H1
    simp only [Option.some.injEq, Prod.mk.injEq] at H
    obtain ⟨rfl, rfl⟩ := H
    go_enter Tryd.func34, Tryd.ntmps34
    go_wp2_with (first | ((with_reducible refine gate_callee (f := 52) rfl ?_); refine goesL_ (some 8) rfl rfl Tryd.func52 (by kernel_rfl) rfl #[.slice A0 l0.length c0] rfl (by (try simp only [List.map_toArray, List.map_cons, List.map_nil]); first | done | rfl | (simp only [List.length_drop, List.length_take]; rfl)) ?_; (with_reducible refine (bursarref04_terms.calls k _ _ l0 false _ ?side1 ?side2 A2.out).mono ?_); (case side1 => repeat (first | exact HR0.out | (with_reducible refine Kd.C_alloc ?_ _) | (with_reducible refine Kd.C_drewN ?_ _) | (with_reducible refine Kd.C_drew ?_))); (case side2 => exact HC0.out); rintro e w16 ⟨rfl, hb⟩; refine ⟨_, rfl, ?_⟩; have n0_ := Aside0.mk (below_step (by repeat (first | (with_reducible first | exact HB.out | apply below_alloc | apply pw_below_drewN | apply below_drew1) | exact HB.out)) hb); clear HB; have HB := n0_; clear n0_; (try clear hb); (try clear hb2); (try clear hk); (try clear hi)))
    go_ret2
    exact ⟨by first | rfl | (simp [errW_none, errW_some] <;> rfl) | (simp [*, errW_none, errW_some] <;> rfl), by repeat (first | (with_reducible first | exact HB.out | apply below_alloc | apply pw_below_drewN | apply below_drew1) | exact HB.out)⟩
end Go.Proofs.YteaiobgnhlpblaaDoor.Q
namespace Go.Proofs.YteaiobgnhlpblaaDoor.Q
open Go.RowKit Go.Proofs.YteaiobgnhlpblaaDoorW.PrintWords Go.Proofs.YteaiobgnhlpblaaDoorW.PrintLast Go.Proofs.YteaiobgnhlpblaaDoorW.PrintMore
attribute [local go_sem] max2_int min2_int max_two min_two max_three min_three max_four min_four   -- for this text's walks alone
set_option linter.unusedVariables false
set_option linter.unusedSimpArgs false
def bursarref04_pieces.l0 : Nat → ByteArray → Int → List ByteArray → Int → Int → Option (List ByteArray)
  | 0, _, _, _, _, _ => none
  | k + 1, x0, x1, x5, x6, x7 => if x7 ≤ (x0.size : Int) then (if x7 = (x0.size : Int) then (if 0 ≤ x6 then (if x6 ≤ x7 then (if x5.length < 8796093022208 then (bursarref04_pieces.l0 k x0 x1 (x5 ++ [x0.extract (x6 : Int).toNat (x7 : Int).toNat]) (wrap64 (x7 + 1)) (wrap64 (x7 + 1))) else (none)) else (none)) else (none)) else (if 0 ≤ x7 then (if x7 < (x0.size : Int) then (if (bt x0 x7) = x1 then (if 0 ≤ x6 then (if x6 ≤ x7 then (if x5.length < 8796093022208 then (bursarref04_pieces.l0 k x0 x1 (x5 ++ [x0.extract (x6 : Int).toNat (x7 : Int).toNat]) (wrap64 (x7 + 1)) (wrap64 (x7 + 1))) else (none)) else (none)) else (none)) else (bursarref04_pieces.l0 k x0 x1 x5 x6 (wrap64 (x7 + 1)))) else (none)) else (none))) else (some x5)
def bursarref04_pieces.f (k : Nat) (a0 : ByteArray) (a1 : Int) : Option (List ByteArray) := bursarref04_pieces.l0 k a0 a1 ([] : List ByteArray) 0 0
theorem bursarref04_pieces.mono_l : ∀ k, (∀ y0 y1 y2 y3 y4, LeO (bursarref04_pieces.l0 k y0 y1 y2 y3 y4) (bursarref04_pieces.l0 (k + 1) y0 y1 y2 y3 y4))
  | 0 => fun _ _ _ _ _ r h => by simp [bursarref04_pieces.l0] at h
  | k + 1 => by
    have ih0 := bursarref04_pieces.mono_l k
    · intro y0 y1 y2 y3 y4
      unfold bursarref04_pieces.l0
      repeat' first
      | (with_reducible exact ih0 _ _ _ _ _)
      | (with_reducible exact LeO.refl _)
      | (with_reducible exact LeO.none _)
      | (with_reducible refine LeO.ite ?_ ?_)
      | (with_reducible refine LeO.bind ?_ (fun _ => ?_))
      | exact ih0 _ _ _ _ _
      | exact LeO.none _
      | refine LeO.ite ?_ ?_
      | refine LeO.bind ?_ (fun _ => ?_)
theorem bursarref04_pieces.mono : ∀ a0 a1 k, LeO (bursarref04_pieces.f k a0 a1) (bursarref04_pieces.f (k + 1) a0 a1) := by
  intro a0 a1 k
  have ih0 := bursarref04_pieces.mono_l k
  unfold bursarref04_pieces.f
  repeat' first
      | (with_reducible exact ih0 _ _ _ _ _)
      | (with_reducible exact LeO.refl _)
      | (with_reducible exact LeO.none _)
      | (with_reducible refine LeO.ite ?_ ?_)
      | (with_reducible refine LeO.bind ?_ (fun _ => ?_))
      | exact ih0 _ _ _ _ _
      | exact LeO.none _
      | refine LeO.ite ?_ ?_
      | refine LeO.bind ?_ (fun _ => ?_)
set_option maxHeartbeats 8000000 in
set_option maxRecDepth 100000 in
theorem bursarref04_pieces.calls (k : Nat) (a0 : ByteArray) (a1 : Int) (r : List ByteArray) (w : World) (h : bursarref04_pieces.f k a0 a1 = some r) :
    Calls Tryd.prog 43 #[.string a0, .int .u8 a1] w fun e w' => ∃ v0_ : Value, e = .returned (v0_) ∧ Kd.R Kd.string 9 w' w.heap.size (fun _ => True) v0_ r ∧ Below w.heap.size w w' := by
  have HB := Aside0.mk (Below.refl w.heap.size w)
  have H : (bursarref04_pieces.l0 k a0 a1 ([] : List ByteArray) 0 0) = some r := h
  clear h
  have H' := Aside0.mk H
  clear H
  go_enter Tryd.func43, Tryd.ntmps43
  go_wp2
  go_loopg [5, 6, 7] k (fun kq v5 v6 v7 w' => ∃ (x5_1 : List ByteArray) (x6_1 : Int) (x7_1 : Int), v6 = .int .i64 x6_1 ∧ v7 = .int .i64 x7_1 ∧ Aside0 (bursarref04_pieces.l0 kq a0 a1 x5_1 x6_1 x7_1 = some r) ∧ Aside0 (kq ≤ k) ∧ Aside0 (Kd.R Kd.string 9 w' w.heap.size (fun _ => True) v5 x5_1) ∧ Aside0 (Below w.heap.size w w'))
  case atStart => exact ⟨(([] : List ByteArray)), (0), (0), (by first | rfl | (simp; done) | (simp [*]; done) | (simp; rw [Bool.eq_iff_iff]; simp; done) | (rw [Bool.eq_iff_iff]; simp; done)), (by first | rfl | (simp; done) | (simp [*]; done) | (simp; rw [Bool.eq_iff_iff]; simp; done) | (rw [Bool.eq_iff_iff]; simp; done)), H', ⟨Nat.le_refl _⟩, ⟨by first | exact Kd.R_nil _ _ _ _ _ | exact Kd.N_nil _ _ _ _ _ | exact Kd.V_nil _ _ _ _ _ | exact Kd.Q_nil _ _ _ _ _ | exact Kd.S_nil _ _ _ _ _⟩, ⟨by repeat (first | (with_reducible first | exact HB.out | apply below_alloc | apply pw_below_drewN | apply below_drew1) | exact HB.out)⟩⟩
  case round =>
    clear H'
    try clear p2
    obtain ⟨x5_1, x6_1, x7_1, rfl, rfl, HA, HK1, HO_5, HB⟩ := hrel
    cases gk with
    | zero => exact absurd HA.out (by simp [bursarref04_pieces.l0])
    | succ k1 =>
      have H := HA.out
      clear HA
      simp only [bursarref04_pieces.l0] at H
      by_cases c3 : x7_1 ≤ (a0.size : Int)
      · rw [if_pos c3] at H
        have c3b0 : decide (x7_1 ≤ (a0.size : Int)) = true := decide_eq_true c3
        clear c3
        by_cases c4 : x7_1 = (a0.size : Int)
        · rw [if_pos c4] at H
          have c4b0 : (x7_1 == (a0.size : Int)) = true := beq_iff_eq.mpr c4
          have c4b1 : (x7_1 != (a0.size : Int)) = false := bne_eq_false_iff_eq.mpr c4
          clear c4
          by_cases c5 : 0 ≤ x6_1
          · rw [if_pos c5] at H
            have c5b0 := eq_true c5
            have c5b1 : decide (0 ≤ x6_1) = true := decide_eq_true c5
            clear c5
            by_cases c6 : x6_1 ≤ x7_1
            · rw [if_pos c6] at H
              have c6b0 := eq_true c6
              have c6b1 : decide (x6_1 ≤ x7_1) = true := decide_eq_true c6
              clear c6
              have c7b0 := eq_true (of_decide_eq_true (by first | (with_reducible assumption) | assumption) : x7_1 ≤ (a0.size : Int))
              by_cases c8 : x5_1.length < 8796093022208
              · rw [if_pos c8] at H
                have LMc8 := Aside0.mk c8
                clear c8
                obtain ⟨y157, hy157⟩ : ∃ y_ : List ByteArray, y_ = (x5_1 ++ [a0.extract (x6_1 : Int).toNat (x7_1 : Int).toNat]) := ⟨_, rfl⟩
                replace H : (bursarref04_pieces.l0 k1 a0 a1 y157 (wrap64 (x7_1 + 1)) (wrap64 (x7_1 + 1))) = some r := by first | (rw [hy157]; with_reducible exact H) | (have H2_ := (Option.bind_some _ _).symm.trans H; rw [hy157]; with_reducible exact H2_) | (have H2_ := (Option.bind_some _ _).symm.trans H; with_reducible exact H2_) | with_reducible exact H | (rw [hy157]; exact H) | exact H
                have Ny157 := Aside0.mk hy157
                clear hy157
                have H' := Aside0.mk H
                clear H
                go_wp2_with (first | ((with_reducible refine gate_builtin (b := .append) (xs := #[.tmp 25, .tmp 30]) rfl ?_); at_builtin; refine Kd.R_append Kd.string (w0 := w) w.heap.size rfl (.tmp 25) (.tmp 30) 35 9 (.string ⟨#[]⟩) 16 rfl Tryd.underlying35 info9 rfl (by decide) (by omega) u5 x5_1 (a0.extract (x6_1 : Int).toNat (x7_1 : Int).toNat) [.string (a0.extract (x6_1 : Int).toNat (x7_1 : Int).toNat)] (fun _ => True) (fun _ => False) rfl rfl ?aP (fun _ hk => hk.elim) ?aF ?aO ?aB ?aS ?aL ?_; (case aP => exact rfl); (case aB => exact (by repeat (first | (with_reducible first | exact HB.out | apply below_alloc | apply pw_below_drewN | apply below_drew1) | exact HB.out))); (case aF => exact (fun _ _ => trivial)); (case aO => exact (by (with_reducible repeat (first | apply Kd.R_alloc | apply Kd.R_drewN | apply Kd.R_drew)); exact HO_5.out)); (case aS => exact (below_size (by repeat (first | (with_reducible first | exact HB.out | apply below_alloc | apply pw_below_drewN | apply below_drew1) | exact HB.out)))); (case aL => have := LMc8.out; omega); intro v158 w9 ho hb hg hat; rw [← Ny157.out] at ho; have n0_ := Aside0.mk (hb); have n1_ := Aside0.mk (ho); clear HB; clear HO_5; have HB := n0_; have HO159 := n1_; clear n0_ n1_; clear ho hb hg hat))
                go_roundg k1
                case measure => have := HK1.out; omega
                case rel => exact ⟨(y157), (wrap64 (x7_1 + 1)), (wrap64 (x7_1 + 1)), (by first | rfl | (simp; done) | (simp [*]; done) | (simp; rw [Bool.eq_iff_iff]; simp; done) | (rw [Bool.eq_iff_iff]; simp; done)), (by first | rfl | (simp; done) | (simp [*]; done) | (simp; rw [Bool.eq_iff_iff]; simp; done) | (rw [Bool.eq_iff_iff]; simp; done)), H', ⟨by have := HK1.out; omega⟩, ⟨by (with_reducible repeat (first | apply Kd.R_alloc | apply Kd.R_drewN | apply Kd.R_drew)); exact HO159.out⟩, ⟨by repeat (first | (with_reducible first | exact HB.out | apply below_alloc | apply pw_below_drewN | apply below_drew1) | exact HB.out)⟩⟩
              · rw [if_neg c8] at H
                exact absurd H (by simp)
            · rw [if_neg c6] at H
              exact absurd H (by simp)
          · rw [if_neg c5] at H
            exact absurd H (by simp)
        · rw [if_neg c4] at H
          have c4b0 : (x7_1 == (a0.size : Int)) = false := beq_eq_false_iff_ne.mpr c4
          have c4b1 : (x7_1 != (a0.size : Int)) = true := bne_iff_ne.mpr c4
          by_cases c10 : 0 ≤ x7_1
          · rw [if_pos c10] at H
            have c10b0 : decide (0 ≤ x7_1) = true := decide_eq_true c10
            clear c10
            by_cases c11 : x7_1 < (a0.size : Int)
            · rw [if_pos c11] at H
              have c11b0 : decide (x7_1 < (a0.size : Int)) = true := decide_eq_true c11
              clear c11
              by_cases c13 : (bt a0 x7_1) = a1
              · rw [if_pos c13] at H
                have c13b0 : ((bt a0 x7_1) == a1) = true := beq_iff_eq.mpr c13
                have c13b1 : ((bt a0 x7_1) != a1) = false := bne_eq_false_iff_eq.mpr c13
                clear c13
                by_cases c14 : 0 ≤ x6_1
                · rw [if_pos c14] at H
                  have c14b0 := eq_true c14
                  have c14b1 : decide (0 ≤ x6_1) = true := decide_eq_true c14
                  clear c14
                  by_cases c15 : x6_1 ≤ x7_1
                  · rw [if_pos c15] at H
                    have c15b0 := eq_true c15
                    have c15b1 : decide (x6_1 ≤ x7_1) = true := decide_eq_true c15
                    clear c15
                    have c16b0 := eq_true (of_decide_eq_true (by first | (with_reducible assumption) | assumption) : x7_1 ≤ (a0.size : Int))
                    by_cases c17 : x5_1.length < 8796093022208
                    · rw [if_pos c17] at H
                      have LMc17 := Aside0.mk c17
                      clear c17
                      obtain ⟨y160, hy160⟩ : ∃ y_ : List ByteArray, y_ = (x5_1 ++ [a0.extract (x6_1 : Int).toNat (x7_1 : Int).toNat]) := ⟨_, rfl⟩
                      replace H : (bursarref04_pieces.l0 k1 a0 a1 y160 (wrap64 (x7_1 + 1)) (wrap64 (x7_1 + 1))) = some r := by first | (rw [hy160]; with_reducible exact H) | (have H2_ := (Option.bind_some _ _).symm.trans H; rw [hy160]; with_reducible exact H2_) | (have H2_ := (Option.bind_some _ _).symm.trans H; with_reducible exact H2_) | with_reducible exact H | (rw [hy160]; exact H) | exact H
                      have Ny160 := Aside0.mk hy160
                      clear hy160
                      have H' := Aside0.mk H
                      clear H
                      have p12 : 0 ≤ (x7_1 : Int) := of_decide_eq_true (by first | (with_reducible assumption) | assumption)
                      have q12 : x7_1 < (a0.size : Int) := of_decide_eq_true (by first | (with_reducible assumption) | assumption)
                      have hx12 := bt_at a0 x7_1
                      replace p12 := eq_true p12
                      replace q12 := eq_true q12
                      go_wp2_with (first | ((with_reducible refine gate_builtin (b := .append) (xs := #[.tmp 25, .tmp 30]) rfl ?_); at_builtin; refine Kd.R_append Kd.string (w0 := w) w.heap.size rfl (.tmp 25) (.tmp 30) 35 9 (.string ⟨#[]⟩) 16 rfl Tryd.underlying35 info9 rfl (by decide) (by omega) u5 x5_1 (a0.extract (x6_1 : Int).toNat (x7_1 : Int).toNat) [.string (a0.extract (x6_1 : Int).toNat (x7_1 : Int).toNat)] (fun _ => True) (fun _ => False) rfl rfl ?aP (fun _ hk => hk.elim) ?aF ?aO ?aB ?aS ?aL ?_; (case aP => exact rfl); (case aB => exact (by repeat (first | (with_reducible first | exact HB.out | apply below_alloc | apply pw_below_drewN | apply below_drew1) | exact HB.out))); (case aF => exact (fun _ _ => trivial)); (case aO => exact (by (with_reducible repeat (first | apply Kd.R_alloc | apply Kd.R_drewN | apply Kd.R_drew)); exact HO_5.out)); (case aS => exact (below_size (by repeat (first | (with_reducible first | exact HB.out | apply below_alloc | apply pw_below_drewN | apply below_drew1) | exact HB.out)))); (case aL => have := LMc17.out; omega); intro v161 w18 ho hb hg hat; rw [← Ny160.out] at ho; have n0_ := Aside0.mk (hb); have n1_ := Aside0.mk (ho); clear HB; clear HO_5; have HB := n0_; have HO162 := n1_; clear n0_ n1_; clear ho hb hg hat))
                      go_roundg k1
                      case measure => have := HK1.out; omega
                      case rel => exact ⟨(y160), (wrap64 (x7_1 + 1)), (wrap64 (x7_1 + 1)), (by first | rfl | (simp; done) | (simp [*]; done) | (simp; rw [Bool.eq_iff_iff]; simp; done) | (rw [Bool.eq_iff_iff]; simp; done)), (by first | rfl | (simp; done) | (simp [*]; done) | (simp; rw [Bool.eq_iff_iff]; simp; done) | (rw [Bool.eq_iff_iff]; simp; done)), H', ⟨by have := HK1.out; omega⟩, ⟨by (with_reducible repeat (first | apply Kd.R_alloc | apply Kd.R_drewN | apply Kd.R_drew)); exact HO162.out⟩, ⟨by repeat (first | (with_reducible first | exact HB.out | apply below_alloc | apply pw_below_drewN | apply below_drew1) | exact HB.out)⟩⟩
                    · rw [if_neg c17] at H
                      exact absurd H (by simp)
                  · rw [if_neg c15] at H
                    exact absurd H (by simp)
                · rw [if_neg c14] at H
                  exact absurd H (by simp)
              · rw [if_neg c13] at H
                have c13b0 : ((bt a0 x7_1) == a1) = false := beq_eq_false_iff_ne.mpr c13
                have c13b1 : ((bt a0 x7_1) != a1) = true := bne_iff_ne.mpr c13
                have H' := Aside0.mk H
                clear H
                have p12 : 0 ≤ (x7_1 : Int) := of_decide_eq_true (by first | (with_reducible assumption) | assumption)
                have q12 : x7_1 < (a0.size : Int) := of_decide_eq_true (by first | (with_reducible assumption) | assumption)
                have hx12 := bt_at a0 x7_1
                replace p12 := eq_true p12
                replace q12 := eq_true q12
                go_wp2
                go_roundg k1
                case measure => have := HK1.out; omega
                case rel => exact ⟨(x5_1), (x6_1), (wrap64 (x7_1 + 1)), (by first | rfl | (simp; done) | (simp [*]; done) | (simp; rw [Bool.eq_iff_iff]; simp; done) | (rw [Bool.eq_iff_iff]; simp; done)), (by first | rfl | (simp; done) | (simp [*]; done) | (simp; rw [Bool.eq_iff_iff]; simp; done) | (rw [Bool.eq_iff_iff]; simp; done)), H', ⟨by have := HK1.out; omega⟩, ⟨by (with_reducible repeat (first | apply Kd.R_alloc | apply Kd.R_drewN | apply Kd.R_drew)); exact HO_5.out⟩, ⟨by repeat (first | (with_reducible first | exact HB.out | apply below_alloc | apply pw_below_drewN | apply below_drew1) | exact HB.out)⟩⟩
            · rw [if_neg c11] at H
              exact absurd H (by simp)
          · rw [if_neg c10] at H
            exact absurd H (by simp)
      · rw [if_neg c3] at H
        have c3b0 : decide (x7_1 ≤ (a0.size : Int)) = false := decide_eq_false c3
        clear c3
        obtain rfl := Option.some.inj H
        go_wp2
        go_ret
        exact ⟨_, by first | rfl | (simp [errW_none, errW_some] <;> rfl) | (simp [*, errW_none, errW_some] <;> rfl), by (with_reducible repeat (first | apply Kd.R_alloc | apply Kd.R_drewN | apply Kd.R_drew)); exact HO_5.out, by repeat (first | (with_reducible first | exact HB.out | apply below_alloc | apply pw_below_drewN | apply below_drew1) | exact HB.out)⟩
end Go.Proofs.YteaiobgnhlpblaaDoor.Q
namespace Go.Proofs.YteaiobgnhlpblaaDoor.Q
open Go.RowKit Go.Proofs.YteaiobgnhlpblaaDoorW.PrintWords Go.Proofs.YteaiobgnhlpblaaDoorW.PrintLast Go.Proofs.YteaiobgnhlpblaaDoorW.PrintMore
attribute [local go_sem] max2_int min2_int max_two min_two max_three min_three max_four min_four   -- for this text's walks alone
set_option linter.unusedVariables false
set_option linter.unusedSimpArgs false
mutual
def bursarref04_read.j0 : Nat → ByteArray → Bool → Option (ByteArray × Int × List ByteArray)
  | 0, _, _ => none
  | k + 1, x0, x15 => if x15 = true then (if 1 ≤ (x0.size : Int) then (some (x0.extract 1 x0.size, 3, ([] : List ByteArray))) else (none)) else (bursarref04_read.l0 k x0 0)
def bursarref04_read.l0 : Nat → ByteArray → Int → Option (ByteArray × Int × List ByteArray)
  | 0, _, _ => none
  | k + 1, x0, x3 => if x3 < (x0.size : Int) then (if 0 ≤ x3 then (if (bt x0 x3) = 61 then (if x3 ≤ (x0.size : Int) then (if 0 ≤ (wrap64 (x3 + 1)) then (if (wrap64 (x3 + 1)) ≤ (x0.size : Int) then (some (x0.extract 0 (x3 : Int).toNat, 0, (([x0.extract ((wrap64 (x3 + 1)) : Int).toNat x0.size] : List ByteArray)))) else (none)) else (none)) else (none)) else (if (bt x0 x3) = 33 then (if (wrap64 (x3 + 1)) < (x0.size : Int) then (if 0 ≤ (wrap64 (x3 + 1)) then (if (bt x0 (wrap64 (x3 + 1))) = 61 then (if x3 ≤ (x0.size : Int) then (if 0 ≤ (wrap64 (x3 + 2)) then (if (wrap64 (x3 + 2)) ≤ (x0.size : Int) then (some (x0.extract 0 (x3 : Int).toNat, 1, (([x0.extract ((wrap64 (x3 + 2)) : Int).toNat x0.size] : List ByteArray)))) else (none)) else (none)) else (none)) else (bursarref04_read.l0 k x0 (wrap64 (x3 + 1)))) else (none)) else (bursarref04_read.l0 k x0 (wrap64 (x3 + 1)))) else (if (bt x0 x3) = 32 then (if 0 ≤ (wrap64 (x3 + 1)) then (if (wrap64 (x3 + 1)) ≤ (x0.size : Int) then ((bursarref04_pieces.f k (x0.extract ((wrap64 (x3 + 1)) : Int).toNat x0.size) 32).bind fun t170 => (if x3 ≤ (x0.size : Int) then (if 0 < (t170.length : Int) then (if (rdOf ByteArray.empty t170 0).toList = ([110, 111, 116, 105, 110] : List UInt8) then (bursarref04_read.j2 k t170 (x0.extract 0 (x3 : Int).toNat) 1) else (bursarref04_read.j2 k t170 (x0.extract 0 (x3 : Int).toNat) 0)) else (none)) else (none))) else (none)) else (none)) else (bursarref04_read.l0 k x0 (wrap64 (x3 + 1)))))) else (none)) else (some (x0, 2, ([] : List ByteArray)))
def bursarref04_read.j2 : Nat → List ByteArray → ByteArray → Int → Option (ByteArray × Int × List ByteArray)
  | 0, _, _, _ => none
  | k + 1, x4, x174000, x174001 => bursarref04_read.l1 k x4 1 x174000 x174001 ([] : List ByteArray)
def bursarref04_read.l1 : Nat → List ByteArray → Int → ByteArray → Int → List ByteArray → Option (ByteArray × Int × List ByteArray)
  | 0, _, _, _, _, _ => none
  | k + 1, x4, x6, x174000, x174001, x174002 => if x6 < (x4.length : Int) then (if 0 ≤ x6 then (if x6 = 1 then (bursarref04_read.j4 k x4 x6 (rdOf ByteArray.empty x4 x6) (decide (((rdOf ByteArray.empty x4 x6).size : Int) > 0)) x174000 x174001 x174002) else (bursarref04_read.j4 k x4 x6 (rdOf ByteArray.empty x4 x6) false x174000 x174001 x174002)) else (none)) else (some (x174000, x174001, x174002))
def bursarref04_read.j4 : Nat → List ByteArray → Int → ByteArray → Bool → ByteArray → Int → List ByteArray → Option (ByteArray × Int × List ByteArray)
  | 0, _, _, _, _, _, _, _ => none
  | k + 1, x4, x6, x7, x94, x174000, x174001, x174002 => if x94 = true then (if 1 ≤ (x7.size : Int) then (if x6 = (wrap64 ((x4.length : Int) - 1)) then (if ((x7.extract 1 x7.size).size : Int) > 0 then (if 0 ≤ (wrap64 (((x7.extract 1 x7.size).size : Int) - 1)) then (if (wrap64 (((x7.extract 1 x7.size).size : Int) - 1)) ≤ ((x7.extract 1 x7.size).size : Int) then (if x174002.length < 8796093022208 then (bursarref04_read.l1 k x4 (wrap64 (x6 + 1)) x174000 x174001 (x174002 ++ [(x7.extract 1 x7.size).extract 0 ((wrap64 (((x7.extract 1 x7.size).size : Int) - 1)) : Int).toNat])) else (none)) else (none)) else (none)) else (if x174002.length < 8796093022208 then (bursarref04_read.l1 k x4 (wrap64 (x6 + 1)) x174000 x174001 (x174002 ++ [x7.extract 1 x7.size])) else (none))) else (if x174002.length < 8796093022208 then (bursarref04_read.l1 k x4 (wrap64 (x6 + 1)) x174000 x174001 (x174002 ++ [x7.extract 1 x7.size])) else (none))) else (none)) else (if x6 = (wrap64 ((x4.length : Int) - 1)) then (if (x7.size : Int) > 0 then (if 0 ≤ (wrap64 ((x7.size : Int) - 1)) then (if (wrap64 ((x7.size : Int) - 1)) ≤ (x7.size : Int) then (if x174002.length < 8796093022208 then (bursarref04_read.l1 k x4 (wrap64 (x6 + 1)) x174000 x174001 (x174002 ++ [x7.extract 0 ((wrap64 ((x7.size : Int) - 1)) : Int).toNat])) else (none)) else (none)) else (none)) else (if x174002.length < 8796093022208 then (bursarref04_read.l1 k x4 (wrap64 (x6 + 1)) x174000 x174001 (x174002 ++ [x7])) else (none))) else (if x174002.length < 8796093022208 then (bursarref04_read.l1 k x4 (wrap64 (x6 + 1)) x174000 x174001 (x174002 ++ [x7])) else (none)))
end
def bursarref04_read.f (k : Nat) (a0 : ByteArray) : Option (ByteArray × Int × List ByteArray) := if (a0.size : Int) > 0 then (if 0 < (a0.size : Int) then (bursarref04_read.j0 k a0 ((bt a0 0) == 33)) else (none)) else (bursarref04_read.j0 k a0 false)
theorem bursarref04_read.mono_l : ∀ k, (∀ y0 y1, LeO (bursarref04_read.j0 k y0 y1) (bursarref04_read.j0 (k + 1) y0 y1)) ∧ (∀ y0 y1, LeO (bursarref04_read.l0 k y0 y1) (bursarref04_read.l0 (k + 1) y0 y1)) ∧ (∀ y0 y1 y2, LeO (bursarref04_read.j2 k y0 y1 y2) (bursarref04_read.j2 (k + 1) y0 y1 y2)) ∧ (∀ y0 y1 y2 y3 y4, LeO (bursarref04_read.l1 k y0 y1 y2 y3 y4) (bursarref04_read.l1 (k + 1) y0 y1 y2 y3 y4)) ∧ (∀ y0 y1 y2 y3 y4 y5 y6, LeO (bursarref04_read.j4 k y0 y1 y2 y3 y4 y5 y6) (bursarref04_read.j4 (k + 1) y0 y1 y2 y3 y4 y5 y6))
  | 0 => ⟨fun _ _ r h => by simp [bursarref04_read.j0] at h, fun _ _ r h => by simp [bursarref04_read.l0] at h, fun _ _ _ r h => by simp [bursarref04_read.j2] at h, fun _ _ _ _ _ r h => by simp [bursarref04_read.l1] at h, fun _ _ _ _ _ _ _ r h => by simp [bursarref04_read.j4] at h⟩
  | k + 1 => by
    obtain ⟨ih0, ih1, ih2, ih3, ih4⟩ := bursarref04_read.mono_l k
    refine ⟨?_, ?_, ?_, ?_, ?_⟩
    · intro y0 y1
      unfold bursarref04_read.j0
      repeat' first
      | (with_reducible exact ih0 _ _)
      | (with_reducible exact ih1 _ _)
      | (with_reducible exact ih2 _ _ _)
      | (with_reducible exact ih3 _ _ _ _ _)
      | (with_reducible exact ih4 _ _ _ _ _ _ _)
      | (with_reducible exact bursarref04_pieces.mono _ _ _)
      | (with_reducible exact LeO.refl _)
      | (with_reducible exact LeO.none _)
      | (with_reducible refine LeO.ite ?_ ?_)
      | (with_reducible refine LeO.bind ?_ (fun _ => ?_))
      | exact ih0 _ _
      | exact ih1 _ _
      | exact ih2 _ _ _
      | exact ih3 _ _ _ _ _
      | exact ih4 _ _ _ _ _ _ _
      | exact bursarref04_pieces.mono _ _ _
      | exact LeO.none _
      | refine LeO.ite ?_ ?_
      | refine LeO.bind ?_ (fun _ => ?_)
    · intro y0 y1
      unfold bursarref04_read.l0
      repeat' first
      | (with_reducible exact ih0 _ _)
      | (with_reducible exact ih1 _ _)
      | (with_reducible exact ih2 _ _ _)
      | (with_reducible exact ih3 _ _ _ _ _)
      | (with_reducible exact ih4 _ _ _ _ _ _ _)
      | (with_reducible exact bursarref04_pieces.mono _ _ _)
      | (with_reducible exact LeO.refl _)
      | (with_reducible exact LeO.none _)
      | (with_reducible refine LeO.ite ?_ ?_)
      | (with_reducible refine LeO.bind ?_ (fun _ => ?_))
      | exact ih0 _ _
      | exact ih1 _ _
      | exact ih2 _ _ _
      | exact ih3 _ _ _ _ _
      | exact ih4 _ _ _ _ _ _ _
      | exact bursarref04_pieces.mono _ _ _
      | exact LeO.none _
      | refine LeO.ite ?_ ?_
      | refine LeO.bind ?_ (fun _ => ?_)
    · intro y0 y1 y2
      unfold bursarref04_read.j2
      repeat' first
      | (with_reducible exact ih0 _ _)
      | (with_reducible exact ih1 _ _)
      | (with_reducible exact ih2 _ _ _)
      | (with_reducible exact ih3 _ _ _ _ _)
      | (with_reducible exact ih4 _ _ _ _ _ _ _)
      | (with_reducible exact bursarref04_pieces.mono _ _ _)
      | (with_reducible exact LeO.refl _)
      | (with_reducible exact LeO.none _)
      | (with_reducible refine LeO.ite ?_ ?_)
      | (with_reducible refine LeO.bind ?_ (fun _ => ?_))
      | exact ih0 _ _
      | exact ih1 _ _
      | exact ih2 _ _ _
      | exact ih3 _ _ _ _ _
      | exact ih4 _ _ _ _ _ _ _
      | exact bursarref04_pieces.mono _ _ _
      | exact LeO.none _
      | refine LeO.ite ?_ ?_
      | refine LeO.bind ?_ (fun _ => ?_)
    · intro y0 y1 y2 y3 y4
      unfold bursarref04_read.l1
      repeat' first
      | (with_reducible exact ih0 _ _)
      | (with_reducible exact ih1 _ _)
      | (with_reducible exact ih2 _ _ _)
      | (with_reducible exact ih3 _ _ _ _ _)
      | (with_reducible exact ih4 _ _ _ _ _ _ _)
      | (with_reducible exact bursarref04_pieces.mono _ _ _)
      | (with_reducible exact LeO.refl _)
      | (with_reducible exact LeO.none _)
      | (with_reducible refine LeO.ite ?_ ?_)
      | (with_reducible refine LeO.bind ?_ (fun _ => ?_))
      | exact ih0 _ _
      | exact ih1 _ _
      | exact ih2 _ _ _
      | exact ih3 _ _ _ _ _
      | exact ih4 _ _ _ _ _ _ _
      | exact bursarref04_pieces.mono _ _ _
      | exact LeO.none _
      | refine LeO.ite ?_ ?_
      | refine LeO.bind ?_ (fun _ => ?_)
    · intro y0 y1 y2 y3 y4 y5 y6
      unfold bursarref04_read.j4
      repeat' first
      | (with_reducible exact ih0 _ _)
      | (with_reducible exact ih1 _ _)
      | (with_reducible exact ih2 _ _ _)
      | (with_reducible exact ih3 _ _ _ _ _)
      | (with_reducible exact ih4 _ _ _ _ _ _ _)
      | (with_reducible exact bursarref04_pieces.mono _ _ _)
      | (with_reducible exact LeO.refl _)
      | (with_reducible exact LeO.none _)
      | (with_reducible refine LeO.ite ?_ ?_)
      | (with_reducible refine LeO.bind ?_ (fun _ => ?_))
      | exact ih0 _ _
      | exact ih1 _ _
      | exact ih2 _ _ _
      | exact ih3 _ _ _ _ _
      | exact ih4 _ _ _ _ _ _ _
      | exact bursarref04_pieces.mono _ _ _
      | exact LeO.none _
      | refine LeO.ite ?_ ?_
      | refine LeO.bind ?_ (fun _ => ?_)
theorem bursarref04_read.mono : ∀ a0 k, LeO (bursarref04_read.f k a0) (bursarref04_read.f (k + 1) a0) := by
  intro a0 k
  obtain ⟨ih0, ih1, ih2, ih3, ih4⟩ := bursarref04_read.mono_l k
  unfold bursarref04_read.f
  repeat' first
      | (with_reducible exact ih0 _ _)
      | (with_reducible exact ih1 _ _)
      | (with_reducible exact ih2 _ _ _)
      | (with_reducible exact ih3 _ _ _ _ _)
      | (with_reducible exact ih4 _ _ _ _ _ _ _)
      | (with_reducible exact bursarref04_pieces.mono _ _ _)
      | (with_reducible exact LeO.refl _)
      | (with_reducible exact LeO.none _)
      | (with_reducible refine LeO.ite ?_ ?_)
      | (with_reducible refine LeO.bind ?_ (fun _ => ?_))
      | exact ih0 _ _
      | exact ih1 _ _
      | exact ih2 _ _ _
      | exact ih3 _ _ _ _ _
      | exact ih4 _ _ _ _ _ _ _
      | exact bursarref04_pieces.mono _ _ _
      | exact LeO.none _
      | refine LeO.ite ?_ ?_
      | refine LeO.bind ?_ (fun _ => ?_)
def bursarref04_read.T8 : Bool × List (List Nat × List Nat) := (true, [([], []), ([], []), ([0, 1], [0, 1]), ([], []), ([], []), ([4], [4]), ([3, 5], [3, 5]), ([6], [6]), ([2, 7], [2, 7]), ([8, 0, 1, 2, 3, 4, 5, 6, 7, 8], [8])])
def bursarref04_read.B8 : List Nat := [0, 0, 3, 0, 0, 16, 56, 120, 255, 511]
theorem bursarref04_read.tab8 : rtab .any (opsOf Tryd.f44 8) = bursarref04_read.T8 := by kernel_rfl
theorem bursarref04_read.bits8 : waitsOk bursarref04_read.T8.2 bursarref04_read.B8 = true := by kernel_rfl
def bursarref04_read.T11 : Bool × List (List Nat × List Nat) := (true, [([], []), ([], []), ([0, 1], [0, 1]), ([], []), ([], []), ([4], [4]), ([3, 5], [3, 5]), ([6], [6]), ([2, 7], [2, 7]), ([8, 0, 1, 2, 3, 4, 5, 6, 7, 8], [8])])
def bursarref04_read.B11 : List Nat := [0, 0, 3, 0, 0, 16, 56, 120, 255, 511]
theorem bursarref04_read.tab11 : rtab .any (opsOf Tryd.f44 11) = bursarref04_read.T11 := by kernel_rfl
theorem bursarref04_read.bits11 : waitsOk bursarref04_read.T11.2 bursarref04_read.B11 = true := by kernel_rfl
set_option maxHeartbeats 64000000 in
set_option maxRecDepth 100000 in
theorem bursarref04_read.calls (k : Nat) (a0 : ByteArray) (r1 : ByteArray) (r2 : Int) (r3 : List ByteArray) (w : World) (h : bursarref04_read.f k a0 = some (r1, r2, r3)) :
    Calls Tryd.prog 44 #[.string a0] w fun e w' => ∃ v2_ : Value, e = .returned (.agg #[.string r1, .int .i64 r2, v2_]) ∧ Kd.R Kd.string 9 w' w.heap.size (fun _ => True) v2_ r3 ∧ Below w.heap.size w w' := by
  have hu45 := Tryd.underlying45
  have HB := Aside0.mk (Below.refl w.heap.size w)
  have H : (if (a0.size : Int) > 0 then (if 0 < (a0.size : Int) then (bursarref04_read.j0 k a0 ((bt a0 0) == 33)) else (none)) else (bursarref04_read.j0 k a0 false)) = some (r1, r2, r3) := h
  clear h
  have HC2 := Aside0.mk H
  clear H
  go_enter Tryd.func44, Tryd.ntmps44
  go_upto_region 1 with (first | ((with_reducible refine gate_dst (N := 2) rfl ?_); (try (refine gate_guard (by rfl) ?_; dsimp only)); refine box_event ?hg (N := 2) ?hd (cs := #[.string (⟨#[]⟩ : ByteArray), .int .i64 0, .slice none 0 0]) (t := 45) ?hr ?_; (case hd => rfl); (case hg => rfl); (case hr => first | (go_simp; done) | (go_simp; rfl)); intro gb163 hg w3 hbox hb; have n0_ := Aside0.mk (below_step (by repeat (first | (with_reducible first | exact HB.out | apply below_alloc | apply pw_below_drewN | apply below_drew1) | exact HB.out)) hb); have n1_ := Aside0.mk (hbox); have n2_ := Aside0.mk ((by rw [hg]; exact (below_size (by repeat (first | (with_reducible first | exact HB.out | apply below_alloc | apply pw_below_drewN | apply below_drew1) | exact HB.out))) : w.heap.size ≤ gb163)); have n3_ := Aside0.mk ((by rw [hg]; exact (below_size (by repeat (first | (with_reducible first | exact HB.out | apply below_alloc | apply pw_below_drewN | apply below_drew1) | exact HB.out))) : w.heap.size ≤ gb163)); clear HB; have HB := n0_; have BK163 := n1_; have GW163 := n2_; have GE163 := n3_; clear n0_ n1_ n2_ n3_; clear hb hbox hg))
  (try simp only [Act.put, List.setIfInBounds_toArray, List.set_cons_zero, List.set_cons_succ])
  go_cut [15] (fun v15 wc => ∃ (kq : Nat) (x15_1 : Bool), v15 = .bool x15_1 ∧ Aside0 (bursarref04_read.j0 kq a0 x15_1 = some (r1, r2, r3)) ∧ Aside0 (kq ≤ k) ∧ Aside0 (wc.heap[gb163]? = some (.cells #[.string (⟨#[]⟩ : ByteArray), .int .i64 0, (.slice none 0 0)] 45 (0, 0))) ∧ Aside0 (Below w.heap.size w wc))
  case first =>
    have H := HC2.out
    clear HC2
    by_cases c4 : (a0.size : Int) > 0
    · rw [if_pos c4] at H
      have c4b0 : decide (0 < (a0.size : Int)) = true := decide_eq_true c4
      have c4b1 : decide (0 < a0.size) = true := decide_eq_true (by omega)
      clear c4
      (first | rw [c4b0] | (simp only [i64_w, i32_w]; rw [c4b0]) | skip)
      by_cases c5 : 0 < (a0.size : Int)
      · rw [if_pos c5] at H
        have c5b0 : decide (0 < (a0.size : Int)) = true := decide_eq_true c5
        have c5b1 : decide (0 < a0.size) = true := decide_eq_true (by omega)
        clear c5
        have H' := Aside0.mk H
        clear H
        have p6 : 0 ≤ (0 : Int) := (by omega)
        have q6 : 0 < a0.size := (by have : (0 : Int) < (a0.size : Int) := of_decide_eq_true (by first | (with_reducible assumption) | assumption); omega)
        have hx6 : ∀ h : 0 < a0.size, ((a0[0]'h).toNat : Int) = bt a0 0 := bt_at a0 0
        clear p6
        have qi6 : (0 < (a0.size : Int)) = True := eq_true (of_decide_eq_true (by first | (with_reducible assumption) | assumption))
        replace q6 := eq_true q6
        go_wp2
        go_meet
        case rel => exact ⟨_, (((bt a0 0) == 33)), (by first | rfl | (simp; done) | (simp [*]; done) | (simp; rw [Bool.eq_iff_iff]; simp; done) | (rw [Bool.eq_iff_iff]; simp; done)), H', ⟨by first | omega | exact Nat.le_refl _⟩, ⟨by (with_reducible repeat (first | refine blk_drewN ?_ _ | refine blk_drew ?_ | refine blk_alloc ?_ _)); exact BK163.out⟩, ⟨by repeat (first | (with_reducible first | exact HB.out | apply below_alloc | apply pw_below_drewN | apply below_drew1 | refine below_set ?_ GE163.out) | exact HB.out)⟩⟩
      · rw [if_neg c5] at H
        exact absurd H (by simp)
    · rw [if_neg c4] at H
      have c4b0 : decide (0 < (a0.size : Int)) = false := decide_eq_false c4
      have c4b1 : decide (0 < a0.size) = false := decide_eq_false (by omega)
      clear c4
      (first | rw [c4b0] | (simp only [i64_w, i32_w]; rw [c4b0]) | skip)
      have H' := Aside0.mk H
      clear H
      go_wp2
      go_meet
      case rel => exact ⟨_, (false), (by first | rfl | (simp; done) | (simp [*]; done) | (simp; rw [Bool.eq_iff_iff]; simp; done) | (rw [Bool.eq_iff_iff]; simp; done)), H', ⟨by first | omega | exact Nat.le_refl _⟩, ⟨by (with_reducible repeat (first | refine blk_drewN ?_ _ | refine blk_drew ?_ | refine blk_alloc ?_ _)); exact BK163.out⟩, ⟨by repeat (first | (with_reducible first | exact HB.out | apply below_alloc | apply pw_below_drewN | apply below_drew1 | refine below_set ?_ GE163.out) | exact HB.out)⟩⟩
  case rest =>
    clear HC2
    try clear p2
    try clear c4
    try clear c4b0
    try clear c4b1
    try clear c5
    try clear c5b0
    try clear c5b1
    try clear p6
    try clear q6
    try clear hx6
    try clear qi6
    try clear p6
    try clear q6
    obtain ⟨kq, x15_1, rfl, HA, HJ1, BK163, HB⟩ := hcut
    cases kq with
    | zero => exact absurd HA.out (by simp [bursarref04_read.j0])
    | succ kj1 =>
      have H := HA.out
      clear HA
      simp only [bursarref04_read.j0] at H
      by_cases c7 : x15_1 = true
      · subst c7
        have H1 : (if 1 ≤ (a0.size : Int) then (some (a0.extract 1 a0.size, 3, ([] : List ByteArray))) else (none)) = some (r1, r2, r3) := by rw [if_pos rfl] at H; exact H
        clear H
        have H := H1
        clear H1
        by_cases c8 : 1 ≤ (a0.size : Int)
        · rw [if_pos c8] at H
          have c8b0 := eq_true c8
          have c8b1 : decide (1 ≤ (a0.size : Int)) = true := decide_eq_true c8
          clear c8
          simp only [Option.some.injEq, Prod.mk.injEq] at H
          obtain ⟨rfl, rfl, rfl⟩ := H
          have hcz9_0 : wc.cell? ⟨gb163, 0, none⟩ = some (.string (⟨#[]⟩ : ByteArray)) := (blk_cell BK163.out 0).trans rfl
          have hcz9_1 : wc.cell? ⟨gb163, 1, none⟩ = some (.int .i64 0) := (blk_cell BK163.out 1).trans rfl
          have hcz9_2 : wc.cell? ⟨gb163, 2, none⟩ = some (.slice none 0 0) := (blk_cell BK163.out 2).trans rfl
          have hfz9_0 := blk_frozen BK163.out 0
          have hfz9_1 := blk_frozen BK163.out 1
          have hfz9_2 := blk_frozen BK163.out 2
          go_wp2
          refine bodyPost_ret (results_cell_row rfl _ _ gb163 45 #[.string (a0.extract 1 a0.size), .int .i64 3, .slice none 0 0] (0, 0) _ rfl (by (with_reducible repeat (first | refine blk_drewN ?_ _ | refine blk_drew ?_ | refine blk_alloc ?_ _)); refine blk_put (cs := #[.string (a0.extract 1 a0.size), .int .i64 3, .slice none 0 0]) ?_ 2 _ rfl; (with_reducible repeat (first | refine blk_drewN ?_ _ | refine blk_drew ?_ | refine blk_alloc ?_ _)); refine blk_put (cs := #[.string (a0.extract 1 a0.size), .int .i64 0, .slice none 0 0]) ?_ 1 _ rfl; (with_reducible repeat (first | refine blk_drewN ?_ _ | refine blk_drew ?_ | refine blk_alloc ?_ _)); refine blk_put (cs := #[.string (⟨#[]⟩ : ByteArray), .int .i64 0, .slice none 0 0]) ?_ 0 _ rfl; (with_reducible repeat (first | refine blk_drewN ?_ _ | refine blk_drew ?_ | refine blk_alloc ?_ _)); exact BK163.out) Tryd.underlying45 rfl (by kernel_rfl)) rfl ?_
          exact ⟨_, by first | rfl | (simp [errW_none, errW_some] <;> rfl) | (simp [*, errW_none, errW_some] <;> rfl), by first | exact Kd.R_nil _ _ _ _ _ | exact Kd.N_nil _ _ _ _ _ | exact Kd.V_nil _ _ _ _ _ | exact Kd.Q_nil _ _ _ _ _ | exact Kd.S_nil _ _ _ _ _, by repeat (first | (with_reducible first | exact HB.out | apply below_alloc | apply pw_below_drewN | apply below_drew1 | refine below_set ?_ GE163.out) | exact HB.out)⟩
        · rw [if_neg c8] at H
          exact absurd H (by simp)
      · replace c7 := Bool.eq_false_iff.mpr c7
        subst c7
        have H1 : (bursarref04_read.l0 kj1 a0 0) = some (r1, r2, r3) := by rw [if_neg (show ¬ (false = true) by decide)] at H; exact H
        clear H
        have H := H1
        clear H1
        have H' := Aside0.mk H
        clear H
        go_wp2
        go_loopg [3] kj1 (fun kq v3 w' => ∃ (x3_2 : Int) (x164000_2 : ByteArray) (x164001_2 : Int), v3 = .int .i64 x3_2 ∧ Aside0 (bursarref04_read.l0 kq a0 x3_2 = some (r1, r2, r3)) ∧ Aside0 (kq ≤ kj1) ∧ Aside0 (w'.heap[gb163]? = some (.cells #[.string x164000_2, .int .i64 x164001_2, (.slice none 0 0)] 45 (0, 0))) ∧ Aside0 (Below w.heap.size w w'))
        case atStart => exact ⟨(0), ((⟨#[]⟩ : ByteArray)), (0), (by first | rfl | (simp; done) | (simp [*]; done) | (simp; rw [Bool.eq_iff_iff]; simp; done) | (rw [Bool.eq_iff_iff]; simp; done)), H', ⟨Nat.le_refl _⟩, ⟨by (with_reducible repeat (first | refine blk_drewN ?_ _ | refine blk_drew ?_ | refine blk_alloc ?_ _)); exact BK163.out⟩, ⟨by repeat (first | (with_reducible first | exact HB.out | apply below_alloc | apply pw_below_drewN | apply below_drew1 | refine below_set ?_ GE163.out) | exact HB.out)⟩⟩
        case round =>
          clear H'
          try clear p2
          try clear c4
          try clear c4b0
          try clear c4b1
          try clear c5
          try clear c5b0
          try clear c5b1
          try clear p6
          try clear q6
          try clear hx6
          try clear qi6
          try clear c7
          try clear c8
          try clear c8b0
          try clear c8b1
          try clear hcz9_0
          try clear hcz9_1
          try clear hcz9_2
          try clear hfz9_0
          try clear hfz9_1
          try clear hfz9_2
          try clear p2
          try clear p6
          try clear q6
          obtain ⟨x3_2, x164000_2, x164001_2, rfl, HA, HK2, BK163, HB⟩ := hrel
          cases gk with
          | zero => exact absurd HA.out (by simp [bursarref04_read.l0])
          | succ k2 =>
            have H := HA.out
            clear HA
            simp only [bursarref04_read.l0] at H
            by_cases c10 : x3_2 < (a0.size : Int)
            · rw [if_pos c10] at H
              have c10b0 : decide (x3_2 < (a0.size : Int)) = true := decide_eq_true c10
              clear c10
              by_cases c11 : 0 ≤ x3_2
              · rw [if_pos c11] at H
                have c11b0 : decide (0 ≤ x3_2) = true := decide_eq_true c11
                clear c11
                by_cases c13 : (bt a0 x3_2) = 61
                · rw [if_pos c13] at H
                  have c13b0 : ((bt a0 x3_2) == 61) = true := beq_iff_eq.mpr c13
                  have c13b1 : ((bt a0 x3_2) != 61) = false := bne_eq_false_iff_eq.mpr c13
                  clear c13
                  have c14b0 := eq_true (of_decide_eq_true (by first | (with_reducible assumption) | assumption) : 0 ≤ x3_2)
                  by_cases c15 : x3_2 ≤ (a0.size : Int)
                  · rw [if_pos c15] at H
                    have c15b0 := eq_true c15
                    have c15b1 : decide (x3_2 ≤ (a0.size : Int)) = true := decide_eq_true c15
                    clear c15
                    obtain ⟨ji16, hji16⟩ : ∃ j_ : Int, (wrap64 (x3_2 + 1)) = j_ := ⟨_, rfl⟩
                    replace H : (if 0 ≤ (ji16) then (if (ji16) ≤ (a0.size : Int) then (some (a0.extract 0 (x3_2 : Int).toNat, 0, (([a0.extract ((ji16) : Int).toNat a0.size] : List ByteArray)))) else (none)) else (none)) = some (r1, r2, r3) := by first | (rw [hji16] at H; exact H) | (simp only [hji16] at H ⊢; exact H)
                    have hji16w : (IntKind.i64.wrap (x3_2 + 1)) = ji16 := (i64_w _).trans hji16
                    by_cases c17 : 0 ≤ (ji16)
                    · rw [if_pos c17] at H
                      have c17b0 := eq_true c17
                      have c17b1 : decide (0 ≤ (ji16)) = true := decide_eq_true c17
                      clear c17
                      by_cases c18 : (ji16) ≤ (a0.size : Int)
                      · rw [if_pos c18] at H
                        have c18b0 := eq_true c18
                        have c18b1 : decide ((ji16) ≤ (a0.size : Int)) = true := decide_eq_true c18
                        clear c18
                        obtain ⟨y164, hy164⟩ : ∃ y_ : List ByteArray, y_ = (([a0.extract ((ji16) : Int).toNat a0.size] : List ByteArray)) := ⟨_, rfl⟩
                        replace H : (some (a0.extract 0 (x3_2 : Int).toNat, 0, y164)) = some (r1, r2, r3) := by first | (rw [hy164]; with_reducible exact H) | (have H2_ := (Option.bind_some _ _).symm.trans H; rw [hy164]; with_reducible exact H2_) | (have H2_ := (Option.bind_some _ _).symm.trans H; with_reducible exact H2_) | with_reducible exact H | (rw [hy164]; exact H) | exact H
                        have Ny164 := Aside0.mk hy164
                        clear hy164
                        simp only [Option.some.injEq, Prod.mk.injEq] at H
                        obtain ⟨rfl, rfl, rfl⟩ := H
                        have p12 : 0 ≤ (x3_2 : Int) := of_decide_eq_true (by first | (with_reducible assumption) | assumption)
                        have q12 : x3_2 < (a0.size : Int) := of_decide_eq_true (by first | (with_reducible assumption) | assumption)
                        have hx12 := bt_at a0 x3_2
                        replace p12 := eq_true p12
                        replace q12 := eq_true q12
                        try go_wp2
                        have n0_ := Aside0.mk (blk_drew BK163.out)
                        have n1_ := Aside0.mk (below_drew1 HB.out)
                        clear BK163
                        clear HB
                        have BK163 := n0_
                        have HB := n1_
                        clear n0_ n1_
                        refine start_ (n := 10) (S := fun w' => True) (ds := []) #[false, false, false, false, false, false, false, false, false, false] (by kernel_rfl) rfl rfl trivial (fun hHeld => ?_); refine with_tabW bursarref04_read.tab8 bursarref04_read.bits8 (fun HT_ HW_ => ?_)
                        generalize wr.drew = w19 at BK163 HB hHeld ⊢
                        refine pure_ (i := 0) (N := some 30) (v := ?_) (a' := ?_) #[true, false, false, false, false, false, false, false, false, false] rfl rfl (any_of HT_.out (by kernel_rfl)) (fun _ _ _ h => h) (Or.inl ⟨by rfl, ?_⟩) ?_ ?_
                        rotate_left
                        · intro w'
                          go_simp
                          with_reducible rfl
                        rotate_left
                        · simp only [Act.put, List.setIfInBounds_toArray, List.set_cons_zero, List.set_cons_succ, i64_w, i32_w]
                          rfl
                        refine pure_ (i := 1) (N := some 31) (v := ?_) (a' := ?_) #[true, true, false, false, false, false, false, false, false, false] rfl rfl (any_of HT_.out (by kernel_rfl)) (fun _ _ _ h => h) (Or.inl ⟨by rfl, ?_⟩) ?_ ?_
                        rotate_left
                        · intro w'
                          go_simp
                          with_reducible rfl
                        rotate_left
                        · simp only [Act.put, List.setIfInBounds_toArray, List.set_cons_zero, List.set_cons_succ, i64_w, i32_w]
                          rfl
                        refine pure_ (i := 2) (N := some 32) (v := ?_) (a' := ?_) #[true, true, true, false, false, false, false, false, false, false] rfl rfl (any_of HT_.out (by kernel_rfl)) (fun _ _ _ h => h) (Or.inl ⟨by rfl, ?_⟩) ?_ ?_
                        rotate_left
                        · intro w'
                          go_simp
                          with_reducible rfl
                        rotate_left
                        · simp only [Act.put, List.setIfInBounds_toArray, List.set_cons_zero, List.set_cons_succ, i64_w, i32_w]
                          rfl
                        refine pure_ (i := 3) (N := some 33) (v := ?_) (a' := ?_) #[true, true, true, true, false, false, false, false, false, false] rfl rfl (any_of HT_.out (by kernel_rfl)) (fun _ _ _ h => h) (Or.inl ⟨by rfl, ?_⟩) ?_ ?_
                        rotate_left
                        · intro w'
                          go_simp
                          with_reducible rfl
                        rotate_left
                        · simp only [Act.put, List.setIfInBounds_toArray, List.set_cons_zero, List.set_cons_succ, i64_w, i32_w]
                          rfl
                        refine pure_ (i := 4) (N := some 34) (v := ?_) (a' := ?_) #[true, true, true, true, true, false, false, false, false, false] rfl rfl (any_of HT_.out (by kernel_rfl)) (fun _ _ _ h => h) (Or.inl ⟨by rfl, ?_⟩) ?_ ?_
                        rotate_left
                        · intro w'
                          go_simp
                          with_reducible rfl
                        rotate_left
                        · simp only [Act.put, List.setIfInBounds_toArray, List.set_cons_zero, List.set_cons_succ, i64_w, i32_w]
                          rfl
                        refine pure_ (i := 5) (N := some 35) (v := ?_) (a' := ?_) #[true, true, true, true, true, true, false, false, false, false] rfl rfl (any_of HT_.out (by kernel_rfl)) (fun _ _ _ h => h) (Or.inl ⟨by rfl, ?_⟩) ?_ ?_
                        rotate_left
                        · intro w'
                          go_simp
                          with_reducible rfl
                        rotate_left
                        · simp only [Act.put, List.setIfInBounds_toArray, List.set_cons_zero, List.set_cons_succ, i64_w, i32_w]
                          rfl
                        refine pure_ (i := 6) (N := some 36) (v := ?_) (a' := ?_) #[true, true, true, true, true, true, true, false, false, false] rfl rfl (any_of HT_.out (by kernel_rfl)) (fun _ _ _ h => h) (Or.inl ⟨by rfl, ?_⟩) ?_ ?_
                        rotate_left
                        · intro w'
                          go_simp
                          with_reducible rfl
                        rotate_left
                        · simp only [Act.put, List.setIfInBounds_toArray, List.set_cons_zero, List.set_cons_succ, i64_w, i32_w]
                          rfl
                        refine one_ (i := 7) (N := some 37) #[true, true, true, true, true, true, true, true, false, false] rfl rfl (one_of HT_.out (by kernel_rfl)) (by decide) (fun K hK => ?_)
                        refine Kd.R_lit_step Kd.string _ 9 ?hg (N := 37) ?hd (xs := ([a0.extract ((ji16) : Int).toNat a0.size] : List ByteArray)) (inner := [.string (a0.extract ((ji16) : Int).toNat a0.size)]) (ok := fun _ => True) (okp := fun _ => True) ?hr ?hp (fun _ hk => hk) trivial (Below.refl _ _) (Nat.le_refl _) (by simp) ?_; (case hd => rfl); (case hg => rfl); (case hr => first | (go_simp; done) | (go_simp; rfl)); (case hp => exact (Reps.one (show Kd.M Kd.string _ _ _ (a0.extract ((ji16) : Int).toNat a0.size) [.string (a0.extract ((ji16) : Int).toNat a0.size)] from rfl) (Reps.none _ _)))
                        intro v165 w20 ho21 hb hg_ hnew_
                        clear hg_ hnew_
                        (first | rw [← Ny164.out] at ho21 | (simp only [Int.reduceToNat] at ho21; rw [← Ny164.out] at ho21))
                        have n0_ := Aside0.mk (Kd.R_lower ho21 (below_size (by repeat (first | (with_reducible first | exact HB.out | apply below_alloc | apply pw_below_drewN | apply below_drew1 | refine below_set ?_ GE163.out) | exact HB.out))))
                        have n1_ := Aside0.mk (blk_below (g := gb163) (o := .cells #[.string x164000_2, .int .i64 x164001_2, .slice none 0 0] 45 (0, 0)) (by (with_reducible repeat (first | refine blk_drewN ?_ _ | refine blk_drew ?_ | refine blk_alloc ?_ _)); exact BK163.out) hb)
                        have n2_ := Aside0.mk (below_step (by repeat (first | (with_reducible first | exact HB.out | apply below_alloc | apply pw_below_drewN | apply below_drew1 | refine below_set ?_ GE163.out) | exact HB.out)) hb)
                        clear BK163
                        clear HB
                        have HO166 := n0_
                        have BK163 := n1_
                        have HB := n2_
                        clear n0_ n1_ n2_
                        clear hb ho21
                        obtain ⟨Ao22, co22, eo22⟩ := Kd.R_slice HO166.out
                        (first | subst eo22 | (injection eo22 with f1_ f2_ f3_; have f4_ := f1_.symm; have f5_ := f3_.symm; clear f1_ f2_ f3_; subst f4_; subst f5_))
                        refine hK.out _ _ trivial (fun hHeld => ?_)
                        clear hK K
                        refine norm_ (a' := ?_) ?_ ?_
                        rotate_left
                        · show Act.put _ (some 37) _ = _
                          simp only [Act.put, List.setIfInBounds_toArray, List.set_cons_zero, List.set_cons_succ, i64_w, i32_w]
                          rfl
                        refine pure_ (i := 8) (N := some 38) (v := ?_) (a' := ?_) #[true, true, true, true, true, true, true, true, true, false] rfl rfl (any_of HT_.out (by kernel_rfl)) (fun _ _ _ h => h) (Or.inl ⟨by rfl, ?_⟩) ?_ ?_
                        rotate_left
                        · intro w'
                          go_simp
                          with_reducible rfl
                        rotate_left
                        · simp only [Act.put, List.setIfInBounds_toArray, List.set_cons_zero, List.set_cons_succ, i64_w, i32_w]
                          rfl
                        refine one_ (i := 9) (N := none) #[true, true, true, true, true, true, true, true, true, true] rfl rfl (one_of HT_.out (by kernel_rfl)) (by decide) (fun K hK => ?_)
                        have hs23 : w20.cell? ⟨gb163, 0, none⟩ = some (.string x164000_2) := (blk_cell BK163.out 0).trans rfl
                        have hfs23 := blk_frozen BK163.out 0
                        have hs24 : w20.cell? ⟨gb163, 1, none⟩ = some (.int .i64 x164001_2) := (blk_cell BK163.out 1).trans rfl
                        have hfs24 := blk_frozen BK163.out 1
                        have hs25 : w20.cell? ⟨gb163, 2, none⟩ = some (.slice none 0 0) := (blk_cell BK163.out 2).trans rfl
                        have hfs25 := blk_frozen BK163.out 2
                        refine skip_ (w1 := ?_) (by rfl) rfl ?_ ?_
                        rotate_left
                        · go_simp
                          rfl
                        refine hK.out _ _ trivial (fun hHeld => ?_)
                        clear hK K
                        refine done_ (done_of HT_.out (by kernel_rfl)) ?_
                        try go_wp2
                        refine bodyPost_ret (results_cell_row rfl _ _ gb163 45 #[.string (a0.extract 0 (x3_2 : Int).toNat), .int .i64 0, .slice Ao22 y164.length co22] (0, 0) _ rfl (by (with_reducible repeat (first | refine blk_drewN ?_ _ | refine blk_drew ?_ | refine blk_alloc ?_ _)); refine blk_put (cs := #[.string (a0.extract 0 (x3_2 : Int).toNat), .int .i64 0, .slice none 0 0]) ?_ 2 _ rfl; (with_reducible repeat (first | refine blk_drewN ?_ _ | refine blk_drew ?_ | refine blk_alloc ?_ _)); refine blk_put (cs := #[.string (a0.extract 0 (x3_2 : Int).toNat), .int .i64 x164001_2, .slice none 0 0]) ?_ 1 _ rfl; (with_reducible repeat (first | refine blk_drewN ?_ _ | refine blk_drew ?_ | refine blk_alloc ?_ _)); refine blk_put (cs := #[.string x164000_2, .int .i64 x164001_2, .slice none 0 0]) ?_ 0 _ rfl; (with_reducible repeat (first | refine blk_drewN ?_ _ | refine blk_drew ?_ | refine blk_alloc ?_ _)); exact BK163.out) Tryd.underlying45 rfl (by kernel_rfl)) rfl ?_
                        exact ⟨_, by first | rfl | (simp [errW_none, errW_some] <;> rfl) | (simp only [← hji16]; first | rfl | (simp [errW_none, errW_some] <;> rfl)) | (simp [*, errW_none, errW_some] <;> rfl), by (with_reducible repeat (first | apply Kd.R_alloc | apply Kd.R_drewN | apply Kd.R_drew)); exact Kd.R_mono (Kd.R_far (p := ⟨gb163, 2, none⟩) (Kd.R_far (p := ⟨gb163, 1, none⟩) (Kd.R_far (p := ⟨gb163, 0, none⟩) (Kd.R_types HO166.out BK163.out (by decide)) (fun _ hk => hk.2) (.string (a0.extract 0 (x3_2 : Int).toNat))) (fun _ hk => hk.2) (.int .i64 0)) (fun _ hk => hk.2) (.slice Ao22 y164.length co22)) (fun _ hk => trivial), by repeat (first | (with_reducible first | exact HB.out | apply below_alloc | apply pw_below_drewN | apply below_drew1 | refine below_set ?_ GE163.out) | exact HB.out)⟩
                      · rw [if_neg c18] at H
                        exact absurd H (by simp)
                    · rw [if_neg c17] at H
                      exact absurd H (by simp)
                  · rw [if_neg c15] at H
                    exact absurd H (by simp)
                · rw [if_neg c13] at H
                  have c13b0 : ((bt a0 x3_2) == 61) = false := beq_eq_false_iff_ne.mpr c13
                  have c13b1 : ((bt a0 x3_2) != 61) = true := bne_iff_ne.mpr c13
                  by_cases c26 : (bt a0 x3_2) = 33
                  · rw [if_pos c26] at H
                    have c26b0 : ((bt a0 x3_2) == 33) = true := beq_iff_eq.mpr c26
                    have c26b1 : ((bt a0 x3_2) != 33) = false := bne_eq_false_iff_eq.mpr c26
                    clear c26
                    by_cases c27 : (wrap64 (x3_2 + 1)) < (a0.size : Int)
                    · rw [if_pos c27] at H
                      have c27b0 : decide ((wrap64 (x3_2 + 1)) < (a0.size : Int)) = true := decide_eq_true c27
                      clear c27
                      obtain ⟨ji28, hji28⟩ : ∃ j_ : Int, (wrap64 (x3_2 + 1)) = j_ := ⟨_, rfl⟩
                      replace H : (if 0 ≤ (ji28) then (if (bt a0 (ji28)) = 61 then (if x3_2 ≤ (a0.size : Int) then (if 0 ≤ (wrap64 (x3_2 + 2)) then (if (wrap64 (x3_2 + 2)) ≤ (a0.size : Int) then (some (a0.extract 0 (x3_2 : Int).toNat, 1, (([a0.extract ((wrap64 (x3_2 + 2)) : Int).toNat a0.size] : List ByteArray)))) else (none)) else (none)) else (none)) else (bursarref04_read.l0 k2 a0 ji28)) else (none)) = some (r1, r2, r3) := by first | (rw [hji28] at H; exact H) | (simp only [hji28] at H ⊢; exact H)
                      (try rw [hji28] at c27b0)
                      have hji28w : (IntKind.i64.wrap (x3_2 + 1)) = ji28 := (i64_w _).trans hji28
                      by_cases c29 : 0 ≤ (ji28)
                      · rw [if_pos c29] at H
                        have c29b0 : decide (0 ≤ (ji28)) = true := decide_eq_true c29
                        clear c29
                        by_cases c31 : (bt a0 (ji28)) = 61
                        · rw [if_pos c31] at H
                          have c31b0 : ((bt a0 (ji28)) == 61) = true := beq_iff_eq.mpr c31
                          have c31b1 : ((bt a0 (ji28)) != 61) = false := bne_eq_false_iff_eq.mpr c31
                          clear c31
                          have c32b0 := eq_true (of_decide_eq_true (by first | (with_reducible assumption) | assumption) : 0 ≤ x3_2)
                          by_cases c33 : x3_2 ≤ (a0.size : Int)
                          · rw [if_pos c33] at H
                            have c33b0 := eq_true c33
                            have c33b1 : decide (x3_2 ≤ (a0.size : Int)) = true := decide_eq_true c33
                            clear c33
                            obtain ⟨ji34, hji34⟩ : ∃ j_ : Int, (wrap64 (x3_2 + 2)) = j_ := ⟨_, rfl⟩
                            replace H : (if 0 ≤ (ji34) then (if (ji34) ≤ (a0.size : Int) then (some (a0.extract 0 (x3_2 : Int).toNat, 1, (([a0.extract ((ji34) : Int).toNat a0.size] : List ByteArray)))) else (none)) else (none)) = some (r1, r2, r3) := by first | (rw [hji34] at H; exact H) | (simp only [hji34] at H ⊢; exact H)
                            have hji34w : (IntKind.i64.wrap (x3_2 + 2)) = ji34 := (i64_w _).trans hji34
                            by_cases c35 : 0 ≤ (ji34)
                            · rw [if_pos c35] at H
                              have c35b0 := eq_true c35
                              have c35b1 : decide (0 ≤ (ji34)) = true := decide_eq_true c35
                              clear c35
                              by_cases c36 : (ji34) ≤ (a0.size : Int)
                              · rw [if_pos c36] at H
                                have c36b0 := eq_true c36
                                have c36b1 : decide ((ji34) ≤ (a0.size : Int)) = true := decide_eq_true c36
                                clear c36
                                obtain ⟨y167, hy167⟩ : ∃ y_ : List ByteArray, y_ = (([a0.extract ((ji34) : Int).toNat a0.size] : List ByteArray)) := ⟨_, rfl⟩
                                replace H : (some (a0.extract 0 (x3_2 : Int).toNat, 1, y167)) = some (r1, r2, r3) := by first | (rw [hy167]; with_reducible exact H) | (have H2_ := (Option.bind_some _ _).symm.trans H; rw [hy167]; with_reducible exact H2_) | (have H2_ := (Option.bind_some _ _).symm.trans H; with_reducible exact H2_) | with_reducible exact H | (rw [hy167]; exact H) | exact H
                                have Ny167 := Aside0.mk hy167
                                clear hy167
                                simp only [Option.some.injEq, Prod.mk.injEq] at H
                                obtain ⟨rfl, rfl, rfl⟩ := H
                                have p12 : 0 ≤ (x3_2 : Int) := of_decide_eq_true (by first | (with_reducible assumption) | assumption)
                                have q12 : x3_2 < (a0.size : Int) := of_decide_eq_true (by first | (with_reducible assumption) | assumption)
                                have hx12 := bt_at a0 x3_2
                                replace p12 := eq_true p12
                                replace q12 := eq_true q12
                                have p30 : 0 ≤ ((ji28) : Int) := of_decide_eq_true (by first | (with_reducible assumption) | assumption)
                                have q30 : (ji28) < (a0.size : Int) := of_decide_eq_true (by first | (with_reducible assumption) | assumption)
                                have hx30 := bt_at a0 (ji28)
                                replace p30 := eq_true p30
                                replace q30 := eq_true q30
                                try go_wp2
                                have n0_ := Aside0.mk (blk_drew BK163.out)
                                have n1_ := Aside0.mk (below_drew1 HB.out)
                                clear BK163
                                clear HB
                                have BK163 := n0_
                                have HB := n1_
                                clear n0_ n1_
                                refine start_ (n := 10) (S := fun w' => True) (ds := []) #[false, false, false, false, false, false, false, false, false, false] (by kernel_rfl) rfl rfl trivial (fun hHeld => ?_); refine with_tabW bursarref04_read.tab11 bursarref04_read.bits11 (fun HT_ HW_ => ?_)
                                generalize wr.drew = w37 at BK163 HB hHeld ⊢
                                refine pure_ (i := 0) (N := some 53) (v := ?_) (a' := ?_) #[true, false, false, false, false, false, false, false, false, false] rfl rfl (any_of HT_.out (by kernel_rfl)) (fun _ _ _ h => h) (Or.inl ⟨by rfl, ?_⟩) ?_ ?_
                                rotate_left
                                · intro w'
                                  go_simp
                                  with_reducible rfl
                                rotate_left
                                · simp only [Act.put, List.setIfInBounds_toArray, List.set_cons_zero, List.set_cons_succ, i64_w, i32_w]
                                  rfl
                                refine pure_ (i := 1) (N := some 54) (v := ?_) (a' := ?_) #[true, true, false, false, false, false, false, false, false, false] rfl rfl (any_of HT_.out (by kernel_rfl)) (fun _ _ _ h => h) (Or.inl ⟨by rfl, ?_⟩) ?_ ?_
                                rotate_left
                                · intro w'
                                  go_simp
                                  with_reducible rfl
                                rotate_left
                                · simp only [Act.put, List.setIfInBounds_toArray, List.set_cons_zero, List.set_cons_succ, i64_w, i32_w]
                                  rfl
                                refine pure_ (i := 2) (N := some 55) (v := ?_) (a' := ?_) #[true, true, true, false, false, false, false, false, false, false] rfl rfl (any_of HT_.out (by kernel_rfl)) (fun _ _ _ h => h) (Or.inl ⟨by rfl, ?_⟩) ?_ ?_
                                rotate_left
                                · intro w'
                                  go_simp
                                  with_reducible rfl
                                rotate_left
                                · simp only [Act.put, List.setIfInBounds_toArray, List.set_cons_zero, List.set_cons_succ, i64_w, i32_w]
                                  rfl
                                refine pure_ (i := 3) (N := some 56) (v := ?_) (a' := ?_) #[true, true, true, true, false, false, false, false, false, false] rfl rfl (any_of HT_.out (by kernel_rfl)) (fun _ _ _ h => h) (Or.inl ⟨by rfl, ?_⟩) ?_ ?_
                                rotate_left
                                · intro w'
                                  go_simp
                                  with_reducible rfl
                                rotate_left
                                · simp only [Act.put, List.setIfInBounds_toArray, List.set_cons_zero, List.set_cons_succ, i64_w, i32_w]
                                  rfl
                                refine pure_ (i := 4) (N := some 57) (v := ?_) (a' := ?_) #[true, true, true, true, true, false, false, false, false, false] rfl rfl (any_of HT_.out (by kernel_rfl)) (fun _ _ _ h => h) (Or.inl ⟨by rfl, ?_⟩) ?_ ?_
                                rotate_left
                                · intro w'
                                  go_simp
                                  with_reducible rfl
                                rotate_left
                                · simp only [Act.put, List.setIfInBounds_toArray, List.set_cons_zero, List.set_cons_succ, i64_w, i32_w]
                                  rfl
                                refine pure_ (i := 5) (N := some 58) (v := ?_) (a' := ?_) #[true, true, true, true, true, true, false, false, false, false] rfl rfl (any_of HT_.out (by kernel_rfl)) (fun _ _ _ h => h) (Or.inl ⟨by rfl, ?_⟩) ?_ ?_
                                rotate_left
                                · intro w'
                                  go_simp
                                  with_reducible rfl
                                rotate_left
                                · simp only [Act.put, List.setIfInBounds_toArray, List.set_cons_zero, List.set_cons_succ, i64_w, i32_w]
                                  rfl
                                refine pure_ (i := 6) (N := some 59) (v := ?_) (a' := ?_) #[true, true, true, true, true, true, true, false, false, false] rfl rfl (any_of HT_.out (by kernel_rfl)) (fun _ _ _ h => h) (Or.inl ⟨by rfl, ?_⟩) ?_ ?_
                                rotate_left
                                · intro w'
                                  go_simp
                                  with_reducible rfl
                                rotate_left
                                · simp only [Act.put, List.setIfInBounds_toArray, List.set_cons_zero, List.set_cons_succ, i64_w, i32_w]
                                  rfl
                                refine one_ (i := 7) (N := some 60) #[true, true, true, true, true, true, true, true, false, false] rfl rfl (one_of HT_.out (by kernel_rfl)) (by decide) (fun K hK => ?_)
                                refine Kd.R_lit_step Kd.string _ 9 ?hg (N := 60) ?hd (xs := ([a0.extract ((ji34) : Int).toNat a0.size] : List ByteArray)) (inner := [.string (a0.extract ((ji34) : Int).toNat a0.size)]) (ok := fun _ => True) (okp := fun _ => True) ?hr ?hp (fun _ hk => hk) trivial (Below.refl _ _) (Nat.le_refl _) (by simp) ?_; (case hd => rfl); (case hg => rfl); (case hr => first | (go_simp; done) | (go_simp; rfl)); (case hp => exact (Reps.one (show Kd.M Kd.string _ _ _ (a0.extract ((ji34) : Int).toNat a0.size) [.string (a0.extract ((ji34) : Int).toNat a0.size)] from rfl) (Reps.none _ _)))
                                intro v168 w38 ho39 hb hg_ hnew_
                                clear hg_ hnew_
                                (first | rw [← Ny167.out] at ho39 | (simp only [Int.reduceToNat] at ho39; rw [← Ny167.out] at ho39))
                                have n0_ := Aside0.mk (Kd.R_lower ho39 (below_size (by repeat (first | (with_reducible first | exact HB.out | apply below_alloc | apply pw_below_drewN | apply below_drew1 | refine below_set ?_ GE163.out) | exact HB.out))))
                                have n1_ := Aside0.mk (blk_below (g := gb163) (o := .cells #[.string x164000_2, .int .i64 x164001_2, .slice none 0 0] 45 (0, 0)) (by (with_reducible repeat (first | refine blk_drewN ?_ _ | refine blk_drew ?_ | refine blk_alloc ?_ _)); exact BK163.out) hb)
                                have n2_ := Aside0.mk (below_step (by repeat (first | (with_reducible first | exact HB.out | apply below_alloc | apply pw_below_drewN | apply below_drew1 | refine below_set ?_ GE163.out) | exact HB.out)) hb)
                                clear BK163
                                clear HB
                                have HO169 := n0_
                                have BK163 := n1_
                                have HB := n2_
                                clear n0_ n1_ n2_
                                clear hb ho39
                                obtain ⟨Ao40, co40, eo40⟩ := Kd.R_slice HO169.out
                                (first | subst eo40 | (injection eo40 with f1_ f2_ f3_; have f4_ := f1_.symm; have f5_ := f3_.symm; clear f1_ f2_ f3_; subst f4_; subst f5_))
                                refine hK.out _ _ trivial (fun hHeld => ?_)
                                clear hK K
                                refine norm_ (a' := ?_) ?_ ?_
                                rotate_left
                                · show Act.put _ (some 60) _ = _
                                  simp only [Act.put, List.setIfInBounds_toArray, List.set_cons_zero, List.set_cons_succ, i64_w, i32_w]
                                  rfl
                                refine pure_ (i := 8) (N := some 61) (v := ?_) (a' := ?_) #[true, true, true, true, true, true, true, true, true, false] rfl rfl (any_of HT_.out (by kernel_rfl)) (fun _ _ _ h => h) (Or.inl ⟨by rfl, ?_⟩) ?_ ?_
                                rotate_left
                                · intro w'
                                  go_simp
                                  with_reducible rfl
                                rotate_left
                                · simp only [Act.put, List.setIfInBounds_toArray, List.set_cons_zero, List.set_cons_succ, i64_w, i32_w]
                                  rfl
                                refine one_ (i := 9) (N := none) #[true, true, true, true, true, true, true, true, true, true] rfl rfl (one_of HT_.out (by kernel_rfl)) (by decide) (fun K hK => ?_)
                                have hs41 : w38.cell? ⟨gb163, 0, none⟩ = some (.string x164000_2) := (blk_cell BK163.out 0).trans rfl
                                have hfs41 := blk_frozen BK163.out 0
                                have hs42 : w38.cell? ⟨gb163, 1, none⟩ = some (.int .i64 x164001_2) := (blk_cell BK163.out 1).trans rfl
                                have hfs42 := blk_frozen BK163.out 1
                                have hs43 : w38.cell? ⟨gb163, 2, none⟩ = some (.slice none 0 0) := (blk_cell BK163.out 2).trans rfl
                                have hfs43 := blk_frozen BK163.out 2
                                refine skip_ (w1 := ?_) (by rfl) rfl ?_ ?_
                                rotate_left
                                · go_simp
                                  rfl
                                refine hK.out _ _ trivial (fun hHeld => ?_)
                                clear hK K
                                refine done_ (done_of HT_.out (by kernel_rfl)) ?_
                                try go_wp2
                                refine bodyPost_ret (results_cell_row rfl _ _ gb163 45 #[.string (a0.extract 0 (x3_2 : Int).toNat), .int .i64 1, .slice Ao40 y167.length co40] (0, 0) _ rfl (by (with_reducible repeat (first | refine blk_drewN ?_ _ | refine blk_drew ?_ | refine blk_alloc ?_ _)); refine blk_put (cs := #[.string (a0.extract 0 (x3_2 : Int).toNat), .int .i64 1, .slice none 0 0]) ?_ 2 _ rfl; (with_reducible repeat (first | refine blk_drewN ?_ _ | refine blk_drew ?_ | refine blk_alloc ?_ _)); refine blk_put (cs := #[.string (a0.extract 0 (x3_2 : Int).toNat), .int .i64 x164001_2, .slice none 0 0]) ?_ 1 _ rfl; (with_reducible repeat (first | refine blk_drewN ?_ _ | refine blk_drew ?_ | refine blk_alloc ?_ _)); refine blk_put (cs := #[.string x164000_2, .int .i64 x164001_2, .slice none 0 0]) ?_ 0 _ rfl; (with_reducible repeat (first | refine blk_drewN ?_ _ | refine blk_drew ?_ | refine blk_alloc ?_ _)); exact BK163.out) Tryd.underlying45 rfl (by kernel_rfl)) rfl ?_
                                exact ⟨_, by first | rfl | (simp [errW_none, errW_some] <;> rfl) | (simp only [← hji28, ← hji34]; first | rfl | (simp [errW_none, errW_some] <;> rfl)) | (simp [*, errW_none, errW_some] <;> rfl), by (with_reducible repeat (first | apply Kd.R_alloc | apply Kd.R_drewN | apply Kd.R_drew)); exact Kd.R_mono (Kd.R_far (p := ⟨gb163, 2, none⟩) (Kd.R_far (p := ⟨gb163, 1, none⟩) (Kd.R_far (p := ⟨gb163, 0, none⟩) (Kd.R_types HO169.out BK163.out (by decide)) (fun _ hk => hk.2) (.string (a0.extract 0 (x3_2 : Int).toNat))) (fun _ hk => hk.2) (.int .i64 1)) (fun _ hk => hk.2) (.slice Ao40 y167.length co40)) (fun _ hk => trivial), by repeat (first | (with_reducible first | exact HB.out | apply below_alloc | apply pw_below_drewN | apply below_drew1 | refine below_set ?_ GE163.out) | exact HB.out)⟩
                              · rw [if_neg c36] at H
                                exact absurd H (by simp)
                            · rw [if_neg c35] at H
                              exact absurd H (by simp)
                          · rw [if_neg c33] at H
                            exact absurd H (by simp)
                        · rw [if_neg c31] at H
                          have c31b0 : ((bt a0 (ji28)) == 61) = false := beq_eq_false_iff_ne.mpr c31
                          have c31b1 : ((bt a0 (ji28)) != 61) = true := bne_iff_ne.mpr c31
                          have H' := Aside0.mk H
                          clear H
                          have p12 : 0 ≤ (x3_2 : Int) := of_decide_eq_true (by first | (with_reducible assumption) | assumption)
                          have q12 : x3_2 < (a0.size : Int) := of_decide_eq_true (by first | (with_reducible assumption) | assumption)
                          have hx12 := bt_at a0 x3_2
                          replace p12 := eq_true p12
                          replace q12 := eq_true q12
                          have p30 : 0 ≤ ((ji28) : Int) := of_decide_eq_true (by first | (with_reducible assumption) | assumption)
                          have q30 : (ji28) < (a0.size : Int) := of_decide_eq_true (by first | (with_reducible assumption) | assumption)
                          have hx30 := bt_at a0 (ji28)
                          replace p30 := eq_true p30
                          replace q30 := eq_true q30
                          go_wp2
                          go_roundg k2
                          case measure => have := HJ1.out; have := HK2.out; omega
                          case rel => exact ⟨(ji28), (x164000_2), (x164001_2), (by first | rfl | (simp; done) | (simp only [← hji28] <;> (first | rfl | simp)) | (simp [*]; done)), H', ⟨by have := HJ1.out; have := HK2.out; omega⟩, ⟨by (with_reducible repeat (first | refine blk_drewN ?_ _ | refine blk_drew ?_ | refine blk_alloc ?_ _)); exact BK163.out⟩, ⟨by repeat (first | (with_reducible first | exact HB.out | apply below_alloc | apply pw_below_drewN | apply below_drew1 | refine below_set ?_ GE163.out) | exact HB.out)⟩⟩
                      · rw [if_neg c29] at H
                        exact absurd H (by simp)
                    · rw [if_neg c27] at H
                      have c27b0 : decide ((wrap64 (x3_2 + 1)) < (a0.size : Int)) = false := decide_eq_false c27
                      clear c27
                      have H' := Aside0.mk H
                      clear H
                      have p12 : 0 ≤ (x3_2 : Int) := of_decide_eq_true (by first | (with_reducible assumption) | assumption)
                      have q12 : x3_2 < (a0.size : Int) := of_decide_eq_true (by first | (with_reducible assumption) | assumption)
                      have hx12 := bt_at a0 x3_2
                      replace p12 := eq_true p12
                      replace q12 := eq_true q12
                      go_wp2
                      go_roundg k2
                      case measure => have := HJ1.out; have := HK2.out; omega
                      case rel => exact ⟨(wrap64 (x3_2 + 1)), (x164000_2), (x164001_2), (by first | rfl | (simp; done) | (simp [*]; done) | (simp; rw [Bool.eq_iff_iff]; simp; done) | (rw [Bool.eq_iff_iff]; simp; done)), H', ⟨by have := HJ1.out; have := HK2.out; omega⟩, ⟨by (with_reducible repeat (first | refine blk_drewN ?_ _ | refine blk_drew ?_ | refine blk_alloc ?_ _)); exact BK163.out⟩, ⟨by repeat (first | (with_reducible first | exact HB.out | apply below_alloc | apply pw_below_drewN | apply below_drew1 | refine below_set ?_ GE163.out) | exact HB.out)⟩⟩
                  · rw [if_neg c26] at H
                    have c26b0 : ((bt a0 x3_2) == 33) = false := beq_eq_false_iff_ne.mpr c26
                    have c26b1 : ((bt a0 x3_2) != 33) = true := bne_iff_ne.mpr c26
                    by_cases c44 : (bt a0 x3_2) = 32
                    · rw [if_pos c44] at H
                      have c44b0 : ((bt a0 x3_2) == 32) = true := beq_iff_eq.mpr c44
                      have c44b1 : ((bt a0 x3_2) != 32) = false := bne_eq_false_iff_eq.mpr c44
                      clear c44
                      obtain ⟨ji45, hji45⟩ : ∃ j_ : Int, (wrap64 (x3_2 + 1)) = j_ := ⟨_, rfl⟩
                      replace H : (if 0 ≤ (ji45) then (if (ji45) ≤ (a0.size : Int) then ((bursarref04_pieces.f k2 (a0.extract ((ji45) : Int).toNat a0.size) 32).bind fun t170 => (if x3_2 ≤ (a0.size : Int) then (if 0 < (t170.length : Int) then (if (rdOf ByteArray.empty t170 0).toList = ([110, 111, 116, 105, 110] : List UInt8) then (bursarref04_read.j2 k2 t170 (a0.extract 0 (x3_2 : Int).toNat) 1) else (bursarref04_read.j2 k2 t170 (a0.extract 0 (x3_2 : Int).toNat) 0)) else (none)) else (none))) else (none)) else (none)) = some (r1, r2, r3) := by first | (rw [hji45] at H; exact H) | (simp only [hji45] at H ⊢; exact H)
                      have hji45w : (IntKind.i64.wrap (x3_2 + 1)) = ji45 := (i64_w _).trans hji45
                      by_cases c46 : 0 ≤ (ji45)
                      · rw [if_pos c46] at H
                        have c46b0 := eq_true c46
                        have c46b1 : decide (0 ≤ (ji45)) = true := decide_eq_true c46
                        clear c46
                        by_cases c47 : (ji45) ≤ (a0.size : Int)
                        · rw [if_pos c47] at H
                          have c47b0 := eq_true c47
                          have c47b1 : decide ((ji45) ≤ (a0.size : Int)) = true := decide_eq_true c47
                          clear c47
                          replace H := Option.bind_eq_some_iff.mp H
                          obtain ⟨t170, A480, H⟩ := H
                          replace H : (if x3_2 ≤ (a0.size : Int) then (if 0 < (t170.length : Int) then (if (rdOf ByteArray.empty t170 0).toList = ([110, 111, 116, 105, 110] : List UInt8) then (bursarref04_read.j2 k2 t170 (a0.extract 0 (x3_2 : Int).toNat) 1) else (bursarref04_read.j2 k2 t170 (a0.extract 0 (x3_2 : Int).toNat) 0)) else (none)) else (none)) = some (r1, r2, r3) := H
                          have A48 := Aside0.mk A480
                          clear A480
                          have c49b0 := eq_true (of_decide_eq_true (by first | (with_reducible assumption) | assumption) : 0 ≤ x3_2)
                          by_cases c50 : x3_2 ≤ (a0.size : Int)
                          · rw [if_pos c50] at H
                            have c50b0 := eq_true c50
                            have c50b1 : decide (x3_2 ≤ (a0.size : Int)) = true := decide_eq_true c50
                            clear c50
                            by_cases c51 : 0 < (t170.length : Int)
                            · rw [if_pos c51] at H
                              have c51b0 : decide (0 < (t170.length : Int)) = true := decide_eq_true c51
                              have c51b1 : decide (0 < t170.length) = true := decide_eq_true (by omega)
                              clear c51
                              have HC52 := Aside0.mk H
                              clear H
                              have p12 : 0 ≤ (x3_2 : Int) := of_decide_eq_true (by first | (with_reducible assumption) | assumption)
                              have q12 : x3_2 < (a0.size : Int) := of_decide_eq_true (by first | (with_reducible assumption) | assumption)
                              have hx12 := bt_at a0 x3_2
                              replace p12 := eq_true p12
                              replace q12 := eq_true q12
                              go_upto_if 76 with (first | ((with_reducible refine gate_callee (f := 43) rfl ?_); refine goesL_ (some 68) rfl rfl Tryd.func43 (by kernel_rfl) rfl #[.string (a0.extract ((ji45) : Int).toNat a0.size), .int .u8 32] rfl (by (try simp only [List.map_toArray, List.map_cons, List.map_nil]); first | done | (simp only [hji45]; rfl) | rfl | (simp only [List.length_drop, List.length_take]; rfl)) ?_; (with_reducible refine (bursarref04_pieces.calls k2 (a0.extract ((ji45) : Int).toNat a0.size) 32 t170 _ A48.out).mono ?_); rintro e w53 ⟨v171, rfl, ho0, hb⟩; refine ⟨_, rfl, ?_⟩; have n0_ := Aside0.mk (Kd.R_lower ho0 (below_size (by repeat (first | (with_reducible first | exact HB.out | apply below_alloc | apply pw_below_drewN | apply below_drew1 | refine below_set ?_ GE163.out) | exact HB.out)))); have n1_ := Aside0.mk (blk_below (g := gb163) (o := .cells #[.string x164000_2, .int .i64 x164001_2, .slice none 0 0] 45 (0, 0)) (by (with_reducible repeat (first | refine blk_drewN ?_ _ | refine blk_drew ?_ | refine blk_alloc ?_ _)); exact BK163.out) hb); have n2_ := Aside0.mk (below_step (by repeat (first | (with_reducible first | exact HB.out | apply below_alloc | apply pw_below_drewN | apply below_drew1 | refine below_set ?_ GE163.out) | exact HB.out)) hb); clear BK163; clear HB; have HO172 := n0_; have BK163 := n1_; have HB := n2_; clear n0_ n1_ n2_; (try clear hb); (try clear hb2); (try clear hk); (try clear hi); (try clear ho0)) | ((with_reducible refine gate_dst (N := 5) rfl ?_); (try (refine gate_guard (by rfl) ?_; dsimp only)); refine box_event ?hg (N := 5) ?hd (cs := #[.string (⟨#[]⟩ : ByteArray), .int .i64 0, .slice none 0 0]) (t := 45) ?hr ?_; (case hd => rfl); (case hg => rfl); (case hr => first | (go_simp; done) | (go_simp; rfl)); intro gb173 hg w54 hbox hb; have n0_ := Aside0.mk (Kd.R_below (by (with_reducible repeat (first | apply Kd.R_alloc | apply Kd.R_drewN | apply Kd.R_drew)); exact HO172.out) hb); have n1_ := Aside0.mk (blk_below (g := gb163) (o := .cells #[.string x164000_2, .int .i64 x164001_2, .slice none 0 0] 45 (0, 0)) (by (with_reducible repeat (first | refine blk_drewN ?_ _ | refine blk_drew ?_ | refine blk_alloc ?_ _)); exact BK163.out) hb); have n2_ := Aside0.mk (below_step (by repeat (first | (with_reducible first | exact HB.out | apply below_alloc | apply pw_below_drewN | apply below_drew1 | refine below_set ?_ GE163.out) | exact HB.out)) hb); have n3_ := Aside0.mk (hbox); have n4_ := Aside0.mk ((by rw [hg]; exact (below_size (by repeat (first | (with_reducible first | exact HB.out | apply below_alloc | apply pw_below_drewN | apply below_drew1 | refine below_set ?_ GE163.out) | exact HB.out))) : w.heap.size ≤ gb173)); have n5_ := Aside0.mk ((by rw [hg]; exact (below_size (by repeat (first | (with_reducible first | exact HB.out | apply below_alloc | apply pw_below_drewN | apply below_drew1 | refine below_set ?_ GE163.out) | exact HB.out))) : w.heap.size ≤ gb173)); have n6_ := Aside0.mk ((by rw [hg]; exact Nat.ne_of_lt (blk_lt (g := gb163) (o := .cells #[.string x164000_2, .int .i64 x164001_2, .slice none 0 0] 45 (0, 0)) (by (with_reducible repeat (first | refine blk_drewN ?_ _ | refine blk_drew ?_ | refine blk_alloc ?_ _)); exact BK163.out)) : gb163 ≠ gb173)); have n7_ := Aside0.mk ((by rw [hg]; exact Nat.ne_of_gt (blk_lt (g := gb163) (o := .cells #[.string x164000_2, .int .i64 x164001_2, .slice none 0 0] 45 (0, 0)) (by (with_reducible repeat (first | refine blk_drewN ?_ _ | refine blk_drew ?_ | refine blk_alloc ?_ _)); exact BK163.out)) : gb173 ≠ gb163)); clear HO172; clear BK163; clear HB; have HO172 := n0_; have BK163 := n1_; have HB := n2_; have BK173 := n3_; have GW173 := n4_; have GE173 := n5_; have NB163_173 := n6_; have NB173_163 := n7_; clear n0_ n1_ n2_ n3_ n4_ n5_ n6_ n7_; clear hb hbox hg; have hnb55 := NB173_163.out; have hnc55 := NB163_173.out; have hcz56_0 : w54.cell? ⟨gb173, 0, none⟩ = some (.string (⟨#[]⟩ : ByteArray)) := (blk_cell BK173.out 0).trans rfl; have hcz56_1 : w54.cell? ⟨gb173, 1, none⟩ = some (.int .i64 0) := (blk_cell BK173.out 1).trans rfl; have hcz56_2 : w54.cell? ⟨gb173, 2, none⟩ = some (.slice none 0 0) := (blk_cell BK173.out 2).trans rfl; have hfz56_0 := blk_frozen BK173.out 0; have hfz56_1 := blk_frozen BK173.out 1; have hfz56_2 := blk_frozen BK173.out 2; obtain ⟨Ao57, co57, eo57⟩ := Kd.R_slice HO172.out; subst eo57; have p174 : 0 ≤ (0 : Int) := (by omega); have q174 : 0 < (t170.length : Int) := of_decide_eq_true (by first | (with_reducible assumption) | assumption); obtain ⟨ad174, e174, hx174_0⟩ := Kd.at_string (Kd.R_reads' HO172.out).2.2 0 p174 q174; cases e174; have qi174 : (0 < t170.length) = True := eq_true (by omega); (try rw [show ((0 : Int)).toNat = 0 from rfl] at hx174_0); (try rw [Addr.add_zero'] at hx174_0); have hn174_0 : ad174.block ≠ gb173 := Kd.own_blk (Kd.R_ne HO172.out BK173.out (by decide)); have hn174_1 : ad174.block ≠ gb173 := Kd.own_blk (Kd.R_ne HO172.out BK173.out (by decide)); have hn174_2 : ad174.block ≠ gb173 := Kd.own_blk (Kd.R_ne HO172.out BK173.out (by decide)); replace hx174_0 := (cell_far (p := ⟨gb173, 0, none⟩) (by first | (rw [add_block]; exact hn174_0) | (show (Addr.add _ _).block ≠ _; rw [add_block]; exact hn174_0) | exact hn174_0) (.string (a0.extract 0 (x3_2 : Int).toNat))).trans hx174_0; replace hx174_0 := (cell_far (p := ⟨gb173, 1, none⟩) (by first | (rw [add_block]; exact hn174_1) | (show (Addr.add _ _).block ≠ _; rw [add_block]; exact hn174_1) | exact hn174_1) (.int .i64 0)).trans hx174_0; replace hx174_0 := (cell_far (p := ⟨gb173, 2, none⟩) (by first | (rw [add_block]; exact hn174_2) | (show (Addr.add _ _).block ≠ _; rw [add_block]; exact hn174_2) | exact hn174_2) (.slice none 0 0)).trans hx174_0; clear hn174_0; clear hn174_1; clear hn174_2; replace p174 := eq_true p174; replace q174 := eq_true q174))
                              (try simp only [Act.put, List.setIfInBounds_toArray, List.set_cons_zero, List.set_cons_succ])
                              go_cut [] (fun wc => ∃ (kq : Nat) (x174001_51 : Int), Aside0 (bursarref04_read.j2 kq t170 (a0.extract 0 (x3_2 : Int).toNat) x174001_51 = some (r1, r2, r3)) ∧ Aside0 (kq ≤ k2) ∧ Aside0 (Kd.R Kd.string 9 wc w.heap.size (fun _ => True) (.slice (some ad174) t170.length co57) t170) ∧ Aside0 (wc.heap[gb163]? = some (.cells #[.string x164000_2, .int .i64 x164001_2, (.slice none 0 0)] 45 (0, 0))) ∧ Aside0 (wc.heap[gb173]? = some (.cells #[.string (a0.extract 0 (x3_2 : Int).toNat), .int .i64 x174001_51, (.slice none 0 0)] 45 (0, 0))) ∧ Aside0 (Below w.heap.size w wc))
                              case first =>
                                have H := HC52.out
                                clear HC52
                                by_cases c58 : (rdOf ByteArray.empty t170 0).toList = ([110, 111, 116, 105, 110] : List UInt8)
                                · rw [if_pos c58] at H
                                  have c58b0 : ((rdOf ByteArray.empty t170 0).toList == ([110, 111, 116, 105, 110] : List UInt8)) = true := beq_iff_eq.mpr c58
                                  have c58b1 : ((rdOf ByteArray.empty t170 0).toList != ([110, 111, 116, 105, 110] : List UInt8)) = false := bne_eq_false_iff_eq.mpr c58
                                  clear c58
                                  (first | rw [c58b0] | (simp only [i64_w, i32_w]; rw [c58b0]) | skip)
                                  have H' := Aside0.mk H
                                  clear H
                                  have hnb59 := NB173_163.out
                                  have hnc59 := NB163_173.out
                                  have hcz60_0 : w54.cell? ⟨gb173, 0, none⟩ = some (.string (⟨#[]⟩ : ByteArray)) := (blk_cell BK173.out 0).trans rfl
                                  have hcz60_1 : w54.cell? ⟨gb173, 1, none⟩ = some (.int .i64 0) := (blk_cell BK173.out 1).trans rfl
                                  have hcz60_2 : w54.cell? ⟨gb173, 2, none⟩ = some (.slice none 0 0) := (blk_cell BK173.out 2).trans rfl
                                  have hfz60_0 := blk_frozen BK173.out 0
                                  have hfz60_1 := blk_frozen BK173.out 1
                                  have hfz60_2 := blk_frozen BK173.out 2
                                  go_wp2
                                  go_meet
                                  case rel => exact ⟨_, (1), H', ⟨by have := HJ1.out; have := HK2.out; first | omega | exact Nat.le_refl _⟩, ⟨by (with_reducible repeat (first | apply Kd.R_alloc | apply Kd.R_drewN | apply Kd.R_drew)); exact Kd.R_mono (Kd.R_far (p := ⟨gb173, 1, none⟩) (Kd.R_far (p := ⟨gb173, 2, none⟩) (Kd.R_far (p := ⟨gb173, 1, none⟩) (Kd.R_far (p := ⟨gb173, 0, none⟩) (Kd.R_types HO172.out BK173.out (by decide)) (fun _ hk => hk.2) (.string (a0.extract 0 (x3_2 : Int).toNat))) (fun _ hk => hk.2) (.int .i64 0)) (fun _ hk => hk.2) (.slice none 0 0)) (fun _ hk => hk.2) (.int .i64 1)) (fun _ hk => trivial)⟩, ⟨by (with_reducible repeat (first | refine blk_drewN ?_ _ | refine blk_drew ?_ | refine blk_alloc ?_ _)); refine blk_far ?_ NB163_173.out _; (with_reducible repeat (first | refine blk_drewN ?_ _ | refine blk_drew ?_ | refine blk_alloc ?_ _)); refine blk_far ?_ NB163_173.out _; (with_reducible repeat (first | refine blk_drewN ?_ _ | refine blk_drew ?_ | refine blk_alloc ?_ _)); refine blk_far ?_ NB163_173.out _; (with_reducible repeat (first | refine blk_drewN ?_ _ | refine blk_drew ?_ | refine blk_alloc ?_ _)); refine blk_far ?_ NB163_173.out _; (with_reducible repeat (first | refine blk_drewN ?_ _ | refine blk_drew ?_ | refine blk_alloc ?_ _)); exact BK163.out⟩, ⟨by (with_reducible repeat (first | refine blk_drewN ?_ _ | refine blk_drew ?_ | refine blk_alloc ?_ _)); refine blk_put (cs := #[.string (a0.extract 0 (x3_2 : Int).toNat), .int .i64 0, .slice none 0 0]) ?_ 1 _ rfl; (with_reducible repeat (first | refine blk_drewN ?_ _ | refine blk_drew ?_ | refine blk_alloc ?_ _)); refine blk_put (cs := #[.string (a0.extract 0 (x3_2 : Int).toNat), .int .i64 0, .slice none 0 0]) ?_ 2 _ rfl; (with_reducible repeat (first | refine blk_drewN ?_ _ | refine blk_drew ?_ | refine blk_alloc ?_ _)); refine blk_put (cs := #[.string (a0.extract 0 (x3_2 : Int).toNat), .int .i64 0, .slice none 0 0]) ?_ 1 _ rfl; (with_reducible repeat (first | refine blk_drewN ?_ _ | refine blk_drew ?_ | refine blk_alloc ?_ _)); refine blk_put (cs := #[.string (⟨#[]⟩ : ByteArray), .int .i64 0, .slice none 0 0]) ?_ 0 _ rfl; (with_reducible repeat (first | refine blk_drewN ?_ _ | refine blk_drew ?_ | refine blk_alloc ?_ _)); exact BK173.out⟩, ⟨by repeat (first | (with_reducible first | exact HB.out | apply below_alloc | apply pw_below_drewN | apply below_drew1 | refine below_set ?_ GE163.out | refine below_set ?_ GE173.out) | exact HB.out)⟩⟩
                                · rw [if_neg c58] at H
                                  have c58b0 : ((rdOf ByteArray.empty t170 0).toList == ([110, 111, 116, 105, 110] : List UInt8)) = false := beq_eq_false_iff_ne.mpr c58
                                  have c58b1 : ((rdOf ByteArray.empty t170 0).toList != ([110, 111, 116, 105, 110] : List UInt8)) = true := bne_iff_ne.mpr c58
                                  (first | rw [c58b0] | (simp only [i64_w, i32_w]; rw [c58b0]) | skip)
                                  have H' := Aside0.mk H
                                  clear H
                                  go_wp2
                                  go_meet
                                  case rel => exact ⟨_, (0), H', ⟨by have := HJ1.out; have := HK2.out; first | omega | exact Nat.le_refl _⟩, ⟨by (with_reducible repeat (first | apply Kd.R_alloc | apply Kd.R_drewN | apply Kd.R_drew)); exact Kd.R_mono (Kd.R_far (p := ⟨gb173, 2, none⟩) (Kd.R_far (p := ⟨gb173, 1, none⟩) (Kd.R_far (p := ⟨gb173, 0, none⟩) (Kd.R_types HO172.out BK173.out (by decide)) (fun _ hk => hk.2) (.string (a0.extract 0 (x3_2 : Int).toNat))) (fun _ hk => hk.2) (.int .i64 0)) (fun _ hk => hk.2) (.slice none 0 0)) (fun _ hk => trivial)⟩, ⟨by (with_reducible repeat (first | refine blk_drewN ?_ _ | refine blk_drew ?_ | refine blk_alloc ?_ _)); refine blk_far ?_ NB163_173.out _; (with_reducible repeat (first | refine blk_drewN ?_ _ | refine blk_drew ?_ | refine blk_alloc ?_ _)); refine blk_far ?_ NB163_173.out _; (with_reducible repeat (first | refine blk_drewN ?_ _ | refine blk_drew ?_ | refine blk_alloc ?_ _)); refine blk_far ?_ NB163_173.out _; (with_reducible repeat (first | refine blk_drewN ?_ _ | refine blk_drew ?_ | refine blk_alloc ?_ _)); exact BK163.out⟩, ⟨by (with_reducible repeat (first | refine blk_drewN ?_ _ | refine blk_drew ?_ | refine blk_alloc ?_ _)); refine blk_put (cs := #[.string (a0.extract 0 (x3_2 : Int).toNat), .int .i64 0, .slice none 0 0]) ?_ 2 _ rfl; (with_reducible repeat (first | refine blk_drewN ?_ _ | refine blk_drew ?_ | refine blk_alloc ?_ _)); refine blk_put (cs := #[.string (a0.extract 0 (x3_2 : Int).toNat), .int .i64 0, .slice none 0 0]) ?_ 1 _ rfl; (with_reducible repeat (first | refine blk_drewN ?_ _ | refine blk_drew ?_ | refine blk_alloc ?_ _)); refine blk_put (cs := #[.string (⟨#[]⟩ : ByteArray), .int .i64 0, .slice none 0 0]) ?_ 0 _ rfl; (with_reducible repeat (first | refine blk_drewN ?_ _ | refine blk_drew ?_ | refine blk_alloc ?_ _)); exact BK173.out⟩, ⟨by repeat (first | (with_reducible first | exact HB.out | apply below_alloc | apply pw_below_drewN | apply below_drew1 | refine below_set ?_ GE163.out | refine below_set ?_ GE173.out) | exact HB.out)⟩⟩
                              case rest =>
                                clear HC52
                                try clear c1
                                try clear p1
                                try clear q1
                                try clear hx1
                                try clear qi1
                                try clear c2
                                try clear p2
                                try clear c3
                                try clear p3
                                try clear q3
                                try clear hx3
                                try clear c4
                                try clear c4b0
                                try clear c4b1
                                try clear c5
                                try clear c5b0
                                try clear c5b1
                                try clear p6
                                try clear q6
                                try clear hx6
                                try clear qi6
                                try clear c7
                                try clear c8
                                try clear c8b0
                                try clear c8b1
                                try clear c10
                                try clear c10b0
                                try clear c11
                                try clear c11b0
                                try clear p12
                                try clear q12
                                try clear hx12
                                try clear c13
                                try clear c13b0
                                try clear c13b1
                                try clear c14
                                try clear c14b0
                                try clear c15
                                try clear c15b0
                                try clear c15b1
                                try clear c17
                                try clear c17b0
                                try clear c17b1
                                try clear p17
                                try clear q17
                                try clear hx17
                                try clear qi17
                                try clear c18
                                try clear c18b0
                                try clear c18b1
                                try clear c26
                                try clear c26b0
                                try clear c26b1
                                try clear c27
                                try clear c27b0
                                try clear c29
                                try clear c29b0
                                try clear p30
                                try clear q30
                                try clear hx30
                                try clear c31
                                try clear c31b0
                                try clear c31b1
                                try clear c32
                                try clear c32b0
                                try clear c33
                                try clear c33b0
                                try clear c33b1
                                try clear c35
                                try clear c35b0
                                try clear c35b1
                                try clear c36
                                try clear c36b0
                                try clear c36b1
                                try clear c43
                                try clear c44
                                try clear c44b0
                                try clear c44b1
                                try clear c46
                                try clear c46b0
                                try clear c46b1
                                try clear c47
                                try clear c47b0
                                try clear c47b1
                                try clear c49
                                try clear c49b0
                                try clear c50
                                try clear c50b0
                                try clear c50b1
                                try clear c51
                                try clear c51b0
                                try clear c51b1
                                try clear c55
                                try clear c58
                                try clear c58b0
                                try clear c58b1
                                try clear c59
                                try clear hcz56_0
                                try clear hcz56_1
                                try clear hcz56_2
                                try clear hcz60_0
                                try clear hcz60_1
                                try clear hcz60_2
                                try clear hcz9_0
                                try clear hcz9_1
                                try clear hcz9_2
                                try clear hfz56_0
                                try clear hfz56_1
                                try clear hfz56_2
                                try clear hfz60_0
                                try clear hfz60_1
                                try clear hfz60_2
                                try clear hfz9_0
                                try clear hfz9_1
                                try clear hfz9_2
                                try clear hx174_0
                                try clear p12
                                try clear p174
                                try clear p2
                                try clear p30
                                try clear p6
                                try clear q12
                                try clear q174
                                try clear q30
                                try clear q6
                                obtain ⟨kq, x174001_51, HA, HJ51, HO_4, BK163, BK173, HB⟩ := hcut
                                cases kq with
                                | zero => exact absurd HA.out (by simp [bursarref04_read.j2])
                                | succ kj51 =>
                                  have H := HA.out
                                  clear HA
                                  simp only [bursarref04_read.j2] at H
                                  have H' := Aside0.mk H
                                  clear H
                                  go_wp2
                                  go_loopg [6] kj51 (fun kq v6 w' => ∃ (x6_4 : Int) (x174002_4 : List ByteArray) (u174002 : Value), v6 = .int .i64 x6_4 ∧ Aside0 (bursarref04_read.l1 kq t170 x6_4 (a0.extract 0 (x3_2 : Int).toNat) x174001_51 x174002_4 = some (r1, r2, r3)) ∧ Aside0 (kq ≤ kj51) ∧ Aside0 (Kd.R Kd.string 9 w' w.heap.size (fun k_ => some k_ ≠ (u174002 : Value).ownBlock) (.slice (some ad174) t170.length co57) t170) ∧ Aside0 (Kd.R Kd.string 9 w' w.heap.size (fun k_ => some k_ ≠ ((.slice (some ad174) t170.length co57) : Value).ownBlock) u174002 x174002_4) ∧ Aside0 (w'.heap[gb163]? = some (.cells #[.string x164000_2, .int .i64 x164001_2, (.slice none 0 0)] 45 (0, 0))) ∧ Aside0 (w'.heap[gb173]? = some (.cells #[.string (a0.extract 0 (x3_2 : Int).toNat), .int .i64 x174001_51, u174002] 45 (0, 0))) ∧ Aside0 (Below w.heap.size w w'))
                                  case atStart => exact ⟨(1), (([] : List ByteArray)), (.slice none 0 0), (by first | rfl | (simp; done) | (simp [*]; done) | (simp; rw [Bool.eq_iff_iff]; simp; done) | (rw [Bool.eq_iff_iff]; simp; done)), H', ⟨Nat.le_refl _⟩, ⟨by (with_reducible repeat (first | apply Kd.R_alloc | apply Kd.R_drewN | apply Kd.R_drew)); exact Kd.R_mono HO_4.out (fun _ hk => (by simp [Value.ownBlock]))⟩, ⟨by first | exact Kd.R_nil _ _ _ _ _ | exact Kd.N_nil _ _ _ _ _ | exact Kd.V_nil _ _ _ _ _ | exact Kd.Q_nil _ _ _ _ _ | exact Kd.S_nil _ _ _ _ _⟩, ⟨by (with_reducible repeat (first | refine blk_drewN ?_ _ | refine blk_drew ?_ | refine blk_alloc ?_ _)); exact BK163.out⟩, ⟨by (with_reducible repeat (first | refine blk_drewN ?_ _ | refine blk_drew ?_ | refine blk_alloc ?_ _)); exact BK173.out⟩, ⟨by repeat (first | (with_reducible first | exact HB.out | apply below_alloc | apply pw_below_drewN | apply below_drew1 | refine below_set ?_ GE163.out | refine below_set ?_ GE173.out) | exact HB.out)⟩⟩
                                  case round =>
                                    clear H'
                                    try clear c1
                                    try clear p1
                                    try clear q1
                                    try clear hx1
                                    try clear qi1
                                    try clear c2
                                    try clear p2
                                    try clear c3
                                    try clear p3
                                    try clear q3
                                    try clear hx3
                                    try clear c4
                                    try clear c4b0
                                    try clear c4b1
                                    try clear c5
                                    try clear c5b0
                                    try clear c5b1
                                    try clear p6
                                    try clear q6
                                    try clear hx6
                                    try clear qi6
                                    try clear c7
                                    try clear c8
                                    try clear c8b0
                                    try clear c8b1
                                    try clear c10
                                    try clear c10b0
                                    try clear c11
                                    try clear c11b0
                                    try clear p12
                                    try clear q12
                                    try clear hx12
                                    try clear c13
                                    try clear c13b0
                                    try clear c13b1
                                    try clear c14
                                    try clear c14b0
                                    try clear c15
                                    try clear c15b0
                                    try clear c15b1
                                    try clear c17
                                    try clear c17b0
                                    try clear c17b1
                                    try clear p17
                                    try clear q17
                                    try clear hx17
                                    try clear qi17
                                    try clear c18
                                    try clear c18b0
                                    try clear c18b1
                                    try clear c26
                                    try clear c26b0
                                    try clear c26b1
                                    try clear c27
                                    try clear c27b0
                                    try clear c29
                                    try clear c29b0
                                    try clear p30
                                    try clear q30
                                    try clear hx30
                                    try clear c31
                                    try clear c31b0
                                    try clear c31b1
                                    try clear c32
                                    try clear c32b0
                                    try clear c33
                                    try clear c33b0
                                    try clear c33b1
                                    try clear c35
                                    try clear c35b0
                                    try clear c35b1
                                    try clear c36
                                    try clear c36b0
                                    try clear c36b1
                                    try clear c43
                                    try clear c44
                                    try clear c44b0
                                    try clear c44b1
                                    try clear c46
                                    try clear c46b0
                                    try clear c46b1
                                    try clear c47
                                    try clear c47b0
                                    try clear c47b1
                                    try clear c49
                                    try clear c49b0
                                    try clear c50
                                    try clear c50b0
                                    try clear c50b1
                                    try clear c51
                                    try clear c51b0
                                    try clear c51b1
                                    try clear c55
                                    try clear c58
                                    try clear c58b0
                                    try clear c58b1
                                    try clear c59
                                    try clear hcz56_0
                                    try clear hcz56_1
                                    try clear hcz56_2
                                    try clear hcz60_0
                                    try clear hcz60_1
                                    try clear hcz60_2
                                    try clear hcz9_0
                                    try clear hcz9_1
                                    try clear hcz9_2
                                    try clear hfz56_0
                                    try clear hfz56_1
                                    try clear hfz56_2
                                    try clear hfz60_0
                                    try clear hfz60_1
                                    try clear hfz60_2
                                    try clear hfz9_0
                                    try clear hfz9_1
                                    try clear hfz9_2
                                    try clear hx174_0
                                    try clear p1
                                    try clear p12
                                    try clear p17
                                    try clear p174
                                    try clear p2
                                    try clear p3
                                    try clear p30
                                    try clear p6
                                    try clear q1
                                    try clear q12
                                    try clear q17
                                    try clear q174
                                    try clear q3
                                    try clear q30
                                    try clear q6
                                    obtain ⟨x6_4, x174002_4, u174002, rfl, HA, HK4, HO_4, HO_174002, BK163, BK173, HB⟩ := hrel
                                    cases gk with
                                    | zero => exact absurd HA.out (by simp [bursarref04_read.l1])
                                    | succ k4 =>
                                      have H := HA.out
                                      clear HA
                                      simp only [bursarref04_read.l1] at H
                                      by_cases c61 : x6_4 < (t170.length : Int)
                                      · rw [if_pos c61] at H
                                        have c61b0 : decide (x6_4 < (t170.length : Int)) = true := decide_eq_true c61
                                        clear c61
                                        by_cases c62 : 0 ≤ x6_4
                                        · rw [if_pos c62] at H
                                          have c62b0 : decide (0 ≤ x6_4) = true := decide_eq_true c62
                                          clear c62
                                          have HC63 := Aside0.mk H
                                          clear H
                                          have p175 : 0 ≤ (x6_4 : Int) := of_decide_eq_true (by first | (with_reducible assumption) | assumption)
                                          have q175 : x6_4 < (t170.length : Int) := of_decide_eq_true (by first | (with_reducible assumption) | assumption)
                                          obtain ⟨ad175, e175, hx175_0⟩ := Kd.at_string (Kd.R_reads' HO_4.out).2.2 x6_4 p175 q175
                                          obtain rfl : ad174 = ad175 := (by injection e175)
                                          replace p175 := eq_true p175
                                          replace q175 := eq_true q175
                                          go_upto_region 21 with (fail)
                                          go_cut [94] (fun v94 wc => ∃ (kq : Nat) (x94_62 : Bool), v94 = .bool x94_62 ∧ Aside0 (bursarref04_read.j4 kq t170 x6_4 (rdOf ByteArray.empty t170 x6_4) x94_62 (a0.extract 0 (x3_2 : Int).toNat) x174001_51 x174002_4 = some (r1, r2, r3)) ∧ Aside0 (kq ≤ k4) ∧ Aside0 (Kd.R Kd.string 9 wc w.heap.size (fun k_ => some k_ ≠ (u174002 : Value).ownBlock) (.slice (some ad174) t170.length co57) t170) ∧ Aside0 (Kd.R Kd.string 9 wc w.heap.size (fun k_ => some k_ ≠ ((.slice (some ad174) t170.length co57) : Value).ownBlock) u174002 x174002_4) ∧ Aside0 (wc.heap[gb163]? = some (.cells #[.string x164000_2, .int .i64 x164001_2, (.slice none 0 0)] 45 (0, 0))) ∧ Aside0 (wc.heap[gb173]? = some (.cells #[.string (a0.extract 0 (x3_2 : Int).toNat), .int .i64 x174001_51, u174002] 45 (0, 0))) ∧ Aside0 (Below w.heap.size w wc))
                                          case first =>
                                            have H := HC63.out
                                            clear HC63
                                            by_cases c64 : x6_4 = 1
                                            · rw [if_pos c64] at H
                                              have c64b0 : (x6_4 == 1) = true := beq_iff_eq.mpr c64
                                              have c64b1 : (x6_4 != 1) = false := bne_eq_false_iff_eq.mpr c64
                                              clear c64
                                              (first | rw [c64b0] | (simp only [i64_w, i32_w]; rw [c64b0]) | skip)
                                              have H' := Aside0.mk H
                                              clear H
                                              go_wp2
                                              go_meet
                                              case rel => exact ⟨_, (decide (((rdOf ByteArray.empty t170 x6_4).size : Int) > 0)), (by first | rfl | (simp; done) | (simp [*]; done) | (simp; rw [Bool.eq_iff_iff]; simp; done) | (rw [Bool.eq_iff_iff]; simp; done)), H', ⟨by have := HJ1.out; have := HK2.out; have := HJ51.out; have := HK4.out; first | omega | exact Nat.le_refl _⟩, ⟨by (with_reducible repeat (first | apply Kd.R_alloc | apply Kd.R_drewN | apply Kd.R_drew)); exact HO_4.out⟩, ⟨by (with_reducible repeat (first | apply Kd.R_alloc | apply Kd.R_drewN | apply Kd.R_drew)); exact HO_174002.out⟩, ⟨by (with_reducible repeat (first | refine blk_drewN ?_ _ | refine blk_drew ?_ | refine blk_alloc ?_ _)); exact BK163.out⟩, ⟨by (with_reducible repeat (first | refine blk_drewN ?_ _ | refine blk_drew ?_ | refine blk_alloc ?_ _)); exact BK173.out⟩, ⟨by repeat (first | (with_reducible first | exact HB.out | apply below_alloc | apply pw_below_drewN | apply below_drew1 | refine below_set ?_ GE163.out | refine below_set ?_ GE173.out) | exact HB.out)⟩⟩
                                            · rw [if_neg c64] at H
                                              have c64b0 : (x6_4 == 1) = false := beq_eq_false_iff_ne.mpr c64
                                              have c64b1 : (x6_4 != 1) = true := bne_iff_ne.mpr c64
                                              (first | rw [c64b0] | (simp only [i64_w, i32_w]; rw [c64b0]) | skip)
                                              have H' := Aside0.mk H
                                              clear H
                                              go_wp2
                                              go_meet
                                              case rel => exact ⟨_, (false), (by first | rfl | (simp; done) | (simp [*]; done) | (simp; rw [Bool.eq_iff_iff]; simp; done) | (rw [Bool.eq_iff_iff]; simp; done)), H', ⟨by have := HJ1.out; have := HK2.out; have := HJ51.out; have := HK4.out; first | omega | exact Nat.le_refl _⟩, ⟨by (with_reducible repeat (first | apply Kd.R_alloc | apply Kd.R_drewN | apply Kd.R_drew)); exact HO_4.out⟩, ⟨by (with_reducible repeat (first | apply Kd.R_alloc | apply Kd.R_drewN | apply Kd.R_drew)); exact HO_174002.out⟩, ⟨by (with_reducible repeat (first | refine blk_drewN ?_ _ | refine blk_drew ?_ | refine blk_alloc ?_ _)); exact BK163.out⟩, ⟨by (with_reducible repeat (first | refine blk_drewN ?_ _ | refine blk_drew ?_ | refine blk_alloc ?_ _)); exact BK173.out⟩, ⟨by repeat (first | (with_reducible first | exact HB.out | apply below_alloc | apply pw_below_drewN | apply below_drew1 | refine below_set ?_ GE163.out | refine below_set ?_ GE173.out) | exact HB.out)⟩⟩
                                          case rest =>
                                            clear HC63
                                            try clear c1
                                            try clear p1
                                            try clear q1
                                            try clear hx1
                                            try clear qi1
                                            try clear c2
                                            try clear p2
                                            try clear c3
                                            try clear p3
                                            try clear q3
                                            try clear hx3
                                            try clear c4
                                            try clear c4b0
                                            try clear c4b1
                                            try clear c5
                                            try clear c5b0
                                            try clear c5b1
                                            try clear c6
                                            try clear p6
                                            try clear q6
                                            try clear hx6
                                            try clear qi6
                                            try clear c7
                                            try clear c8
                                            try clear c8b0
                                            try clear c8b1
                                            try clear c10
                                            try clear c10b0
                                            try clear c11
                                            try clear c11b0
                                            try clear p12
                                            try clear q12
                                            try clear hx12
                                            try clear c13
                                            try clear c13b0
                                            try clear c13b1
                                            try clear c14
                                            try clear c14b0
                                            try clear c15
                                            try clear c15b0
                                            try clear c15b1
                                            try clear c17
                                            try clear c17b0
                                            try clear c17b1
                                            try clear p17
                                            try clear q17
                                            try clear hx17
                                            try clear qi17
                                            try clear c18
                                            try clear c18b0
                                            try clear c18b1
                                            try clear c26
                                            try clear c26b0
                                            try clear c26b1
                                            try clear c27
                                            try clear c27b0
                                            try clear c29
                                            try clear c29b0
                                            try clear p30
                                            try clear q30
                                            try clear hx30
                                            try clear c31
                                            try clear c31b0
                                            try clear c31b1
                                            try clear c32
                                            try clear c32b0
                                            try clear c33
                                            try clear c33b0
                                            try clear c33b1
                                            try clear c35
                                            try clear c35b0
                                            try clear c35b1
                                            try clear c36
                                            try clear c36b0
                                            try clear c36b1
                                            try clear c43
                                            try clear c44
                                            try clear c44b0
                                            try clear c44b1
                                            try clear c46
                                            try clear c46b0
                                            try clear c46b1
                                            try clear c47
                                            try clear c47b0
                                            try clear c47b1
                                            try clear c49
                                            try clear c49b0
                                            try clear c50
                                            try clear c50b0
                                            try clear c50b1
                                            try clear c51
                                            try clear c51b0
                                            try clear c51b1
                                            try clear c55
                                            try clear c58
                                            try clear c58b0
                                            try clear c58b1
                                            try clear c59
                                            try clear c61
                                            try clear c61b0
                                            try clear c62
                                            try clear c62b0
                                            try clear c64
                                            try clear c64b0
                                            try clear c64b1
                                            try clear p64
                                            try clear hcz56_0
                                            try clear hcz56_1
                                            try clear hcz56_2
                                            try clear hcz60_0
                                            try clear hcz60_1
                                            try clear hcz60_2
                                            try clear hcz9_0
                                            try clear hcz9_1
                                            try clear hcz9_2
                                            try clear hfz56_0
                                            try clear hfz56_1
                                            try clear hfz56_2
                                            try clear hfz60_0
                                            try clear hfz60_1
                                            try clear hfz60_2
                                            try clear hfz9_0
                                            try clear hfz9_1
                                            try clear hfz9_2
                                            try clear hx174_0
                                            try clear hx175_0
                                            try clear p1
                                            try clear p12
                                            try clear p17
                                            try clear p174
                                            try clear p175
                                            try clear p2
                                            try clear p3
                                            try clear p30
                                            try clear p6
                                            try clear q1
                                            try clear q12
                                            try clear q17
                                            try clear q174
                                            try clear q175
                                            try clear q3
                                            try clear q30
                                            try clear q6
                                            obtain ⟨kq, x94_62, rfl, HA, HJ62, HO_4, HO_174002, BK163, BK173, HB⟩ := hcut
                                            cases kq with
                                            | zero => exact absurd HA.out (by simp [bursarref04_read.j4])
                                            | succ kj62 =>
                                              have H := HA.out
                                              clear HA
                                              simp only [bursarref04_read.j4] at H
                                              by_cases c65 : x94_62 = true
                                              · subst c65
                                                have H1 : (if 1 ≤ ((rdOf ByteArray.empty t170 x6_4).size : Int) then (if x6_4 = (wrap64 ((t170.length : Int) - 1)) then (if (((rdOf ByteArray.empty t170 x6_4).extract 1 (rdOf ByteArray.empty t170 x6_4).size).size : Int) > 0 then (if 0 ≤ (wrap64 ((((rdOf ByteArray.empty t170 x6_4).extract 1 (rdOf ByteArray.empty t170 x6_4).size).size : Int) - 1)) then (if (wrap64 ((((rdOf ByteArray.empty t170 x6_4).extract 1 (rdOf ByteArray.empty t170 x6_4).size).size : Int) - 1)) ≤ (((rdOf ByteArray.empty t170 x6_4).extract 1 (rdOf ByteArray.empty t170 x6_4).size).size : Int) then (if x174002_4.length < 8796093022208 then (bursarref04_read.l1 kj62 t170 (wrap64 (x6_4 + 1)) (a0.extract 0 (x3_2 : Int).toNat) x174001_51 (x174002_4 ++ [((rdOf ByteArray.empty t170 x6_4).extract 1 (rdOf ByteArray.empty t170 x6_4).size).extract 0 ((wrap64 ((((rdOf ByteArray.empty t170 x6_4).extract 1 (rdOf ByteArray.empty t170 x6_4).size).size : Int) - 1)) : Int).toNat])) else (none)) else (none)) else (none)) else (if x174002_4.length < 8796093022208 then (bursarref04_read.l1 kj62 t170 (wrap64 (x6_4 + 1)) (a0.extract 0 (x3_2 : Int).toNat) x174001_51 (x174002_4 ++ [(rdOf ByteArray.empty t170 x6_4).extract 1 (rdOf ByteArray.empty t170 x6_4).size])) else (none))) else (if x174002_4.length < 8796093022208 then (bursarref04_read.l1 kj62 t170 (wrap64 (x6_4 + 1)) (a0.extract 0 (x3_2 : Int).toNat) x174001_51 (x174002_4 ++ [(rdOf ByteArray.empty t170 x6_4).extract 1 (rdOf ByteArray.empty t170 x6_4).size])) else (none))) else (none)) = some (r1, r2, r3) := by rw [if_pos rfl] at H; exact H
                                                clear H
                                                have H := H1
                                                clear H1
                                                by_cases c66 : 1 ≤ ((rdOf ByteArray.empty t170 x6_4).size : Int)
                                                · rw [if_pos c66] at H
                                                  have c66b0 := eq_true c66
                                                  have c66b1 : decide (1 ≤ ((rdOf ByteArray.empty t170 x6_4).size : Int)) = true := decide_eq_true c66
                                                  clear c66
                                                  by_cases c67 : x6_4 = (wrap64 ((t170.length : Int) - 1))
                                                  · rw [if_pos c67] at H
                                                    have c67b0 : (x6_4 == (wrap64 ((t170.length : Int) - 1))) = true := beq_iff_eq.mpr c67
                                                    have c67b1 : (x6_4 != (wrap64 ((t170.length : Int) - 1))) = false := bne_eq_false_iff_eq.mpr c67
                                                    clear c67
                                                    by_cases c68 : (((rdOf ByteArray.empty t170 x6_4).extract 1 (rdOf ByteArray.empty t170 x6_4).size).size : Int) > 0
                                                    · rw [if_pos c68] at H
                                                      have c68b0 : decide (0 < (((rdOf ByteArray.empty t170 x6_4).extract 1 (rdOf ByteArray.empty t170 x6_4).size).size : Int)) = true := decide_eq_true c68
                                                      have c68b0z : decide (0 < (((rdOf ByteArray.empty t170 x6_4).size - 1 : Nat) : Int)) = true := by have h_ := c68b0; rw [show ((rdOf ByteArray.empty t170 x6_4).extract 1 (rdOf ByteArray.empty t170 x6_4).size).size = (rdOf ByteArray.empty t170 x6_4).size - 1 from by simp [ByteArray.size_extract]] at h_; exact h_
                                                      have c68b0y : (0 < (((rdOf ByteArray.empty t170 x6_4).size - 1 : Nat) : Int)) = True := eq_true (of_decide_eq_true c68b0z)
                                                      have c68b1 : decide (0 < ((rdOf ByteArray.empty t170 x6_4).extract 1 (rdOf ByteArray.empty t170 x6_4).size).size) = true := decide_eq_true (by omega)
                                                      have c68b1z : decide (0 < ((rdOf ByteArray.empty t170 x6_4).size - 1)) = true := by have h_ := c68b1; rw [show ((rdOf ByteArray.empty t170 x6_4).extract 1 (rdOf ByteArray.empty t170 x6_4).size).size = (rdOf ByteArray.empty t170 x6_4).size - 1 from by simp [ByteArray.size_extract]] at h_; exact h_
                                                      have c68b1y : (0 < ((rdOf ByteArray.empty t170 x6_4).size - 1)) = True := eq_true (of_decide_eq_true c68b1z)
                                                      clear c68
                                                      obtain ⟨ji69, hji69⟩ : ∃ j_ : Int, (wrap64 ((((rdOf ByteArray.empty t170 x6_4).extract 1 (rdOf ByteArray.empty t170 x6_4).size).size : Int) - 1)) = j_ := ⟨_, rfl⟩
                                                      replace H : (if 0 ≤ (ji69) then (if (ji69) ≤ (((rdOf ByteArray.empty t170 x6_4).extract 1 (rdOf ByteArray.empty t170 x6_4).size).size : Int) then (if x174002_4.length < 8796093022208 then (bursarref04_read.l1 kj62 t170 (wrap64 (x6_4 + 1)) (a0.extract 0 (x3_2 : Int).toNat) x174001_51 (x174002_4 ++ [((rdOf ByteArray.empty t170 x6_4).extract 1 (rdOf ByteArray.empty t170 x6_4).size).extract 0 ((ji69) : Int).toNat])) else (none)) else (none)) else (none)) = some (r1, r2, r3) := by first | (rw [hji69] at H; exact H) | (simp only [hji69] at H ⊢; exact H)
                                                      have hji69w : (IntKind.i64.wrap ((((rdOf ByteArray.empty t170 x6_4).extract 1 (rdOf ByteArray.empty t170 x6_4).size).size : Int) - 1)) = ji69 := (i64_w _).trans hji69
                                                      have hji69wz : (IntKind.i64.wrap ((((rdOf ByteArray.empty t170 x6_4).size - 1 : Nat) : Int) - 1)) = ji69 := by have h_ := hji69w; rw [show ((rdOf ByteArray.empty t170 x6_4).extract 1 (rdOf ByteArray.empty t170 x6_4).size).size = (rdOf ByteArray.empty t170 x6_4).size - 1 from by simp [ByteArray.size_extract]] at h_; exact h_
                                                      have hji69wv : (wrap64 ((((rdOf ByteArray.empty t170 x6_4).size - 1 : Nat) : Int) - 1)) = ji69 := (i64_w _).symm.trans hji69wz
                                                      by_cases c70 : 0 ≤ (ji69)
                                                      · rw [if_pos c70] at H
                                                        have c70b0 := eq_true c70
                                                        have c70b1 : decide (0 ≤ (ji69)) = true := decide_eq_true c70
                                                        clear c70
                                                        by_cases c71 : (ji69) ≤ (((rdOf ByteArray.empty t170 x6_4).extract 1 (rdOf ByteArray.empty t170 x6_4).size).size : Int)
                                                        · rw [if_pos c71] at H
                                                          have c71b0 := eq_true c71
                                                          have c71b1 : decide ((ji69) ≤ (((rdOf ByteArray.empty t170 x6_4).extract 1 (rdOf ByteArray.empty t170 x6_4).size).size : Int)) = true := decide_eq_true c71
                                                          have c71b1z : decide ((ji69) ≤ (((rdOf ByteArray.empty t170 x6_4).size - 1 : Nat) : Int)) = true := by have h_ := c71b1; rw [show ((rdOf ByteArray.empty t170 x6_4).extract 1 (rdOf ByteArray.empty t170 x6_4).size).size = (rdOf ByteArray.empty t170 x6_4).size - 1 from by simp [ByteArray.size_extract]] at h_; exact h_
                                                          have c71b1y : ((ji69) ≤ (((rdOf ByteArray.empty t170 x6_4).size - 1 : Nat) : Int)) = True := eq_true (of_decide_eq_true c71b1z)
                                                          clear c71
                                                          by_cases c72 : x174002_4.length < 8796093022208
                                                          · rw [if_pos c72] at H
                                                            have LMc72 := Aside0.mk c72
                                                            clear c72
                                                            obtain ⟨y176, hy176⟩ : ∃ y_ : List ByteArray, y_ = (x174002_4 ++ [((rdOf ByteArray.empty t170 x6_4).extract 1 (rdOf ByteArray.empty t170 x6_4).size).extract 0 ((ji69) : Int).toNat]) := ⟨_, rfl⟩
                                                            replace H : (bursarref04_read.l1 kj62 t170 (wrap64 (x6_4 + 1)) (a0.extract 0 (x3_2 : Int).toNat) x174001_51 y176) = some (r1, r2, r3) := by first | (rw [hy176]; with_reducible exact H) | (have H2_ := (Option.bind_some _ _).symm.trans H; rw [hy176]; with_reducible exact H2_) | (have H2_ := (Option.bind_some _ _).symm.trans H; with_reducible exact H2_) | with_reducible exact H | (rw [hy176]; exact H) | exact H
                                                            have Ny176 := Aside0.mk hy176
                                                            clear hy176
                                                            have H' := Aside0.mk H
                                                            clear H
                                                            have hnb73 := NB173_163.out
                                                            have hnc73 := NB163_173.out
                                                            have hcz74_0 : wc.cell? ⟨gb173, 0, none⟩ = some (.string (a0.extract 0 (x3_2 : Int).toNat)) := (blk_cell BK173.out 0).trans rfl
                                                            have hcz74_1 : wc.cell? ⟨gb173, 1, none⟩ = some (.int .i64 x174001_51) := (blk_cell BK173.out 1).trans rfl
                                                            have hcz74_2 : wc.cell? ⟨gb173, 2, none⟩ = some (u174002) := (blk_cell BK173.out 2).trans rfl
                                                            have hfz74_0 := blk_frozen BK173.out 0
                                                            have hfz74_1 := blk_frozen BK173.out 1
                                                            have hfz74_2 := blk_frozen BK173.out 2
                                                            go_wp2_with (first | ((with_reducible refine gate_builtin (b := .append) (xs := #[.tmp 113, .tmp 115]) rfl ?_); (try (refine gate_guard (by rfl) ?_; dsimp only)); at_builtin; refine Kd.R_append Kd.string (w0 := w) w.heap.size rfl (.tmp 113) (.tmp 115) 35 9 (.string ⟨#[]⟩) 16 rfl Tryd.underlying35 info9 rfl (by decide) (by omega) u174002 x174002_4 (((rdOf ByteArray.empty t170 x6_4).extract 1 (rdOf ByteArray.empty t170 x6_4).size).extract 0 ((ji69) : Int).toNat) [.string (((rdOf ByteArray.empty t170 x6_4).extract 1 (rdOf ByteArray.empty t170 x6_4).size).extract 0 ((ji69) : Int).toNat)] (fun k_ => some k_ ≠ (.slice (some ad174) t170.length co57 : Value).ownBlock) (fun _ => False) rfl rfl ?aP (fun _ hk => hk.elim) ?aF ?aO ?aB ?aS ?aL ?_; (case aP => exact rfl); (case aB => exact (by repeat (first | (with_reducible first | exact HB.out | apply below_alloc | apply pw_below_drewN | apply below_drew1 | refine below_set ?_ GE163.out | refine below_set ?_ GE173.out) | exact HB.out))); (case aF => exact (fun k_ hk => Kd.fresh' (Kd.R_lt (by (with_reducible repeat (first | apply Kd.R_alloc | apply Kd.R_drewN | apply Kd.R_drew)); exact HO_4.out)) k_ hk)); (case aO => exact (by (with_reducible repeat (first | apply Kd.R_alloc | apply Kd.R_drewN | apply Kd.R_drew)); exact HO_174002.out)); (case aS => exact (below_size (by repeat (first | (with_reducible first | exact HB.out | apply below_alloc | apply pw_below_drewN | apply below_drew1 | refine below_set ?_ GE163.out | refine below_set ?_ GE173.out) | exact HB.out)))); (case aL => have := LMc72.out; omega); intro v177 w75 ho hb hg hat; rw [← Ny176.out] at ho; have n0_ := Aside0.mk (Kd.R_after (ok := (fun _ => True)) (by (with_reducible repeat (first | apply Kd.R_alloc | apply Kd.R_drewN | apply Kd.R_drew)); exact Kd.R_mono HO_4.out (fun _ hk => ⟨trivial, hk⟩)) hg hat); have n1_ := Aside0.mk (blk_grown (g := gb163) (o := .cells #[.string x164000_2, .int .i64 x164001_2, .slice none 0 0] 45 (0, 0)) (by (with_reducible repeat (first | refine blk_drewN ?_ _ | refine blk_drew ?_ | refine blk_alloc ?_ _)); exact BK163.out) hg (Kd.R_ne HO_174002.out BK163.out (by decide))); have n2_ := Aside0.mk (blk_grown (g := gb173) (o := .cells #[.string (a0.extract 0 (x3_2 : Int).toNat), .int .i64 x174001_51, u174002] 45 (0, 0)) (by (with_reducible repeat (first | refine blk_drewN ?_ _ | refine blk_drew ?_ | refine blk_alloc ?_ _)); exact BK173.out) hg (Kd.R_ne HO_174002.out BK173.out (by decide))); have n3_ := Aside0.mk (hb); have n4_ := Aside0.mk (ho); clear HO_4; clear BK163; clear BK173; clear HB; clear HO_174002; have HO_4 := n0_; have BK163 := n1_; have BK173 := n2_; have HB := n3_; have HO178 := n4_; clear n0_ n1_ n2_ n3_ n4_; clear ho hb hg hat; obtain ⟨Ao76, co76, eo76⟩ := Kd.R_slice HO178.out; subst eo76; have hcz77_0 : w75.cell? ⟨gb173, 0, none⟩ = some (.string (a0.extract 0 (x3_2 : Int).toNat)) := (blk_cell BK173.out 0).trans rfl; have hcz77_1 : w75.cell? ⟨gb173, 1, none⟩ = some (.int .i64 x174001_51) := (blk_cell BK173.out 1).trans rfl; have hcz77_2 : w75.cell? ⟨gb173, 2, none⟩ = some (u174002) := (blk_cell BK173.out 2).trans rfl; have hfz77_0 := blk_frozen BK173.out 0; have hfz77_1 := blk_frozen BK173.out 1; have hfz77_2 := blk_frozen BK173.out 2))
                                                            go_roundg kj62
                                                            case measure => have := HJ1.out; have := HK2.out; have := HJ51.out; have := HK4.out; have := HJ62.out; omega
                                                            case rel => exact ⟨(wrap64 (x6_4 + 1)), (y176), (.slice Ao76 y176.length co76), (by first | rfl | (simp; done) | (simp [*]; done) | (simp; rw [Bool.eq_iff_iff]; simp; done) | (rw [Bool.eq_iff_iff]; simp; done)), H', ⟨by have := HJ1.out; have := HK2.out; have := HJ51.out; have := HK4.out; have := HJ62.out; omega⟩, ⟨by (with_reducible repeat (first | apply Kd.R_alloc | apply Kd.R_drewN | apply Kd.R_drew)); exact Kd.R_mono (Kd.R_far (p := ⟨gb173, 2, none⟩) (Kd.R_types HO_4.out BK173.out (by decide)) (fun _ hk => hk.2) (.slice Ao76 y176.length co76)) (fun _ hk => hk.1.2)⟩, ⟨by (with_reducible repeat (first | apply Kd.R_alloc | apply Kd.R_drewN | apply Kd.R_drew)); exact Kd.R_mono (Kd.R_far (p := ⟨gb173, 2, none⟩) (Kd.R_types HO178.out BK173.out (by decide)) (fun _ hk => hk.2) (.slice Ao76 y176.length co76)) (fun _ hk => hk.1)⟩, ⟨by (with_reducible repeat (first | refine blk_drewN ?_ _ | refine blk_drew ?_ | refine blk_alloc ?_ _)); refine blk_far ?_ NB163_173.out _; (with_reducible repeat (first | refine blk_drewN ?_ _ | refine blk_drew ?_ | refine blk_alloc ?_ _)); exact BK163.out⟩, ⟨by (with_reducible repeat (first | refine blk_drewN ?_ _ | refine blk_drew ?_ | refine blk_alloc ?_ _)); refine blk_put (cs := #[.string (a0.extract 0 (x3_2 : Int).toNat), .int .i64 x174001_51, u174002]) ?_ 2 _ rfl; (with_reducible repeat (first | refine blk_drewN ?_ _ | refine blk_drew ?_ | refine blk_alloc ?_ _)); exact BK173.out⟩, ⟨by repeat (first | (with_reducible first | exact HB.out | apply below_alloc | apply pw_below_drewN | apply below_drew1 | refine below_set ?_ GE163.out | refine below_set ?_ GE173.out) | exact HB.out)⟩⟩
                                                          · rw [if_neg c72] at H
                                                            exact absurd H (by simp)
                                                        · rw [if_neg c71] at H
                                                          exact absurd H (by simp)
                                                      · rw [if_neg c70] at H
                                                        exact absurd H (by simp)
                                                    · rw [if_neg c68] at H
                                                      have c68b0 : decide (0 < (((rdOf ByteArray.empty t170 x6_4).extract 1 (rdOf ByteArray.empty t170 x6_4).size).size : Int)) = false := decide_eq_false c68
                                                      have c68b0z : decide (0 < (((rdOf ByteArray.empty t170 x6_4).size - 1 : Nat) : Int)) = false := by have h_ := c68b0; rw [show ((rdOf ByteArray.empty t170 x6_4).extract 1 (rdOf ByteArray.empty t170 x6_4).size).size = (rdOf ByteArray.empty t170 x6_4).size - 1 from by simp [ByteArray.size_extract]] at h_; exact h_
                                                      have c68b0y : (0 < (((rdOf ByteArray.empty t170 x6_4).size - 1 : Nat) : Int)) = False := eq_false (of_decide_eq_false c68b0z)
                                                      have c68b1 : decide (0 < ((rdOf ByteArray.empty t170 x6_4).extract 1 (rdOf ByteArray.empty t170 x6_4).size).size) = false := decide_eq_false (by omega)
                                                      have c68b1z : decide (0 < ((rdOf ByteArray.empty t170 x6_4).size - 1)) = false := by have h_ := c68b1; rw [show ((rdOf ByteArray.empty t170 x6_4).extract 1 (rdOf ByteArray.empty t170 x6_4).size).size = (rdOf ByteArray.empty t170 x6_4).size - 1 from by simp [ByteArray.size_extract]] at h_; exact h_
                                                      have c68b1y : (0 < ((rdOf ByteArray.empty t170 x6_4).size - 1)) = False := eq_false (of_decide_eq_false c68b1z)
                                                      clear c68
                                                      by_cases c78 : x174002_4.length < 8796093022208
                                                      · rw [if_pos c78] at H
                                                        have LMc78 := Aside0.mk c78
                                                        clear c78
                                                        obtain ⟨y179, hy179⟩ : ∃ y_ : List ByteArray, y_ = (x174002_4 ++ [(rdOf ByteArray.empty t170 x6_4).extract 1 (rdOf ByteArray.empty t170 x6_4).size]) := ⟨_, rfl⟩
                                                        replace H : (bursarref04_read.l1 kj62 t170 (wrap64 (x6_4 + 1)) (a0.extract 0 (x3_2 : Int).toNat) x174001_51 y179) = some (r1, r2, r3) := by first | (rw [hy179]; with_reducible exact H) | (have H2_ := (Option.bind_some _ _).symm.trans H; rw [hy179]; with_reducible exact H2_) | (have H2_ := (Option.bind_some _ _).symm.trans H; with_reducible exact H2_) | with_reducible exact H | (rw [hy179]; exact H) | exact H
                                                        have Ny179 := Aside0.mk hy179
                                                        clear hy179
                                                        have H' := Aside0.mk H
                                                        clear H
                                                        have hnb79 := NB173_163.out
                                                        have hnc79 := NB163_173.out
                                                        have hcz80_0 : wc.cell? ⟨gb173, 0, none⟩ = some (.string (a0.extract 0 (x3_2 : Int).toNat)) := (blk_cell BK173.out 0).trans rfl
                                                        have hcz80_1 : wc.cell? ⟨gb173, 1, none⟩ = some (.int .i64 x174001_51) := (blk_cell BK173.out 1).trans rfl
                                                        have hcz80_2 : wc.cell? ⟨gb173, 2, none⟩ = some (u174002) := (blk_cell BK173.out 2).trans rfl
                                                        have hfz80_0 := blk_frozen BK173.out 0
                                                        have hfz80_1 := blk_frozen BK173.out 1
                                                        have hfz80_2 := blk_frozen BK173.out 2
                                                        go_wp2_with (first | ((with_reducible refine gate_builtin (b := .append) (xs := #[.tmp 113, .tmp 115]) rfl ?_); (try (refine gate_guard (by rfl) ?_; dsimp only)); at_builtin; refine Kd.R_append Kd.string (w0 := w) w.heap.size rfl (.tmp 113) (.tmp 115) 35 9 (.string ⟨#[]⟩) 16 rfl Tryd.underlying35 info9 rfl (by decide) (by omega) u174002 x174002_4 ((rdOf ByteArray.empty t170 x6_4).extract 1 (rdOf ByteArray.empty t170 x6_4).size) [.string ((rdOf ByteArray.empty t170 x6_4).extract 1 (rdOf ByteArray.empty t170 x6_4).size)] (fun k_ => some k_ ≠ (.slice (some ad174) t170.length co57 : Value).ownBlock) (fun _ => False) rfl rfl ?aP (fun _ hk => hk.elim) ?aF ?aO ?aB ?aS ?aL ?_; (case aP => exact rfl); (case aB => exact (by repeat (first | (with_reducible first | exact HB.out | apply below_alloc | apply pw_below_drewN | apply below_drew1 | refine below_set ?_ GE163.out | refine below_set ?_ GE173.out) | exact HB.out))); (case aF => exact (fun k_ hk => Kd.fresh' (Kd.R_lt (by (with_reducible repeat (first | apply Kd.R_alloc | apply Kd.R_drewN | apply Kd.R_drew)); exact HO_4.out)) k_ hk)); (case aO => exact (by (with_reducible repeat (first | apply Kd.R_alloc | apply Kd.R_drewN | apply Kd.R_drew)); exact HO_174002.out)); (case aS => exact (below_size (by repeat (first | (with_reducible first | exact HB.out | apply below_alloc | apply pw_below_drewN | apply below_drew1 | refine below_set ?_ GE163.out | refine below_set ?_ GE173.out) | exact HB.out)))); (case aL => have := LMc78.out; omega); intro v180 w81 ho hb hg hat; rw [← Ny179.out] at ho; have n0_ := Aside0.mk (Kd.R_after (ok := (fun _ => True)) (by (with_reducible repeat (first | apply Kd.R_alloc | apply Kd.R_drewN | apply Kd.R_drew)); exact Kd.R_mono HO_4.out (fun _ hk => ⟨trivial, hk⟩)) hg hat); have n1_ := Aside0.mk (blk_grown (g := gb163) (o := .cells #[.string x164000_2, .int .i64 x164001_2, .slice none 0 0] 45 (0, 0)) (by (with_reducible repeat (first | refine blk_drewN ?_ _ | refine blk_drew ?_ | refine blk_alloc ?_ _)); exact BK163.out) hg (Kd.R_ne HO_174002.out BK163.out (by decide))); have n2_ := Aside0.mk (blk_grown (g := gb173) (o := .cells #[.string (a0.extract 0 (x3_2 : Int).toNat), .int .i64 x174001_51, u174002] 45 (0, 0)) (by (with_reducible repeat (first | refine blk_drewN ?_ _ | refine blk_drew ?_ | refine blk_alloc ?_ _)); exact BK173.out) hg (Kd.R_ne HO_174002.out BK173.out (by decide))); have n3_ := Aside0.mk (hb); have n4_ := Aside0.mk (ho); clear HO_4; clear BK163; clear BK173; clear HB; clear HO_174002; have HO_4 := n0_; have BK163 := n1_; have BK173 := n2_; have HB := n3_; have HO181 := n4_; clear n0_ n1_ n2_ n3_ n4_; clear ho hb hg hat; obtain ⟨Ao82, co82, eo82⟩ := Kd.R_slice HO181.out; subst eo82; have hcz83_0 : w81.cell? ⟨gb173, 0, none⟩ = some (.string (a0.extract 0 (x3_2 : Int).toNat)) := (blk_cell BK173.out 0).trans rfl; have hcz83_1 : w81.cell? ⟨gb173, 1, none⟩ = some (.int .i64 x174001_51) := (blk_cell BK173.out 1).trans rfl; have hcz83_2 : w81.cell? ⟨gb173, 2, none⟩ = some (u174002) := (blk_cell BK173.out 2).trans rfl; have hfz83_0 := blk_frozen BK173.out 0; have hfz83_1 := blk_frozen BK173.out 1; have hfz83_2 := blk_frozen BK173.out 2))
                                                        go_roundg kj62
                                                        case measure => have := HJ1.out; have := HK2.out; have := HJ51.out; have := HK4.out; have := HJ62.out; omega
                                                        case rel => exact ⟨(wrap64 (x6_4 + 1)), (y179), (.slice Ao82 y179.length co82), (by first | rfl | (simp; done) | (simp [*]; done) | (simp; rw [Bool.eq_iff_iff]; simp; done) | (rw [Bool.eq_iff_iff]; simp; done)), H', ⟨by have := HJ1.out; have := HK2.out; have := HJ51.out; have := HK4.out; have := HJ62.out; omega⟩, ⟨by (with_reducible repeat (first | apply Kd.R_alloc | apply Kd.R_drewN | apply Kd.R_drew)); exact Kd.R_mono (Kd.R_far (p := ⟨gb173, 2, none⟩) (Kd.R_types HO_4.out BK173.out (by decide)) (fun _ hk => hk.2) (.slice Ao82 y179.length co82)) (fun _ hk => hk.1.2)⟩, ⟨by (with_reducible repeat (first | apply Kd.R_alloc | apply Kd.R_drewN | apply Kd.R_drew)); exact Kd.R_mono (Kd.R_far (p := ⟨gb173, 2, none⟩) (Kd.R_types HO181.out BK173.out (by decide)) (fun _ hk => hk.2) (.slice Ao82 y179.length co82)) (fun _ hk => hk.1)⟩, ⟨by (with_reducible repeat (first | refine blk_drewN ?_ _ | refine blk_drew ?_ | refine blk_alloc ?_ _)); refine blk_far ?_ NB163_173.out _; (with_reducible repeat (first | refine blk_drewN ?_ _ | refine blk_drew ?_ | refine blk_alloc ?_ _)); exact BK163.out⟩, ⟨by (with_reducible repeat (first | refine blk_drewN ?_ _ | refine blk_drew ?_ | refine blk_alloc ?_ _)); refine blk_put (cs := #[.string (a0.extract 0 (x3_2 : Int).toNat), .int .i64 x174001_51, u174002]) ?_ 2 _ rfl; (with_reducible repeat (first | refine blk_drewN ?_ _ | refine blk_drew ?_ | refine blk_alloc ?_ _)); exact BK173.out⟩, ⟨by repeat (first | (with_reducible first | exact HB.out | apply below_alloc | apply pw_below_drewN | apply below_drew1 | refine below_set ?_ GE163.out | refine below_set ?_ GE173.out) | exact HB.out)⟩⟩
                                                      · rw [if_neg c78] at H
                                                        exact absurd H (by simp)
                                                  · rw [if_neg c67] at H
                                                    have c67b0 : (x6_4 == (wrap64 ((t170.length : Int) - 1))) = false := beq_eq_false_iff_ne.mpr c67
                                                    have c67b1 : (x6_4 != (wrap64 ((t170.length : Int) - 1))) = true := bne_iff_ne.mpr c67
                                                    by_cases c84 : x174002_4.length < 8796093022208
                                                    · rw [if_pos c84] at H
                                                      have LMc84 := Aside0.mk c84
                                                      clear c84
                                                      obtain ⟨y182, hy182⟩ : ∃ y_ : List ByteArray, y_ = (x174002_4 ++ [(rdOf ByteArray.empty t170 x6_4).extract 1 (rdOf ByteArray.empty t170 x6_4).size]) := ⟨_, rfl⟩
                                                      replace H : (bursarref04_read.l1 kj62 t170 (wrap64 (x6_4 + 1)) (a0.extract 0 (x3_2 : Int).toNat) x174001_51 y182) = some (r1, r2, r3) := by first | (rw [hy182]; with_reducible exact H) | (have H2_ := (Option.bind_some _ _).symm.trans H; rw [hy182]; with_reducible exact H2_) | (have H2_ := (Option.bind_some _ _).symm.trans H; with_reducible exact H2_) | with_reducible exact H | (rw [hy182]; exact H) | exact H
                                                      have Ny182 := Aside0.mk hy182
                                                      clear hy182
                                                      have H' := Aside0.mk H
                                                      clear H
                                                      have hnb85 := NB173_163.out
                                                      have hnc85 := NB163_173.out
                                                      have hcz86_0 : wc.cell? ⟨gb173, 0, none⟩ = some (.string (a0.extract 0 (x3_2 : Int).toNat)) := (blk_cell BK173.out 0).trans rfl
                                                      have hcz86_1 : wc.cell? ⟨gb173, 1, none⟩ = some (.int .i64 x174001_51) := (blk_cell BK173.out 1).trans rfl
                                                      have hcz86_2 : wc.cell? ⟨gb173, 2, none⟩ = some (u174002) := (blk_cell BK173.out 2).trans rfl
                                                      have hfz86_0 := blk_frozen BK173.out 0
                                                      have hfz86_1 := blk_frozen BK173.out 1
                                                      have hfz86_2 := blk_frozen BK173.out 2
                                                      go_wp2_with (first | ((with_reducible refine gate_builtin (b := .append) (xs := #[.tmp 113, .tmp 115]) rfl ?_); (try (refine gate_guard (by rfl) ?_; dsimp only)); at_builtin; refine Kd.R_append Kd.string (w0 := w) w.heap.size rfl (.tmp 113) (.tmp 115) 35 9 (.string ⟨#[]⟩) 16 rfl Tryd.underlying35 info9 rfl (by decide) (by omega) u174002 x174002_4 ((rdOf ByteArray.empty t170 x6_4).extract 1 (rdOf ByteArray.empty t170 x6_4).size) [.string ((rdOf ByteArray.empty t170 x6_4).extract 1 (rdOf ByteArray.empty t170 x6_4).size)] (fun k_ => some k_ ≠ (.slice (some ad174) t170.length co57 : Value).ownBlock) (fun _ => False) rfl rfl ?aP (fun _ hk => hk.elim) ?aF ?aO ?aB ?aS ?aL ?_; (case aP => exact rfl); (case aB => exact (by repeat (first | (with_reducible first | exact HB.out | apply below_alloc | apply pw_below_drewN | apply below_drew1 | refine below_set ?_ GE163.out | refine below_set ?_ GE173.out) | exact HB.out))); (case aF => exact (fun k_ hk => Kd.fresh' (Kd.R_lt (by (with_reducible repeat (first | apply Kd.R_alloc | apply Kd.R_drewN | apply Kd.R_drew)); exact HO_4.out)) k_ hk)); (case aO => exact (by (with_reducible repeat (first | apply Kd.R_alloc | apply Kd.R_drewN | apply Kd.R_drew)); exact HO_174002.out)); (case aS => exact (below_size (by repeat (first | (with_reducible first | exact HB.out | apply below_alloc | apply pw_below_drewN | apply below_drew1 | refine below_set ?_ GE163.out | refine below_set ?_ GE173.out) | exact HB.out)))); (case aL => have := LMc84.out; omega); intro v183 w87 ho hb hg hat; rw [← Ny182.out] at ho; have n0_ := Aside0.mk (Kd.R_after (ok := (fun _ => True)) (by (with_reducible repeat (first | apply Kd.R_alloc | apply Kd.R_drewN | apply Kd.R_drew)); exact Kd.R_mono HO_4.out (fun _ hk => ⟨trivial, hk⟩)) hg hat); have n1_ := Aside0.mk (blk_grown (g := gb163) (o := .cells #[.string x164000_2, .int .i64 x164001_2, .slice none 0 0] 45 (0, 0)) (by (with_reducible repeat (first | refine blk_drewN ?_ _ | refine blk_drew ?_ | refine blk_alloc ?_ _)); exact BK163.out) hg (Kd.R_ne HO_174002.out BK163.out (by decide))); have n2_ := Aside0.mk (blk_grown (g := gb173) (o := .cells #[.string (a0.extract 0 (x3_2 : Int).toNat), .int .i64 x174001_51, u174002] 45 (0, 0)) (by (with_reducible repeat (first | refine blk_drewN ?_ _ | refine blk_drew ?_ | refine blk_alloc ?_ _)); exact BK173.out) hg (Kd.R_ne HO_174002.out BK173.out (by decide))); have n3_ := Aside0.mk (hb); have n4_ := Aside0.mk (ho); clear HO_4; clear BK163; clear BK173; clear HB; clear HO_174002; have HO_4 := n0_; have BK163 := n1_; have BK173 := n2_; have HB := n3_; have HO184 := n4_; clear n0_ n1_ n2_ n3_ n4_; clear ho hb hg hat; obtain ⟨Ao88, co88, eo88⟩ := Kd.R_slice HO184.out; subst eo88; have hcz89_0 : w87.cell? ⟨gb173, 0, none⟩ = some (.string (a0.extract 0 (x3_2 : Int).toNat)) := (blk_cell BK173.out 0).trans rfl; have hcz89_1 : w87.cell? ⟨gb173, 1, none⟩ = some (.int .i64 x174001_51) := (blk_cell BK173.out 1).trans rfl; have hcz89_2 : w87.cell? ⟨gb173, 2, none⟩ = some (u174002) := (blk_cell BK173.out 2).trans rfl; have hfz89_0 := blk_frozen BK173.out 0; have hfz89_1 := blk_frozen BK173.out 1; have hfz89_2 := blk_frozen BK173.out 2))
                                                      go_roundg kj62
                                                      case measure => have := HJ1.out; have := HK2.out; have := HJ51.out; have := HK4.out; have := HJ62.out; omega
                                                      case rel => exact ⟨(wrap64 (x6_4 + 1)), (y182), (.slice Ao88 y182.length co88), (by first | rfl | (simp; done) | (simp [*]; done) | (simp; rw [Bool.eq_iff_iff]; simp; done) | (rw [Bool.eq_iff_iff]; simp; done)), H', ⟨by have := HJ1.out; have := HK2.out; have := HJ51.out; have := HK4.out; have := HJ62.out; omega⟩, ⟨by (with_reducible repeat (first | apply Kd.R_alloc | apply Kd.R_drewN | apply Kd.R_drew)); exact Kd.R_mono (Kd.R_far (p := ⟨gb173, 2, none⟩) (Kd.R_types HO_4.out BK173.out (by decide)) (fun _ hk => hk.2) (.slice Ao88 y182.length co88)) (fun _ hk => hk.1.2)⟩, ⟨by (with_reducible repeat (first | apply Kd.R_alloc | apply Kd.R_drewN | apply Kd.R_drew)); exact Kd.R_mono (Kd.R_far (p := ⟨gb173, 2, none⟩) (Kd.R_types HO184.out BK173.out (by decide)) (fun _ hk => hk.2) (.slice Ao88 y182.length co88)) (fun _ hk => hk.1)⟩, ⟨by (with_reducible repeat (first | refine blk_drewN ?_ _ | refine blk_drew ?_ | refine blk_alloc ?_ _)); refine blk_far ?_ NB163_173.out _; (with_reducible repeat (first | refine blk_drewN ?_ _ | refine blk_drew ?_ | refine blk_alloc ?_ _)); exact BK163.out⟩, ⟨by (with_reducible repeat (first | refine blk_drewN ?_ _ | refine blk_drew ?_ | refine blk_alloc ?_ _)); refine blk_put (cs := #[.string (a0.extract 0 (x3_2 : Int).toNat), .int .i64 x174001_51, u174002]) ?_ 2 _ rfl; (with_reducible repeat (first | refine blk_drewN ?_ _ | refine blk_drew ?_ | refine blk_alloc ?_ _)); exact BK173.out⟩, ⟨by repeat (first | (with_reducible first | exact HB.out | apply below_alloc | apply pw_below_drewN | apply below_drew1 | refine below_set ?_ GE163.out | refine below_set ?_ GE173.out) | exact HB.out)⟩⟩
                                                    · rw [if_neg c84] at H
                                                      exact absurd H (by simp)
                                                · rw [if_neg c66] at H
                                                  exact absurd H (by simp)
                                              · replace c65 := Bool.eq_false_iff.mpr c65
                                                subst c65
                                                have H1 : (if x6_4 = (wrap64 ((t170.length : Int) - 1)) then (if ((rdOf ByteArray.empty t170 x6_4).size : Int) > 0 then (if 0 ≤ (wrap64 (((rdOf ByteArray.empty t170 x6_4).size : Int) - 1)) then (if (wrap64 (((rdOf ByteArray.empty t170 x6_4).size : Int) - 1)) ≤ ((rdOf ByteArray.empty t170 x6_4).size : Int) then (if x174002_4.length < 8796093022208 then (bursarref04_read.l1 kj62 t170 (wrap64 (x6_4 + 1)) (a0.extract 0 (x3_2 : Int).toNat) x174001_51 (x174002_4 ++ [(rdOf ByteArray.empty t170 x6_4).extract 0 ((wrap64 (((rdOf ByteArray.empty t170 x6_4).size : Int) - 1)) : Int).toNat])) else (none)) else (none)) else (none)) else (if x174002_4.length < 8796093022208 then (bursarref04_read.l1 kj62 t170 (wrap64 (x6_4 + 1)) (a0.extract 0 (x3_2 : Int).toNat) x174001_51 (x174002_4 ++ [(rdOf ByteArray.empty t170 x6_4)])) else (none))) else (if x174002_4.length < 8796093022208 then (bursarref04_read.l1 kj62 t170 (wrap64 (x6_4 + 1)) (a0.extract 0 (x3_2 : Int).toNat) x174001_51 (x174002_4 ++ [(rdOf ByteArray.empty t170 x6_4)])) else (none))) = some (r1, r2, r3) := by rw [if_neg (show ¬ (false = true) by decide)] at H; exact H
                                                clear H
                                                have H := H1
                                                clear H1
                                                by_cases c90 : x6_4 = (wrap64 ((t170.length : Int) - 1))
                                                · rw [if_pos c90] at H
                                                  have c90b0 : (x6_4 == (wrap64 ((t170.length : Int) - 1))) = true := beq_iff_eq.mpr c90
                                                  have c90b1 : (x6_4 != (wrap64 ((t170.length : Int) - 1))) = false := bne_eq_false_iff_eq.mpr c90
                                                  clear c90
                                                  by_cases c91 : ((rdOf ByteArray.empty t170 x6_4).size : Int) > 0
                                                  · rw [if_pos c91] at H
                                                    have c91b0 : decide (0 < ((rdOf ByteArray.empty t170 x6_4).size : Int)) = true := decide_eq_true c91
                                                    have c91b1 : decide (0 < (rdOf ByteArray.empty t170 x6_4).size) = true := decide_eq_true (by omega)
                                                    clear c91
                                                    obtain ⟨ji92, hji92⟩ : ∃ j_ : Int, (wrap64 (((rdOf ByteArray.empty t170 x6_4).size : Int) - 1)) = j_ := ⟨_, rfl⟩
                                                    replace H : (if 0 ≤ (ji92) then (if (ji92) ≤ ((rdOf ByteArray.empty t170 x6_4).size : Int) then (if x174002_4.length < 8796093022208 then (bursarref04_read.l1 kj62 t170 (wrap64 (x6_4 + 1)) (a0.extract 0 (x3_2 : Int).toNat) x174001_51 (x174002_4 ++ [(rdOf ByteArray.empty t170 x6_4).extract 0 ((ji92) : Int).toNat])) else (none)) else (none)) else (none)) = some (r1, r2, r3) := by first | (rw [hji92] at H; exact H) | (simp only [hji92] at H ⊢; exact H)
                                                    have hji92w : (IntKind.i64.wrap (((rdOf ByteArray.empty t170 x6_4).size : Int) - 1)) = ji92 := (i64_w _).trans hji92
                                                    by_cases c93 : 0 ≤ (ji92)
                                                    · rw [if_pos c93] at H
                                                      have c93b0 := eq_true c93
                                                      have c93b1 : decide (0 ≤ (ji92)) = true := decide_eq_true c93
                                                      clear c93
                                                      by_cases c94 : (ji92) ≤ ((rdOf ByteArray.empty t170 x6_4).size : Int)
                                                      · rw [if_pos c94] at H
                                                        have c94b0 := eq_true c94
                                                        have c94b1 : decide ((ji92) ≤ ((rdOf ByteArray.empty t170 x6_4).size : Int)) = true := decide_eq_true c94
                                                        clear c94
                                                        by_cases c95 : x174002_4.length < 8796093022208
                                                        · rw [if_pos c95] at H
                                                          have LMc95 := Aside0.mk c95
                                                          clear c95
                                                          obtain ⟨y185, hy185⟩ : ∃ y_ : List ByteArray, y_ = (x174002_4 ++ [(rdOf ByteArray.empty t170 x6_4).extract 0 ((ji92) : Int).toNat]) := ⟨_, rfl⟩
                                                          replace H : (bursarref04_read.l1 kj62 t170 (wrap64 (x6_4 + 1)) (a0.extract 0 (x3_2 : Int).toNat) x174001_51 y185) = some (r1, r2, r3) := by first | (rw [hy185]; with_reducible exact H) | (have H2_ := (Option.bind_some _ _).symm.trans H; rw [hy185]; with_reducible exact H2_) | (have H2_ := (Option.bind_some _ _).symm.trans H; with_reducible exact H2_) | with_reducible exact H | (rw [hy185]; exact H) | exact H
                                                          have Ny185 := Aside0.mk hy185
                                                          clear hy185
                                                          have H' := Aside0.mk H
                                                          clear H
                                                          have hnb96 := NB173_163.out
                                                          have hnc96 := NB163_173.out
                                                          have hcz97_0 : wc.cell? ⟨gb173, 0, none⟩ = some (.string (a0.extract 0 (x3_2 : Int).toNat)) := (blk_cell BK173.out 0).trans rfl
                                                          have hcz97_1 : wc.cell? ⟨gb173, 1, none⟩ = some (.int .i64 x174001_51) := (blk_cell BK173.out 1).trans rfl
                                                          have hcz97_2 : wc.cell? ⟨gb173, 2, none⟩ = some (u174002) := (blk_cell BK173.out 2).trans rfl
                                                          have hfz97_0 := blk_frozen BK173.out 0
                                                          have hfz97_1 := blk_frozen BK173.out 1
                                                          have hfz97_2 := blk_frozen BK173.out 2
                                                          go_wp2_with (first | ((with_reducible refine gate_builtin (b := .append) (xs := #[.tmp 113, .tmp 115]) rfl ?_); (try (refine gate_guard (by rfl) ?_; dsimp only)); at_builtin; refine Kd.R_append Kd.string (w0 := w) w.heap.size rfl (.tmp 113) (.tmp 115) 35 9 (.string ⟨#[]⟩) 16 rfl Tryd.underlying35 info9 rfl (by decide) (by omega) u174002 x174002_4 ((rdOf ByteArray.empty t170 x6_4).extract 0 ((ji92) : Int).toNat) [.string ((rdOf ByteArray.empty t170 x6_4).extract 0 ((ji92) : Int).toNat)] (fun k_ => some k_ ≠ (.slice (some ad174) t170.length co57 : Value).ownBlock) (fun _ => False) rfl rfl ?aP (fun _ hk => hk.elim) ?aF ?aO ?aB ?aS ?aL ?_; (case aP => exact rfl); (case aB => exact (by repeat (first | (with_reducible first | exact HB.out | apply below_alloc | apply pw_below_drewN | apply below_drew1 | refine below_set ?_ GE163.out | refine below_set ?_ GE173.out) | exact HB.out))); (case aF => exact (fun k_ hk => Kd.fresh' (Kd.R_lt (by (with_reducible repeat (first | apply Kd.R_alloc | apply Kd.R_drewN | apply Kd.R_drew)); exact HO_4.out)) k_ hk)); (case aO => exact (by (with_reducible repeat (first | apply Kd.R_alloc | apply Kd.R_drewN | apply Kd.R_drew)); exact HO_174002.out)); (case aS => exact (below_size (by repeat (first | (with_reducible first | exact HB.out | apply below_alloc | apply pw_below_drewN | apply below_drew1 | refine below_set ?_ GE163.out | refine below_set ?_ GE173.out) | exact HB.out)))); (case aL => have := LMc95.out; omega); intro v186 w98 ho hb hg hat; rw [← Ny185.out] at ho; have n0_ := Aside0.mk (Kd.R_after (ok := (fun _ => True)) (by (with_reducible repeat (first | apply Kd.R_alloc | apply Kd.R_drewN | apply Kd.R_drew)); exact Kd.R_mono HO_4.out (fun _ hk => ⟨trivial, hk⟩)) hg hat); have n1_ := Aside0.mk (blk_grown (g := gb163) (o := .cells #[.string x164000_2, .int .i64 x164001_2, .slice none 0 0] 45 (0, 0)) (by (with_reducible repeat (first | refine blk_drewN ?_ _ | refine blk_drew ?_ | refine blk_alloc ?_ _)); exact BK163.out) hg (Kd.R_ne HO_174002.out BK163.out (by decide))); have n2_ := Aside0.mk (blk_grown (g := gb173) (o := .cells #[.string (a0.extract 0 (x3_2 : Int).toNat), .int .i64 x174001_51, u174002] 45 (0, 0)) (by (with_reducible repeat (first | refine blk_drewN ?_ _ | refine blk_drew ?_ | refine blk_alloc ?_ _)); exact BK173.out) hg (Kd.R_ne HO_174002.out BK173.out (by decide))); have n3_ := Aside0.mk (hb); have n4_ := Aside0.mk (ho); clear HO_4; clear BK163; clear BK173; clear HB; clear HO_174002; have HO_4 := n0_; have BK163 := n1_; have BK173 := n2_; have HB := n3_; have HO187 := n4_; clear n0_ n1_ n2_ n3_ n4_; clear ho hb hg hat; obtain ⟨Ao99, co99, eo99⟩ := Kd.R_slice HO187.out; subst eo99; have hcz100_0 : w98.cell? ⟨gb173, 0, none⟩ = some (.string (a0.extract 0 (x3_2 : Int).toNat)) := (blk_cell BK173.out 0).trans rfl; have hcz100_1 : w98.cell? ⟨gb173, 1, none⟩ = some (.int .i64 x174001_51) := (blk_cell BK173.out 1).trans rfl; have hcz100_2 : w98.cell? ⟨gb173, 2, none⟩ = some (u174002) := (blk_cell BK173.out 2).trans rfl; have hfz100_0 := blk_frozen BK173.out 0; have hfz100_1 := blk_frozen BK173.out 1; have hfz100_2 := blk_frozen BK173.out 2))
                                                          go_roundg kj62
                                                          case measure => have := HJ1.out; have := HK2.out; have := HJ51.out; have := HK4.out; have := HJ62.out; omega
                                                          case rel => exact ⟨(wrap64 (x6_4 + 1)), (y185), (.slice Ao99 y185.length co99), (by first | rfl | (simp; done) | (simp [*]; done) | (simp; rw [Bool.eq_iff_iff]; simp; done) | (rw [Bool.eq_iff_iff]; simp; done)), H', ⟨by have := HJ1.out; have := HK2.out; have := HJ51.out; have := HK4.out; have := HJ62.out; omega⟩, ⟨by (with_reducible repeat (first | apply Kd.R_alloc | apply Kd.R_drewN | apply Kd.R_drew)); exact Kd.R_mono (Kd.R_far (p := ⟨gb173, 2, none⟩) (Kd.R_types HO_4.out BK173.out (by decide)) (fun _ hk => hk.2) (.slice Ao99 y185.length co99)) (fun _ hk => hk.1.2)⟩, ⟨by (with_reducible repeat (first | apply Kd.R_alloc | apply Kd.R_drewN | apply Kd.R_drew)); exact Kd.R_mono (Kd.R_far (p := ⟨gb173, 2, none⟩) (Kd.R_types HO187.out BK173.out (by decide)) (fun _ hk => hk.2) (.slice Ao99 y185.length co99)) (fun _ hk => hk.1)⟩, ⟨by (with_reducible repeat (first | refine blk_drewN ?_ _ | refine blk_drew ?_ | refine blk_alloc ?_ _)); refine blk_far ?_ NB163_173.out _; (with_reducible repeat (first | refine blk_drewN ?_ _ | refine blk_drew ?_ | refine blk_alloc ?_ _)); exact BK163.out⟩, ⟨by (with_reducible repeat (first | refine blk_drewN ?_ _ | refine blk_drew ?_ | refine blk_alloc ?_ _)); refine blk_put (cs := #[.string (a0.extract 0 (x3_2 : Int).toNat), .int .i64 x174001_51, u174002]) ?_ 2 _ rfl; (with_reducible repeat (first | refine blk_drewN ?_ _ | refine blk_drew ?_ | refine blk_alloc ?_ _)); exact BK173.out⟩, ⟨by repeat (first | (with_reducible first | exact HB.out | apply below_alloc | apply pw_below_drewN | apply below_drew1 | refine below_set ?_ GE163.out | refine below_set ?_ GE173.out) | exact HB.out)⟩⟩
                                                        · rw [if_neg c95] at H
                                                          exact absurd H (by simp)
                                                      · rw [if_neg c94] at H
                                                        exact absurd H (by simp)
                                                    · rw [if_neg c93] at H
                                                      exact absurd H (by simp)
                                                  · rw [if_neg c91] at H
                                                    have c91b0 : decide (0 < ((rdOf ByteArray.empty t170 x6_4).size : Int)) = false := decide_eq_false c91
                                                    have c91b1 : decide (0 < (rdOf ByteArray.empty t170 x6_4).size) = false := decide_eq_false (by omega)
                                                    clear c91
                                                    by_cases c101 : x174002_4.length < 8796093022208
                                                    · rw [if_pos c101] at H
                                                      have LMc101 := Aside0.mk c101
                                                      clear c101
                                                      obtain ⟨y188, hy188⟩ : ∃ y_ : List ByteArray, y_ = (x174002_4 ++ [(rdOf ByteArray.empty t170 x6_4)]) := ⟨_, rfl⟩
                                                      replace H : (bursarref04_read.l1 kj62 t170 (wrap64 (x6_4 + 1)) (a0.extract 0 (x3_2 : Int).toNat) x174001_51 y188) = some (r1, r2, r3) := by first | (rw [hy188]; with_reducible exact H) | (have H2_ := (Option.bind_some _ _).symm.trans H; rw [hy188]; with_reducible exact H2_) | (have H2_ := (Option.bind_some _ _).symm.trans H; with_reducible exact H2_) | with_reducible exact H | (rw [hy188]; exact H) | exact H
                                                      have Ny188 := Aside0.mk hy188
                                                      clear hy188
                                                      have H' := Aside0.mk H
                                                      clear H
                                                      have hnb102 := NB173_163.out
                                                      have hnc102 := NB163_173.out
                                                      have hcz103_0 : wc.cell? ⟨gb173, 0, none⟩ = some (.string (a0.extract 0 (x3_2 : Int).toNat)) := (blk_cell BK173.out 0).trans rfl
                                                      have hcz103_1 : wc.cell? ⟨gb173, 1, none⟩ = some (.int .i64 x174001_51) := (blk_cell BK173.out 1).trans rfl
                                                      have hcz103_2 : wc.cell? ⟨gb173, 2, none⟩ = some (u174002) := (blk_cell BK173.out 2).trans rfl
                                                      have hfz103_0 := blk_frozen BK173.out 0
                                                      have hfz103_1 := blk_frozen BK173.out 1
                                                      have hfz103_2 := blk_frozen BK173.out 2
                                                      go_wp2_with (first | ((with_reducible refine gate_builtin (b := .append) (xs := #[.tmp 113, .tmp 115]) rfl ?_); (try (refine gate_guard (by rfl) ?_; dsimp only)); at_builtin; refine Kd.R_append Kd.string (w0 := w) w.heap.size rfl (.tmp 113) (.tmp 115) 35 9 (.string ⟨#[]⟩) 16 rfl Tryd.underlying35 info9 rfl (by decide) (by omega) u174002 x174002_4 (rdOf ByteArray.empty t170 x6_4) [.string (rdOf ByteArray.empty t170 x6_4)] (fun k_ => some k_ ≠ (.slice (some ad174) t170.length co57 : Value).ownBlock) (fun _ => False) rfl rfl ?aP (fun _ hk => hk.elim) ?aF ?aO ?aB ?aS ?aL ?_; (case aP => exact rfl); (case aB => exact (by repeat (first | (with_reducible first | exact HB.out | apply below_alloc | apply pw_below_drewN | apply below_drew1 | refine below_set ?_ GE163.out | refine below_set ?_ GE173.out) | exact HB.out))); (case aF => exact (fun k_ hk => Kd.fresh' (Kd.R_lt (by (with_reducible repeat (first | apply Kd.R_alloc | apply Kd.R_drewN | apply Kd.R_drew)); exact HO_4.out)) k_ hk)); (case aO => exact (by (with_reducible repeat (first | apply Kd.R_alloc | apply Kd.R_drewN | apply Kd.R_drew)); exact HO_174002.out)); (case aS => exact (below_size (by repeat (first | (with_reducible first | exact HB.out | apply below_alloc | apply pw_below_drewN | apply below_drew1 | refine below_set ?_ GE163.out | refine below_set ?_ GE173.out) | exact HB.out)))); (case aL => have := LMc101.out; omega); intro v189 w104 ho hb hg hat; rw [← Ny188.out] at ho; have n0_ := Aside0.mk (Kd.R_after (ok := (fun _ => True)) (by (with_reducible repeat (first | apply Kd.R_alloc | apply Kd.R_drewN | apply Kd.R_drew)); exact Kd.R_mono HO_4.out (fun _ hk => ⟨trivial, hk⟩)) hg hat); have n1_ := Aside0.mk (blk_grown (g := gb163) (o := .cells #[.string x164000_2, .int .i64 x164001_2, .slice none 0 0] 45 (0, 0)) (by (with_reducible repeat (first | refine blk_drewN ?_ _ | refine blk_drew ?_ | refine blk_alloc ?_ _)); exact BK163.out) hg (Kd.R_ne HO_174002.out BK163.out (by decide))); have n2_ := Aside0.mk (blk_grown (g := gb173) (o := .cells #[.string (a0.extract 0 (x3_2 : Int).toNat), .int .i64 x174001_51, u174002] 45 (0, 0)) (by (with_reducible repeat (first | refine blk_drewN ?_ _ | refine blk_drew ?_ | refine blk_alloc ?_ _)); exact BK173.out) hg (Kd.R_ne HO_174002.out BK173.out (by decide))); have n3_ := Aside0.mk (hb); have n4_ := Aside0.mk (ho); clear HO_4; clear BK163; clear BK173; clear HB; clear HO_174002; have HO_4 := n0_; have BK163 := n1_; have BK173 := n2_; have HB := n3_; have HO190 := n4_; clear n0_ n1_ n2_ n3_ n4_; clear ho hb hg hat; obtain ⟨Ao105, co105, eo105⟩ := Kd.R_slice HO190.out; subst eo105; have hcz106_0 : w104.cell? ⟨gb173, 0, none⟩ = some (.string (a0.extract 0 (x3_2 : Int).toNat)) := (blk_cell BK173.out 0).trans rfl; have hcz106_1 : w104.cell? ⟨gb173, 1, none⟩ = some (.int .i64 x174001_51) := (blk_cell BK173.out 1).trans rfl; have hcz106_2 : w104.cell? ⟨gb173, 2, none⟩ = some (u174002) := (blk_cell BK173.out 2).trans rfl; have hfz106_0 := blk_frozen BK173.out 0; have hfz106_1 := blk_frozen BK173.out 1; have hfz106_2 := blk_frozen BK173.out 2))
                                                      go_roundg kj62
                                                      case measure => have := HJ1.out; have := HK2.out; have := HJ51.out; have := HK4.out; have := HJ62.out; omega
                                                      case rel => exact ⟨(wrap64 (x6_4 + 1)), (y188), (.slice Ao105 y188.length co105), (by first | rfl | (simp; done) | (simp [*]; done) | (simp; rw [Bool.eq_iff_iff]; simp; done) | (rw [Bool.eq_iff_iff]; simp; done)), H', ⟨by have := HJ1.out; have := HK2.out; have := HJ51.out; have := HK4.out; have := HJ62.out; omega⟩, ⟨by (with_reducible repeat (first | apply Kd.R_alloc | apply Kd.R_drewN | apply Kd.R_drew)); exact Kd.R_mono (Kd.R_far (p := ⟨gb173, 2, none⟩) (Kd.R_types HO_4.out BK173.out (by decide)) (fun _ hk => hk.2) (.slice Ao105 y188.length co105)) (fun _ hk => hk.1.2)⟩, ⟨by (with_reducible repeat (first | apply Kd.R_alloc | apply Kd.R_drewN | apply Kd.R_drew)); exact Kd.R_mono (Kd.R_far (p := ⟨gb173, 2, none⟩) (Kd.R_types HO190.out BK173.out (by decide)) (fun _ hk => hk.2) (.slice Ao105 y188.length co105)) (fun _ hk => hk.1)⟩, ⟨by (with_reducible repeat (first | refine blk_drewN ?_ _ | refine blk_drew ?_ | refine blk_alloc ?_ _)); refine blk_far ?_ NB163_173.out _; (with_reducible repeat (first | refine blk_drewN ?_ _ | refine blk_drew ?_ | refine blk_alloc ?_ _)); exact BK163.out⟩, ⟨by (with_reducible repeat (first | refine blk_drewN ?_ _ | refine blk_drew ?_ | refine blk_alloc ?_ _)); refine blk_put (cs := #[.string (a0.extract 0 (x3_2 : Int).toNat), .int .i64 x174001_51, u174002]) ?_ 2 _ rfl; (with_reducible repeat (first | refine blk_drewN ?_ _ | refine blk_drew ?_ | refine blk_alloc ?_ _)); exact BK173.out⟩, ⟨by repeat (first | (with_reducible first | exact HB.out | apply below_alloc | apply pw_below_drewN | apply below_drew1 | refine below_set ?_ GE163.out | refine below_set ?_ GE173.out) | exact HB.out)⟩⟩
                                                    · rw [if_neg c101] at H
                                                      exact absurd H (by simp)
                                                · rw [if_neg c90] at H
                                                  have c90b0 : (x6_4 == (wrap64 ((t170.length : Int) - 1))) = false := beq_eq_false_iff_ne.mpr c90
                                                  have c90b1 : (x6_4 != (wrap64 ((t170.length : Int) - 1))) = true := bne_iff_ne.mpr c90
                                                  by_cases c107 : x174002_4.length < 8796093022208
                                                  · rw [if_pos c107] at H
                                                    have LMc107 := Aside0.mk c107
                                                    clear c107
                                                    obtain ⟨y191, hy191⟩ : ∃ y_ : List ByteArray, y_ = (x174002_4 ++ [(rdOf ByteArray.empty t170 x6_4)]) := ⟨_, rfl⟩
                                                    replace H : (bursarref04_read.l1 kj62 t170 (wrap64 (x6_4 + 1)) (a0.extract 0 (x3_2 : Int).toNat) x174001_51 y191) = some (r1, r2, r3) := by first | (rw [hy191]; with_reducible exact H) | (have H2_ := (Option.bind_some _ _).symm.trans H; rw [hy191]; with_reducible exact H2_) | (have H2_ := (Option.bind_some _ _).symm.trans H; with_reducible exact H2_) | with_reducible exact H | (rw [hy191]; exact H) | exact H
                                                    have Ny191 := Aside0.mk hy191
                                                    clear hy191
                                                    have H' := Aside0.mk H
                                                    clear H
                                                    have hnb108 := NB173_163.out
                                                    have hnc108 := NB163_173.out
                                                    have hcz109_0 : wc.cell? ⟨gb173, 0, none⟩ = some (.string (a0.extract 0 (x3_2 : Int).toNat)) := (blk_cell BK173.out 0).trans rfl
                                                    have hcz109_1 : wc.cell? ⟨gb173, 1, none⟩ = some (.int .i64 x174001_51) := (blk_cell BK173.out 1).trans rfl
                                                    have hcz109_2 : wc.cell? ⟨gb173, 2, none⟩ = some (u174002) := (blk_cell BK173.out 2).trans rfl
                                                    have hfz109_0 := blk_frozen BK173.out 0
                                                    have hfz109_1 := blk_frozen BK173.out 1
                                                    have hfz109_2 := blk_frozen BK173.out 2
                                                    go_wp2_with (first | ((with_reducible refine gate_builtin (b := .append) (xs := #[.tmp 113, .tmp 115]) rfl ?_); (try (refine gate_guard (by rfl) ?_; dsimp only)); at_builtin; refine Kd.R_append Kd.string (w0 := w) w.heap.size rfl (.tmp 113) (.tmp 115) 35 9 (.string ⟨#[]⟩) 16 rfl Tryd.underlying35 info9 rfl (by decide) (by omega) u174002 x174002_4 (rdOf ByteArray.empty t170 x6_4) [.string (rdOf ByteArray.empty t170 x6_4)] (fun k_ => some k_ ≠ (.slice (some ad174) t170.length co57 : Value).ownBlock) (fun _ => False) rfl rfl ?aP (fun _ hk => hk.elim) ?aF ?aO ?aB ?aS ?aL ?_; (case aP => exact rfl); (case aB => exact (by repeat (first | (with_reducible first | exact HB.out | apply below_alloc | apply pw_below_drewN | apply below_drew1 | refine below_set ?_ GE163.out | refine below_set ?_ GE173.out) | exact HB.out))); (case aF => exact (fun k_ hk => Kd.fresh' (Kd.R_lt (by (with_reducible repeat (first | apply Kd.R_alloc | apply Kd.R_drewN | apply Kd.R_drew)); exact HO_4.out)) k_ hk)); (case aO => exact (by (with_reducible repeat (first | apply Kd.R_alloc | apply Kd.R_drewN | apply Kd.R_drew)); exact HO_174002.out)); (case aS => exact (below_size (by repeat (first | (with_reducible first | exact HB.out | apply below_alloc | apply pw_below_drewN | apply below_drew1 | refine below_set ?_ GE163.out | refine below_set ?_ GE173.out) | exact HB.out)))); (case aL => have := LMc107.out; omega); intro v192 w110 ho hb hg hat; rw [← Ny191.out] at ho; have n0_ := Aside0.mk (Kd.R_after (ok := (fun _ => True)) (by (with_reducible repeat (first | apply Kd.R_alloc | apply Kd.R_drewN | apply Kd.R_drew)); exact Kd.R_mono HO_4.out (fun _ hk => ⟨trivial, hk⟩)) hg hat); have n1_ := Aside0.mk (blk_grown (g := gb163) (o := .cells #[.string x164000_2, .int .i64 x164001_2, .slice none 0 0] 45 (0, 0)) (by (with_reducible repeat (first | refine blk_drewN ?_ _ | refine blk_drew ?_ | refine blk_alloc ?_ _)); exact BK163.out) hg (Kd.R_ne HO_174002.out BK163.out (by decide))); have n2_ := Aside0.mk (blk_grown (g := gb173) (o := .cells #[.string (a0.extract 0 (x3_2 : Int).toNat), .int .i64 x174001_51, u174002] 45 (0, 0)) (by (with_reducible repeat (first | refine blk_drewN ?_ _ | refine blk_drew ?_ | refine blk_alloc ?_ _)); exact BK173.out) hg (Kd.R_ne HO_174002.out BK173.out (by decide))); have n3_ := Aside0.mk (hb); have n4_ := Aside0.mk (ho); clear HO_4; clear BK163; clear BK173; clear HB; clear HO_174002; have HO_4 := n0_; have BK163 := n1_; have BK173 := n2_; have HB := n3_; have HO193 := n4_; clear n0_ n1_ n2_ n3_ n4_; clear ho hb hg hat; obtain ⟨Ao111, co111, eo111⟩ := Kd.R_slice HO193.out; subst eo111; have hcz112_0 : w110.cell? ⟨gb173, 0, none⟩ = some (.string (a0.extract 0 (x3_2 : Int).toNat)) := (blk_cell BK173.out 0).trans rfl; have hcz112_1 : w110.cell? ⟨gb173, 1, none⟩ = some (.int .i64 x174001_51) := (blk_cell BK173.out 1).trans rfl; have hcz112_2 : w110.cell? ⟨gb173, 2, none⟩ = some (u174002) := (blk_cell BK173.out 2).trans rfl; have hfz112_0 := blk_frozen BK173.out 0; have hfz112_1 := blk_frozen BK173.out 1; have hfz112_2 := blk_frozen BK173.out 2))
                                                    go_roundg kj62
                                                    case measure => have := HJ1.out; have := HK2.out; have := HJ51.out; have := HK4.out; have := HJ62.out; omega
                                                    case rel => exact ⟨(wrap64 (x6_4 + 1)), (y191), (.slice Ao111 y191.length co111), (by first | rfl | (simp; done) | (simp [*]; done) | (simp; rw [Bool.eq_iff_iff]; simp; done) | (rw [Bool.eq_iff_iff]; simp; done)), H', ⟨by have := HJ1.out; have := HK2.out; have := HJ51.out; have := HK4.out; have := HJ62.out; omega⟩, ⟨by (with_reducible repeat (first | apply Kd.R_alloc | apply Kd.R_drewN | apply Kd.R_drew)); exact Kd.R_mono (Kd.R_far (p := ⟨gb173, 2, none⟩) (Kd.R_types HO_4.out BK173.out (by decide)) (fun _ hk => hk.2) (.slice Ao111 y191.length co111)) (fun _ hk => hk.1.2)⟩, ⟨by (with_reducible repeat (first | apply Kd.R_alloc | apply Kd.R_drewN | apply Kd.R_drew)); exact Kd.R_mono (Kd.R_far (p := ⟨gb173, 2, none⟩) (Kd.R_types HO193.out BK173.out (by decide)) (fun _ hk => hk.2) (.slice Ao111 y191.length co111)) (fun _ hk => hk.1)⟩, ⟨by (with_reducible repeat (first | refine blk_drewN ?_ _ | refine blk_drew ?_ | refine blk_alloc ?_ _)); refine blk_far ?_ NB163_173.out _; (with_reducible repeat (first | refine blk_drewN ?_ _ | refine blk_drew ?_ | refine blk_alloc ?_ _)); exact BK163.out⟩, ⟨by (with_reducible repeat (first | refine blk_drewN ?_ _ | refine blk_drew ?_ | refine blk_alloc ?_ _)); refine blk_put (cs := #[.string (a0.extract 0 (x3_2 : Int).toNat), .int .i64 x174001_51, u174002]) ?_ 2 _ rfl; (with_reducible repeat (first | refine blk_drewN ?_ _ | refine blk_drew ?_ | refine blk_alloc ?_ _)); exact BK173.out⟩, ⟨by repeat (first | (with_reducible first | exact HB.out | apply below_alloc | apply pw_below_drewN | apply below_drew1 | refine below_set ?_ GE163.out | refine below_set ?_ GE173.out) | exact HB.out)⟩⟩
                                                  · rw [if_neg c107] at H
                                                    exact absurd H (by simp)
                                        · rw [if_neg c62] at H
                                          exact absurd H (by simp)
                                      · rw [if_neg c61] at H
                                        have c61b0 : decide (x6_4 < (t170.length : Int)) = false := decide_eq_false c61
                                        clear c61
                                        simp only [Option.some.injEq, Prod.mk.injEq] at H
                                        obtain ⟨rfl, rfl, rfl⟩ := H
                                        have hnb113 := NB173_163.out
                                        have hnc113 := NB163_173.out
                                        have hcz114_0 : wr.cell? ⟨gb173, 0, none⟩ = some (.string (a0.extract 0 (x3_2 : Int).toNat)) := (blk_cell BK173.out 0).trans rfl
                                        have hcz114_1 : wr.cell? ⟨gb173, 1, none⟩ = some (.int .i64 x174001_51) := (blk_cell BK173.out 1).trans rfl
                                        have hcz114_2 : wr.cell? ⟨gb173, 2, none⟩ = some (u174002) := (blk_cell BK173.out 2).trans rfl
                                        have hfz114_0 := blk_frozen BK173.out 0
                                        have hfz114_1 := blk_frozen BK173.out 1
                                        have hfz114_2 := blk_frozen BK173.out 2
                                        have hcz115_0 : wr.cell? ⟨gb163, 0, none⟩ = some (.string x164000_2) := (blk_cell BK163.out 0).trans rfl
                                        have hcz115_1 : wr.cell? ⟨gb163, 1, none⟩ = some (.int .i64 x164001_2) := (blk_cell BK163.out 1).trans rfl
                                        have hcz115_2 : wr.cell? ⟨gb163, 2, none⟩ = some (.slice none 0 0) := (blk_cell BK163.out 2).trans rfl
                                        have hfz115_0 := blk_frozen BK163.out 0
                                        have hfz115_1 := blk_frozen BK163.out 1
                                        have hfz115_2 := blk_frozen BK163.out 2
                                        obtain ⟨Ao116, co116, eo116⟩ := Kd.R_slice HO_174002.out
                                        subst eo116
                                        go_wp2
                                        refine bodyPost_ret (results_cell_row rfl _ _ gb163 45 #[.string (a0.extract 0 (x3_2 : Int).toNat), .int .i64 x174001_51, .slice Ao116 x174002_4.length co116] (0, 0) _ rfl (by (with_reducible repeat (first | refine blk_drewN ?_ _ | refine blk_drew ?_ | refine blk_alloc ?_ _)); refine blk_put (cs := #[.string (a0.extract 0 (x3_2 : Int).toNat), .int .i64 x174001_51, .slice none 0 0]) ?_ 2 _ rfl; (with_reducible repeat (first | refine blk_drewN ?_ _ | refine blk_drew ?_ | refine blk_alloc ?_ _)); refine blk_put (cs := #[.string (a0.extract 0 (x3_2 : Int).toNat), .int .i64 x164001_2, .slice none 0 0]) ?_ 1 _ rfl; (with_reducible repeat (first | refine blk_drewN ?_ _ | refine blk_drew ?_ | refine blk_alloc ?_ _)); refine blk_put (cs := #[.string x164000_2, .int .i64 x164001_2, .slice none 0 0]) ?_ 0 _ rfl; (with_reducible repeat (first | refine blk_drewN ?_ _ | refine blk_drew ?_ | refine blk_alloc ?_ _)); exact BK163.out) Tryd.underlying45 rfl (by kernel_rfl)) rfl ?_
                                        exact ⟨_, by first | rfl | (simp [errW_none, errW_some] <;> rfl) | (simp only [← hji45]; first | rfl | (simp [errW_none, errW_some] <;> rfl)) | (simp [*, errW_none, errW_some] <;> rfl), by (with_reducible repeat (first | apply Kd.R_alloc | apply Kd.R_drewN | apply Kd.R_drew)); exact Kd.R_mono (Kd.R_far (p := ⟨gb163, 2, none⟩) (Kd.R_far (p := ⟨gb163, 1, none⟩) (Kd.R_far (p := ⟨gb163, 0, none⟩) (Kd.R_types HO_174002.out BK163.out (by decide)) (fun _ hk => hk.2) (.string (a0.extract 0 (x3_2 : Int).toNat))) (fun _ hk => hk.2) (.int .i64 x174001_51)) (fun _ hk => hk.2) (.slice Ao116 x174002_4.length co116)) (fun _ hk => trivial), by repeat (first | (with_reducible first | exact HB.out | apply below_alloc | apply pw_below_drewN | apply below_drew1 | refine below_set ?_ GE163.out | refine below_set ?_ GE173.out) | exact HB.out)⟩
                            · rw [if_neg c51] at H
                              exact absurd H (by simp)
                          · rw [if_neg c50] at H
                            exact absurd H (by simp)
                        · rw [if_neg c47] at H
                          exact absurd H (by simp)
                      · rw [if_neg c46] at H
                        exact absurd H (by simp)
                    · rw [if_neg c44] at H
                      have c44b0 : ((bt a0 x3_2) == 32) = false := beq_eq_false_iff_ne.mpr c44
                      have c44b1 : ((bt a0 x3_2) != 32) = true := bne_iff_ne.mpr c44
                      have H' := Aside0.mk H
                      clear H
                      have p12 : 0 ≤ (x3_2 : Int) := of_decide_eq_true (by first | (with_reducible assumption) | assumption)
                      have q12 : x3_2 < (a0.size : Int) := of_decide_eq_true (by first | (with_reducible assumption) | assumption)
                      have hx12 := bt_at a0 x3_2
                      replace p12 := eq_true p12
                      replace q12 := eq_true q12
                      go_wp2
                      go_roundg k2
                      case measure => have := HJ1.out; have := HK2.out; omega
                      case rel => exact ⟨(wrap64 (x3_2 + 1)), (x164000_2), (x164001_2), (by first | rfl | (simp; done) | (simp [*]; done) | (simp; rw [Bool.eq_iff_iff]; simp; done) | (rw [Bool.eq_iff_iff]; simp; done)), H', ⟨by have := HJ1.out; have := HK2.out; omega⟩, ⟨by (with_reducible repeat (first | refine blk_drewN ?_ _ | refine blk_drew ?_ | refine blk_alloc ?_ _)); exact BK163.out⟩, ⟨by repeat (first | (with_reducible first | exact HB.out | apply below_alloc | apply pw_below_drewN | apply below_drew1 | refine below_set ?_ GE163.out) | exact HB.out)⟩⟩
              · rw [if_neg c11] at H
                exact absurd H (by simp)
            · rw [if_neg c10] at H
              have c10b0 : decide (x3_2 < (a0.size : Int)) = false := decide_eq_false c10
              clear c10
              simp only [Option.some.injEq, Prod.mk.injEq] at H
              obtain ⟨rfl, rfl, rfl⟩ := H
              have hcz117_0 : wr.cell? ⟨gb163, 0, none⟩ = some (.string x164000_2) := (blk_cell BK163.out 0).trans rfl
              have hcz117_1 : wr.cell? ⟨gb163, 1, none⟩ = some (.int .i64 x164001_2) := (blk_cell BK163.out 1).trans rfl
              have hcz117_2 : wr.cell? ⟨gb163, 2, none⟩ = some (.slice none 0 0) := (blk_cell BK163.out 2).trans rfl
              have hfz117_0 := blk_frozen BK163.out 0
              have hfz117_1 := blk_frozen BK163.out 1
              have hfz117_2 := blk_frozen BK163.out 2
              go_wp2
              refine bodyPost_ret (results_cell_row rfl _ _ gb163 45 #[.string a0, .int .i64 2, .slice none 0 0] (0, 0) _ rfl (by (with_reducible repeat (first | refine blk_drewN ?_ _ | refine blk_drew ?_ | refine blk_alloc ?_ _)); refine blk_put (cs := #[.string a0, .int .i64 2, .slice none 0 0]) ?_ 2 _ rfl; (with_reducible repeat (first | refine blk_drewN ?_ _ | refine blk_drew ?_ | refine blk_alloc ?_ _)); refine blk_put (cs := #[.string a0, .int .i64 x164001_2, .slice none 0 0]) ?_ 1 _ rfl; (with_reducible repeat (first | refine blk_drewN ?_ _ | refine blk_drew ?_ | refine blk_alloc ?_ _)); refine blk_put (cs := #[.string x164000_2, .int .i64 x164001_2, .slice none 0 0]) ?_ 0 _ rfl; (with_reducible repeat (first | refine blk_drewN ?_ _ | refine blk_drew ?_ | refine blk_alloc ?_ _)); exact BK163.out) Tryd.underlying45 rfl (by kernel_rfl)) rfl ?_
              exact ⟨_, by first | rfl | (simp [errW_none, errW_some] <;> rfl) | (simp [*, errW_none, errW_some] <;> rfl), by first | exact Kd.R_nil _ _ _ _ _ | exact Kd.N_nil _ _ _ _ _ | exact Kd.V_nil _ _ _ _ _ | exact Kd.Q_nil _ _ _ _ _ | exact Kd.S_nil _ _ _ _ _, by repeat (first | (with_reducible first | exact HB.out | apply below_alloc | apply pw_below_drewN | apply below_drew1 | refine below_set ?_ GE163.out) | exact HB.out)⟩
end Go.Proofs.YteaiobgnhlpblaaDoor.Q
