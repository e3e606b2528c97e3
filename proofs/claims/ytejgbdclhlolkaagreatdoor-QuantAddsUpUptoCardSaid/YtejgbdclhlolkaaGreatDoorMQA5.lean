/- What the statement QuantAddsUpUptoCardSaid rests on, part 5 of 7: walks and plain laws; what of the printer's words it leans on. -/
import Derived.Test.YtejgbdclhlolkaaGreatDoorMQA3
import Derived.Test.YtejgbdclhlolkaaGreatDoorMQA4
namespace Go.Proofs.YtejgbdclhlolkaaGreatDoor.Q
open Go.RowKit Go.Proofs.YtejgbdclhlolkaaGreatDoorW.PrintWords Go.Proofs.YtejgbdclhlolkaaGreatDoorW.PrintLast Go.Proofs.YtejgbdclhlolkaaGreatDoorW.PrintMore
attribute [local go_sem] max2_int min2_int max_two min_two max_three min_three max_four min_four   -- for this text's walks alone
set_option linter.unusedVariables false
set_option linter.unusedSimpArgs false
attribute [local go_sem high] eqA57
def bursarlaw03_same.l0 : Nat → List (S57) → List (S57) → Int → Option (Bool)
  | 0, _, _, _ => none
  | k + 1, x0, x1, x5 => if x5 < (x0.length : Int) then (if 0 ≤ x5 then (if x5 < (x1.length : Int) then (if (!((((rd_T57 x0 x5).f0).toList) == (((rd_T57 x1 x5).f0).toList)) || (!(((rd_T57 x0 x5).f1) == ((rd_T57 x1 x5).f1)))) = true then (some false) else (bursarlaw03_same.l0 k x0 x1 (wrap64 (x5 + 1)))) else (none)) else (none)) else (some true)
def bursarlaw03_same.f (k : Nat) (l0 : List (S57)) (l1 : List (S57)) : Option (Bool) := if (l0.length : Int) = (l1.length : Int) then (bursarlaw03_same.l0 k l0 l1 0) else (some false)
theorem bursarlaw03_same.mono_l : ∀ k, (∀ y0 y1 y2, LeO (bursarlaw03_same.l0 k y0 y1 y2) (bursarlaw03_same.l0 (k + 1) y0 y1 y2))
  | 0 => fun _ _ _ r h => by simp [bursarlaw03_same.l0] at h
  | k + 1 => by
    have ih0 := bursarlaw03_same.mono_l k
    · intro y0 y1 y2
      unfold bursarlaw03_same.l0
      repeat' first
      | (with_reducible exact ih0 _ _ _)
      | (with_reducible exact LeO.refl _)
      | (with_reducible exact LeO.none _)
      | (with_reducible refine LeO.ite ?_ ?_)
      | (with_reducible refine LeO.bind ?_ (fun _ => ?_))
      | exact ih0 _ _ _
      | exact LeO.none _
      | refine LeO.ite ?_ ?_
      | refine LeO.bind ?_ (fun _ => ?_)
theorem bursarlaw03_same.mono : ∀ a0 a1 k, LeO (bursarlaw03_same.f k a0 a1) (bursarlaw03_same.f (k + 1) a0 a1) := by
  intro a0 a1 k
  have ih0 := bursarlaw03_same.mono_l k
  unfold bursarlaw03_same.f
  repeat' first
      | (with_reducible exact ih0 _ _ _)
      | (with_reducible exact LeO.refl _)
      | (with_reducible exact LeO.none _)
      | (with_reducible refine LeO.ite ?_ ?_)
      | (with_reducible refine LeO.bind ?_ (fun _ => ?_))
      | exact ih0 _ _ _
      | exact LeO.none _
      | refine LeO.ite ?_ ?_
      | refine LeO.bind ?_ (fun _ => ?_)
set_option maxHeartbeats 8000000 in
set_option maxRecDepth 100000 in
theorem bursarlaw03_same.calls (k : Nat) (A0 : Option Addr) (c0 : Nat) (l0 : List (S57)) (A1 : Option Addr) (c1 : Nat) (l1 : List (S57)) (r : Bool) (w : World) (hr0 : Kd.C k57 w A0 l0.length l0) (hc0 : l0.length ≤ c0) (hr1 : Kd.C k57 w A1 l1.length l1) (hc1 : l1.length ≤ c1) (h : bursarlaw03_same.f k l0 l1 = some r) :
    Calls Tryz.prog 39 #[.slice A0 l0.length c0, .slice A1 l1.length c1] w fun e w' => e = .returned (.bool r) ∧ Drawn0 w w' := by
  have hu57 := Tryz.underlying57
  have HR0 := Aside0.mk hr0
  have HC0 := Aside0.mk hc0
  clear hr0 hc0
  have HR1 := Aside0.mk hr1
  have HC1 := Aside0.mk hc1
  clear hr1 hc1
  have H : (if (l0.length : Int) = (l1.length : Int) then (bursarlaw03_same.l0 k l0 l1 0) else (some false)) = some r := h
  clear h
  by_cases c3 : (l0.length : Int) = (l1.length : Int)
  · rw [if_pos c3] at H
    have c3b0 : ((l0.length : Int) == (l1.length : Int)) = true := beq_iff_eq.mpr c3
    have c3b1 : ((l0.length : Int) != (l1.length : Int)) = false := bne_eq_false_iff_eq.mpr c3
    have c3b2 : (l0.length == l1.length) = true := by first | simpa using c3 | (simp at c3 ⊢; omega)
    clear c3
    have H' := Aside0.mk H
    clear H
    go_enter Tryz.func39, Tryz.ntmps39
    go_wp2
    repeat (go_quiet (fail); try go_wp2)
    go_loopg [5] k (fun kq v5 w' => ∃ (x5_1 : Int), v5 = .int .i64 x5_1 ∧ Aside0 (bursarlaw03_same.l0 kq l0 l1 x5_1 = some r) ∧ Aside0 (kq ≤ k) ∧ Drawn0 w w')
    case atStart => exact ⟨(0), (by first | rfl | (simp; done) | (simp [*]; done) | (simp; rw [Bool.eq_iff_iff]; simp; done) | (rw [Bool.eq_iff_iff]; simp; done)), H', ⟨Nat.le_refl _⟩, by repeat (first | exact Drawn0.refl _ | apply Drawn0.step)⟩
    case round =>
      clear H'
      try clear c1
      try clear p2
      try clear c3
      try clear c3b0
      try clear c3b1
      try clear c3b2
      obtain ⟨x5_1, rfl, HA, HK1, ⟨m1, rfl⟩⟩ := hrel
      cases gk with
      | zero => exact absurd HA.out (by simp [bursarlaw03_same.l0])
      | succ k1 =>
        have H := HA.out
        clear HA
        simp only [bursarlaw03_same.l0] at H
        by_cases c4 : x5_1 < (l0.length : Int)
        · rw [if_pos c4] at H
          have c4b0 : decide (x5_1 < (l0.length : Int)) = true := decide_eq_true c4
          clear c4
          by_cases c5 : 0 ≤ x5_1
          · rw [if_pos c5] at H
            have c5b0 : decide (0 ≤ x5_1) = true := decide_eq_true c5
            clear c5
            by_cases c6 : x5_1 < (l1.length : Int)
            · rw [if_pos c6] at H
              have c6b0 : decide (x5_1 < (l1.length : Int)) = true := decide_eq_true c6
              clear c6
              by_cases c7 : (!((((rd_T57 l0 x5_1).f0).toList) == (((rd_T57 l1 x5_1).f0).toList)) || (!(((rd_T57 l0 x5_1).f1) == ((rd_T57 l1 x5_1).f1)))) = true
              · rw [if_pos c7] at H
                have c7b0 : (!((((rd_T57 l0 x5_1).f0).toList) == (((rd_T57 l1 x5_1).f0).toList)) || (!(((rd_T57 l0 x5_1).f1) == ((rd_T57 l1 x5_1).f1)))) = true := c7
                clear c7
                obtain rfl := Option.some.inj H
                have p444 : 0 ≤ (x5_1 : Int) := of_decide_eq_true (by first | (with_reducible assumption) | assumption)
                have q444 : x5_1 < (l0.length : Int) := of_decide_eq_true (by first | (with_reducible assumption) | assumption)
                obtain ⟨ad444, e444, hx444_0, hx444_1⟩ := at_T57 HR0.out x5_1 p444 q444
                cases e444
                replace p444 := eq_true p444
                replace q444 := eq_true q444
                have p445 : 0 ≤ (x5_1 : Int) := of_decide_eq_true (by first | (with_reducible assumption) | assumption)
                have q445 : x5_1 < (l1.length : Int) := of_decide_eq_true (by first | (with_reducible assumption) | assumption)
                obtain ⟨ad445, e445, hx445_0, hx445_1⟩ := at_T57 HR1.out x5_1 p445 q445
                cases e445
                replace p445 := eq_true p445
                replace q445 := eq_true q445
                go_wp2
                repeat (go_quiet (fail); try go_wp2)
                go_ret
                exact ⟨by first | rfl | (simp; done) | (simp [*]; done), by repeat (first | exact Drawn0.refl _ | apply Drawn0.step)⟩
              · rw [if_neg c7] at H
                have c7b0 : (!((((rd_T57 l0 x5_1).f0).toList) == (((rd_T57 l1 x5_1).f0).toList)) || (!(((rd_T57 l0 x5_1).f1) == ((rd_T57 l1 x5_1).f1)))) = false := by simpa using c7
                clear c7
                have H' := Aside0.mk H
                clear H
                have p444 : 0 ≤ (x5_1 : Int) := of_decide_eq_true (by first | (with_reducible assumption) | assumption)
                have q444 : x5_1 < (l0.length : Int) := of_decide_eq_true (by first | (with_reducible assumption) | assumption)
                obtain ⟨ad444, e444, hx444_0, hx444_1⟩ := at_T57 HR0.out x5_1 p444 q444
                cases e444
                replace p444 := eq_true p444
                replace q444 := eq_true q444
                have p445 : 0 ≤ (x5_1 : Int) := of_decide_eq_true (by first | (with_reducible assumption) | assumption)
                have q445 : x5_1 < (l1.length : Int) := of_decide_eq_true (by first | (with_reducible assumption) | assumption)
                obtain ⟨ad445, e445, hx445_0, hx445_1⟩ := at_T57 HR1.out x5_1 p445 q445
                cases e445
                replace p445 := eq_true p445
                replace q445 := eq_true q445
                go_wp2
                repeat (go_quiet (fail); try go_wp2)
                go_roundg k1
                case measure => have := HK1.out; omega
                case rel => exact ⟨(wrap64 (x5_1 + 1)), (by first | rfl | (simp; done) | (simp [*]; done) | (simp; rw [Bool.eq_iff_iff]; simp; done) | (rw [Bool.eq_iff_iff]; simp; done)), H', ⟨by have := HK1.out; omega⟩, by repeat (first | exact Drawn0.refl _ | apply Drawn0.step)⟩
            · rw [if_neg c6] at H
              exact absurd H (by simp)
          · rw [if_neg c5] at H
            exact absurd H (by simp)
        · rw [if_neg c4] at H
          have c4b0 : decide (x5_1 < (l0.length : Int)) = false := decide_eq_false c4
          clear c4
          obtain rfl := Option.some.inj H
          go_wp2
          repeat (go_quiet (fail); try go_wp2)
          go_ret
          exact ⟨by first | rfl | (simp; done) | (simp [*]; done), by repeat (first | exact Drawn0.refl _ | apply Drawn0.step)⟩
  · rw [if_neg c3] at H
    have c3b0 : ((l0.length : Int) == (l1.length : Int)) = false := beq_eq_false_iff_ne.mpr c3
    have c3b1 : ((l0.length : Int) != (l1.length : Int)) = true := bne_iff_ne.mpr c3
    have c3b2 : (l0.length == l1.length) = false := by first | simpa using c3 | (simp at c3 ⊢; omega)
    obtain rfl := Option.some.inj H
    go_enter Tryz.func39, Tryz.ntmps39
    go_wp2
    repeat (go_quiet (fail); try go_wp2)
    go_ret
    exact ⟨by first | rfl | (simp; done) | (simp [*]; done), by repeat (first | exact Drawn0.refl _ | apply Drawn0.step)⟩
end Go.Proofs.YtejgbdclhlolkaaGreatDoor.Q
namespace Go.Proofs.YtejgbdclhlolkaaGreatDoor.Q
open Go.RowKit Go.Proofs.YtejgbdclhlolkaaGreatDoorW.PrintWords Go.Proofs.YtejgbdclhlolkaaGreatDoorW.PrintLast
set_option linter.unusedVariables false
set_option linter.unusedSimpArgs false
def markS : S57 := ⟨⟨#[109, 97, 114, 107]⟩, 77⟩
def bursarlaw03_behind.f (l0 : List S57) : Option (List S57) := if l0.length ≤ 4000000000 then some (l0 ++ [markS]) else none
set_option maxHeartbeats 4000000 in
set_option maxRecDepth 100000 in
theorem bursarlaw03_behind.calls (A0 : Option Addr) (c0 : Nat) (l0 : List S57) (r : List S57) (w : World) (hr0 : Kd.C k57 w A0 l0.length l0) (hc0 : l0.length ≤ c0) (h : bursarlaw03_behind.f l0 = some r) (hG : GlobM w) :
    Calls Tryz.prog 29 #[.slice A0 l0.length c0] w fun e w' => ∃ v0_ : Value, e = .returned (v0_) ∧ Kd.R k57 57 w' w.heap.size (fun _ => True) v0_ r ∧ Below w.heap.size w w' := by
  unfold bursarlaw03_behind.f at h
  split at h
  rotate_left
  · cases h
  rename_i hlen
  obtain rfl := Option.some.inj h
  clear h
  have HL := Lib.hid hlen
  have HR0 := Aside0.mk hr0
  clear hlen hr0
  have hu57 := Tryz.underlying57
  have HGM := Lib.hid hG
  clear hG
  go_enter Tryz.func29, Tryz.ntmps29
  go_wp2_with (first
    | ((with_reducible refine gate_builtin (b := .append) (xs := #[.tmp 4, .tmp 5]) rfl ?_); at_builtin; refine Kd.R_append_rows k57 (w0 := w) w.heap.size rfl (.tmp 4) (.tmp 5) 46 57 (.agg #[(.string ⟨#[]⟩), (.int .i64 0)]) 24 rfl Tryz.underlying46 info57 rfl (by decide) (by omega) (.slice none 0 0) ([] : List (S57)) l0 _ _ _ (fun _ => True) (fun _ => False) rfl rfl ?aO ?aR (fun _ _ h => h) (fun _ h => h.elim) ?aF ?aB ?aS ?aL ?_; (case aR => exact HR0.out); (case aB => exact Below.refl _ _); (case aF => exact (fun _ _ => trivial)); (case aO => exact (Kd.R_nil _ _ _ _ (fun _ => True))); (case aS => exact Nat.le_refl _); (case aL => have := HL.out; simp; omega);
        intro v1 w1 ho hb hg hat; rw [List.nil_append] at ho; have HO := Aside0.mk ho; have HB := Aside0.mk hb; have hm0 := (GlobM.below HGM.out hb).mark0; have hm1 := (GlobM.below HGM.out hb).mark1; clear ho hb hg hat)
    | ((with_reducible refine gate_builtin (b := .append) (xs := #[.tmp 7, .tmp 9]) rfl ?_); at_builtin; refine Kd.R_append k57 (w0 := w) w.heap.size rfl (.tmp 7) (.tmp 9) 46 57 (.agg #[(.string ⟨#[]⟩), (.int .i64 0)]) 24 rfl Tryz.underlying46 info57 rfl (by decide) (by omega) v1 l0 markS [.string ⟨#[109, 97, 114, 107]⟩, .int .i64 77] (fun _ => True) (fun _ => False) rfl rfl ?aP (fun _ hk => hk.elim) ?aF ?aO ?aB ?aS ?aL ?_; (case aP => exact k57_mkM _ _ _ markS); (case aB => exact (by repeat (first | (with_reducible first | exact HB.out | apply below_alloc | apply pw_below_drewN | apply below_drew1) | exact HB.out))); (case aF => exact (fun _ _ => trivial)); (case aO => exact (by (with_reducible repeat (first | apply Kd.R_alloc | apply Kd.R_drewN | apply Kd.R_drew)); exact HO.out)); (case aS => exact (below_size (by repeat (first | (with_reducible first | exact HB.out | apply below_alloc | apply pw_below_drewN | apply below_drew1) | exact HB.out)))); (case aL => have := HL.out; omega);
        intro v2 w2 ho hb hg hat; have HO2 := Aside0.mk ho; have HB2 := Aside0.mk hb; clear ho hb hg hat))
  go_ret
  exact ⟨_, rfl, HO2.out, HB2.out⟩
end Go.Proofs.YtejgbdclhlolkaaGreatDoor.Q
namespace Go.Proofs.YtejgbdclhlolkaaGreatDoor.Q
open Go.RowKit Go.Proofs.YtejgbdclhlolkaaGreatDoorW.PrintWords Go.Proofs.YtejgbdclhlolkaaGreatDoorW.PrintLast Go.Proofs.YtejgbdclhlolkaaGreatDoorW.PrintMore
attribute [local go_sem] max2_int min2_int max_two min_two max_three min_three max_four min_four   -- for this text's walks alone
set_option linter.unusedVariables false
set_option linter.unusedSimpArgs false
def bursarlaw03_added.f (k : Nat) (l0 : List (S57)) (l1 : List (S57)) : Option ((List (S57)) × Int) := (bursarlaw03_behind.f l0).bind fun t528 => (if 0 ≤ (l0.length : Int) then (if (l0.length : Int) ≤ (t528.length : Int) then ((bursarlaw03_behind.f l1).bind fun t535 => (if 0 ≤ (l1.length : Int) then (if (l1.length : Int) ≤ (t535.length : Int) then ((quant_Plus.f k (t528.take ((l0.length : Int) : Int).toNat) (t535.take ((l1.length : Int) : Int).toNat)).bind fun bt542 => (some (bt542.1, bt542.2))) else (none)) else (none))) else (none)) else (none))
theorem bursarlaw03_added.mono : ∀ a0 a1 k, LeO (bursarlaw03_added.f k a0 a1) (bursarlaw03_added.f (k + 1) a0 a1) := by
  intro a0 a1 k
  unfold bursarlaw03_added.f
  repeat' first
      | (with_reducible exact quant_Plus.mono _ _ _)
      | (with_reducible exact LeO.refl _)
      | (with_reducible exact LeO.none _)
      | (with_reducible refine LeO.ite ?_ ?_)
      | (with_reducible refine LeO.bind ?_ (fun _ => ?_))
      | exact quant_Plus.mono _ _ _
      | exact LeO.none _
      | refine LeO.ite ?_ ?_
      | refine LeO.bind ?_ (fun _ => ?_)
def bursarlaw03_added.T1 : Bool × List (List Nat × List Nat) := (true, [([], []), ([0], [0]), ([], []), ([2], [2]), ([1, 3], [1, 3]), ([], []), ([5, 1], [5]), ([], []), ([7], [7]), ([6, 8], [6, 8]), ([4, 9, 6], [4, 9]), ([10], [10]), ([10], [10]), ([11, 10, 0, 1, 2, 3, 4, 5, 6, 7, 8, 9, 10, 11, 12], [11]), ([12, 13, 0, 1, 2, 3, 4, 5, 6, 7, 8, 9, 10, 11, 12, 13], [12])])
def bursarlaw03_added.B1 : List Nat := [0, 1, 0, 4, 15, 0, 35, 0, 128, 483, 1023, 2047, 2047, 8191, 16383]
theorem bursarlaw03_added.tab1 : rtab .any (opsOf Tryz.f43 1) = bursarlaw03_added.T1 := by kernel_rfl
theorem bursarlaw03_added.bits1 : waitsOk bursarlaw03_added.T1.2 bursarlaw03_added.B1 = true := by kernel_rfl
set_option maxHeartbeats 8000000 in
set_option maxRecDepth 100000 in
theorem bursarlaw03_added.calls (k : Nat) (A0 : Option Addr) (c0 : Nat) (l0 : List (S57)) (A1 : Option Addr) (c1 : Nat) (l1 : List (S57)) (r1 : List (S57)) (r2 : Int) (w : World) (hr0 : Kd.C k57 w A0 l0.length l0) (hc0 : l0.length ≤ c0) (hr1 : Kd.C k57 w A1 l1.length l1) (hc1 : l1.length ≤ c1) (h : bursarlaw03_added.f k l0 l1 = some (r1, r2)) (hG : GlobM w) :
    Calls Tryz.prog 43 #[.slice A0 l0.length c0, .slice A1 l1.length c1] w fun e w' => ∃ v0_ : Value, e = .returned (.tuple #[v0_, .int .i64 r2]) ∧ Kd.R k57 57 w' w.heap.size (fun _ => True) v0_ r1 ∧ Below w.heap.size w w' := by
  have HR0 := Aside0.mk hr0
  have HC0 := Aside0.mk hc0
  clear hr0 hc0
  have HR1 := Aside0.mk hr1
  have HC1 := Aside0.mk hc1
  clear hr1 hc1
  have HB := Aside0.mk (Below.refl w.heap.size w)
  have H : ((bursarlaw03_behind.f l0).bind fun t528 => (if 0 ≤ (l0.length : Int) then (if (l0.length : Int) ≤ (t528.length : Int) then ((bursarlaw03_behind.f l1).bind fun t535 => (if 0 ≤ (l1.length : Int) then (if (l1.length : Int) ≤ (t535.length : Int) then ((quant_Plus.f k (t528.take ((l0.length : Int) : Int).toNat) (t535.take ((l1.length : Int) : Int).toNat)).bind fun bt542 => (some (bt542.1, bt542.2))) else (none)) else (none))) else (none)) else (none))) = some (r1, r2) := h
  clear h
  replace H := Option.bind_eq_some_iff.mp H
  obtain ⟨t528, A30, H⟩ := H
  replace H : (if 0 ≤ (l0.length : Int) then (if (l0.length : Int) ≤ (t528.length : Int) then ((bursarlaw03_behind.f l1).bind fun t535 => (if 0 ≤ (l1.length : Int) then (if (l1.length : Int) ≤ (t535.length : Int) then ((quant_Plus.f k (t528.take ((l0.length : Int) : Int).toNat) (t535.take ((l1.length : Int) : Int).toNat)).bind fun bt542 => (some (bt542.1, bt542.2))) else (none)) else (none))) else (none)) else (none)) = some (r1, r2) := H
  have A3 := Aside0.mk A30
  clear A30
  by_cases c4 : 0 ≤ (l0.length : Int)
  · rw [if_pos c4] at H
    have c4b0 := eq_true c4
    have c4b1 : decide (0 ≤ (l0.length : Int)) = true := decide_eq_true c4
    clear c4
    by_cases c5 : (l0.length : Int) ≤ (t528.length : Int)
    · rw [if_pos c5] at H
      have c5b0 := eq_true c5
      have c5b1 : decide ((l0.length : Int) ≤ (t528.length : Int)) = true := decide_eq_true c5
      clear c5
      obtain ⟨y531, hy531⟩ : ∃ y_ : List (S57), y_ = (t528.take ((l0.length : Int) : Int).toNat) := ⟨_, rfl⟩
      replace H : ((bursarlaw03_behind.f l1).bind fun t535 => (if 0 ≤ (l1.length : Int) then (if (l1.length : Int) ≤ (t535.length : Int) then ((quant_Plus.f k y531 (t535.take ((l1.length : Int) : Int).toNat)).bind fun bt542 => (some (bt542.1, bt542.2))) else (none)) else (none))) = some (r1, r2) := by first | (rw [hy531]; with_reducible exact H) | (have H2_ := (Option.bind_some _ _).symm.trans H; rw [hy531]; with_reducible exact H2_) | (have H2_ := (Option.bind_some _ _).symm.trans H; with_reducible exact H2_) | with_reducible exact H | (rw [hy531]; exact H) | exact H
      have Ny531 := Aside0.mk hy531
      clear hy531
      replace H := Option.bind_eq_some_iff.mp H
      obtain ⟨t535, A60, H⟩ := H
      replace H : (if 0 ≤ (l1.length : Int) then (if (l1.length : Int) ≤ (t535.length : Int) then ((quant_Plus.f k y531 (t535.take ((l1.length : Int) : Int).toNat)).bind fun bt542 => (some (bt542.1, bt542.2))) else (none)) else (none)) = some (r1, r2) := H
      have A6 := Aside0.mk A60
      clear A60
      by_cases c7 : 0 ≤ (l1.length : Int)
      · rw [if_pos c7] at H
        have c7b0 := eq_true c7
        have c7b1 : decide (0 ≤ (l1.length : Int)) = true := decide_eq_true c7
        clear c7
        by_cases c8 : (l1.length : Int) ≤ (t535.length : Int)
        · rw [if_pos c8] at H
          have c8b0 := eq_true c8
          have c8b1 : decide ((l1.length : Int) ≤ (t535.length : Int)) = true := decide_eq_true c8
          clear c8
          obtain ⟨y538, hy538⟩ : ∃ y_ : List (S57), y_ = (t535.take ((l1.length : Int) : Int).toNat) := ⟨_, rfl⟩
          replace H : ((quant_Plus.f k y531 y538).bind fun bt542 => (some (bt542.1, bt542.2))) = some (r1, r2) := by first | (rw [hy538]; with_reducible exact H) | (have H2_ := (Option.bind_some _ _).symm.trans H; rw [hy538]; with_reducible exact H2_) | (have H2_ := (Option.bind_some _ _).symm.trans H; with_reducible exact H2_) | with_reducible exact H | (rw [hy538]; exact H) | exact H
          have Ny538 := Aside0.mk hy538
          clear hy538
          replace H := Option.bind_eq_some_iff.mp H
          obtain ⟨⟨t542, t543⟩, A90, H⟩ := H
          replace H : (some (t542, t543)) = some (r1, r2) := H
          have A9 := Aside0.mk A90
          clear A90
          simp only [Option.some.injEq, Prod.mk.injEq] at H
          obtain ⟨rfl, rfl⟩ := H
          go_enter Tryz.func43, Tryz.ntmps43
          try go_wp2
          have n0_ := Aside0.mk (below_drew1 HB.out)
          clear HB
          have HB := n0_
          clear n0_
          refine start_ (n := 15) (S := fun w' => True) (ds := []) #[false, false, false, false, false, false, false, false, false, false, false, false, false, false, false] (by kernel_rfl) rfl rfl trivial (fun hHeld => ?_); refine with_tabW bursarlaw03_added.tab1 bursarlaw03_added.bits1 (fun HT_ HW_ => ?_)
          generalize w.drew = w10 at HB hHeld ⊢
          refine pure_ (i := 0) (N := some 6) (v := ?_) (a' := ?_) #[true, false, false, false, false, false, false, false, false, false, false, false, false, false, false] rfl rfl (any_of HT_.out (by kernel_rfl)) (fun _ _ _ h => h) (Or.inl ⟨by rfl, ?_⟩) ?_ ?_
          rotate_left
          · intro w'
            go_simp
            with_reducible rfl
          rotate_left
          · simp only [Act.put, List.setIfInBounds_toArray, List.set_cons_zero, List.set_cons_succ, i64_w, i32_w]
            rfl
          refine pure_ (i := 2) (N := some 8) (v := ?_) (a' := ?_) #[true, false, true, false, false, false, false, false, false, false, false, false, false, false, false] rfl rfl (any_of HT_.out (by kernel_rfl)) (fun _ _ _ h => h) (Or.inl ⟨by rfl, ?_⟩) ?_ ?_
          rotate_left
          · intro w'
            go_simp
            with_reducible rfl
          rotate_left
          · simp only [Act.put, List.setIfInBounds_toArray, List.set_cons_zero, List.set_cons_succ, i64_w, i32_w]
            rfl
          refine pure_ (i := 3) (N := some 9) (v := ?_) (a' := ?_) #[true, false, true, true, false, false, false, false, false, false, false, false, false, false, false] rfl rfl (any_of HT_.out (by kernel_rfl)) (fun _ _ _ h => h) (Or.inl ⟨by rfl, ?_⟩) ?_ ?_
          rotate_left
          · intro w'
            go_simp
            with_reducible rfl
          rotate_left
          · simp only [Act.put, List.setIfInBounds_toArray, List.set_cons_zero, List.set_cons_succ, i64_w, i32_w]
            rfl
          refine pure_ (i := 5) (N := some 11) (v := ?_) (a' := ?_) #[true, false, true, true, false, true, false, false, false, false, false, false, false, false, false] rfl rfl (any_of HT_.out (by kernel_rfl)) (fun _ _ _ h => h) (Or.inl ⟨by rfl, ?_⟩) ?_ ?_
          rotate_left
          · intro w'
            go_simp
            with_reducible rfl
          rotate_left
          · simp only [Act.put, List.setIfInBounds_toArray, List.set_cons_zero, List.set_cons_succ, i64_w, i32_w]
            rfl
          refine pure_ (i := 7) (N := some 13) (v := ?_) (a' := ?_) #[true, false, true, true, false, true, false, true, false, false, false, false, false, false, false] rfl rfl (any_of HT_.out (by kernel_rfl)) (fun _ _ _ h => h) (Or.inl ⟨by rfl, ?_⟩) ?_ ?_
          rotate_left
          · intro w'
            go_simp
            with_reducible rfl
          rotate_left
          · simp only [Act.put, List.setIfInBounds_toArray, List.set_cons_zero, List.set_cons_succ, i64_w, i32_w]
            rfl
          refine pure_ (i := 8) (N := some 14) (v := ?_) (a' := ?_) #[true, false, true, true, false, true, false, true, true, false, false, false, false, false, false] rfl rfl (any_of HT_.out (by kernel_rfl)) (fun _ _ _ h => h) (Or.inl ⟨by rfl, ?_⟩) ?_ ?_
          rotate_left
          · intro w'
            go_simp
            with_reducible rfl
          rotate_left
          · simp only [Act.put, List.setIfInBounds_toArray, List.set_cons_zero, List.set_cons_succ, i64_w, i32_w]
            rfl
          refine one_ (i := 1) (N := some 7) #[true, true, true, true, false, true, false, true, true, false, false, false, false, false, false] rfl rfl (one_of HT_.out (by kernel_rfl)) (by decide) (fun K hK => ?_)
          refine goes_ Tryz.func29 (by kernel_rfl) rfl #[.slice A0 l0.length c0] (by rfl) rfl rfl (by (try simp only [List.map_toArray, List.map_cons, List.map_nil]); first | done | rfl | (simp only [List.length_drop, List.length_take]; rfl)) ?_
          with_reducible refine (bursarlaw03_behind.calls _ _ l0 t528 _ ?side1 ?side2 A3.out (GlobM.below hG (by repeat (first | (with_reducible first | exact HB.out | apply below_alloc | apply pw_below_drewN | apply below_drew1) | exact HB.out)))).mono ?_
          (case side1 => repeat (first | exact (Kd.C_below HR0.out HB.out) | (with_reducible refine Kd.C_alloc ?_ _) | (with_reducible refine Kd.C_drewN ?_ _) | (with_reducible refine Kd.C_drew ?_)))
          (case side2 => exact HC0.out)
          rintro e w11 ⟨v529, rfl, ho0, hb⟩
          refine ⟨_, rfl, ?_⟩
          have n0_ := Aside0.mk (Kd.R_lower ho0 (below_size (by repeat (first | (with_reducible first | exact HB.out | apply below_alloc | apply pw_below_drewN | apply below_drew1) | exact HB.out))))
          have n1_ := Aside0.mk (below_step (by repeat (first | (with_reducible first | exact HB.out | apply below_alloc | apply pw_below_drewN | apply below_drew1) | exact HB.out)) hb)
          clear HB
          have HO530 := n0_
          have HB := n1_
          clear n0_ n1_
          (try clear hb)
          (try clear hb2)
          (try clear hk)
          (try clear hi)
          (try clear ho0)
          obtain ⟨Ao13, co13, eo13⟩ := Kd.R_slice HO530.out
          (first | subst eo13 | (injection eo13 with f1_ f2_ f3_; have f4_ := f1_.symm; have f5_ := f3_.symm; clear f1_ f2_ f3_; subst f4_; subst f5_))
          have q12 : ((l0.length : Int) : Int) ≤ ((t528.length : Int) : Int) := of_decide_eq_true (by first | (with_reducible assumption) | assumption)
          obtain ⟨i012, hi012, _, hsz12, _⟩ := info_parts info57
          have hroom12 : t528.length ≤ co13 := (Kd.R_reads' HO530.out).2.1
          have hC12 : Kd.C k57 _ Ao13 t528.length t528 := (Kd.R_reads' HO530.out).2.2
          have hcut12 := cut_to (P := Tryz.prog) 46 57 .i64 Tryz.underlying46 hi012 Ao13 t528.length co13 (l0.length : Int) (of_decide_eq_true (by first | (with_reducible assumption) | assumption)) q12 hroom12
          have hr12 := Kd.C_take (m := ((l0.length : Int) : Int).toNat) hC12 (by omega)
          have hy12 : y531.length = ((l0.length : Int) : Int).toNat := (by rw [Ny531.out, List.length_take]; omega)
          rw [← Ny531.out] at hr12
          rw [← hy12] at hcut12
          have HR534 := Aside0.mk hr12
          have HC534 := Aside0.mk (show y531.length ≤ co13 from by omega)
          clear hr12 hC12 hroom12 hi012 hsz12
          have KY12 := Aside0.mk hy12
          clear hy12
          have KL12 := Aside0.mk (show ((l0.length : Int) : Int).toNat ≤ t528.length from by omega)
          replace q12 := eq_true q12
          refine hK.out _ _ trivial (fun hHeld => ?_)
          clear hK K
          refine norm_ (a' := ?_) ?_ ?_
          rotate_left
          · show Act.put _ (some 7) _ = _
            simp only [Act.put, List.setIfInBounds_toArray, List.set_cons_zero, List.set_cons_succ, i64_w, i32_w]
            rfl
          refine pure_ (i := 4) (N := some 10) (v := ?_) (a' := ?_) #[true, true, true, true, true, true, false, true, true, false, false, false, false, false, false] rfl rfl (any_of HT_.out (by kernel_rfl)) (fun _ _ _ h => h) (Or.inl ⟨by rfl, ?_⟩) ?_ ?_
          rotate_left
          · intro w'
            go_simp
            with_reducible rfl
          rotate_left
          · simp only [Act.put, List.setIfInBounds_toArray, List.set_cons_zero, List.set_cons_succ, i64_w, i32_w]
            rfl
          refine one_ (i := 6) (N := some 12) #[true, true, true, true, true, true, true, true, true, false, false, false, false, false, false] rfl rfl (one_of HT_.out (by kernel_rfl)) (by decide) (fun K hK => ?_)
          refine goes_ Tryz.func29 (by kernel_rfl) rfl #[.slice A1 l1.length c1] (by rfl) rfl rfl (by (try simp only [List.map_toArray, List.map_cons, List.map_nil]); first | done | rfl | (simp only [List.length_drop, List.length_take]; rfl)) ?_
          with_reducible refine (bursarlaw03_behind.calls _ _ l1 t535 _ ?side1 ?side2 A6.out (GlobM.below hG (by repeat (first | (with_reducible first | exact HB.out | apply below_alloc | apply pw_below_drewN | apply below_drew1) | exact HB.out)))).mono ?_
          (case side1 => repeat (first | exact (Kd.C_below HR1.out HB.out) | (with_reducible refine Kd.C_alloc ?_ _) | (with_reducible refine Kd.C_drewN ?_ _) | (with_reducible refine Kd.C_drew ?_)))
          (case side2 => exact HC1.out)
          rintro e w14 ⟨v536, rfl, ho0, hb⟩
          refine ⟨_, rfl, ?_⟩
          have n0_ := Aside0.mk (Kd.R_elder' (by (with_reducible repeat (first | apply Kd.R_alloc | apply Kd.R_drewN | apply Kd.R_drew)); exact HO530.out) (Kd.R_base ho0) hb)
          have n1_ := Aside0.mk (Kd.R_lower (Kd.R_new' ho0 (Kd.R_lt (by (with_reducible repeat (first | apply Kd.R_alloc | apply Kd.R_drewN | apply Kd.R_drew)); exact HO530.out))) (below_size (by repeat (first | (with_reducible first | exact HB.out | apply below_alloc | apply pw_below_drewN | apply below_drew1) | exact HB.out))))
          have n2_ := Aside0.mk (Kd.C_below (by repeat (first | (with_reducible exact HR534.out) | (with_reducible refine Kd.C_alloc ?_ _) | (with_reducible refine Kd.C_drewN ?_ _) | (with_reducible refine Kd.C_drew ?_) | exact HR534.out)) hb)
          have n3_ := Aside0.mk (below_step (by repeat (first | (with_reducible first | exact HB.out | apply below_alloc | apply pw_below_drewN | apply below_drew1) | exact HB.out)) hb)
          clear HO530
          clear HR534
          clear HB
          have HO530 := n0_
          have HO537 := n1_
          have HR534 := n2_
          have HB := n3_
          clear n0_ n1_ n2_ n3_
          (try clear hb)
          (try clear hb2)
          (try clear hk)
          (try clear hi)
          (try clear ho0)
          obtain ⟨Ao16, co16, eo16⟩ := Kd.R_slice HO537.out
          (first | subst eo16 | (injection eo16 with f1_ f2_ f3_; have f4_ := f1_.symm; have f5_ := f3_.symm; clear f1_ f2_ f3_; subst f4_; subst f5_))
          have q15 : ((l1.length : Int) : Int) ≤ ((t535.length : Int) : Int) := of_decide_eq_true (by first | (with_reducible assumption) | assumption)
          obtain ⟨i015, hi015, _, hsz15, _⟩ := info_parts info57
          have hroom15 : t535.length ≤ co16 := (Kd.R_reads' HO537.out).2.1
          have hC15 : Kd.C k57 _ Ao16 t535.length t535 := (Kd.R_reads' HO537.out).2.2
          have hcut15 := cut_to (P := Tryz.prog) 46 57 .i64 Tryz.underlying46 hi015 Ao16 t535.length co16 (l1.length : Int) (of_decide_eq_true (by first | (with_reducible assumption) | assumption)) q15 hroom15
          have hr15 := Kd.C_take (m := ((l1.length : Int) : Int).toNat) hC15 (by omega)
          have hy15 : y538.length = ((l1.length : Int) : Int).toNat := (by rw [Ny538.out, List.length_take]; omega)
          rw [← Ny538.out] at hr15
          rw [← hy15] at hcut15
          have HR541 := Aside0.mk hr15
          have HC541 := Aside0.mk (show y538.length ≤ co16 from by omega)
          clear hr15 hC15 hroom15 hi015 hsz15
          have KY15 := Aside0.mk hy15
          clear hy15
          have KL15 := Aside0.mk (show ((l1.length : Int) : Int).toNat ≤ t535.length from by omega)
          replace q15 := eq_true q15
          refine hK.out _ _ trivial (fun hHeld => ?_)
          clear hK K
          refine norm_ (a' := ?_) ?_ ?_
          rotate_left
          · show Act.put _ (some 12) _ = _
            simp only [Act.put, List.setIfInBounds_toArray, List.set_cons_zero, List.set_cons_succ, i64_w, i32_w]
            rfl
          refine pure_ (i := 9) (N := some 15) (v := ?_) (a' := ?_) #[true, true, true, true, true, true, true, true, true, true, false, false, false, false, false] rfl rfl (any_of HT_.out (by kernel_rfl)) (fun _ _ _ h => h) (Or.inl ⟨by rfl, ?_⟩) ?_ ?_
          rotate_left
          · intro w'
            go_simp
            with_reducible rfl
          rotate_left
          · simp only [Act.put, List.setIfInBounds_toArray, List.set_cons_zero, List.set_cons_succ, i64_w, i32_w]
            rfl
          refine one_ (i := 10) (N := some 16) #[true, true, true, true, true, true, true, true, true, true, true, false, false, false, false] rfl rfl (one_of HT_.out (by kernel_rfl)) (by decide) (fun K hK => ?_)
          refine goes_ Tryz.func41 (by kernel_rfl) rfl #[.slice Ao13 y531.length co13, .slice Ao16 y538.length co16] (by rfl) rfl rfl (by (try simp only [List.map_toArray, List.map_cons, List.map_nil]); first | done | rfl | (simp only [List.length_drop, List.length_take]; rfl)) ?_
          with_reducible refine (quant_Plus.calls k _ _ y531 _ _ y538 t542 t543 _ ?side1 ?side2 ?side3 ?side4 A9.out (Glob.below hG.toGlob (by repeat (first | (with_reducible first | exact HB.out | apply below_alloc | apply pw_below_drewN | apply below_drew1) | exact HB.out)))).mono ?_
          (case side1 => repeat (first | exact (by repeat (first | (with_reducible exact HR534.out) | (with_reducible refine Kd.C_alloc ?_ _) | (with_reducible refine Kd.C_drewN ?_ _) | (with_reducible refine Kd.C_drew ?_) | exact HR534.out)) | (with_reducible refine Kd.C_alloc ?_ _) | (with_reducible refine Kd.C_drewN ?_ _) | (with_reducible refine Kd.C_drew ?_)))
          (case side2 => exact HC534.out)
          (case side3 => repeat (first | exact (by repeat (first | (with_reducible exact HR541.out) | (with_reducible refine Kd.C_alloc ?_ _) | (with_reducible refine Kd.C_drewN ?_ _) | (with_reducible refine Kd.C_drew ?_) | exact HR541.out)) | (with_reducible refine Kd.C_alloc ?_ _) | (with_reducible refine Kd.C_drewN ?_ _) | (with_reducible refine Kd.C_drew ?_)))
          (case side4 => exact HC541.out)
          rintro e w17 ⟨v544, rfl, ho0, hb⟩
          refine ⟨_, rfl, ?_⟩
          have n0_ := Aside0.mk (Kd.R_elder' (by (with_reducible repeat (first | apply Kd.R_alloc | apply Kd.R_drewN | apply Kd.R_drew)); exact HO530.out) (Kd.R_base ho0) hb)
          have n1_ := Aside0.mk (Kd.R_elder' (by (with_reducible repeat (first | apply Kd.R_alloc | apply Kd.R_drewN | apply Kd.R_drew)); exact HO537.out) (Kd.R_base ho0) hb)
          have n2_ := Aside0.mk (Kd.R_lower (Kd.R_new' (Kd.R_new' ho0 (Kd.R_lt (by (with_reducible repeat (first | apply Kd.R_alloc | apply Kd.R_drewN | apply Kd.R_drew)); exact HO530.out))) (Kd.R_lt (by (with_reducible repeat (first | apply Kd.R_alloc | apply Kd.R_drewN | apply Kd.R_drew)); exact HO537.out))) (below_size (by repeat (first | (with_reducible first | exact HB.out | apply below_alloc | apply pw_below_drewN | apply below_drew1) | exact HB.out))))
          have n3_ := Aside0.mk (Kd.C_below (by repeat (first | (with_reducible exact HR534.out) | (with_reducible refine Kd.C_alloc ?_ _) | (with_reducible refine Kd.C_drewN ?_ _) | (with_reducible refine Kd.C_drew ?_) | exact HR534.out)) hb)
          have n4_ := Aside0.mk (Kd.C_below (by repeat (first | (with_reducible exact HR541.out) | (with_reducible refine Kd.C_alloc ?_ _) | (with_reducible refine Kd.C_drewN ?_ _) | (with_reducible refine Kd.C_drew ?_) | exact HR541.out)) hb)
          have n5_ := Aside0.mk (below_step (by repeat (first | (with_reducible first | exact HB.out | apply below_alloc | apply pw_below_drewN | apply below_drew1) | exact HB.out)) hb)
          clear HO530
          clear HO537
          clear HR534
          clear HR541
          clear HB
          have HO530 := n0_
          have HO537 := n1_
          have HO545 := n2_
          have HR534 := n3_
          have HR541 := n4_
          have HB := n5_
          clear n0_ n1_ n2_ n3_ n4_ n5_
          (try clear hb)
          (try clear hb2)
          (try clear hk)
          (try clear hi)
          (try clear ho0)
          refine hK.out _ _ trivial (fun hHeld => ?_)
          clear hK K
          refine norm_ (a' := ?_) ?_ ?_
          rotate_left
          · show Act.put _ (some 16) _ = _
            simp only [Act.put, List.setIfInBounds_toArray, List.set_cons_zero, List.set_cons_succ, i64_w, i32_w]
            rfl
          refine pure_ (i := 11) (N := some 17) (v := ?_) (a' := ?_) #[true, true, true, true, true, true, true, true, true, true, true, true, false, false, false] rfl rfl (any_of HT_.out (by kernel_rfl)) (fun _ _ _ h => h) (Or.inl ⟨by rfl, ?_⟩) ?_ ?_
          rotate_left
          · intro w'
            go_simp
            with_reducible rfl
          rotate_left
          · simp only [Act.put, List.setIfInBounds_toArray, List.set_cons_zero, List.set_cons_succ, i64_w, i32_w]
            rfl
          refine pure_ (i := 12) (N := some 18) (v := ?_) (a' := ?_) #[true, true, true, true, true, true, true, true, true, true, true, true, true, false, false] rfl rfl (any_of HT_.out (by kernel_rfl)) (fun _ _ _ h => h) (Or.inl ⟨by rfl, ?_⟩) ?_ ?_
          rotate_left
          · intro w'
            go_simp
            with_reducible rfl
          rotate_left
          · simp only [Act.put, List.setIfInBounds_toArray, List.set_cons_zero, List.set_cons_succ, i64_w, i32_w]
            rfl
          refine pure_ (i := 13) (N := some 4) (v := ?_) (a' := ?_) #[true, true, true, true, true, true, true, true, true, true, true, true, true, true, false] rfl rfl (any_of HT_.out (by kernel_rfl)) (fun _ _ _ h => h) (Or.inl ⟨by rfl, ?_⟩) ?_ ?_
          rotate_left
          · intro w'
            go_simp
            with_reducible rfl
          rotate_left
          · simp only [Act.put, List.setIfInBounds_toArray, List.set_cons_zero, List.set_cons_succ, i64_w, i32_w]
            rfl
          refine pure_ (i := 14) (N := some 5) (v := ?_) (a' := ?_) #[true, true, true, true, true, true, true, true, true, true, true, true, true, true, true] rfl rfl (any_of HT_.out (by kernel_rfl)) (fun _ _ _ h => h) (Or.inl ⟨by rfl, ?_⟩) ?_ ?_
          rotate_left
          · intro w'
            go_simp
            with_reducible rfl
          rotate_left
          · simp only [Act.put, List.setIfInBounds_toArray, List.set_cons_zero, List.set_cons_succ, i64_w, i32_w]
            rfl
          refine done_ (done_of HT_.out (by kernel_rfl)) ?_
          try go_wp2
          go_ret2
          exact ⟨_, by first | rfl | (simp [errW_none, errW_some] <;> rfl) | (simp [*, errW_none, errW_some] <;> rfl), by (with_reducible repeat (first | apply Kd.R_alloc | apply Kd.R_drewN | apply Kd.R_drew)); exact Kd.R_mono HO545.out (fun _ hk => trivial), by repeat (first | (with_reducible first | exact HB.out | apply below_alloc | apply pw_below_drewN | apply below_drew1) | exact HB.out)⟩
        · rw [if_neg c8] at H
          exact absurd H (by simp)
      · rw [if_neg c7] at H
        exact absurd H (by simp)
    · rw [if_neg c5] at H
      exact absurd H (by simp)
  · rw [if_neg c4] at H
    exact absurd H (by simp)
end Go.Proofs.YtejgbdclhlolkaaGreatDoor.Q
namespace Go.Proofs.YtejgbdclhlolkaaGreatDoor.Q
open Go.RowKit Go.Proofs.YtejgbdclhlolkaaGreatDoorW.PrintWords Go.Proofs.YtejgbdclhlolkaaGreatDoorW.PrintLast Go.Proofs.YtejgbdclhlolkaaGreatDoorW.PrintMore
attribute [local go_sem] max2_int min2_int max_two min_two max_three min_three max_four min_four   -- for this text's walks alone
set_option linter.unusedVariables false
set_option linter.unusedSimpArgs false
def quant_Within.l0 : Nat → List (S57) → List (S57) → Int → Int → Option (ByteArray × Int)
  | 0, _, _, _, _ => none
  | k + 1, x0, x14, x15, x16 => if x16 < x15 then (if 0 ≤ x16 then (if x16 < (x14.length : Int) then ((quant_Of.f k x0 ((rd_T57 x14 x16).f0)).bind fun bt551 => (if bt551.1 > ((rd_T57 x14 x16).f1) then (some ((rd_T57 x14 x16).f0, 0)) else (quant_Within.l0 k x0 x14 x15 (wrap64 (x16 + 1))))) else (none)) else (none)) else (some ((⟨#[]⟩ : ByteArray), 0))
def quant_Within.f (k : Nat) (l0 : List (S57)) (l1 : List (S57)) : Option (ByteArray × Int) := (quant_valid.f k l0 l1).bind fun t548 => (if t548 = true then (quant_Within.l0 k l0 l1 (l1.length : Int) 0) else (some ((⟨#[]⟩ : ByteArray), 31)))
theorem quant_Within.mono_l : ∀ k, (∀ y0 y1 y2 y3, LeO (quant_Within.l0 k y0 y1 y2 y3) (quant_Within.l0 (k + 1) y0 y1 y2 y3))
  | 0 => fun _ _ _ _ r h => by simp [quant_Within.l0] at h
  | k + 1 => by
    have ih0 := quant_Within.mono_l k
    · intro y0 y1 y2 y3
      unfold quant_Within.l0
      repeat' first
      | (with_reducible exact ih0 _ _ _ _)
      | (with_reducible exact quant_Of.mono _ _ _)
      | (with_reducible exact quant_valid.mono _ _ _)
      | (with_reducible exact LeO.refl _)
      | (with_reducible exact LeO.none _)
      | (with_reducible refine LeO.ite ?_ ?_)
      | (with_reducible refine LeO.bind ?_ (fun _ => ?_))
      | exact ih0 _ _ _ _
      | exact quant_Of.mono _ _ _
      | exact quant_valid.mono _ _ _
      | exact LeO.none _
      | refine LeO.ite ?_ ?_
      | refine LeO.bind ?_ (fun _ => ?_)
theorem quant_Within.mono : ∀ a0 a1 k, LeO (quant_Within.f k a0 a1) (quant_Within.f (k + 1) a0 a1) := by
  intro a0 a1 k
  have ih0 := quant_Within.mono_l k
  unfold quant_Within.f
  repeat' first
      | (with_reducible exact ih0 _ _ _ _)
      | (with_reducible exact quant_Of.mono _ _ _)
      | (with_reducible exact quant_valid.mono _ _ _)
      | (with_reducible exact LeO.refl _)
      | (with_reducible exact LeO.none _)
      | (with_reducible refine LeO.ite ?_ ?_)
      | (with_reducible refine LeO.bind ?_ (fun _ => ?_))
      | exact ih0 _ _ _ _
      | exact quant_Of.mono _ _ _
      | exact quant_valid.mono _ _ _
      | exact LeO.none _
      | refine LeO.ite ?_ ?_
      | refine LeO.bind ?_ (fun _ => ?_)
set_option maxHeartbeats 8000000 in
set_option maxRecDepth 100000 in
theorem quant_Within.calls (k : Nat) (A0 : Option Addr) (c0 : Nat) (l0 : List (S57)) (A1 : Option Addr) (c1 : Nat) (l1 : List (S57)) (r1 : ByteArray) (r2 : Int) (w : World) (hr0 : Kd.C k57 w A0 l0.length l0) (hc0 : l0.length ≤ c0) (hr1 : Kd.C k57 w A1 l1.length l1) (hc1 : l1.length ≤ c1) (h : quant_Within.f k l0 l1 = some (r1, r2)) (hG : Glob w) :
    Calls Tryz.prog 44 #[.slice A0 l0.length c0, .slice A1 l1.length c1] w fun e w' => e = .returned (.tuple #[.string r1, .int .i64 r2]) ∧ Below w.heap.size w w' := by
  have hu57 := Tryz.underlying57
  have HR0 := Aside0.mk hr0
  have HC0 := Aside0.mk hc0
  clear hr0 hc0
  have HR1 := Aside0.mk hr1
  have HC1 := Aside0.mk hc1
  clear hr1 hc1
  have HB := Aside0.mk (Below.refl w.heap.size w)
  have H : ((quant_valid.f k l0 l1).bind fun t548 => (if t548 = true then (quant_Within.l0 k l0 l1 (l1.length : Int) 0) else (some ((⟨#[]⟩ : ByteArray), 31)))) = some (r1, r2) := h
  clear h
  replace H := Option.bind_eq_some_iff.mp H
  obtain ⟨t548, A30, H⟩ := H
  replace H : (if t548 = true then (quant_Within.l0 k l0 l1 (l1.length : Int) 0) else (some ((⟨#[]⟩ : ByteArray), 31))) = some (r1, r2) := H
  have A3 := Aside0.mk A30
  clear A30
  by_cases c4 : t548 = true
  · subst c4
    have H1 : (quant_Within.l0 k l0 l1 (l1.length : Int) 0) = some (r1, r2) := by rw [if_pos rfl] at H; exact H
    clear H
    have H := H1
    clear H1
    have H' := Aside0.mk H
    clear H
    go_enter Tryz.func44, Tryz.ntmps44
    go_wp2_with (first | ((with_reducible refine gate_callee (f := 73) rfl ?_); refine goesL_ (some 12) rfl rfl Tryz.func73 (by kernel_rfl) rfl #[.slice A0 l0.length c0, .slice A1 l1.length c1] rfl (by (try simp only [List.map_toArray, List.map_cons, List.map_nil]); first | done | rfl | (simp only [List.length_drop, List.length_take]; rfl)) ?_; (with_reducible refine (quant_valid.calls k _ _ l0 _ _ l1 true _ ?side1 ?side2 ?side3 ?side4 A3.out (Glob.below hG (by repeat (first | (with_reducible first | exact HB.out | apply below_alloc | apply pw_below_drewN | apply below_drew1) | exact HB.out)))).mono ?_); (case side1 => repeat (first | exact HR0.out | (with_reducible refine Kd.C_alloc ?_ _) | (with_reducible refine Kd.C_drewN ?_ _) | (with_reducible refine Kd.C_drew ?_))); (case side2 => exact HC0.out); (case side3 => repeat (first | exact HR1.out | (with_reducible refine Kd.C_alloc ?_ _) | (with_reducible refine Kd.C_drewN ?_ _) | (with_reducible refine Kd.C_drew ?_))); (case side4 => exact HC1.out); rintro e w5 ⟨rfl, hb⟩; refine ⟨_, rfl, ?_⟩; have n0_ := Aside0.mk (below_step (by repeat (first | (with_reducible first | exact HB.out | apply below_alloc | apply pw_below_drewN | apply below_drew1) | exact HB.out)) hb); clear HB; have HB := n0_; clear n0_; (try clear hb); (try clear hb2); (try clear hk); (try clear hi)))
    go_loopg [16] k (fun kq v16 w' => ∃ (x16_1 : Int), v16 = .int .i64 x16_1 ∧ Aside0 (quant_Within.l0 kq l0 l1 (l1.length : Int) x16_1 = some (r1, r2)) ∧ Aside0 (kq ≤ k) ∧ Aside0 (Below w.heap.size w w'))
    case atStart => exact ⟨(0), (by first | rfl | (simp; done) | (simp [*]; done) | (simp; rw [Bool.eq_iff_iff]; simp; done) | (rw [Bool.eq_iff_iff]; simp; done)), H', ⟨Nat.le_refl _⟩, ⟨by repeat (first | (with_reducible first | exact HB.out | apply below_alloc | apply pw_below_drewN | apply below_drew1) | exact HB.out)⟩⟩
    case round =>
      clear H'
      try clear c1
      try clear p2
      try clear c4
      obtain ⟨x16_1, rfl, HA, HK1, HB⟩ := hrel
      cases gk with
      | zero => exact absurd HA.out (by simp [quant_Within.l0])
      | succ k1 =>
        have H := HA.out
        clear HA
        simp only [quant_Within.l0] at H
        by_cases c6 : x16_1 < (l1.length : Int)
        · rw [if_pos c6] at H
          have c6b0 : decide (x16_1 < (l1.length : Int)) = true := decide_eq_true c6
          clear c6
          by_cases c7 : 0 ≤ x16_1
          · rw [if_pos c7] at H
            have c7b0 : decide (0 ≤ x16_1) = true := decide_eq_true c7
            clear c7
            by_cases c8 : x16_1 < (l1.length : Int)
            · rw [if_pos c8] at H
              have c8b0 : decide (x16_1 < (l1.length : Int)) = true := decide_eq_true c8
              clear c8
              replace H := Option.bind_eq_some_iff.mp H
              obtain ⟨⟨t551, t552⟩, A90, H⟩ := H
              replace H : (if t551 > ((rd_T57 l1 x16_1).f1) then (some ((rd_T57 l1 x16_1).f0, 0)) else (quant_Within.l0 k1 l0 l1 (l1.length : Int) (wrap64 (x16_1 + 1)))) = some (r1, r2) := H
              have A9 := Aside0.mk A90
              clear A90
              by_cases c10 : t551 > ((rd_T57 l1 x16_1).f1)
              · rw [if_pos c10] at H
                have c10b0 : decide (((rd_T57 l1 x16_1).f1) < t551) = true := decide_eq_true c10
                clear c10
                simp only [Option.some.injEq, Prod.mk.injEq] at H
                obtain ⟨rfl, rfl⟩ := H
                have p549 : 0 ≤ (x16_1 : Int) := of_decide_eq_true (by first | (with_reducible assumption) | assumption)
                have q549 : x16_1 < (l1.length : Int) := of_decide_eq_true (by first | (with_reducible assumption) | assumption)
                obtain ⟨ad549, e549, hx549_0, hx549_1⟩ := at_T57 HR1.out x16_1 p549 q549
                cases e549
                replace hx549_0 := (HB.out.cell (World.block_lt_of_cell? w _ hx549_0)).trans hx549_0
                replace hx549_1 := (HB.out.cell (World.block_lt_of_cell? w _ hx549_1)).trans hx549_1
                replace p549 := eq_true p549
                replace q549 := eq_true q549
                go_wp2_with (first | ((with_reducible refine gate_dst (N := 7) rfl ?_); refine box_event ?hg (N := 7) ?hd (cs := #[.string (⟨#[]⟩ : ByteArray), .int .i64 0]) (t := 57) ?hr ?_; (case hd => rfl); (case hg => rfl); (case hr => first | (go_simp; done) | (go_simp; rfl)); intro gb550 hg w11 hbox hb; have n0_ := Aside0.mk (below_step (by repeat (first | (with_reducible first | exact HB.out | apply below_alloc | apply pw_below_drewN | apply below_drew1) | exact HB.out)) hb); have n1_ := Aside0.mk (hbox); have n2_ := Aside0.mk ((by rw [hg]; exact (below_size (by repeat (first | (with_reducible first | exact HB.out | apply below_alloc | apply pw_below_drewN | apply below_drew1) | exact HB.out))) : w.heap.size ≤ gb550)); have n3_ := Aside0.mk ((by rw [hg]; exact (below_size (by repeat (first | (with_reducible first | exact HB.out | apply below_alloc | apply pw_below_drewN | apply below_drew1) | exact HB.out))) : w.heap.size ≤ gb550)); clear HB; have HB := n0_; have BK550 := n1_; have GW550 := n2_; have GE550 := n3_; clear n0_ n1_ n2_ n3_; clear hb hbox hg; have hcz12_0 : w11.cell? ⟨gb550, 0, none⟩ = some (.string (⟨#[]⟩ : ByteArray)) := (blk_cell BK550.out 0).trans rfl; have hcz12_1 : w11.cell? ⟨gb550, 1, none⟩ = some (.int .i64 0) := (blk_cell BK550.out 1).trans rfl; have hfz12_0 := blk_frozen BK550.out 0; have hfz12_1 := blk_frozen BK550.out 1) | ((with_reducible refine gate_callee (f := 30) rfl ?_); refine goesL_ (some 24) rfl rfl Tryz.func30 (by kernel_rfl) rfl #[.slice A0 l0.length c0, .string ((rd_T57 l1 x16_1).f0)] rfl (by (try simp only [List.map_toArray, List.map_cons, List.map_nil]); first | done | rfl | (simp only [List.length_drop, List.length_take]; rfl)) ?_; (with_reducible refine (quant_Of.calls k1 _ _ l0 ((rd_T57 l1 x16_1).f0) t551 t552 _ ?side1 ?side2 A9.out).mono ?_); (case side1 => exact Kd.C_below HR0.out (by repeat (first | (with_reducible first | exact HB.out | apply below_alloc | apply pw_below_drewN | apply below_drew1 | refine below_set ?_ GE550.out) | exact HB.out))); (case side2 => exact HC0.out); rintro e w13 ⟨rfl, hb⟩; refine ⟨_, rfl, ?_⟩; have n0_ := Aside0.mk (blk_below (g := gb550) (o := .cells #[.string ((rd_T57 l1 x16_1).f0), .int .i64 ((rd_T57 l1 x16_1).f1)] 57 (0, 0)) (by (with_reducible repeat (first | refine blk_drewN ?_ _ | refine blk_drew ?_ | refine blk_alloc ?_ _)); refine blk_put (cs := #[.string ((rd_T57 l1 x16_1).f0), .int .i64 0]) ?_ 1 _ rfl; (with_reducible repeat (first | refine blk_drewN ?_ _ | refine blk_drew ?_ | refine blk_alloc ?_ _)); refine blk_put (cs := #[.string (⟨#[]⟩ : ByteArray), .int .i64 0]) ?_ 0 _ rfl; (with_reducible repeat (first | refine blk_drewN ?_ _ | refine blk_drew ?_ | refine blk_alloc ?_ _)); exact BK550.out) hb); have n1_ := Aside0.mk (below_step (by repeat (first | (with_reducible first | exact HB.out | apply below_alloc | apply pw_below_drewN | apply below_drew1 | refine below_set ?_ GE550.out) | exact HB.out)) hb); clear BK550; clear HB; have BK550 := n0_; have HB := n1_; clear n0_ n1_; (try clear hb); (try clear hb2); (try clear hk); (try clear hi); have hcz14_0 : w13.cell? ⟨gb550, 0, none⟩ = some (.string ((rd_T57 l1 x16_1).f0)) := (blk_cell BK550.out 0).trans rfl; have hcz14_1 : w13.cell? ⟨gb550, 1, none⟩ = some (.int .i64 ((rd_T57 l1 x16_1).f1)) := (blk_cell BK550.out 1).trans rfl; have hfz14_0 := blk_frozen BK550.out 0; have hfz14_1 := blk_frozen BK550.out 1))
                go_ret2
                exact ⟨by first | rfl | (simp [errW_none, errW_some] <;> rfl) | (simp [*, errW_none, errW_some] <;> rfl), by repeat (first | (with_reducible first | exact HB.out | apply below_alloc | apply pw_below_drewN | apply below_drew1 | refine below_set ?_ GE550.out) | exact HB.out)⟩
              · rw [if_neg c10] at H
                have c10b0 : decide (((rd_T57 l1 x16_1).f1) < t551) = false := decide_eq_false c10
                clear c10
                have H' := Aside0.mk H
                clear H
                have p549 : 0 ≤ (x16_1 : Int) := of_decide_eq_true (by first | (with_reducible assumption) | assumption)
                have q549 : x16_1 < (l1.length : Int) := of_decide_eq_true (by first | (with_reducible assumption) | assumption)
                obtain ⟨ad549, e549, hx549_0, hx549_1⟩ := at_T57 HR1.out x16_1 p549 q549
                cases e549
                replace hx549_0 := (HB.out.cell (World.block_lt_of_cell? w _ hx549_0)).trans hx549_0
                replace hx549_1 := (HB.out.cell (World.block_lt_of_cell? w _ hx549_1)).trans hx549_1
                replace p549 := eq_true p549
                replace q549 := eq_true q549
                go_wp2_with (first | ((with_reducible refine gate_dst (N := 7) rfl ?_); refine box_event ?hg (N := 7) ?hd (cs := #[.string (⟨#[]⟩ : ByteArray), .int .i64 0]) (t := 57) ?hr ?_; (case hd => rfl); (case hg => rfl); (case hr => first | (go_simp; done) | (go_simp; rfl)); intro gb550 hg w15 hbox hb; have n0_ := Aside0.mk (below_step (by repeat (first | (with_reducible first | exact HB.out | apply below_alloc | apply pw_below_drewN | apply below_drew1) | exact HB.out)) hb); have n1_ := Aside0.mk (hbox); have n2_ := Aside0.mk ((by rw [hg]; exact (below_size (by repeat (first | (with_reducible first | exact HB.out | apply below_alloc | apply pw_below_drewN | apply below_drew1) | exact HB.out))) : w.heap.size ≤ gb550)); have n3_ := Aside0.mk ((by rw [hg]; exact (below_size (by repeat (first | (with_reducible first | exact HB.out | apply below_alloc | apply pw_below_drewN | apply below_drew1) | exact HB.out))) : w.heap.size ≤ gb550)); clear HB; have HB := n0_; have BK550 := n1_; have GW550 := n2_; have GE550 := n3_; clear n0_ n1_ n2_ n3_; clear hb hbox hg; have hcz16_0 : w15.cell? ⟨gb550, 0, none⟩ = some (.string (⟨#[]⟩ : ByteArray)) := (blk_cell BK550.out 0).trans rfl; have hcz16_1 : w15.cell? ⟨gb550, 1, none⟩ = some (.int .i64 0) := (blk_cell BK550.out 1).trans rfl; have hfz16_0 := blk_frozen BK550.out 0; have hfz16_1 := blk_frozen BK550.out 1) | ((with_reducible refine gate_callee (f := 30) rfl ?_); refine goesL_ (some 24) rfl rfl Tryz.func30 (by kernel_rfl) rfl #[.slice A0 l0.length c0, .string ((rd_T57 l1 x16_1).f0)] rfl (by (try simp only [List.map_toArray, List.map_cons, List.map_nil]); first | done | rfl | (simp only [List.length_drop, List.length_take]; rfl)) ?_; (with_reducible refine (quant_Of.calls k1 _ _ l0 ((rd_T57 l1 x16_1).f0) t551 t552 _ ?side1 ?side2 A9.out).mono ?_); (case side1 => exact Kd.C_below HR0.out (by repeat (first | (with_reducible first | exact HB.out | apply below_alloc | apply pw_below_drewN | apply below_drew1 | refine below_set ?_ GE550.out) | exact HB.out))); (case side2 => exact HC0.out); rintro e w17 ⟨rfl, hb⟩; refine ⟨_, rfl, ?_⟩; have n0_ := Aside0.mk (blk_below (g := gb550) (o := .cells #[.string ((rd_T57 l1 x16_1).f0), .int .i64 ((rd_T57 l1 x16_1).f1)] 57 (0, 0)) (by (with_reducible repeat (first | refine blk_drewN ?_ _ | refine blk_drew ?_ | refine blk_alloc ?_ _)); refine blk_put (cs := #[.string ((rd_T57 l1 x16_1).f0), .int .i64 0]) ?_ 1 _ rfl; (with_reducible repeat (first | refine blk_drewN ?_ _ | refine blk_drew ?_ | refine blk_alloc ?_ _)); refine blk_put (cs := #[.string (⟨#[]⟩ : ByteArray), .int .i64 0]) ?_ 0 _ rfl; (with_reducible repeat (first | refine blk_drewN ?_ _ | refine blk_drew ?_ | refine blk_alloc ?_ _)); exact BK550.out) hb); have n1_ := Aside0.mk (below_step (by repeat (first | (with_reducible first | exact HB.out | apply below_alloc | apply pw_below_drewN | apply below_drew1 | refine below_set ?_ GE550.out) | exact HB.out)) hb); clear BK550; clear HB; have BK550 := n0_; have HB := n1_; clear n0_ n1_; (try clear hb); (try clear hb2); (try clear hk); (try clear hi); have hcz18_0 : w17.cell? ⟨gb550, 0, none⟩ = some (.string ((rd_T57 l1 x16_1).f0)) := (blk_cell BK550.out 0).trans rfl; have hcz18_1 : w17.cell? ⟨gb550, 1, none⟩ = some (.int .i64 ((rd_T57 l1 x16_1).f1)) := (blk_cell BK550.out 1).trans rfl; have hfz18_0 := blk_frozen BK550.out 0; have hfz18_1 := blk_frozen BK550.out 1))
                go_roundg k1
                case measure => have := HK1.out; omega
                case rel => exact ⟨(wrap64 (x16_1 + 1)), (by first | rfl | (simp; done) | (simp [*]; done) | (simp; rw [Bool.eq_iff_iff]; simp; done) | (rw [Bool.eq_iff_iff]; simp; done)), H', ⟨by have := HK1.out; omega⟩, ⟨by repeat (first | (with_reducible first | exact HB.out | apply below_alloc | apply pw_below_drewN | apply below_drew1 | refine below_set ?_ GE550.out) | exact HB.out)⟩⟩
            · rw [if_neg c8] at H
              exact absurd H (by simp)
          · rw [if_neg c7] at H
            exact absurd H (by simp)
        · rw [if_neg c6] at H
          have c6b0 : decide (x16_1 < (l1.length : Int)) = false := decide_eq_false c6
          clear c6
          simp only [Option.some.injEq, Prod.mk.injEq] at H
          obtain ⟨rfl, rfl⟩ := H
          go_wp2
          go_ret2
          exact ⟨by first | rfl | (simp [errW_none, errW_some] <;> rfl) | (simp [*, errW_none, errW_some] <;> rfl), by repeat (first | (with_reducible first | exact HB.out | apply below_alloc | apply pw_below_drewN | apply below_drew1) | exact HB.out)⟩
  · replace c4 := Bool.eq_false_iff.mpr c4
    subst c4
    have H1 : (some ((⟨#[]⟩ : ByteArray), 31)) = some (r1, r2) := by rw [if_neg (show ¬ (false = true) by decide)] at H; exact H
    clear H
    have H := H1
    clear H1
    simp only [Option.some.injEq, Prod.mk.injEq] at H
    obtain ⟨rfl, rfl⟩ := H
    go_enter Tryz.func44, Tryz.ntmps44
    go_wp2_with (first | ((with_reducible refine gate_callee (f := 73) rfl ?_); refine goesL_ (some 12) rfl rfl Tryz.func73 (by kernel_rfl) rfl #[.slice A0 l0.length c0, .slice A1 l1.length c1] rfl (by (try simp only [List.map_toArray, List.map_cons, List.map_nil]); first | done | rfl | (simp only [List.length_drop, List.length_take]; rfl)) ?_; (with_reducible refine (quant_valid.calls k _ _ l0 _ _ l1 false _ ?side1 ?side2 ?side3 ?side4 A3.out (Glob.below hG (by repeat (first | (with_reducible first | exact HB.out | apply below_alloc | apply pw_below_drewN | apply below_drew1) | exact HB.out)))).mono ?_); (case side1 => repeat (first | exact HR0.out | (with_reducible refine Kd.C_alloc ?_ _) | (with_reducible refine Kd.C_drewN ?_ _) | (with_reducible refine Kd.C_drew ?_))); (case side2 => exact HC0.out); (case side3 => repeat (first | exact HR1.out | (with_reducible refine Kd.C_alloc ?_ _) | (with_reducible refine Kd.C_drewN ?_ _) | (with_reducible refine Kd.C_drew ?_))); (case side4 => exact HC1.out); rintro e w19 ⟨rfl, hb⟩; refine ⟨_, rfl, ?_⟩; have n0_ := Aside0.mk (below_step (by repeat (first | (with_reducible first | exact HB.out | apply below_alloc | apply pw_below_drewN | apply below_drew1) | exact HB.out)) hb); clear HB; have HB := n0_; clear n0_; (try clear hb); (try clear hb2); (try clear hk); (try clear hi)))
    go_ret2
    exact ⟨by first | rfl | (simp [errW_none, errW_some] <;> rfl) | (simp [*, errW_none, errW_some] <;> rfl), by repeat (first | (with_reducible first | exact HB.out | apply below_alloc | apply pw_below_drewN | apply below_drew1) | exact HB.out)⟩
end Go.Proofs.YtejgbdclhlolkaaGreatDoor.Q
namespace Go.Proofs.YtejgbdclhlolkaaGreatDoor.Q
open Go.RowKit Go.Lib Go.Maps Go.Proofs.YtejgbdclhlolkaaGreatDoorW.PrintWords Go.Proofs.YtejgbdclhlolkaaGreatDoorW.PrintLast
set_option linter.unusedVariables false
set_option linter.unusedSimpArgs false
def minA : List S57 → List S57 → List S57
  | L, [] => L
  | L, a :: r => minA (insS L a.f0 a.f1) r
def minB : List S57 → List S57 → Option (List S57)
  | L, [] => some L
  | L, x :: r => if valOf L x.f0 < x.f1 then none else minB (insS L x.f0 (wrap64 (valOf L x.f0 - x.f1))) r
def minP (l0 l1 : List S57) : List S57 × Int := match minB (minA [] l0) l1 with
  | none => ([], 1)
  | some L => quant_listed.f L
def minOK (l0 l1 : List S57) : Bool := (l0.all fun x => decide (x.f0.size ≤ 48) && decide (-9223372036854775808 ≤ x.f1) && decide (x.f1 ≤ 9223372036854775807)) && (l1.all fun x => decide (x.f0.size ≤ 48)) && decide (l0.length + l1.length ≤ 9223372036854775807)
theorem minOK_a {l0 l1 : List S57} (h : minOK l0 l1 = true) : ∀ x ∈ l0, x.f0.size ≤ 48 ∧ -9223372036854775808 ≤ x.f1 ∧ x.f1 ≤ 9223372036854775807 := by
  unfold minOK at h
  simp only [Bool.and_eq_true, List.all_eq_true, decide_eq_true_eq] at h
  intro x hx
  obtain ⟨⟨h1, h2⟩, h3⟩ := h.1.1 x hx
  exact ⟨h1, h2, h3⟩
theorem minOK_b {l0 l1 : List S57} (h : minOK l0 l1 = true) : ∀ x ∈ l1, x.f0.size ≤ 48 := by
  unfold minOK at h
  simp only [Bool.and_eq_true, List.all_eq_true, decide_eq_true_eq] at h
  exact h.1.2
theorem minOK_len {l0 l1 : List S57} (h : minOK l0 l1 = true) : l0.length + l1.length ≤ 9223372036854775807 := by
  unfold minOK at h
  simp only [Bool.and_eq_true, decide_eq_true_eq] at h
  exact h.2
theorem wf_in {v : Int} (h0 : -9223372036854775808 ≤ v) (h1 : v ≤ 9223372036854775807) : (Lit.int .i64 v).wf = true := by
  have := RowKit.wrap64_wf v
  rwa [show wrap64 v = v by unfold wrap64; omega] at this
def quant_Minus.f (k : Nat) (l0 l1 : List S57) : Option (List S57 × Int) :=
  (quant_valid.f k l0 l1).bind fun t => if t = true then (if minOK l0 l1 = true then some (minP l0 l1) else none) else some ([], 31)
theorem quant_Minus.mono : ∀ a0 a1 k, LeO (quant_Minus.f k a0 a1) (quant_Minus.f (k + 1) a0 a1) := by
  intro a0 a1 k
  unfold quant_Minus.f
  exact LeO.bind (quant_valid.mono _ _ _) (fun _ => LeO.refl _)
set_option maxHeartbeats 8000000 in
set_option maxRecDepth 100000 in
theorem quant_Minus.calls (k : Nat) (A0 : Option Addr) (c0 : Nat) (l0 : List S57) (A1 : Option Addr) (c1 : Nat) (l1 : List S57) (r1 : List S57) (r2 : Int) (w : World) (hr0 : Kd.C k57 w A0 l0.length l0) (hc0 : l0.length ≤ c0) (hr1 : Kd.C k57 w A1 l1.length l1) (hc1 : l1.length ≤ c1) (h : quant_Minus.f k l0 l1 = some (r1, r2)) (hG : Glob w) :
    Calls Tryz.prog 42 #[.slice A0 l0.length c0, .slice A1 l1.length c1] w fun e w' => ∃ v0_ : Value, e = .returned (.tuple #[v0_, .int .i64 r2]) ∧ Kd.R k57 57 w' w.heap.size (fun _ => True) v0_ r1 ∧ Below w.heap.size w w' := by
  have hu57 := Tryz.underlying57
  have hmm := @run_makeMap Tryz.prog
  unfold quant_Minus.f at h
  obtain ⟨t, ht, h2⟩ := Option.bind_eq_some_iff.mp h
  clear h
  have HV := Lib.hid (quant_valid.calls k A0 c0 l0 A1 c1 l1 t w hr0 hc0 hr1 hc1 ht hG)
  have HR0 := Aside0.mk hr0
  have HR1 := Aside0.mk hr1
  have hl0 := hr0.2.1
  have hl1 := hr1.2.1
  clear hr0 hr1 hc0 hc1 ht
  cases t with
  | false =>
    rw [if_neg Bool.false_ne_true] at h2
    obtain ⟨rfl, rfl⟩ := Prod.mk.inj (Option.some.inj h2)
    clear h2
    go_enter Tryz.func42, Tryz.ntmps42
    go_wp2_with (go_at_call 73; refine HV.out.mono ?_; rintro e w1 ⟨rfl, hb⟩; have HB := Aside0.mk hb; clear hb)
    go_ret2
    exact ⟨_, rfl, Kd.R_nil _ _ _ _ _, HB.out⟩
  | true =>
    rw [if_pos rfl] at h2
    cases hok : minOK l0 l1 with
    | false => rw [hok, if_neg Bool.false_ne_true] at h2; cases h2
    | true =>
      rw [hok, if_pos rfl] at h2
      have HS := Lib.hid (Option.some.inj h2)
      have HA := Lib.hid (minOK_a hok)
      have HBN := Lib.hid (minOK_b hok)
      have hlen := minOK_len hok
      clear h2 hok
      go_enter Tryz.func42, Tryz.ntmps42
      go_wp2_with (go_at_call 73; refine HV.out.mono ?_; rintro e w1 ⟨rfl, hb⟩; have HB := Aside0.mk hb; have hsz1 := hb.size; clear hb)
      obtain ⟨gm, hgm⟩ : ∃ gm, gm = w1.heap.size := ⟨_, rfl⟩
      have HGM := Lib.hid hgm
      have HOWN0 := Aside0.mk (World.ownsMap_made w1 Tryz.prog 9 (plainElem (H := Unit) Tryz.prog 2))
      have HB0 := Aside0.mk (HB.out.alloc hsz1 (.map #[] 0))
      rw [← hgm] at HOWN0 hsz1
      rw [← hgm]
      clear hgm
      go_loopg [8, 18] l0.length (fun g v8 v18 wr => ∃ (i n : Nat) (D : DataW Unit) (L : List S57), v18 = .int .i64 i ∧ i ≤ l0.length ∧ l0.length ≤ i + g ∧ n ≤ i ∧ Aside0 (wr.ownsMap Tryz.prog 9 (plainElem (H := Unit) Tryz.prog 2) gm n D) ∧ Aside0 (Tells D L) ∧ Aside0 (minA [] l0 = minA L (l0.drop i)) ∧ Aside0 (Below w.heap.size w wr))
      case atStart => exact ⟨0, 0, _, [], rfl, by omega, by omega, by omega, HOWN0, ⟨tells_nil⟩, ⟨rfl⟩, HB0⟩
      case round =>
        clear HOWN0 HB0 HB
        obtain ⟨i, n, D, L, rfl, hin, hig, hnt, HOWN, HT, HGO, HBW⟩ := hrel
        by_cases hlt : i < l0.length
        · cases gk with
          | zero => omega
          | succ g =>
            obtain ⟨ad2, eA2, hy0, hy1⟩ := at_T57 HR0.out (i : Int) (by omega) (by omega)
            cases eA2
            rw [Int.toNat_natCast] at hy0 hy1
            replace hy0 := (HBW.out.cell (World.block_lt_of_cell? w _ hy0)).trans hy0
            replace hy1 := (HBW.out.cell (World.block_lt_of_cell? w _ hy1)).trans hy1
            have hax := HA.out (rd_T57 l0 (i : Int)) (by rw [rd_T57, Int.toNat_natCast, List.getD_eq_getElem?_getD, List.getElem?_eq_getElem hlt]; exact List.getElem_mem hlt)
            have HGO2 := Lib.hid (show minA [] l0 = minA (insS L (rd_T57 l0 (i : Int)).f0 (rd_T57 l0 (i : Int)).f1) (l0.drop (i + 1)) by rw [HGO.out, item_rest l0 i hlt, minA])
            clear HGO
            generalize (rd_T57 l0 (i : Int)).f0 = xs at *
            generalize (rd_T57 l0 (i : Int)).f1 = xv at *
            have h48x := hax.1
            have HWF := Lib.hid (wf_in hax.2.1 hax.2.2)
            clear hax
            have HOWN2 := Aside0.mk (HOWN.out.alloc (.cells #[.string xs, .int .i64 xv] 57))
            have HBQ2 := Aside0.mk (HBW.out.alloc HBW.out.size (.cells #[.string xs, .int .i64 xv] 57))
            have HT3 := Aside0.mk (HT.out.put xs xv)
            go_wp2_with (first
              | (at_mapUpdate; refine wpList_mapUpdate_own _ rfl _ _ _ 98 rfl 9 2 law9 Tryz.underlying98 _ gm n D rfl HOWN2.out (by unfold maxLen; omega) _ _ _ rfl rfl (key48 h48x) _ [] (plainElem_int Tryz.underlying2 HWF.out) ?_; intro w5 hown5 hgrow5)
              | go_in)
            have HB5 := Aside0.mk (HBQ2.out.grown hgrow5 HBQ2.out.size (fun k hk => by cases hk; exact hsz1))
            have HOWN5 := Aside0.mk hown5
            clear hown5 hgrow5
            go_roundg g
            case measure => omega
            case rel => exact ⟨i + 1, n + 1, _, _, by go_num, by omega, by omega, by omega, HOWN5, HT3, ⟨HGO2.out⟩, HB5⟩
        · obtain rfl : i = l0.length := by omega
          have HGO2 := Lib.hid (show minA [] l0 = L by rw [HGO.out, List.drop_length, minA])
          have HS2 := Lib.hid (show (match minB L l1 with | none => ([], 1) | some L => quant_listed.f L) = (r1, r2) by have := HS.out; unfold minP at this; rw [HGO2.out] at this; exact this)
          clear HGO
          go_wp2
          go_loopg [10, 30] l1.length (fun g v10 v30 wq => ∃ (j m : Nat) (E : DataW Unit) (M : List S57), v30 = .int .i64 j ∧ j ≤ l1.length ∧ l1.length ≤ j + g ∧ m ≤ l0.length + j ∧ Aside0 (wq.ownsMap Tryz.prog 9 (plainElem (H := Unit) Tryz.prog 2) gm m E) ∧ Aside0 (Tells E M) ∧ Aside0 (minB L l1 = minB M (l1.drop j)) ∧ Aside0 (Below w.heap.size w wq))
          case atStart => exact ⟨0, n, D, L, rfl, by omega, by omega, by omega, HOWN, HT, ⟨rfl⟩, HBW⟩
          case round =>
            clear HOWN HT
            obtain ⟨j, m, E, M, rfl, hjn, hjg, hmt, HOWN, HT, HGO, HBQ⟩ := hrel
            by_cases hjl : j < l1.length
            · cases gk with
              | zero => omega
              | succ g =>
                obtain ⟨ad2, eA2, hy0, hy1⟩ := at_T57 HR1.out (j : Int) (by omega) (by omega)
                cases eA2
                rw [Int.toNat_natCast] at hy0 hy1
                replace hy0 := (HBQ.out.cell (World.block_lt_of_cell? w _ hy0)).trans hy0
                replace hy1 := (HBQ.out.cell (World.block_lt_of_cell? w _ hy1)).trans hy1
                have h48x := HBN.out (rd_T57 l1 (j : Int)) (by rw [rd_T57, Int.toNat_natCast, List.getD_eq_getElem?_getD, List.getElem?_eq_getElem hjl]; exact List.getElem_mem hjl)
                have HGO3 := Lib.hid (show minB L l1 = if valOf M (rd_T57 l1 (j : Int)).f0 < (rd_T57 l1 (j : Int)).f1 then none else minB (insS M (rd_T57 l1 (j : Int)).f0 (wrap64 (valOf M (rd_T57 l1 (j : Int)).f0 - (rd_T57 l1 (j : Int)).f1))) (l1.drop (j + 1)) by rw [HGO.out, item_rest l1 j hjl, minB])
                clear HGO
                generalize (rd_T57 l1 (j : Int)).f0 = xs at *
                generalize (rd_T57 l1 (j : Int)).f1 = xv at *
                have HOWN2 := Aside0.mk (HOWN.out.alloc (.cells #[.string xs, .int .i64 xv] 57))
                have HBQ2 := Aside0.mk (HBQ.out.alloc HBQ.out.size (.cells #[.string xs, .int .i64 xv] 57))
                by_cases hlow : valOf M xs < xv
                · have h1 := HS2.out
                  rw [HGO3.out, if_pos hlow] at h1
                  obtain ⟨e1, e2⟩ := Prod.mk.inj h1
                  have E1 := Lib.hid e1
                  have E2 := Lib.hid e2
                  have dlow : decide (valOf M xs < xv) = true := decide_eq_true hlow
                  clear h1 e1 e2 hlow HGO3
                  go_wp2_with (first
                    | (at_lookup; refine lookup2 _ rfl _ _ rfl gm m E M HT.out rfl HOWN2.out xs h48x rfl ?_)
                    | go_in)
                  go_ret2
                  refine ⟨.slice none 0 0, ?_, by rw [← E1.out]; exact Kd.R_nil _ _ _ _ _, HBQ2.out⟩
                  rw [← E2.out]
                  try rfl
                · have HGO4 := Lib.hid (show minB L l1 = minB (insS M xs (wrap64 (valOf M xs - xv))) (l1.drop (j + 1)) by rw [HGO3.out, if_neg hlow])
                  have dlow : decide (valOf M xs < xv) = false := decide_eq_false hlow
                  have HT3 := Aside0.mk (HT.out.put xs (wrap64 (valOf M xs - xv)))
                  clear hlow HGO3
                  go_wp2_with (first
                    | (at_lookup; refine lookup2 _ rfl _ _ rfl gm m E M HT.out rfl HOWN2.out xs h48x rfl ?_)
                    | (at_mapUpdate; refine wpList_mapUpdate_own _ rfl _ _ _ 98 rfl 9 2 law9 Tryz.underlying98 _ gm m E rfl HOWN2.out (by unfold maxLen; omega) _ _ _ rfl rfl (key48 h48x) _ [] (plainElem_int Tryz.underlying2 (RowKit.wrap64_wf _)) ?_; intro w5 hown5 hgrow5)
                    | go_in)
                  have HB5 := Aside0.mk (HBQ2.out.grown hgrow5 HBQ2.out.size (fun k hk => by cases hk; exact hsz1))
                  have HOWN5 := Aside0.mk hown5
                  clear hown5 hgrow5
                  go_roundg g
                  case measure => omega
                  case rel => exact ⟨j + 1, m + 1, _, _, by go_num, by omega, by omega, by omega, HOWN5, HT3, ⟨HGO4.out⟩, HB5⟩
            · obtain rfl : j = l1.length := by omega
              have HQ := Lib.hid (show quant_listed.f M = (r1, r2) by have := HS2.out; rw [HGO.out, List.drop_length, minB] at this; exact this)
              clear HGO
              go_wp2_with (go_at_call 74; refine (quant_listed.calls gm m E M r1 r2 _ HOWN.out HT.out HQ.out).mono ?_; rintro e w4 ⟨v4, rfl, ho4, hb4⟩; have HO4 := Aside0.mk (Kd.R_lower ho4 HBQ.out.size); have HB4 := Aside0.mk (below_step HBQ.out hb4); clear ho4 hb4)
              go_ret2
              exact ⟨_, rfl, HO4.out, HB4.out⟩
end Go.Proofs.YtejgbdclhlolkaaGreatDoor.Q
namespace Go.Proofs.YtejgbdclhlolkaaGreatDoor.Q
open Go.RowKit Go.Proofs.YtejgbdclhlolkaaGreatDoorW.PrintWords Go.Proofs.YtejgbdclhlolkaaGreatDoorW.PrintLast Go.Proofs.YtejgbdclhlolkaaGreatDoorW.PrintMore
attribute [local go_sem] max2_int min2_int max_two min_two max_three min_three max_four min_four   -- for this text's walks alone
set_option linter.unusedVariables false
set_option linter.unusedSimpArgs false
mutual
def bursarlaw03_QuantAddsUp.j0 : Nat → List (S57) → List (S57) → List (S57) → List (S57) → Int → Bool → Option (Bool)
|0,_,_,_,_,_,_ => none
|k + 1,x0,x1,x2,x7,x8,x52 => if x52 = true then (some false) else ((quant_Valid.f k x0).bind fun t563 => (if t563 = 0 then ((quant_Valid.f k x1).bind fun t564 => (bursarlaw03_QuantAddsUp.j1 k x0 x1 x2 x7 x8 (t564 != 0))) else (bursarlaw03_QuantAddsUp.j1 k x0 x1 x2 x7 x8 true)))
def bursarlaw03_QuantAddsUp.j1 : Nat → List (S57) → List (S57) → List (S57) → List (S57) → Int → Bool → Option (Bool)
|0,_,_,_,_,_,_ => none
|k + 1,x0,x1,x2,x7,x8,x60 => if x60 = true then (if x8 = 31 then (some ((x7.length : Int) == 0)) else (some false)) else (if x8 = 0 then ((bursarlaw03_behind.f x7).bind fun t565 => (if 0 ≤ (x7.length : Int) then (if (x7.length : Int) ≤ (t565.length : Int) then ((bursarlaw03_behind.f x1).bind fun t572 => (if 0 ≤ (x1.length : Int) then (if (x1.length : Int) ≤ (t572.length : Int) then ((quant_Minus.f k (t565.take ((x7.length : Int) : Int).toNat) (t572.take ((x1.length : Int) : Int).toNat)).bind fun bt579 => (if bt579.2 = 0 then (bursarlaw03_QuantAddsUp.j2 k x0 x1 x2 x7 x8 bt579.1 ((bt579.1.length : Int) != (x7.length : Int))) else (bursarlaw03_QuantAddsUp.j2 k x0 x1 x2 x7 x8 bt579.1 true))) else (none)) else (none))) else (none)) else (none))) else (bursarlaw03_QuantAddsUp.j4 k x0 x1 x2 x7 x8))
def bursarlaw03_QuantAddsUp.j4 : Nat → List (S57) → List (S57) → List (S57) → List (S57) → Int → Option (Bool)
|0,_,_,_,_,_ => none
|k + 1,x0,x1,x2,x7,x8 => bursarlaw03_QuantAddsUp.l1 k x0 x1 x2 x7 x8 ([] : List (S57)) 0
def bursarlaw03_QuantAddsUp.l1 : Nat → List (S57) → List (S57) → List (S57) → List (S57) → Int → List (S57) → Int → Option (Bool)
|0,_,_,_,_,_,_,_ => none
|k + 1,x0,x1,x2,x7,x8,x17,x18 => if x18 < (x0.length : Int) then (if 0 ≤ x18 then ((quant_Of.f k x1 ((rd_T57 x0 x18).f0)).bind fun bt606 => (if bt606.2 = true then (if x17.length < 5864062014805 then (bursarlaw03_QuantAddsUp.l1 k x0 x1 x2 x7 x8 (x17 ++ [(⟨(rd_T57 x0 x18).f0,(rd_T57 x0 x18).f1⟩ : S57)]) (wrap64 (x18 + 1))) else (none)) else (bursarlaw03_QuantAddsUp.l1 k x0 x1 x2 x7 x8 x17 (wrap64 (x18 + 1))))) else (none)) else ((bursarlaw03_behind.f x1).bind fun t612 => (if 0 ≤ (x1.length : Int) then (if (x1.length : Int) ≤ (t612.length : Int) then ((quant_Minus.f k (t612.take ((x1.length : Int) : Int).toNat) x17).bind fun bt619 => ((bursarlaw03_behind.f x0).bind fun t623 => (if 0 ≤ (x0.length : Int) then (if (x0.length : Int) ≤ (t623.length : Int) then ((bursarlaw03_behind.f x1).bind fun t630 => (if (x1.length : Int) ≤ (t630.length : Int) then ((quant_Within.f k (t623.take ((x0.length : Int) : Int).toNat) (t630.take ((x1.length : Int) : Int).toNat)).bind fun bt637 => (if bt637.2 = 0 then (bursarlaw03_QuantAddsUp.j6 k x0 x1 x2 x7 x8 ((bt637.1.toList == ([] : List UInt8)) != (bt619.2 == 0))) else (bursarlaw03_QuantAddsUp.j6 k x0 x1 x2 x7 x8 true))) else (none))) else (none)) else (none)))) else (none)) else (none)))
def bursarlaw03_QuantAddsUp.j6 : Nat → List (S57) → List (S57) → List (S57) → List (S57) → Int → Bool → Option (Bool)
|0,_,_,_,_,_,_ => none
|k + 1,x0,x1,x2,x7,x8,x205 => if x205 = true then (some false) else ((bursarlaw03_added.f k x7 x2).bind fun bt639 => ((bursarlaw03_added.f k x1 x2).bind fun bt643 => ((bursarlaw03_added.f k x0 bt643.1).bind fun bt647 => (if x8 = 0 then (if bt639.2 = 0 then (if bt643.2 = 0 then (if bt647.2 = 0 then ((bursarlaw03_same.f k bt639.1 bt647.1).bind fun t651 => (some t651)) else (some true)) else (some true)) else (some true)) else (some true)))))
def bursarlaw03_QuantAddsUp.j2 : Nat → List (S57) → List (S57) → List (S57) → List (S57) → Int → List (S57) → Bool → Option (Bool)
|0,_,_,_,_,_,_,_ => none
|k + 1,x0,x1,x2,x7,x8,x11,x92 => if x92 = true then (some false) else (bursarlaw03_QuantAddsUp.l0 k x0 x1 x2 x7 x8 x11 0)
def bursarlaw03_QuantAddsUp.l0 : Nat → List (S57) → List (S57) → List (S57) → List (S57) → Int → List (S57) → Int → Option (Bool)
|0,_,_,_,_,_,_,_ => none
|k + 1,x0,x1,x2,x7,x8,x11,x13 => if x13 < (x11.length : Int) then (if 0 ≤ x13 then ((quant_Of.f k x0 ((rd_T57 x11 x13).f0)).bind fun bt584 => (if x13 < (x7.length : Int) then (if ((rd_T57 x11 x13).f0).toList = ((rd_T57 x7 x13).f0).toList then (if ((rd_T57 x11 x13).f1) = bt584.1 then (bursarlaw03_QuantAddsUp.l0 k x0 x1 x2 x7 x8 x11 (wrap64 (x13 + 1))) else (some false)) else (some false)) else (none))) else (none)) else ((bursarlaw03_behind.f x0).bind fun t589 => (if 0 ≤ (x0.length : Int) then (if (x0.length : Int) ≤ (t589.length : Int) then ((bursarlaw03_behind.f x7).bind fun t596 => (if 0 ≤ (x7.length : Int) then (if (x7.length : Int) ≤ (t596.length : Int) then ((quant_Within.f k (t589.take ((x0.length : Int) : Int).toNat) (t596.take ((x7.length : Int) : Int).toNat)).bind fun bt603 => (if bt603.1.toList = ([] : List UInt8) then (if bt603.2 = 0 then (bursarlaw03_QuantAddsUp.j4 k x0 x1 x2 x7 x8) else (some false)) else (some false))) else (none)) else (none))) else (none)) else (none)))
end
def bursarlaw03_QuantAddsUp.f (k : Nat) (l0 : List (S57)) (l1 : List (S57)) (l2 : List (S57)) : Option (Bool) := (bursarlaw03_known.f k).bind fun t553 => (if t553 = true then ((bursarlaw03_added.f k l0 l1).bind fun bt554 => ((bursarlaw03_added.f k l1 l0).bind fun bt558 => (if bt554.2 = bt558.2 then ((bursarlaw03_same.f k bt554.1 bt558.1).bind fun t562 => (bursarlaw03_QuantAddsUp.j0 k l0 l1 l2 bt554.1 bt554.2 (!t562))) else (bursarlaw03_QuantAddsUp.j0 k l0 l1 l2 bt554.1 bt554.2 true)))) else (some false))
theorem bursarlaw03_QuantAddsUp.mono_l : ∀ k, (∀ y0 y1 y2 y3 y4 y5, LeO (bursarlaw03_QuantAddsUp.j0 k y0 y1 y2 y3 y4 y5) (bursarlaw03_QuantAddsUp.j0 (k + 1) y0 y1 y2 y3 y4 y5)) ∧ (∀ y0 y1 y2 y3 y4 y5, LeO (bursarlaw03_QuantAddsUp.j1 k y0 y1 y2 y3 y4 y5) (bursarlaw03_QuantAddsUp.j1 (k + 1) y0 y1 y2 y3 y4 y5)) ∧ (∀ y0 y1 y2 y3 y4, LeO (bursarlaw03_QuantAddsUp.j4 k y0 y1 y2 y3 y4) (bursarlaw03_QuantAddsUp.j4 (k + 1) y0 y1 y2 y3 y4)) ∧ (∀ y0 y1 y2 y3 y4 y5 y6, LeO (bursarlaw03_QuantAddsUp.l1 k y0 y1 y2 y3 y4 y5 y6) (bursarlaw03_QuantAddsUp.l1 (k + 1) y0 y1 y2 y3 y4 y5 y6)) ∧ (∀ y0 y1 y2 y3 y4 y5, LeO (bursarlaw03_QuantAddsUp.j6 k y0 y1 y2 y3 y4 y5) (bursarlaw03_QuantAddsUp.j6 (k + 1) y0 y1 y2 y3 y4 y5)) ∧ (∀ y0 y1 y2 y3 y4 y5 y6, LeO (bursarlaw03_QuantAddsUp.j2 k y0 y1 y2 y3 y4 y5 y6) (bursarlaw03_QuantAddsUp.j2 (k + 1) y0 y1 y2 y3 y4 y5 y6)) ∧ (∀ y0 y1 y2 y3 y4 y5 y6, LeO (bursarlaw03_QuantAddsUp.l0 k y0 y1 y2 y3 y4 y5 y6) (bursarlaw03_QuantAddsUp.l0 (k + 1) y0 y1 y2 y3 y4 y5 y6))
|0 => ⟨fun _ _ _ _ _ _ r h => by simp [bursarlaw03_QuantAddsUp.j0] at h,fun _ _ _ _ _ _ r h => by simp [bursarlaw03_QuantAddsUp.j1] at h,fun _ _ _ _ _ r h => by simp [bursarlaw03_QuantAddsUp.j4] at h,fun _ _ _ _ _ _ _ r h => by simp [bursarlaw03_QuantAddsUp.l1] at h,fun _ _ _ _ _ _ r h => by simp [bursarlaw03_QuantAddsUp.j6] at h,fun _ _ _ _ _ _ _ r h => by simp [bursarlaw03_QuantAddsUp.j2] at h,fun _ _ _ _ _ _ _ r h => by simp [bursarlaw03_QuantAddsUp.l0] at h⟩
|k + 1 => by
  obtain ⟨ih0,ih1,ih2,ih3,ih4,ih5,ih6⟩:=bursarlaw03_QuantAddsUp.mono_l k
  refine ⟨?_,?_,?_,?_,?_,?_,?_⟩
  ·intro y0 y1 y2 y3 y4 y5
   unfold bursarlaw03_QuantAddsUp.j0
   repeat' first
  |(with_reducible exact ih0 _ _ _ _ _ _)
  |(with_reducible exact ih1 _ _ _ _ _ _)
  |(with_reducible exact ih2 _ _ _ _ _)
  |(with_reducible exact ih3 _ _ _ _ _ _ _)
  |(with_reducible exact ih4 _ _ _ _ _ _)
  |(with_reducible exact ih5 _ _ _ _ _ _ _)
  |(with_reducible exact ih6 _ _ _ _ _ _ _)
  |(with_reducible exact bursarlaw03_added.mono _ _ _)
  |(with_reducible exact bursarlaw03_known.mono _)
  |(with_reducible exact bursarlaw03_same.mono _ _ _)
  |(with_reducible exact quant_Minus.mono _ _ _)
  |(with_reducible exact quant_Of.mono _ _ _)
  |(with_reducible exact quant_Valid.mono _ _)
  |(with_reducible exact quant_Within.mono _ _ _)
  |(with_reducible exact LeO.refl _)
  |(with_reducible exact LeO.none _)
  |(with_reducible refine LeO.ite ?_ ?_)
  |(with_reducible refine LeO.bind ?_ (fun _ => ?_))
  |exact ih0 _ _ _ _ _ _
  |exact ih1 _ _ _ _ _ _
  |exact ih2 _ _ _ _ _
  |exact ih3 _ _ _ _ _ _ _
  |exact ih4 _ _ _ _ _ _
  |exact ih5 _ _ _ _ _ _ _
  |exact ih6 _ _ _ _ _ _ _
  |exact bursarlaw03_added.mono _ _ _
  |exact bursarlaw03_known.mono _
  |exact bursarlaw03_same.mono _ _ _
  |exact quant_Minus.mono _ _ _
  |exact quant_Of.mono _ _ _
  |exact quant_Valid.mono _ _
  |exact quant_Within.mono _ _ _
  |exact LeO.none _
  |refine LeO.ite ?_ ?_
  |refine LeO.bind ?_ (fun _ => ?_)
  ·intro y0 y1 y2 y3 y4 y5
   unfold bursarlaw03_QuantAddsUp.j1
   repeat' first
  |(with_reducible exact ih0 _ _ _ _ _ _)
  |(with_reducible exact ih1 _ _ _ _ _ _)
  |(with_reducible exact ih2 _ _ _ _ _)
  |(with_reducible exact ih3 _ _ _ _ _ _ _)
  |(with_reducible exact ih4 _ _ _ _ _ _)
  |(with_reducible exact ih5 _ _ _ _ _ _ _)
  |(with_reducible exact ih6 _ _ _ _ _ _ _)
  |(with_reducible exact bursarlaw03_added.mono _ _ _)
  |(with_reducible exact bursarlaw03_known.mono _)
  |(with_reducible exact bursarlaw03_same.mono _ _ _)
  |(with_reducible exact quant_Minus.mono _ _ _)
  |(with_reducible exact quant_Of.mono _ _ _)
  |(with_reducible exact quant_Valid.mono _ _)
  |(with_reducible exact quant_Within.mono _ _ _)
  |(with_reducible exact LeO.refl _)
  |(with_reducible exact LeO.none _)
  |(with_reducible refine LeO.ite ?_ ?_)
  |(with_reducible refine LeO.bind ?_ (fun _ => ?_))
  |exact ih0 _ _ _ _ _ _
  |exact ih1 _ _ _ _ _ _
  |exact ih2 _ _ _ _ _
  |exact ih3 _ _ _ _ _ _ _
  |exact ih4 _ _ _ _ _ _
  |exact ih5 _ _ _ _ _ _ _
  |exact ih6 _ _ _ _ _ _ _
  |exact bursarlaw03_added.mono _ _ _
  |exact bursarlaw03_known.mono _
  |exact bursarlaw03_same.mono _ _ _
  |exact quant_Minus.mono _ _ _
  |exact quant_Of.mono _ _ _
  |exact quant_Valid.mono _ _
  |exact quant_Within.mono _ _ _
  |exact LeO.none _
  |refine LeO.ite ?_ ?_
  |refine LeO.bind ?_ (fun _ => ?_)
  ·intro y0 y1 y2 y3 y4
   unfold bursarlaw03_QuantAddsUp.j4
   repeat' first
  |(with_reducible exact ih0 _ _ _ _ _ _)
  |(with_reducible exact ih1 _ _ _ _ _ _)
  |(with_reducible exact ih2 _ _ _ _ _)
  |(with_reducible exact ih3 _ _ _ _ _ _ _)
  |(with_reducible exact ih4 _ _ _ _ _ _)
  |(with_reducible exact ih5 _ _ _ _ _ _ _)
  |(with_reducible exact ih6 _ _ _ _ _ _ _)
  |(with_reducible exact bursarlaw03_added.mono _ _ _)
  |(with_reducible exact bursarlaw03_known.mono _)
  |(with_reducible exact bursarlaw03_same.mono _ _ _)
  |(with_reducible exact quant_Minus.mono _ _ _)
  |(with_reducible exact quant_Of.mono _ _ _)
  |(with_reducible exact quant_Valid.mono _ _)
  |(with_reducible exact quant_Within.mono _ _ _)
  |(with_reducible exact LeO.refl _)
  |(with_reducible exact LeO.none _)
  |(with_reducible refine LeO.ite ?_ ?_)
  |(with_reducible refine LeO.bind ?_ (fun _ => ?_))
  |exact ih0 _ _ _ _ _ _
  |exact ih1 _ _ _ _ _ _
  |exact ih2 _ _ _ _ _
  |exact ih3 _ _ _ _ _ _ _
  |exact ih4 _ _ _ _ _ _
  |exact ih5 _ _ _ _ _ _ _
  |exact ih6 _ _ _ _ _ _ _
  |exact bursarlaw03_added.mono _ _ _
  |exact bursarlaw03_known.mono _
  |exact bursarlaw03_same.mono _ _ _
  |exact quant_Minus.mono _ _ _
  |exact quant_Of.mono _ _ _
  |exact quant_Valid.mono _ _
  |exact quant_Within.mono _ _ _
  |exact LeO.none _
  |refine LeO.ite ?_ ?_
  |refine LeO.bind ?_ (fun _ => ?_)
  ·intro y0 y1 y2 y3 y4 y5 y6
   unfold bursarlaw03_QuantAddsUp.l1
   repeat' first
  |(with_reducible exact ih0 _ _ _ _ _ _)
  |(with_reducible exact ih1 _ _ _ _ _ _)
  |(with_reducible exact ih2 _ _ _ _ _)
  |(with_reducible exact ih3 _ _ _ _ _ _ _)
  |(with_reducible exact ih4 _ _ _ _ _ _)
  |(with_reducible exact ih5 _ _ _ _ _ _ _)
  |(with_reducible exact ih6 _ _ _ _ _ _ _)
  |(with_reducible exact bursarlaw03_added.mono _ _ _)
  |(with_reducible exact bursarlaw03_known.mono _)
  |(with_reducible exact bursarlaw03_same.mono _ _ _)
  |(with_reducible exact quant_Minus.mono _ _ _)
  |(with_reducible exact quant_Of.mono _ _ _)
  |(with_reducible exact quant_Valid.mono _ _)
  |(with_reducible exact quant_Within.mono _ _ _)
  |(with_reducible exact LeO.refl _)
  |(with_reducible exact LeO.none _)
  |(with_reducible refine LeO.ite ?_ ?_)
  |(with_reducible refine LeO.bind ?_ (fun _ => ?_))
  |exact ih0 _ _ _ _ _ _
  |exact ih1 _ _ _ _ _ _
  |exact ih2 _ _ _ _ _
  |exact ih3 _ _ _ _ _ _ _
  |exact ih4 _ _ _ _ _ _
  |exact ih5 _ _ _ _ _ _ _
  |exact ih6 _ _ _ _ _ _ _
  |exact bursarlaw03_added.mono _ _ _
  |exact bursarlaw03_known.mono _
  |exact bursarlaw03_same.mono _ _ _
  |exact quant_Minus.mono _ _ _
  |exact quant_Of.mono _ _ _
  |exact quant_Valid.mono _ _
  |exact quant_Within.mono _ _ _
  |exact LeO.none _
  |refine LeO.ite ?_ ?_
  |refine LeO.bind ?_ (fun _ => ?_)
  ·intro y0 y1 y2 y3 y4 y5
   unfold bursarlaw03_QuantAddsUp.j6
   repeat' first
  |(with_reducible exact ih0 _ _ _ _ _ _)
  |(with_reducible exact ih1 _ _ _ _ _ _)
  |(with_reducible exact ih2 _ _ _ _ _)
  |(with_reducible exact ih3 _ _ _ _ _ _ _)
  |(with_reducible exact ih4 _ _ _ _ _ _)
  |(with_reducible exact ih5 _ _ _ _ _ _ _)
  |(with_reducible exact ih6 _ _ _ _ _ _ _)
  |(with_reducible exact bursarlaw03_added.mono _ _ _)
  |(with_reducible exact bursarlaw03_known.mono _)
  |(with_reducible exact bursarlaw03_same.mono _ _ _)
  |(with_reducible exact quant_Minus.mono _ _ _)
  |(with_reducible exact quant_Of.mono _ _ _)
  |(with_reducible exact quant_Valid.mono _ _)
  |(with_reducible exact quant_Within.mono _ _ _)
  |(with_reducible exact LeO.refl _)
  |(with_reducible exact LeO.none _)
  |(with_reducible refine LeO.ite ?_ ?_)
  |(with_reducible refine LeO.bind ?_ (fun _ => ?_))
  |exact ih0 _ _ _ _ _ _
  |exact ih1 _ _ _ _ _ _
  |exact ih2 _ _ _ _ _
  |exact ih3 _ _ _ _ _ _ _
  |exact ih4 _ _ _ _ _ _
  |exact ih5 _ _ _ _ _ _ _
  |exact ih6 _ _ _ _ _ _ _
  |exact bursarlaw03_added.mono _ _ _
  |exact bursarlaw03_known.mono _
  |exact bursarlaw03_same.mono _ _ _
  |exact quant_Minus.mono _ _ _
  |exact quant_Of.mono _ _ _
  |exact quant_Valid.mono _ _
  |exact quant_Within.mono _ _ _
  |exact LeO.none _
  |refine LeO.ite ?_ ?_
  |refine LeO.bind ?_ (fun _ => ?_)
  ·intro y0 y1 y2 y3 y4 y5 y6
   unfold bursarlaw03_QuantAddsUp.j2
   repeat' first
  |(with_reducible exact ih0 _ _ _ _ _ _)
  |(with_reducible exact ih1 _ _ _ _ _ _)
  |(with_reducible exact ih2 _ _ _ _ _)
  |(with_reducible exact ih3 _ _ _ _ _ _ _)
  |(with_reducible exact ih4 _ _ _ _ _ _)
  |(with_reducible exact ih5 _ _ _ _ _ _ _)
  |(with_reducible exact ih6 _ _ _ _ _ _ _)
  |(with_reducible exact bursarlaw03_added.mono _ _ _)
  |(with_reducible exact bursarlaw03_known.mono _)
  |(with_reducible exact bursarlaw03_same.mono _ _ _)
  |(with_reducible exact quant_Minus.mono _ _ _)
  |(with_reducible exact quant_Of.mono _ _ _)
  |(with_reducible exact quant_Valid.mono _ _)
  |(with_reducible exact quant_Within.mono _ _ _)
  |(with_reducible exact LeO.refl _)
  |(with_reducible exact LeO.none _)
  |(with_reducible refine LeO.ite ?_ ?_)
  |(with_reducible refine LeO.bind ?_ (fun _ => ?_))
  |exact ih0 _ _ _ _ _ _
  |exact ih1 _ _ _ _ _ _
  |exact ih2 _ _ _ _ _
  |exact ih3 _ _ _ _ _ _ _
  |exact ih4 _ _ _ _ _ _
  |exact ih5 _ _ _ _ _ _ _
  |exact ih6 _ _ _ _ _ _ _
  |exact bursarlaw03_added.mono _ _ _
  |exact bursarlaw03_known.mono _
  |exact bursarlaw03_same.mono _ _ _
  |exact quant_Minus.mono _ _ _
  |exact quant_Of.mono _ _ _
  |exact quant_Valid.mono _ _
  |exact quant_Within.mono _ _ _
  |exact LeO.none _
  |refine LeO.ite ?_ ?_
  |refine LeO.bind ?_ (fun _ => ?_)
  ·intro y0 y1 y2 y3 y4 y5 y6
   unfold bursarlaw03_QuantAddsUp.l0
   repeat' first
  |(with_reducible exact ih0 _ _ _ _ _ _)
  |(with_reducible exact ih1 _ _ _ _ _ _)
  |(with_reducible exact ih2 _ _ _ _ _)
  |(with_reducible exact ih3 _ _ _ _ _ _ _)
  |(with_reducible exact ih4 _ _ _ _ _ _)
  |(with_reducible exact ih5 _ _ _ _ _ _ _)
  |(with_reducible exact ih6 _ _ _ _ _ _ _)
  |(with_reducible exact bursarlaw03_added.mono _ _ _)
  |(with_reducible exact bursarlaw03_known.mono _)
  |(with_reducible exact bursarlaw03_same.mono _ _ _)
  |(with_reducible exact quant_Minus.mono _ _ _)
  |(with_reducible exact quant_Of.mono _ _ _)
  |(with_reducible exact quant_Valid.mono _ _)
  |(with_reducible exact quant_Within.mono _ _ _)
  |(with_reducible exact LeO.refl _)
  |(with_reducible exact LeO.none _)
  |(with_reducible refine LeO.ite ?_ ?_)
  |(with_reducible refine LeO.bind ?_ (fun _ => ?_))
  |exact ih0 _ _ _ _ _ _
  |exact ih1 _ _ _ _ _ _
  |exact ih2 _ _ _ _ _
  |exact ih3 _ _ _ _ _ _ _
  |exact ih4 _ _ _ _ _ _
  |exact ih5 _ _ _ _ _ _ _
  |exact ih6 _ _ _ _ _ _ _
  |exact bursarlaw03_added.mono _ _ _
  |exact bursarlaw03_known.mono _
  |exact bursarlaw03_same.mono _ _ _
  |exact quant_Minus.mono _ _ _
  |exact quant_Of.mono _ _ _
  |exact quant_Valid.mono _ _
  |exact quant_Within.mono _ _ _
  |exact LeO.none _
  |refine LeO.ite ?_ ?_
  |refine LeO.bind ?_ (fun _ => ?_)
theorem bursarlaw03_QuantAddsUp.mono : ∀ a0 a1 a2 k, LeO (bursarlaw03_QuantAddsUp.f k a0 a1 a2) (bursarlaw03_QuantAddsUp.f (k + 1) a0 a1 a2) := by
 intro a0 a1 a2 k
 obtain ⟨ih0,ih1,ih2,ih3,ih4,ih5,ih6⟩:=bursarlaw03_QuantAddsUp.mono_l k
 unfold bursarlaw03_QuantAddsUp.f
 repeat' first
  |(with_reducible exact ih0 _ _ _ _ _ _)
  |(with_reducible exact ih1 _ _ _ _ _ _)
  |(with_reducible exact ih2 _ _ _ _ _)
  |(with_reducible exact ih3 _ _ _ _ _ _ _)
  |(with_reducible exact ih4 _ _ _ _ _ _)
  |(with_reducible exact ih5 _ _ _ _ _ _ _)
  |(with_reducible exact ih6 _ _ _ _ _ _ _)
  |(with_reducible exact bursarlaw03_added.mono _ _ _)
  |(with_reducible exact bursarlaw03_known.mono _)
  |(with_reducible exact bursarlaw03_same.mono _ _ _)
  |(with_reducible exact quant_Minus.mono _ _ _)
  |(with_reducible exact quant_Of.mono _ _ _)
  |(with_reducible exact quant_Valid.mono _ _)
  |(with_reducible exact quant_Within.mono _ _ _)
  |(with_reducible exact LeO.refl _)
  |(with_reducible exact LeO.none _)
  |(with_reducible refine LeO.ite ?_ ?_)
  |(with_reducible refine LeO.bind ?_ (fun _ => ?_))
  |exact ih0 _ _ _ _ _ _
  |exact ih1 _ _ _ _ _ _
  |exact ih2 _ _ _ _ _
  |exact ih3 _ _ _ _ _ _ _
  |exact ih4 _ _ _ _ _ _
  |exact ih5 _ _ _ _ _ _ _
  |exact ih6 _ _ _ _ _ _ _
  |exact bursarlaw03_added.mono _ _ _
  |exact bursarlaw03_known.mono _
  |exact bursarlaw03_same.mono _ _ _
  |exact quant_Minus.mono _ _ _
  |exact quant_Of.mono _ _ _
  |exact quant_Valid.mono _ _
  |exact quant_Within.mono _ _ _
  |exact LeO.none _
  |refine LeO.ite ?_ ?_
  |refine LeO.bind ?_ (fun _ => ?_)
def bursarlaw03_QuantAddsUp.T10 : Bool × List (List Nat × List Nat) := (true, [([], []), ([0], [0]), ([], []), ([2], [2]), ([1, 3], [1, 3]), ([], []), ([5, 1], [5]), ([], []), ([7], [7]), ([6, 8], [6, 8]), ([4, 9, 6], [4, 9]), ([10], [10]), ([11], [11]), ([11], [11]), ([12, 10, 0, 1, 2, 3, 4, 5, 6, 7, 8, 9, 10, 11, 12], [12]), ([13, 14, 0, 1, 2, 3, 4, 5, 6, 7, 8, 9, 10, 11, 12, 13, 14], [13])])
def bursarlaw03_QuantAddsUp.B10 : List Nat := [0, 1, 0, 4, 15, 0, 35, 0, 128, 483, 1023, 2047, 4095, 4095, 8191, 32767]
theorem bursarlaw03_QuantAddsUp.tab10 : rtab .any (opsOf Tryz.f14 10) = bursarlaw03_QuantAddsUp.T10 := by kernel_rfl
theorem bursarlaw03_QuantAddsUp.bits10 : waitsOk bursarlaw03_QuantAddsUp.T10.2 bursarlaw03_QuantAddsUp.B10 = true := by kernel_rfl
def bursarlaw03_QuantAddsUp.T17 : Bool × List (List Nat × List Nat) := (true, [([], []), ([], []), ([0, 1], [0, 1]), ([2], [2]), ([3], [3]), ([], []), ([], []), ([5, 6], [5, 6]), ([7], [7]), ([8], [8]), ([4, 9], [4, 9]), ([10], [10]), ([11], [11]), ([11], [11]), ([12, 13, 11], [11, 12, 13]), ([14, 11], [11, 14]), ([15, 11], [11, 15]), ([11], [11]), ([16, 17, 11], [11, 16, 17]), ([11, 18], [11, 18])])
def bursarlaw03_QuantAddsUp.B17 : List Nat := [0, 0, 3, 7, 15, 0, 0, 96, 224, 480, 1023, 2047, 4095, 4095, 16383, 32767, 65535, 4095, 262143, 524287]
theorem bursarlaw03_QuantAddsUp.tab17 : rtab .any (opsOf Tryz.f14 17) = bursarlaw03_QuantAddsUp.T17 := by kernel_rfl
theorem bursarlaw03_QuantAddsUp.bits17 : waitsOk bursarlaw03_QuantAddsUp.T17.2 bursarlaw03_QuantAddsUp.B17 = true := by kernel_rfl
def bursarlaw03_QuantAddsUp.T19 : Bool × List (List Nat × List Nat) := (true, [([], []), ([0], [0]), ([], []), ([2], [2]), ([1, 3], [1, 3]), ([], []), ([5, 1], [5]), ([], []), ([7], [7]), ([6, 8], [6, 8]), ([4, 9, 6], [4, 9]), ([10], [10]), ([11], [11]), ([11], [11]), ([12, 10, 0, 1, 2, 3, 4, 5, 6, 7, 8, 9, 10, 11, 12], [12]), ([13, 14, 0, 1, 2, 3, 4, 5, 6, 7, 8, 9, 10, 11, 12, 13, 14], [13])])
def bursarlaw03_QuantAddsUp.B19 : List Nat := [0, 1, 0, 4, 15, 0, 35, 0, 128, 483, 1023, 2047, 4095, 4095, 8191, 32767]
theorem bursarlaw03_QuantAddsUp.tab19 : rtab .any (opsOf Tryz.f14 19) = bursarlaw03_QuantAddsUp.T19 := by kernel_rfl
theorem bursarlaw03_QuantAddsUp.bits19 : waitsOk bursarlaw03_QuantAddsUp.T19.2 bursarlaw03_QuantAddsUp.B19 = true := by kernel_rfl
def bursarlaw03_QuantAddsUp.T30 : Bool × List (List Nat × List Nat) := (true, [([], []), ([0], [0]), ([], []), ([2], [2]), ([1, 3], [1, 3]), ([], []), ([5, 1], [5]), ([], []), ([7], [7]), ([6, 8], [6, 8]), ([4, 9, 6], [4, 9]), ([10], [10]), ([11], [11]), ([11], [11]), ([12, 10, 0, 1, 2, 3, 4, 5, 6, 7, 8, 9, 10, 11, 12], [12]), ([13, 14, 0, 1, 2, 3, 4, 5, 6, 7, 8, 9, 10, 11, 12, 13, 14], [13])])
def bursarlaw03_QuantAddsUp.B30 : List Nat := [0, 1, 0, 4, 15, 0, 35, 0, 128, 483, 1023, 2047, 4095, 4095, 8191, 32767]
theorem bursarlaw03_QuantAddsUp.tab30 : rtab .any (opsOf Tryz.f14 30) = bursarlaw03_QuantAddsUp.T30 := by kernel_rfl
theorem bursarlaw03_QuantAddsUp.bits30 : waitsOk bursarlaw03_QuantAddsUp.T30.2 bursarlaw03_QuantAddsUp.B30 = true := by kernel_rfl
end Go.Proofs.YtejgbdclhlolkaaGreatDoor.Q
