/- What the statement LabelMatchesUptoCardSaid rests on, part 8 of 8: walks and plain laws; what of the printer's words it leans on. -/
import Derived.Test.YteaiobgnhlpblaaDoorRows
import Derived.Test.YteaiobgnhlpblaaDoorCards
import Derived.Test.YteaiobgnhlpblaaDoorTie
import Derived.Test.YteaiobgnhlpblaaDoorMLMA3
import Derived.Test.YteaiobgnhlpblaaDoorMLMA4
import Derived.Test.YteaiobgnhlpblaaDoorMLMA5
import Derived.Test.YteaiobgnhlpblaaDoorMLMA6
import Derived.Test.YteaiobgnhlpblaaDoorMLMA7
import Derived.Deep.Slices
import Derived.ChangeArms
import Derived.ProofKit
import Derived.WalkKit
import Derived.OpenShut
import Derived.ShutString
import Derived.ChangeOld
import Derived.Below
import Derived.SizedLaws
import Derived.Deep.DeepHandedRow
namespace Go.Proofs.YteaiobgnhlpblaaDoor.Q
open Go.RowKit Go.Proofs.YteaiobgnhlpblaaDoorW.PrintWords Go.Proofs.YteaiobgnhlpblaaDoorW.PrintLast Go.Proofs.YteaiobgnhlpblaaDoorW.PrintMore
attribute [local go_sem] max2_int min2_int max_two min_two max_three min_three max_four min_four   -- for this text's walks alone
set_option linter.unusedVariables false
set_option linter.unusedSimpArgs false
attribute [local go_sem high] eqA51
mutual
def bursarlaw04_LabelMatches.j0 : Nat → List (S45) → List (S51) → List (S45) → List (S51) → Bool → Option (Bool)
 | 0, _, _, _, _, _ => none
 | k + 1, x0, x1, x6, x7, x46 => if x46 = true then (some false) else ((label_Match.f k x6 x7).bind fun bt517 => ((bursarref04_Match.f k x0 x1).bind fun bt519 => (if (bt517.1 != bt519.1) = true then (bursarlaw04_LabelMatches.j1 k x1 x7 true) else (if bt517.2 = bt519.2 then ((bursarlaw04_sameTerms.f k x6 x0).bind fun t521 => (if t521 = true then (bursarlaw04_LabelMatches.j1 k x1 x7 ((x7.length : Int) != (x1.length : Int))) else (bursarlaw04_LabelMatches.j1 k x1 x7 true))) else (bursarlaw04_LabelMatches.j1 k x1 x7 true)))))
def bursarlaw04_LabelMatches.j1 : Nat → List (S51) → List (S51) → Bool → Option (Bool)
 | 0, _, _, _ => none
 | k + 1, x1, x7, x79 => if x79 = true then (some false) else (bursarlaw04_LabelMatches.l0 k x1 x7 0)
def bursarlaw04_LabelMatches.l0 : Nat → List (S51) → List (S51) → Int → Option (Bool)
 | 0, _, _, _ => none
 | k + 1, x1, x7, x14 => if x14 < (x1.length : Int) then (if 0 ≤ x14 then (if x14 < (x7.length : Int) then (if (!((((rd_T51 x7 x14).f0).toList) == (((rd_T51 x1 x14).f0).toList)) || (!((((rd_T51 x7 x14).f1).toList) == (((rd_T51 x1 x14).f1).toList)))) = true then (some false) else (bursarlaw04_LabelMatches.l0 k x1 x7 (wrap64 (x14 + 1)))) else (none)) else (none)) else (some true)
end
def bursarlaw04_LabelMatches.f (k : Nat) (l0 : List (S45)) (l1 : List (S51)) : Option (Bool) := (bursarlaw04_fixed.f k).bind fun t504 => (if t504 = true then ((bursarlaw04_own.f k l0).bind fun t505 => (if ([] : List (S51)).length + l1.length < 4398046511104 then ((some (([] : List (S51)) ++ l1 : List (S51))).bind fun y508 => ((label_Print.f k t505).bind fun bt511 => ((bursarref04_Print.f k l0).bind fun bt513 => (if bt511.1.toList = bt513.1.toList then (if bt511.2 = bt513.2 then ((label_Valid.f k y508).bind fun t515 => ((bursarref04_Valid.f k l1).bind fun t516 => (bursarlaw04_LabelMatches.j0 k l0 l1 t505 y508 (t515 != t516)))) else (bursarlaw04_LabelMatches.j0 k l0 l1 t505 y508 true)) else (bursarlaw04_LabelMatches.j0 k l0 l1 t505 y508 true))))) else (none))) else (some false))
theorem bursarlaw04_LabelMatches.mono_l : ∀ k, (∀ y0 y1 y2 y3 y4, LeO (bursarlaw04_LabelMatches.j0 k y0 y1 y2 y3 y4) (bursarlaw04_LabelMatches.j0 (k + 1) y0 y1 y2 y3 y4)) ∧ (∀ y0 y1 y2, LeO (bursarlaw04_LabelMatches.j1 k y0 y1 y2) (bursarlaw04_LabelMatches.j1 (k + 1) y0 y1 y2)) ∧ (∀ y0 y1 y2, LeO (bursarlaw04_LabelMatches.l0 k y0 y1 y2) (bursarlaw04_LabelMatches.l0 (k + 1) y0 y1 y2))
 | 0 => ⟨fun _ _ _ _ _ r h => by simp [bursarlaw04_LabelMatches.j0] at h, fun _ _ _ r h => by simp [bursarlaw04_LabelMatches.j1] at h, fun _ _ _ r h => by simp [bursarlaw04_LabelMatches.l0] at h⟩
 | k + 1 => by
  obtain ⟨ih0, ih1, ih2⟩ := bursarlaw04_LabelMatches.mono_l k
  refine ⟨?_, ?_, ?_⟩
  ·intro y0 y1 y2 y3 y4
   unfold bursarlaw04_LabelMatches.j0
   repeat' first
   | (with_reducible exact ih0 _ _ _ _ _)
   | (with_reducible exact ih1 _ _ _)
   | (with_reducible exact ih2 _ _ _)
   | (with_reducible exact bursarlaw04_fixed.mono _)
   | (with_reducible exact bursarlaw04_own.mono _ _)
   | (with_reducible exact bursarlaw04_sameTerms.mono _ _ _)
   | (with_reducible exact bursarref04_Match.mono _ _ _)
   | (with_reducible exact bursarref04_Print.mono _ _)
   | (with_reducible exact bursarref04_Valid.mono _ _)
   | (with_reducible exact label_Match.mono _ _ _)
   | (with_reducible exact label_Print.mono _ _)
   | (with_reducible exact label_Valid.mono _ _)
   | (with_reducible exact LeO.refl _)
   | (with_reducible exact LeO.none _)
   | (with_reducible refine LeO.ite ?_ ?_)
   | (with_reducible refine LeO.bind ?_ (fun _ => ?_))
   | exact ih0 _ _ _ _ _
   | exact ih1 _ _ _
   | exact ih2 _ _ _
   | exact bursarlaw04_fixed.mono _
   | exact bursarlaw04_own.mono _ _
   | exact bursarlaw04_sameTerms.mono _ _ _
   | exact bursarref04_Match.mono _ _ _
   | exact bursarref04_Print.mono _ _
   | exact bursarref04_Valid.mono _ _
   | exact label_Match.mono _ _ _
   | exact label_Print.mono _ _
   | exact label_Valid.mono _ _
   | exact LeO.none _
   | refine LeO.ite ?_ ?_
   | refine LeO.bind ?_ (fun _ => ?_)
  ·intro y0 y1 y2
   unfold bursarlaw04_LabelMatches.j1
   repeat' first
   | (with_reducible exact ih0 _ _ _ _ _)
   | (with_reducible exact ih1 _ _ _)
   | (with_reducible exact ih2 _ _ _)
   | (with_reducible exact bursarlaw04_fixed.mono _)
   | (with_reducible exact bursarlaw04_own.mono _ _)
   | (with_reducible exact bursarlaw04_sameTerms.mono _ _ _)
   | (with_reducible exact bursarref04_Match.mono _ _ _)
   | (with_reducible exact bursarref04_Print.mono _ _)
   | (with_reducible exact bursarref04_Valid.mono _ _)
   | (with_reducible exact label_Match.mono _ _ _)
   | (with_reducible exact label_Print.mono _ _)
   | (with_reducible exact label_Valid.mono _ _)
   | (with_reducible exact LeO.refl _)
   | (with_reducible exact LeO.none _)
   | (with_reducible refine LeO.ite ?_ ?_)
   | (with_reducible refine LeO.bind ?_ (fun _ => ?_))
   | exact ih0 _ _ _ _ _
   | exact ih1 _ _ _
   | exact ih2 _ _ _
   | exact bursarlaw04_fixed.mono _
   | exact bursarlaw04_own.mono _ _
   | exact bursarlaw04_sameTerms.mono _ _ _
   | exact bursarref04_Match.mono _ _ _
   | exact bursarref04_Print.mono _ _
   | exact bursarref04_Valid.mono _ _
   | exact label_Match.mono _ _ _
   | exact label_Print.mono _ _
   | exact label_Valid.mono _ _
   | exact LeO.none _
   | refine LeO.ite ?_ ?_
   | refine LeO.bind ?_ (fun _ => ?_)
  ·intro y0 y1 y2
   unfold bursarlaw04_LabelMatches.l0
   repeat' first
   | (with_reducible exact ih0 _ _ _ _ _)
   | (with_reducible exact ih1 _ _ _)
   | (with_reducible exact ih2 _ _ _)
   | (with_reducible exact bursarlaw04_fixed.mono _)
   | (with_reducible exact bursarlaw04_own.mono _ _)
   | (with_reducible exact bursarlaw04_sameTerms.mono _ _ _)
   | (with_reducible exact bursarref04_Match.mono _ _ _)
   | (with_reducible exact bursarref04_Print.mono _ _)
   | (with_reducible exact bursarref04_Valid.mono _ _)
   | (with_reducible exact label_Match.mono _ _ _)
   | (with_reducible exact label_Print.mono _ _)
   | (with_reducible exact label_Valid.mono _ _)
   | (with_reducible exact LeO.refl _)
   | (with_reducible exact LeO.none _)
   | (with_reducible refine LeO.ite ?_ ?_)
   | (with_reducible refine LeO.bind ?_ (fun _ => ?_))
   | exact ih0 _ _ _ _ _
   | exact ih1 _ _ _
   | exact ih2 _ _ _
   | exact bursarlaw04_fixed.mono _
   | exact bursarlaw04_own.mono _ _
   | exact bursarlaw04_sameTerms.mono _ _ _
   | exact bursarref04_Match.mono _ _ _
   | exact bursarref04_Print.mono _ _
   | exact bursarref04_Valid.mono _ _
   | exact label_Match.mono _ _ _
   | exact label_Print.mono _ _
   | exact label_Valid.mono _ _
   | exact LeO.none _
   | refine LeO.ite ?_ ?_
   | refine LeO.bind ?_ (fun _ => ?_)
theorem bursarlaw04_LabelMatches.mono : ∀ a0 a1 k, LeO (bursarlaw04_LabelMatches.f k a0 a1) (bursarlaw04_LabelMatches.f (k + 1) a0 a1) := by
 intro a0 a1 k
 obtain ⟨ih0, ih1, ih2⟩ := bursarlaw04_LabelMatches.mono_l k
 unfold bursarlaw04_LabelMatches.f
 repeat' first
   | (with_reducible exact ih0 _ _ _ _ _)
   | (with_reducible exact ih1 _ _ _)
   | (with_reducible exact ih2 _ _ _)
   | (with_reducible exact bursarlaw04_fixed.mono _)
   | (with_reducible exact bursarlaw04_own.mono _ _)
   | (with_reducible exact bursarlaw04_sameTerms.mono _ _ _)
   | (with_reducible exact bursarref04_Match.mono _ _ _)
   | (with_reducible exact bursarref04_Print.mono _ _)
   | (with_reducible exact bursarref04_Valid.mono _ _)
   | (with_reducible exact label_Match.mono _ _ _)
   | (with_reducible exact label_Print.mono _ _)
   | (with_reducible exact label_Valid.mono _ _)
   | (with_reducible exact LeO.refl _)
   | (with_reducible exact LeO.none _)
   | (with_reducible refine LeO.ite ?_ ?_)
   | (with_reducible refine LeO.bind ?_ (fun _ => ?_))
   | exact ih0 _ _ _ _ _
   | exact ih1 _ _ _
   | exact ih2 _ _ _
   | exact bursarlaw04_fixed.mono _
   | exact bursarlaw04_own.mono _ _
   | exact bursarlaw04_sameTerms.mono _ _ _
   | exact bursarref04_Match.mono _ _ _
   | exact bursarref04_Print.mono _ _
   | exact bursarref04_Valid.mono _ _
   | exact label_Match.mono _ _ _
   | exact label_Print.mono _ _
   | exact label_Valid.mono _ _
   | exact LeO.none _
   | refine LeO.ite ?_ ?_
   | refine LeO.bind ?_ (fun _ => ?_)
set_option maxHeartbeats 8000000 in
set_option maxRecDepth 100000 in
theorem bursarlaw04_LabelMatches.calls (k : Nat) (A0 : Option Addr) (c0 : Nat) (l0 : List (S45)) (A1 : Option Addr) (c1 : Nat) (l1 : List (S51)) (r : Bool) (w : World) (hr0 : Kd.C k45 w A0 l0.length l0) (hc0 : l0.length ≤ c0) (hr1 : Kd.C k51 w A1 l1.length l1) (hc1 : l1.length ≤ c1) (h : bursarlaw04_LabelMatches.f k l0 l1 = some r) (hG : Glob w) :
  Calls Tryd.prog 10 #[.slice A0 l0.length c0, .slice A1 l1.length c1] w fun e w' => e = .returned (.bool r) ∧ Below w.heap.size w w' := by
 have hu51 := Tryd.underlying51
 have HR0 := Aside0.mk hr0
 have HC0 := Aside0.mk hc0
 clear hr0 hc0
 have HR1 := Aside0.mk hr1
 have HC1 := Aside0.mk hc1
 clear hr1 hc1
 have HB := Aside0.mk (Below.refl w.heap.size w)
 have H : ((bursarlaw04_fixed.f k).bind fun t504 => (if t504 = true then ((bursarlaw04_own.f k l0).bind fun t505 => (if ([] : List (S51)).length + l1.length < 4398046511104 then ((some (([] : List (S51)) ++ l1 : List (S51))).bind fun y508 => ((label_Print.f k t505).bind fun bt511 => ((bursarref04_Print.f k l0).bind fun bt513 => (if bt511.1.toList = bt513.1.toList then (if bt511.2 = bt513.2 then ((label_Valid.f k y508).bind fun t515 => ((bursarref04_Valid.f k l1).bind fun t516 => (bursarlaw04_LabelMatches.j0 k l0 l1 t505 y508 (t515 != t516)))) else (bursarlaw04_LabelMatches.j0 k l0 l1 t505 y508 true)) else (bursarlaw04_LabelMatches.j0 k l0 l1 t505 y508 true))))) else (none))) else (some false))) = some r := h
 clear h
 replace H := Option.bind_eq_some_iff.mp H
 obtain ⟨t504, A30, H⟩ := H
 replace H : (if t504 = true then ((bursarlaw04_own.f k l0).bind fun t505 => (if ([] : List (S51)).length + l1.length < 4398046511104 then ((some (([] : List (S51)) ++ l1 : List (S51))).bind fun y508 => ((label_Print.f k t505).bind fun bt511 => ((bursarref04_Print.f k l0).bind fun bt513 => (if bt511.1.toList = bt513.1.toList then (if bt511.2 = bt513.2 then ((label_Valid.f k y508).bind fun t515 => ((bursarref04_Valid.f k l1).bind fun t516 => (bursarlaw04_LabelMatches.j0 k l0 l1 t505 y508 (t515 != t516)))) else (bursarlaw04_LabelMatches.j0 k l0 l1 t505 y508 true)) else (bursarlaw04_LabelMatches.j0 k l0 l1 t505 y508 true))))) else (none))) else (some false)) = some r := H
 have A3 := Aside0.mk A30
 clear A30
 by_cases c4 : t504 = true
 ·subst c4
  have H1 : ((bursarlaw04_own.f k l0).bind fun t505 => (if ([] : List (S51)).length + l1.length < 4398046511104 then ((some (([] : List (S51)) ++ l1 : List (S51))).bind fun y508 => ((label_Print.f k t505).bind fun bt511 => ((bursarref04_Print.f k l0).bind fun bt513 => (if bt511.1.toList = bt513.1.toList then (if bt511.2 = bt513.2 then ((label_Valid.f k y508).bind fun t515 => ((bursarref04_Valid.f k l1).bind fun t516 => (bursarlaw04_LabelMatches.j0 k l0 l1 t505 y508 (t515 != t516)))) else (bursarlaw04_LabelMatches.j0 k l0 l1 t505 y508 true)) else (bursarlaw04_LabelMatches.j0 k l0 l1 t505 y508 true))))) else (none))) = some r := by rw [if_pos rfl] at H; exact H
  clear H
  have H := H1
  clear H1
  replace H := Option.bind_eq_some_iff.mp H
  obtain ⟨t505, A50, H⟩ := H
  replace H : (if ([] : List (S51)).length + l1.length < 4398046511104 then ((some (([] : List (S51)) ++ l1 : List (S51))).bind fun y508 => ((label_Print.f k t505).bind fun bt511 => ((bursarref04_Print.f k l0).bind fun bt513 => (if bt511.1.toList = bt513.1.toList then (if bt511.2 = bt513.2 then ((label_Valid.f k y508).bind fun t515 => ((bursarref04_Valid.f k l1).bind fun t516 => (bursarlaw04_LabelMatches.j0 k l0 l1 t505 y508 (t515 != t516)))) else (bursarlaw04_LabelMatches.j0 k l0 l1 t505 y508 true)) else (bursarlaw04_LabelMatches.j0 k l0 l1 t505 y508 true))))) else (none)) = some r := H
  have A5 := Aside0.mk A50
  clear A50
  by_cases c6 : ([] : List (S51)).length + l1.length < 4398046511104
  ·rw [if_pos c6] at H
   have LMc6 := Aside0.mk c6
   clear c6
   obtain ⟨y508, hy508⟩ : ∃ y_ : List (S51), y_ = (([] : List (S51)) ++ l1) := ⟨_, rfl⟩
   replace H : ((label_Print.f k t505).bind fun bt511 => ((bursarref04_Print.f k l0).bind fun bt513 => (if bt511.1.toList = bt513.1.toList then (if bt511.2 = bt513.2 then ((label_Valid.f k y508).bind fun t515 => ((bursarref04_Valid.f k l1).bind fun t516 => (bursarlaw04_LabelMatches.j0 k l0 l1 t505 y508 (t515 != t516)))) else (bursarlaw04_LabelMatches.j0 k l0 l1 t505 y508 true)) else (bursarlaw04_LabelMatches.j0 k l0 l1 t505 y508 true)))) = some r := by first | (rw [hy508]; with_reducible exact H) | (have H2_ := (Option.bind_some _ _).symm.trans H; rw [hy508]; with_reducible exact H2_) | (have H2_ := (Option.bind_some _ _).symm.trans H; with_reducible exact H2_) | with_reducible exact H | (rw [hy508]; exact H) | exact H
   have Ny508 := Aside0.mk hy508
   clear hy508
   replace H := Option.bind_eq_some_iff.mp H
   obtain ⟨⟨t511, t512⟩, A70, H⟩ := H
   replace H : ((bursarref04_Print.f k l0).bind fun bt513 => (if t511.toList = bt513.1.toList then (if t512 = bt513.2 then ((label_Valid.f k y508).bind fun t515 => ((bursarref04_Valid.f k l1).bind fun t516 => (bursarlaw04_LabelMatches.j0 k l0 l1 t505 y508 (t515 != t516)))) else (bursarlaw04_LabelMatches.j0 k l0 l1 t505 y508 true)) else (bursarlaw04_LabelMatches.j0 k l0 l1 t505 y508 true))) = some r := H
   have A7 := Aside0.mk A70
   clear A70
   replace H := Option.bind_eq_some_iff.mp H
   obtain ⟨⟨t513, t514⟩, A80, H⟩ := H
   replace H : (if t511.toList = t513.toList then (if t512 = t514 then ((label_Valid.f k y508).bind fun t515 => ((bursarref04_Valid.f k l1).bind fun t516 => (bursarlaw04_LabelMatches.j0 k l0 l1 t505 y508 (t515 != t516)))) else (bursarlaw04_LabelMatches.j0 k l0 l1 t505 y508 true)) else (bursarlaw04_LabelMatches.j0 k l0 l1 t505 y508 true)) = some r := H
   have A8 := Aside0.mk A80
   clear A80
   have HC9 := Aside0.mk H
   clear H
   go_enter Tryd.func10, Tryd.ntmps10
   go_upto_region 8 with (first | (go_at_call 12; (with_reducible refine (bursarlaw04_fixed.calls k  true _ A3.out (Glob.below hG (by repeat (first | (with_reducible first | exact HB.out | apply below_alloc | apply pw_below_drewN | apply below_drew1) | exact HB.out)))).mono ?_); rintro e w10 ⟨rfl, hb⟩; have n0_ := Aside0.mk (below_step (by repeat (first | (with_reducible first | exact HB.out | apply below_alloc | apply pw_below_drewN | apply below_drew1) | exact HB.out)) hb); clear HB; have HB := n0_; clear n0_; (try clear hb); (try clear hb2); (try clear hk); (try clear hi)) | (go_at_call 17; (with_reducible refine (bursarlaw04_own.calls k _ _ l0 t505 _ ?side1 ?side2 A5.out).mono ?_); (case side1 => repeat (first | exact (Kd.C_below HR0.out HB.out) | (with_reducible refine Kd.C_alloc ?_ _) | (with_reducible refine Kd.C_drewN ?_ _) | (with_reducible refine Kd.C_drew ?_))); (case side2 => exact HC0.out); rintro e w11 ⟨v506, rfl, ho0, hb⟩; have n0_ := Aside0.mk (Kd.S_lower ho0 (below_size (by repeat (first | (with_reducible first | exact HB.out | apply below_alloc | apply pw_below_drewN | apply below_drew1) | exact HB.out)))); have n1_ := Aside0.mk (below_step (by repeat (first | (with_reducible first | exact HB.out | apply below_alloc | apply pw_below_drewN | apply below_drew1) | exact HB.out)) hb); clear HB; have HO507 := n0_; have HB := n1_; clear n0_ n1_; (try clear hb); (try clear hb2); (try clear hk); (try clear hi); (try clear ho0)) | ((with_reducible refine gate_builtin (b := .append) (xs := #[.const (.slice none 0 0), .tmp 20]) rfl ?_); (try (refine gate_guard (by rfl) ?_; dsimp only)); at_builtin; refine Kd.R_append_rows k51 (w0 := w) w.heap.size rfl (.const (.slice none 0 0)) (.tmp 20) 46 51 (.agg #[(.string ⟨#[]⟩), (.string ⟨#[]⟩)]) 32 rfl Tryd.underlying46 info51 rfl (by decide) (by omega) (.slice none 0 0) ([] : List (S51)) l1 _ _ _ (fun _ => True) (fun _ => False) rfl rfl ?aO ?aR (fun _ _ h => h) (fun _ h => h.elim) ?aF ?aB ?aS ?aL ?_; (case aR => repeat (first | exact (Kd.C_below HR1.out HB.out) | (with_reducible refine Kd.C_alloc ?_ _) | (with_reducible refine Kd.C_drewN ?_ _) | (with_reducible refine Kd.C_drew ?_))); (case aB => exact (by repeat (first | (with_reducible first | exact HB.out | apply below_alloc | apply pw_below_drewN | apply below_drew1) | exact HB.out))); (case aF => exact (fun _ _ => trivial)); (case aO => exact ((Kd.R_nil _ _ _ _ (fun _ => True)))); (case aS => exact (below_size (by repeat (first | (with_reducible first | exact HB.out | apply below_alloc | apply pw_below_drewN | apply below_drew1) | exact HB.out)))); (case aL => have := LMc6.out; omega); intro v509 w12 ho hb hg hat; rw [← Ny508.out] at ho; have n0_ := Aside0.mk (Kd.S_grown (by (with_reducible repeat (first | apply Kd.S_alloc | apply Kd.S_drewN | apply Kd.S_drew)); exact HO507.out) hg (fun _ _ => by simp [Value.ownBlock])); have n1_ := Aside0.mk (hb); have n2_ := Aside0.mk (ho); clear HO507; clear HB; have HO507 := n0_; have HB := n1_; have HO510 := n2_; clear n0_ n1_ n2_; clear ho hb hg hat; obtain ⟨Ao13, co13, eo13⟩ := Kd.S_slice HO507.out; subst eo13) | (go_at_call 16; (with_reducible refine (label_Print.calls k _ _ t505 t511 t512 _ ?side1 ?side2 A7.out).mono ?_); (case side1 => repeat (first | exact (Kd.S_reads' HO507.out).2.2 | (with_reducible refine Kd.C_alloc ?_ _) | (with_reducible refine Kd.C_drewN ?_ _) | (with_reducible refine Kd.C_drew ?_))); (case side2 => exact (Kd.S_reads' HO507.out).2.1); rintro e w14 ⟨rfl, hb⟩; have n0_ := Aside0.mk (Kd.S_below (by (with_reducible repeat (first | apply Kd.S_alloc | apply Kd.S_drewN | apply Kd.S_drew)); exact HO507.out) hb); have n1_ := Aside0.mk (Kd.R_below (by (with_reducible repeat (first | apply Kd.R_alloc | apply Kd.R_drewN | apply Kd.R_drew)); exact HO510.out) hb); have n2_ := Aside0.mk (below_step (by repeat (first | (with_reducible first | exact HB.out | apply below_alloc | apply pw_below_drewN | apply below_drew1) | exact HB.out)) hb); clear HO507; clear HO510; clear HB; have HO507 := n0_; have HO510 := n1_; have HB := n2_; clear n0_ n1_ n2_; (try clear hb); (try clear hb2); (try clear hk); (try clear hi)) | (go_at_call 34; (with_reducible refine (bursarref04_Print.calls k _ _ l0 t513 t514 _ ?side1 ?side2 A8.out).mono ?_); (case side1 => repeat (first | exact (Kd.C_below HR0.out HB.out) | (with_reducible refine Kd.C_alloc ?_ _) | (with_reducible refine Kd.C_drewN ?_ _) | (with_reducible refine Kd.C_drew ?_))); (case side2 => exact HC0.out); rintro e w15 ⟨rfl, hb⟩; have n0_ := Aside0.mk (Kd.S_below (by (with_reducible repeat (first | apply Kd.S_alloc | apply Kd.S_drewN | apply Kd.S_drew)); exact HO507.out) hb); have n1_ := Aside0.mk (Kd.R_below (by (with_reducible repeat (first | apply Kd.R_alloc | apply Kd.R_drewN | apply Kd.R_drew)); exact HO510.out) hb); have n2_ := Aside0.mk (below_step (by repeat (first | (with_reducible first | exact HB.out | apply below_alloc | apply pw_below_drewN | apply below_drew1) | exact HB.out)) hb); clear HO507; clear HO510; clear HB; have HO507 := n0_; have HO510 := n1_; have HB := n2_; clear n0_ n1_ n2_; (try clear hb); (try clear hb2); (try clear hk); (try clear hi)))
   repeat (go_quiet (first | (go_at_call 12; (with_reducible refine (bursarlaw04_fixed.calls k  true _ A3.out (Glob.below hG (by repeat (first | (with_reducible first | exact HB.out | apply below_alloc | apply pw_below_drewN | apply below_drew1) | exact HB.out)))).mono ?_); rintro e w10 ⟨rfl, hb⟩; have n0_ := Aside0.mk (below_step (by repeat (first | (with_reducible first | exact HB.out | apply below_alloc | apply pw_below_drewN | apply below_drew1) | exact HB.out)) hb); clear HB; have HB := n0_; clear n0_; (try clear hb); (try clear hb2); (try clear hk); (try clear hi)) | (go_at_call 17; (with_reducible refine (bursarlaw04_own.calls k _ _ l0 t505 _ ?side1 ?side2 A5.out).mono ?_); (case side1 => repeat (first | exact (Kd.C_below HR0.out HB.out) | (with_reducible refine Kd.C_alloc ?_ _) | (with_reducible refine Kd.C_drewN ?_ _) | (with_reducible refine Kd.C_drew ?_))); (case side2 => exact HC0.out); rintro e w11 ⟨v506, rfl, ho0, hb⟩; have n0_ := Aside0.mk (Kd.S_lower ho0 (below_size (by repeat (first | (with_reducible first | exact HB.out | apply below_alloc | apply pw_below_drewN | apply below_drew1) | exact HB.out)))); have n1_ := Aside0.mk (below_step (by repeat (first | (with_reducible first | exact HB.out | apply below_alloc | apply pw_below_drewN | apply below_drew1) | exact HB.out)) hb); clear HB; have HO507 := n0_; have HB := n1_; clear n0_ n1_; (try clear hb); (try clear hb2); (try clear hk); (try clear hi); (try clear ho0)) | ((with_reducible refine gate_builtin (b := .append) (xs := #[.const (.slice none 0 0), .tmp 20]) rfl ?_); (try (refine gate_guard (by rfl) ?_; dsimp only)); at_builtin; refine Kd.R_append_rows k51 (w0 := w) w.heap.size rfl (.const (.slice none 0 0)) (.tmp 20) 46 51 (.agg #[(.string ⟨#[]⟩), (.string ⟨#[]⟩)]) 32 rfl Tryd.underlying46 info51 rfl (by decide) (by omega) (.slice none 0 0) ([] : List (S51)) l1 _ _ _ (fun _ => True) (fun _ => False) rfl rfl ?aO ?aR (fun _ _ h => h) (fun _ h => h.elim) ?aF ?aB ?aS ?aL ?_; (case aR => repeat (first | exact (Kd.C_below HR1.out HB.out) | (with_reducible refine Kd.C_alloc ?_ _) | (with_reducible refine Kd.C_drewN ?_ _) | (with_reducible refine Kd.C_drew ?_))); (case aB => exact (by repeat (first | (with_reducible first | exact HB.out | apply below_alloc | apply pw_below_drewN | apply below_drew1) | exact HB.out))); (case aF => exact (fun _ _ => trivial)); (case aO => exact ((Kd.R_nil _ _ _ _ (fun _ => True)))); (case aS => exact (below_size (by repeat (first | (with_reducible first | exact HB.out | apply below_alloc | apply pw_below_drewN | apply below_drew1) | exact HB.out)))); (case aL => have := LMc6.out; omega); intro v509 w12 ho hb hg hat; rw [← Ny508.out] at ho; have n0_ := Aside0.mk (Kd.S_grown (by (with_reducible repeat (first | apply Kd.S_alloc | apply Kd.S_drewN | apply Kd.S_drew)); exact HO507.out) hg (fun _ _ => by simp [Value.ownBlock])); have n1_ := Aside0.mk (hb); have n2_ := Aside0.mk (ho); clear HO507; clear HB; have HO507 := n0_; have HB := n1_; have HO510 := n2_; clear n0_ n1_ n2_; clear ho hb hg hat; obtain ⟨Ao13, co13, eo13⟩ := Kd.S_slice HO507.out; subst eo13) | (go_at_call 16; (with_reducible refine (label_Print.calls k _ _ t505 t511 t512 _ ?side1 ?side2 A7.out).mono ?_); (case side1 => repeat (first | exact (Kd.S_reads' HO507.out).2.2 | (with_reducible refine Kd.C_alloc ?_ _) | (with_reducible refine Kd.C_drewN ?_ _) | (with_reducible refine Kd.C_drew ?_))); (case side2 => exact (Kd.S_reads' HO507.out).2.1); rintro e w14 ⟨rfl, hb⟩; have n0_ := Aside0.mk (Kd.S_below (by (with_reducible repeat (first | apply Kd.S_alloc | apply Kd.S_drewN | apply Kd.S_drew)); exact HO507.out) hb); have n1_ := Aside0.mk (Kd.R_below (by (with_reducible repeat (first | apply Kd.R_alloc | apply Kd.R_drewN | apply Kd.R_drew)); exact HO510.out) hb); have n2_ := Aside0.mk (below_step (by repeat (first | (with_reducible first | exact HB.out | apply below_alloc | apply pw_below_drewN | apply below_drew1) | exact HB.out)) hb); clear HO507; clear HO510; clear HB; have HO507 := n0_; have HO510 := n1_; have HB := n2_; clear n0_ n1_ n2_; (try clear hb); (try clear hb2); (try clear hk); (try clear hi)) | (go_at_call 34; (with_reducible refine (bursarref04_Print.calls k _ _ l0 t513 t514 _ ?side1 ?side2 A8.out).mono ?_); (case side1 => repeat (first | exact (Kd.C_below HR0.out HB.out) | (with_reducible refine Kd.C_alloc ?_ _) | (with_reducible refine Kd.C_drewN ?_ _) | (with_reducible refine Kd.C_drew ?_))); (case side2 => exact HC0.out); rintro e w15 ⟨rfl, hb⟩; have n0_ := Aside0.mk (Kd.S_below (by (with_reducible repeat (first | apply Kd.S_alloc | apply Kd.S_drewN | apply Kd.S_drew)); exact HO507.out) hb); have n1_ := Aside0.mk (Kd.R_below (by (with_reducible repeat (first | apply Kd.R_alloc | apply Kd.R_drewN | apply Kd.R_drew)); exact HO510.out) hb); have n2_ := Aside0.mk (below_step (by repeat (first | (with_reducible first | exact HB.out | apply below_alloc | apply pw_below_drewN | apply below_drew1) | exact HB.out)) hb); clear HO507; clear HO510; clear HB; have HO507 := n0_; have HO510 := n1_; have HB := n2_; clear n0_ n1_ n2_; (try clear hb); (try clear hb2); (try clear hk); (try clear hi))); go_upto_region 8 with (first | (go_at_call 12; (with_reducible refine (bursarlaw04_fixed.calls k  true _ A3.out (Glob.below hG (by repeat (first | (with_reducible first | exact HB.out | apply below_alloc | apply pw_below_drewN | apply below_drew1) | exact HB.out)))).mono ?_); rintro e w10 ⟨rfl, hb⟩; have n0_ := Aside0.mk (below_step (by repeat (first | (with_reducible first | exact HB.out | apply below_alloc | apply pw_below_drewN | apply below_drew1) | exact HB.out)) hb); clear HB; have HB := n0_; clear n0_; (try clear hb); (try clear hb2); (try clear hk); (try clear hi)) | (go_at_call 17; (with_reducible refine (bursarlaw04_own.calls k _ _ l0 t505 _ ?side1 ?side2 A5.out).mono ?_); (case side1 => repeat (first | exact (Kd.C_below HR0.out HB.out) | (with_reducible refine Kd.C_alloc ?_ _) | (with_reducible refine Kd.C_drewN ?_ _) | (with_reducible refine Kd.C_drew ?_))); (case side2 => exact HC0.out); rintro e w11 ⟨v506, rfl, ho0, hb⟩; have n0_ := Aside0.mk (Kd.S_lower ho0 (below_size (by repeat (first | (with_reducible first | exact HB.out | apply below_alloc | apply pw_below_drewN | apply below_drew1) | exact HB.out)))); have n1_ := Aside0.mk (below_step (by repeat (first | (with_reducible first | exact HB.out | apply below_alloc | apply pw_below_drewN | apply below_drew1) | exact HB.out)) hb); clear HB; have HO507 := n0_; have HB := n1_; clear n0_ n1_; (try clear hb); (try clear hb2); (try clear hk); (try clear hi); (try clear ho0)) | ((with_reducible refine gate_builtin (b := .append) (xs := #[.const (.slice none 0 0), .tmp 20]) rfl ?_); (try (refine gate_guard (by rfl) ?_; dsimp only)); at_builtin; refine Kd.R_append_rows k51 (w0 := w) w.heap.size rfl (.const (.slice none 0 0)) (.tmp 20) 46 51 (.agg #[(.string ⟨#[]⟩), (.string ⟨#[]⟩)]) 32 rfl Tryd.underlying46 info51 rfl (by decide) (by omega) (.slice none 0 0) ([] : List (S51)) l1 _ _ _ (fun _ => True) (fun _ => False) rfl rfl ?aO ?aR (fun _ _ h => h) (fun _ h => h.elim) ?aF ?aB ?aS ?aL ?_; (case aR => repeat (first | exact (Kd.C_below HR1.out HB.out) | (with_reducible refine Kd.C_alloc ?_ _) | (with_reducible refine Kd.C_drewN ?_ _) | (with_reducible refine Kd.C_drew ?_))); (case aB => exact (by repeat (first | (with_reducible first | exact HB.out | apply below_alloc | apply pw_below_drewN | apply below_drew1) | exact HB.out))); (case aF => exact (fun _ _ => trivial)); (case aO => exact ((Kd.R_nil _ _ _ _ (fun _ => True)))); (case aS => exact (below_size (by repeat (first | (with_reducible first | exact HB.out | apply below_alloc | apply pw_below_drewN | apply below_drew1) | exact HB.out)))); (case aL => have := LMc6.out; omega); intro v509 w12 ho hb hg hat; rw [← Ny508.out] at ho; have n0_ := Aside0.mk (Kd.S_grown (by (with_reducible repeat (first | apply Kd.S_alloc | apply Kd.S_drewN | apply Kd.S_drew)); exact HO507.out) hg (fun _ _ => by simp [Value.ownBlock])); have n1_ := Aside0.mk (hb); have n2_ := Aside0.mk (ho); clear HO507; clear HB; have HO507 := n0_; have HB := n1_; have HO510 := n2_; clear n0_ n1_ n2_; clear ho hb hg hat; obtain ⟨Ao13, co13, eo13⟩ := Kd.S_slice HO507.out; subst eo13) | (go_at_call 16; (with_reducible refine (label_Print.calls k _ _ t505 t511 t512 _ ?side1 ?side2 A7.out).mono ?_); (case side1 => repeat (first | exact (Kd.S_reads' HO507.out).2.2 | (with_reducible refine Kd.C_alloc ?_ _) | (with_reducible refine Kd.C_drewN ?_ _) | (with_reducible refine Kd.C_drew ?_))); (case side2 => exact (Kd.S_reads' HO507.out).2.1); rintro e w14 ⟨rfl, hb⟩; have n0_ := Aside0.mk (Kd.S_below (by (with_reducible repeat (first | apply Kd.S_alloc | apply Kd.S_drewN | apply Kd.S_drew)); exact HO507.out) hb); have n1_ := Aside0.mk (Kd.R_below (by (with_reducible repeat (first | apply Kd.R_alloc | apply Kd.R_drewN | apply Kd.R_drew)); exact HO510.out) hb); have n2_ := Aside0.mk (below_step (by repeat (first | (with_reducible first | exact HB.out | apply below_alloc | apply pw_below_drewN | apply below_drew1) | exact HB.out)) hb); clear HO507; clear HO510; clear HB; have HO507 := n0_; have HO510 := n1_; have HB := n2_; clear n0_ n1_ n2_; (try clear hb); (try clear hb2); (try clear hk); (try clear hi)) | (go_at_call 34; (with_reducible refine (bursarref04_Print.calls k _ _ l0 t513 t514 _ ?side1 ?side2 A8.out).mono ?_); (case side1 => repeat (first | exact (Kd.C_below HR0.out HB.out) | (with_reducible refine Kd.C_alloc ?_ _) | (with_reducible refine Kd.C_drewN ?_ _) | (with_reducible refine Kd.C_drew ?_))); (case side2 => exact HC0.out); rintro e w15 ⟨rfl, hb⟩; have n0_ := Aside0.mk (Kd.S_below (by (with_reducible repeat (first | apply Kd.S_alloc | apply Kd.S_drewN | apply Kd.S_drew)); exact HO507.out) hb); have n1_ := Aside0.mk (Kd.R_below (by (with_reducible repeat (first | apply Kd.R_alloc | apply Kd.R_drewN | apply Kd.R_drew)); exact HO510.out) hb); have n2_ := Aside0.mk (below_step (by repeat (first | (with_reducible first | exact HB.out | apply below_alloc | apply pw_below_drewN | apply below_drew1) | exact HB.out)) hb); clear HO507; clear HO510; clear HB; have HO507 := n0_; have HO510 := n1_; have HB := n2_; clear n0_ n1_ n2_; (try clear hb); (try clear hb2); (try clear hk); (try clear hi))))
   (try simp only [Act.put, List.setIfInBounds_toArray, List.set_cons_zero, List.set_cons_succ])
   go_cut [46] (fun v46 wc => ∃ (kq : Nat) (x46_8 : Bool), v46 = .bool x46_8 ∧ Aside0 (bursarlaw04_LabelMatches.j0 kq l0 l1 t505 y508 x46_8 = some r) ∧ Aside0 (kq ≤ k) ∧ Aside0 (Kd.S k45 45 wc w.heap.size (fun _ => True) (.slice Ao13 t505.length co13) t505) ∧ Aside0 (Kd.R k51 51 wc w.heap.size (fun _ => True) v509 y508) ∧ Aside0 (Below w.heap.size w wc))
   case first =>
    have H := HC9.out
    clear HC9
    by_cases c16 : t511.toList = t513.toList
    ·rw [if_pos c16] at H
     have c16b0 : (t511.toList == t513.toList) = true := beq_iff_eq.mpr c16
     have c16b1 : (t511.toList != t513.toList) = false := bne_eq_false_iff_eq.mpr c16
     clear c16
     (first | rw [c16b0] | (simp only [i64_w, i32_w]; rw [c16b0]) | skip)
     by_cases c17 : t512 = t514
     ·rw [if_pos c17] at H
      have c17b0 : (t512 == t514) = true := beq_iff_eq.mpr c17
      have c17b1 : (t512 != t514) = false := bne_eq_false_iff_eq.mpr c17
      clear c17
      replace H := Option.bind_eq_some_iff.mp H
      obtain ⟨t515, A180, H⟩ := H
      replace H : ((bursarref04_Valid.f k l1).bind fun t516 => (bursarlaw04_LabelMatches.j0 k l0 l1 t505 y508 (t515 != t516))) = some r := H
      have A18 := Aside0.mk A180
      clear A180
      replace H := Option.bind_eq_some_iff.mp H
      obtain ⟨t516, A190, H⟩ := H
      replace H : (bursarlaw04_LabelMatches.j0 k l0 l1 t505 y508 (t515 != t516)) = some r := H
      have A19 := Aside0.mk A190
      clear A190
      have H' := Aside0.mk H
      clear H
      obtain ⟨Ao20, co20, eo20⟩ := Kd.R_slice HO510.out
      subst eo20
      go_wp2_with (first | (go_at_call 35; (with_reducible refine (label_Valid.calls k _ _ y508 t515 _ ?side1 ?side2 A18.out).mono ?_); (case side1 => repeat (first | exact (Kd.R_reads' HO510.out).2.2 | (with_reducible refine Kd.C_alloc ?_ _) | (with_reducible refine Kd.C_drewN ?_ _) | (with_reducible refine Kd.C_drew ?_))); (case side2 => exact (Kd.R_reads' HO510.out).2.1); rintro e w21 ⟨rfl, hb⟩; have n0_ := Aside0.mk (Kd.S_below (by (with_reducible repeat (first | apply Kd.S_alloc | apply Kd.S_drewN | apply Kd.S_drew)); exact HO507.out) hb); have n1_ := Aside0.mk (Kd.R_below (by (with_reducible repeat (first | apply Kd.R_alloc | apply Kd.R_drewN | apply Kd.R_drew)); exact HO510.out) hb); have n2_ := Aside0.mk (below_step (by repeat (first | (with_reducible first | exact HB.out | apply below_alloc | apply pw_below_drewN | apply below_drew1) | exact HB.out)) hb); clear HO507; clear HO510; clear HB; have HO507 := n0_; have HO510 := n1_; have HB := n2_; clear n0_ n1_ n2_; (try clear hb); (try clear hb2); (try clear hk); (try clear hi)) | (go_at_call 36; (with_reducible refine (bursarref04_Valid.calls k _ _ l1 t516 _ ?side1 ?side2 A19.out).mono ?_); (case side1 => repeat (first | exact (Kd.C_below HR1.out HB.out) | (with_reducible refine Kd.C_alloc ?_ _) | (with_reducible refine Kd.C_drewN ?_ _) | (with_reducible refine Kd.C_drew ?_))); (case side2 => exact HC1.out); rintro e w22 ⟨rfl, hb⟩; have n0_ := Aside0.mk (Kd.S_below (by (with_reducible repeat (first | apply Kd.S_alloc | apply Kd.S_drewN | apply Kd.S_drew)); exact HO507.out) hb); have n1_ := Aside0.mk (Kd.R_below (by (with_reducible repeat (first | apply Kd.R_alloc | apply Kd.R_drewN | apply Kd.R_drew)); exact HO510.out) hb); have n2_ := Aside0.mk (below_step (by repeat (first | (with_reducible first | exact HB.out | apply below_alloc | apply pw_below_drewN | apply below_drew1) | exact HB.out)) hb); clear HO507; clear HO510; clear HB; have HO507 := n0_; have HO510 := n1_; have HB := n2_; clear n0_ n1_ n2_; (try clear hb); (try clear hb2); (try clear hk); (try clear hi)))
      repeat (go_quiet (first | (go_at_call 35; (with_reducible refine (label_Valid.calls k _ _ y508 t515 _ ?side1 ?side2 A18.out).mono ?_); (case side1 => repeat (first | exact (Kd.R_reads' HO510.out).2.2 | (with_reducible refine Kd.C_alloc ?_ _) | (with_reducible refine Kd.C_drewN ?_ _) | (with_reducible refine Kd.C_drew ?_))); (case side2 => exact (Kd.R_reads' HO510.out).2.1); rintro e w21 ⟨rfl, hb⟩; have n0_ := Aside0.mk (Kd.S_below (by (with_reducible repeat (first | apply Kd.S_alloc | apply Kd.S_drewN | apply Kd.S_drew)); exact HO507.out) hb); have n1_ := Aside0.mk (Kd.R_below (by (with_reducible repeat (first | apply Kd.R_alloc | apply Kd.R_drewN | apply Kd.R_drew)); exact HO510.out) hb); have n2_ := Aside0.mk (below_step (by repeat (first | (with_reducible first | exact HB.out | apply below_alloc | apply pw_below_drewN | apply below_drew1) | exact HB.out)) hb); clear HO507; clear HO510; clear HB; have HO507 := n0_; have HO510 := n1_; have HB := n2_; clear n0_ n1_ n2_; (try clear hb); (try clear hb2); (try clear hk); (try clear hi)) | (go_at_call 36; (with_reducible refine (bursarref04_Valid.calls k _ _ l1 t516 _ ?side1 ?side2 A19.out).mono ?_); (case side1 => repeat (first | exact (Kd.C_below HR1.out HB.out) | (with_reducible refine Kd.C_alloc ?_ _) | (with_reducible refine Kd.C_drewN ?_ _) | (with_reducible refine Kd.C_drew ?_))); (case side2 => exact HC1.out); rintro e w22 ⟨rfl, hb⟩; have n0_ := Aside0.mk (Kd.S_below (by (with_reducible repeat (first | apply Kd.S_alloc | apply Kd.S_drewN | apply Kd.S_drew)); exact HO507.out) hb); have n1_ := Aside0.mk (Kd.R_below (by (with_reducible repeat (first | apply Kd.R_alloc | apply Kd.R_drewN | apply Kd.R_drew)); exact HO510.out) hb); have n2_ := Aside0.mk (below_step (by repeat (first | (with_reducible first | exact HB.out | apply below_alloc | apply pw_below_drewN | apply below_drew1) | exact HB.out)) hb); clear HO507; clear HO510; clear HB; have HO507 := n0_; have HO510 := n1_; have HB := n2_; clear n0_ n1_ n2_; (try clear hb); (try clear hb2); (try clear hk); (try clear hi))); try go_wp2_with (first | (go_at_call 35; (with_reducible refine (label_Valid.calls k _ _ y508 t515 _ ?side1 ?side2 A18.out).mono ?_); (case side1 => repeat (first | exact (Kd.R_reads' HO510.out).2.2 | (with_reducible refine Kd.C_alloc ?_ _) | (with_reducible refine Kd.C_drewN ?_ _) | (with_reducible refine Kd.C_drew ?_))); (case side2 => exact (Kd.R_reads' HO510.out).2.1); rintro e w21 ⟨rfl, hb⟩; have n0_ := Aside0.mk (Kd.S_below (by (with_reducible repeat (first | apply Kd.S_alloc | apply Kd.S_drewN | apply Kd.S_drew)); exact HO507.out) hb); have n1_ := Aside0.mk (Kd.R_below (by (with_reducible repeat (first | apply Kd.R_alloc | apply Kd.R_drewN | apply Kd.R_drew)); exact HO510.out) hb); have n2_ := Aside0.mk (below_step (by repeat (first | (with_reducible first | exact HB.out | apply below_alloc | apply pw_below_drewN | apply below_drew1) | exact HB.out)) hb); clear HO507; clear HO510; clear HB; have HO507 := n0_; have HO510 := n1_; have HB := n2_; clear n0_ n1_ n2_; (try clear hb); (try clear hb2); (try clear hk); (try clear hi)) | (go_at_call 36; (with_reducible refine (bursarref04_Valid.calls k _ _ l1 t516 _ ?side1 ?side2 A19.out).mono ?_); (case side1 => repeat (first | exact (Kd.C_below HR1.out HB.out) | (with_reducible refine Kd.C_alloc ?_ _) | (with_reducible refine Kd.C_drewN ?_ _) | (with_reducible refine Kd.C_drew ?_))); (case side2 => exact HC1.out); rintro e w22 ⟨rfl, hb⟩; have n0_ := Aside0.mk (Kd.S_below (by (with_reducible repeat (first | apply Kd.S_alloc | apply Kd.S_drewN | apply Kd.S_drew)); exact HO507.out) hb); have n1_ := Aside0.mk (Kd.R_below (by (with_reducible repeat (first | apply Kd.R_alloc | apply Kd.R_drewN | apply Kd.R_drew)); exact HO510.out) hb); have n2_ := Aside0.mk (below_step (by repeat (first | (with_reducible first | exact HB.out | apply below_alloc | apply pw_below_drewN | apply below_drew1) | exact HB.out)) hb); clear HO507; clear HO510; clear HB; have HO507 := n0_; have HO510 := n1_; have HB := n2_; clear n0_ n1_ n2_; (try clear hb); (try clear hb2); (try clear hk); (try clear hi))))
      go_meet
      case rel => exact ⟨_, ((t515 != t516)), (by first | rfl | (simp; done) | (simp [*]; done) | (simp; rw [Bool.eq_iff_iff]; simp; done) | (rw [Bool.eq_iff_iff]; simp; done)), H', ⟨by first | omega | exact Nat.le_refl _⟩, ⟨by (with_reducible repeat (first | apply Kd.S_alloc | apply Kd.S_drewN | apply Kd.S_drew)); exact HO507.out⟩, ⟨by (with_reducible repeat (first | apply Kd.R_alloc | apply Kd.R_drewN | apply Kd.R_drew)); exact HO510.out⟩, ⟨by repeat (first | (with_reducible first | exact HB.out | apply below_alloc | apply pw_below_drewN | apply below_drew1) | exact HB.out)⟩⟩
     ·rw [if_neg c17] at H
      have c17b0 : (t512 == t514) = false := beq_eq_false_iff_ne.mpr c17
      have c17b1 : (t512 != t514) = true := bne_iff_ne.mpr c17
      have H' := Aside0.mk H
      clear H
      go_wp2
      repeat (go_quiet (fail); try go_wp2)
      go_meet
      case rel => exact ⟨_, (true), (by first | rfl | (simp; done) | (simp [*]; done) | (simp; rw [Bool.eq_iff_iff]; simp; done) | (rw [Bool.eq_iff_iff]; simp; done)), H', ⟨by first | omega | exact Nat.le_refl _⟩, ⟨by (with_reducible repeat (first | apply Kd.S_alloc | apply Kd.S_drewN | apply Kd.S_drew)); exact HO507.out⟩, ⟨by (with_reducible repeat (first | apply Kd.R_alloc | apply Kd.R_drewN | apply Kd.R_drew)); exact HO510.out⟩, ⟨by repeat (first | (with_reducible first | exact HB.out | apply below_alloc | apply pw_below_drewN | apply below_drew1) | exact HB.out)⟩⟩
    ·rw [if_neg c16] at H
     have c16b0 : (t511.toList == t513.toList) = false := beq_eq_false_iff_ne.mpr c16
     have c16b1 : (t511.toList != t513.toList) = true := bne_iff_ne.mpr c16
     (first | rw [c16b0] | (simp only [i64_w, i32_w]; rw [c16b0]) | skip)
     have H' := Aside0.mk H
     clear H
     go_wp2
     repeat (go_quiet (fail); try go_wp2)
     go_meet
     case rel => exact ⟨_, (true), (by first | rfl | (simp; done) | (simp [*]; done) | (simp; rw [Bool.eq_iff_iff]; simp; done) | (rw [Bool.eq_iff_iff]; simp; done)), H', ⟨by first | omega | exact Nat.le_refl _⟩, ⟨by (with_reducible repeat (first | apply Kd.S_alloc | apply Kd.S_drewN | apply Kd.S_drew)); exact HO507.out⟩, ⟨by (with_reducible repeat (first | apply Kd.R_alloc | apply Kd.R_drewN | apply Kd.R_drew)); exact HO510.out⟩, ⟨by repeat (first | (with_reducible first | exact HB.out | apply below_alloc | apply pw_below_drewN | apply below_drew1) | exact HB.out)⟩⟩
   case rest =>
    clear HC9
    try clear c1
    try clear p2
    try clear c4
    try clear c6
    try clear c10
    try clear c16
    try clear c16b0
    try clear c16b1
    try clear c17
    try clear c17b0
    try clear c17b1
    obtain ⟨kq, x46_8, rfl, HA, HJ8, HO_6, HO_7, HB⟩ := hcut
    cases kq with
    | zero => exact absurd HA.out (by simp [bursarlaw04_LabelMatches.j0])
    | succ kj8 =>
     have H := HA.out
     clear HA
     simp only [bursarlaw04_LabelMatches.j0] at H
     by_cases c23 : x46_8 = true
     ·subst c23
      have H1 : (some false) = some r := by rw [if_pos rfl] at H; exact H
      clear H
      have H := H1
      clear H1
      obtain rfl := Option.some.inj H
      go_wp2
      repeat (go_quiet (fail); try go_wp2)
      go_ret
      exact ⟨by first | rfl | (simp [errW_none, errW_some] <;> rfl) | (simp [*, errW_none, errW_some] <;> rfl), by repeat (first | (with_reducible first | exact HB.out | apply below_alloc | apply pw_below_drewN | apply below_drew1) | exact HB.out)⟩
     ·replace c23 := Bool.eq_false_iff.mpr c23
      subst c23
      have H1 : ((label_Match.f kj8 t505 y508).bind fun bt517 => ((bursarref04_Match.f kj8 l0 l1).bind fun bt519 => (if (bt517.1 != bt519.1) = true then (bursarlaw04_LabelMatches.j1 kj8 l1 y508 true) else (if bt517.2 = bt519.2 then ((bursarlaw04_sameTerms.f kj8 t505 l0).bind fun t521 => (if t521 = true then (bursarlaw04_LabelMatches.j1 kj8 l1 y508 ((y508.length : Int) != (l1.length : Int))) else (bursarlaw04_LabelMatches.j1 kj8 l1 y508 true))) else (bursarlaw04_LabelMatches.j1 kj8 l1 y508 true))))) = some r := by rw [if_neg (show ¬ (false = true) by decide)] at H; exact H
      clear H
      have H := H1
      clear H1
      replace H := Option.bind_eq_some_iff.mp H
      obtain ⟨⟨t517, t518⟩, A240, H⟩ := H
      replace H : ((bursarref04_Match.f kj8 l0 l1).bind fun bt519 => (if (t517 != bt519.1) = true then (bursarlaw04_LabelMatches.j1 kj8 l1 y508 true) else (if t518 = bt519.2 then ((bursarlaw04_sameTerms.f kj8 t505 l0).bind fun t521 => (if t521 = true then (bursarlaw04_LabelMatches.j1 kj8 l1 y508 ((y508.length : Int) != (l1.length : Int))) else (bursarlaw04_LabelMatches.j1 kj8 l1 y508 true))) else (bursarlaw04_LabelMatches.j1 kj8 l1 y508 true)))) = some r := H
      have A24 := Aside0.mk A240
      clear A240
      replace H := Option.bind_eq_some_iff.mp H
      obtain ⟨⟨t519, t520⟩, A250, H⟩ := H
      replace H : (if (t517 != t519) = true then (bursarlaw04_LabelMatches.j1 kj8 l1 y508 true) else (if t518 = t520 then ((bursarlaw04_sameTerms.f kj8 t505 l0).bind fun t521 => (if t521 = true then (bursarlaw04_LabelMatches.j1 kj8 l1 y508 ((y508.length : Int) != (l1.length : Int))) else (bursarlaw04_LabelMatches.j1 kj8 l1 y508 true))) else (bursarlaw04_LabelMatches.j1 kj8 l1 y508 true))) = some r := H
      have A25 := Aside0.mk A250
      clear A250
      have HC26 := Aside0.mk H
      clear H
      obtain ⟨Ao27, co27, eo27⟩ := Kd.R_slice HO_7.out
      subst eo27
      go_upto_region 12 with (first | (go_at_call 37; (with_reducible refine (label_Match.calls kj8 _ _ t505 _ _ y508 t517 t518 _ ?side1 ?side2 ?side3 ?side4 A24.out).mono ?_); (case side1 => repeat (first | exact (Kd.S_reads' HO_6.out).2.2 | (with_reducible refine Kd.C_alloc ?_ _) | (with_reducible refine Kd.C_drewN ?_ _) | (with_reducible refine Kd.C_drew ?_))); (case side2 => exact (Kd.S_reads' HO_6.out).2.1); (case side3 => repeat (first | exact (Kd.R_reads' HO_7.out).2.2 | (with_reducible refine Kd.C_alloc ?_ _) | (with_reducible refine Kd.C_drewN ?_ _) | (with_reducible refine Kd.C_drew ?_))); (case side4 => exact (Kd.R_reads' HO_7.out).2.1); rintro e w28 ⟨rfl, hb⟩; have n0_ := Aside0.mk (Kd.S_below (by (with_reducible repeat (first | apply Kd.S_alloc | apply Kd.S_drewN | apply Kd.S_drew)); exact HO_6.out) hb); have n1_ := Aside0.mk (Kd.R_below (by (with_reducible repeat (first | apply Kd.R_alloc | apply Kd.R_drewN | apply Kd.R_drew)); exact HO_7.out) hb); have n2_ := Aside0.mk (below_step (by repeat (first | (with_reducible first | exact HB.out | apply below_alloc | apply pw_below_drewN | apply below_drew1) | exact HB.out)) hb); clear HO_6; clear HO_7; clear HB; have HO_6 := n0_; have HO_7 := n1_; have HB := n2_; clear n0_ n1_ n2_; (try clear hb); (try clear hb2); (try clear hk); (try clear hi)) | (go_at_call 38; (with_reducible refine (bursarref04_Match.calls kj8 _ _ l0 _ _ l1 t519 t520 _ ?side1 ?side2 ?side3 ?side4 A25.out).mono ?_); (case side1 => repeat (first | exact (Kd.C_below HR0.out HB.out) | (with_reducible refine Kd.C_alloc ?_ _) | (with_reducible refine Kd.C_drewN ?_ _) | (with_reducible refine Kd.C_drew ?_))); (case side2 => exact HC0.out); (case side3 => repeat (first | exact (Kd.C_below HR1.out HB.out) | (with_reducible refine Kd.C_alloc ?_ _) | (with_reducible refine Kd.C_drewN ?_ _) | (with_reducible refine Kd.C_drew ?_))); (case side4 => exact HC1.out); rintro e w29 ⟨rfl, hb⟩; have n0_ := Aside0.mk (Kd.S_below (by (with_reducible repeat (first | apply Kd.S_alloc | apply Kd.S_drewN | apply Kd.S_drew)); exact HO_6.out) hb); have n1_ := Aside0.mk (Kd.R_below (by (with_reducible repeat (first | apply Kd.R_alloc | apply Kd.R_drewN | apply Kd.R_drew)); exact HO_7.out) hb); have n2_ := Aside0.mk (below_step (by repeat (first | (with_reducible first | exact HB.out | apply below_alloc | apply pw_below_drewN | apply below_drew1) | exact HB.out)) hb); clear HO_6; clear HO_7; clear HB; have HO_6 := n0_; have HO_7 := n1_; have HB := n2_; clear n0_ n1_ n2_; (try clear hb); (try clear hb2); (try clear hk); (try clear hi)))
      repeat (go_quiet (first | (go_at_call 37; (with_reducible refine (label_Match.calls kj8 _ _ t505 _ _ y508 t517 t518 _ ?side1 ?side2 ?side3 ?side4 A24.out).mono ?_); (case side1 => repeat (first | exact (Kd.S_reads' HO_6.out).2.2 | (with_reducible refine Kd.C_alloc ?_ _) | (with_reducible refine Kd.C_drewN ?_ _) | (with_reducible refine Kd.C_drew ?_))); (case side2 => exact (Kd.S_reads' HO_6.out).2.1); (case side3 => repeat (first | exact (Kd.R_reads' HO_7.out).2.2 | (with_reducible refine Kd.C_alloc ?_ _) | (with_reducible refine Kd.C_drewN ?_ _) | (with_reducible refine Kd.C_drew ?_))); (case side4 => exact (Kd.R_reads' HO_7.out).2.1); rintro e w28 ⟨rfl, hb⟩; have n0_ := Aside0.mk (Kd.S_below (by (with_reducible repeat (first | apply Kd.S_alloc | apply Kd.S_drewN | apply Kd.S_drew)); exact HO_6.out) hb); have n1_ := Aside0.mk (Kd.R_below (by (with_reducible repeat (first | apply Kd.R_alloc | apply Kd.R_drewN | apply Kd.R_drew)); exact HO_7.out) hb); have n2_ := Aside0.mk (below_step (by repeat (first | (with_reducible first | exact HB.out | apply below_alloc | apply pw_below_drewN | apply below_drew1) | exact HB.out)) hb); clear HO_6; clear HO_7; clear HB; have HO_6 := n0_; have HO_7 := n1_; have HB := n2_; clear n0_ n1_ n2_; (try clear hb); (try clear hb2); (try clear hk); (try clear hi)) | (go_at_call 38; (with_reducible refine (bursarref04_Match.calls kj8 _ _ l0 _ _ l1 t519 t520 _ ?side1 ?side2 ?side3 ?side4 A25.out).mono ?_); (case side1 => repeat (first | exact (Kd.C_below HR0.out HB.out) | (with_reducible refine Kd.C_alloc ?_ _) | (with_reducible refine Kd.C_drewN ?_ _) | (with_reducible refine Kd.C_drew ?_))); (case side2 => exact HC0.out); (case side3 => repeat (first | exact (Kd.C_below HR1.out HB.out) | (with_reducible refine Kd.C_alloc ?_ _) | (with_reducible refine Kd.C_drewN ?_ _) | (with_reducible refine Kd.C_drew ?_))); (case side4 => exact HC1.out); rintro e w29 ⟨rfl, hb⟩; have n0_ := Aside0.mk (Kd.S_below (by (with_reducible repeat (first | apply Kd.S_alloc | apply Kd.S_drewN | apply Kd.S_drew)); exact HO_6.out) hb); have n1_ := Aside0.mk (Kd.R_below (by (with_reducible repeat (first | apply Kd.R_alloc | apply Kd.R_drewN | apply Kd.R_drew)); exact HO_7.out) hb); have n2_ := Aside0.mk (below_step (by repeat (first | (with_reducible first | exact HB.out | apply below_alloc | apply pw_below_drewN | apply below_drew1) | exact HB.out)) hb); clear HO_6; clear HO_7; clear HB; have HO_6 := n0_; have HO_7 := n1_; have HB := n2_; clear n0_ n1_ n2_; (try clear hb); (try clear hb2); (try clear hk); (try clear hi))); go_upto_region 12 with (first | (go_at_call 37; (with_reducible refine (label_Match.calls kj8 _ _ t505 _ _ y508 t517 t518 _ ?side1 ?side2 ?side3 ?side4 A24.out).mono ?_); (case side1 => repeat (first | exact (Kd.S_reads' HO_6.out).2.2 | (with_reducible refine Kd.C_alloc ?_ _) | (with_reducible refine Kd.C_drewN ?_ _) | (with_reducible refine Kd.C_drew ?_))); (case side2 => exact (Kd.S_reads' HO_6.out).2.1); (case side3 => repeat (first | exact (Kd.R_reads' HO_7.out).2.2 | (with_reducible refine Kd.C_alloc ?_ _) | (with_reducible refine Kd.C_drewN ?_ _) | (with_reducible refine Kd.C_drew ?_))); (case side4 => exact (Kd.R_reads' HO_7.out).2.1); rintro e w28 ⟨rfl, hb⟩; have n0_ := Aside0.mk (Kd.S_below (by (with_reducible repeat (first | apply Kd.S_alloc | apply Kd.S_drewN | apply Kd.S_drew)); exact HO_6.out) hb); have n1_ := Aside0.mk (Kd.R_below (by (with_reducible repeat (first | apply Kd.R_alloc | apply Kd.R_drewN | apply Kd.R_drew)); exact HO_7.out) hb); have n2_ := Aside0.mk (below_step (by repeat (first | (with_reducible first | exact HB.out | apply below_alloc | apply pw_below_drewN | apply below_drew1) | exact HB.out)) hb); clear HO_6; clear HO_7; clear HB; have HO_6 := n0_; have HO_7 := n1_; have HB := n2_; clear n0_ n1_ n2_; (try clear hb); (try clear hb2); (try clear hk); (try clear hi)) | (go_at_call 38; (with_reducible refine (bursarref04_Match.calls kj8 _ _ l0 _ _ l1 t519 t520 _ ?side1 ?side2 ?side3 ?side4 A25.out).mono ?_); (case side1 => repeat (first | exact (Kd.C_below HR0.out HB.out) | (with_reducible refine Kd.C_alloc ?_ _) | (with_reducible refine Kd.C_drewN ?_ _) | (with_reducible refine Kd.C_drew ?_))); (case side2 => exact HC0.out); (case side3 => repeat (first | exact (Kd.C_below HR1.out HB.out) | (with_reducible refine Kd.C_alloc ?_ _) | (with_reducible refine Kd.C_drewN ?_ _) | (with_reducible refine Kd.C_drew ?_))); (case side4 => exact HC1.out); rintro e w29 ⟨rfl, hb⟩; have n0_ := Aside0.mk (Kd.S_below (by (with_reducible repeat (first | apply Kd.S_alloc | apply Kd.S_drewN | apply Kd.S_drew)); exact HO_6.out) hb); have n1_ := Aside0.mk (Kd.R_below (by (with_reducible repeat (first | apply Kd.R_alloc | apply Kd.R_drewN | apply Kd.R_drew)); exact HO_7.out) hb); have n2_ := Aside0.mk (below_step (by repeat (first | (with_reducible first | exact HB.out | apply below_alloc | apply pw_below_drewN | apply below_drew1) | exact HB.out)) hb); clear HO_6; clear HO_7; clear HB; have HO_6 := n0_; have HO_7 := n1_; have HB := n2_; clear n0_ n1_ n2_; (try clear hb); (try clear hb2); (try clear hk); (try clear hi))))
      (try simp only [Act.put, List.setIfInBounds_toArray, List.set_cons_zero, List.set_cons_succ])
      go_cut [79] (fun v79 wc => ∃ (kq : Nat) (x79_25 : Bool), v79 = .bool x79_25 ∧ Aside0 (bursarlaw04_LabelMatches.j1 kq l1 y508 x79_25 = some r) ∧ Aside0 (kq ≤ kj8) ∧ Aside0 (Kd.R k51 51 wc w.heap.size (fun _ => True) (.slice Ao27 y508.length co27) y508) ∧ Aside0 (Below w.heap.size w wc))
      case first =>
       have H := HC26.out
       clear HC26
       by_cases c30 : (t517 != t519) = true
       ·rw [if_pos c30] at H
        have c30b0 : (t517 != t519) = true := c30
        (try (have c30b1 : decide (t517 = t519) = false := by simpa using c30))
        (try (have c30b2 : (t517 == t519) = false := by simpa using c30))
        (try (have c30b3 : ¬ (t517 = t519) := by simpa using c30))
        clear c30
        (first | rw [c30b0] | (simp only [i64_w, i32_w]; rw [c30b0]) | skip)
        have H' := Aside0.mk H
        clear H
        go_wp2
        repeat (go_quiet (fail); try go_wp2)
        go_meet
        case rel => exact ⟨_, (true), (by first | rfl | (simp; done) | (simp [*]; done) | (simp; rw [Bool.eq_iff_iff]; simp; done) | (rw [Bool.eq_iff_iff]; simp; done)), H', ⟨by have := HJ8.out; first | omega | exact Nat.le_refl _⟩, ⟨by (with_reducible repeat (first | apply Kd.R_alloc | apply Kd.R_drewN | apply Kd.R_drew)); exact HO_7.out⟩, ⟨by repeat (first | (with_reducible first | exact HB.out | apply below_alloc | apply pw_below_drewN | apply below_drew1) | exact HB.out)⟩⟩
       ·rw [if_neg c30] at H
        have c30b0 : (t517 != t519) = false := by simpa using c30
        (try (have c30b1 : decide (t517 = t519) = true := by simpa using c30))
        (try (have c30b2 : (t517 == t519) = true := by simpa using c30))
        clear c30
        (first | rw [c30b0] | (simp only [i64_w, i32_w]; rw [c30b0]) | skip)
        by_cases c31 : t518 = t520
        ·rw [if_pos c31] at H
         have c31b0 : (t518 == t520) = true := beq_iff_eq.mpr c31
         have c31b1 : (t518 != t520) = false := bne_eq_false_iff_eq.mpr c31
         clear c31
         replace H := Option.bind_eq_some_iff.mp H
         obtain ⟨t521, A320, H⟩ := H
         replace H : (if t521 = true then (bursarlaw04_LabelMatches.j1 kj8 l1 y508 ((y508.length : Int) != (l1.length : Int))) else (bursarlaw04_LabelMatches.j1 kj8 l1 y508 true)) = some r := H
         have A32 := Aside0.mk A320
         clear A320
         by_cases c33 : t521 = true
         ·subst c33
          have H1 : (bursarlaw04_LabelMatches.j1 kj8 l1 y508 ((y508.length : Int) != (l1.length : Int))) = some r := by rw [if_pos rfl] at H; exact H
          clear H
          have H := H1
          clear H1
          have H' := Aside0.mk H
          clear H
          go_wp2_with (first | (go_at_call 15; (with_reducible refine (bursarlaw04_sameTerms.calls kj8 _ _ t505 _ _ l0 true _ ?side1 ?side2 ?side3 ?side4 A32.out).mono ?_); (case side1 => repeat (first | exact (Kd.S_reads' HO_6.out).2.2 | (with_reducible refine Kd.C_alloc ?_ _) | (with_reducible refine Kd.C_drewN ?_ _) | (with_reducible refine Kd.C_drew ?_))); (case side2 => exact (Kd.S_reads' HO_6.out).2.1); (case side3 => repeat (first | exact (Kd.C_below HR0.out HB.out) | (with_reducible refine Kd.C_alloc ?_ _) | (with_reducible refine Kd.C_drewN ?_ _) | (with_reducible refine Kd.C_drew ?_))); (case side4 => exact HC0.out); rintro e w34 ⟨rfl, hb⟩; have n0_ := Aside0.mk (Kd.S_below (by (with_reducible repeat (first | apply Kd.S_alloc | apply Kd.S_drewN | apply Kd.S_drew)); exact HO_6.out) hb); have n1_ := Aside0.mk (Kd.R_below (by (with_reducible repeat (first | apply Kd.R_alloc | apply Kd.R_drewN | apply Kd.R_drew)); exact HO_7.out) hb); have n2_ := Aside0.mk (below_step (by repeat (first | (with_reducible first | exact HB.out | apply below_alloc | apply pw_below_drewN | apply below_drew1) | exact HB.out)) hb); clear HO_6; clear HO_7; clear HB; have HO_6 := n0_; have HO_7 := n1_; have HB := n2_; clear n0_ n1_ n2_; (try clear hb); (try clear hb2); (try clear hk); (try clear hi)))
          repeat (go_quiet (first | (go_at_call 15; (with_reducible refine (bursarlaw04_sameTerms.calls kj8 _ _ t505 _ _ l0 true _ ?side1 ?side2 ?side3 ?side4 A32.out).mono ?_); (case side1 => repeat (first | exact (Kd.S_reads' HO_6.out).2.2 | (with_reducible refine Kd.C_alloc ?_ _) | (with_reducible refine Kd.C_drewN ?_ _) | (with_reducible refine Kd.C_drew ?_))); (case side2 => exact (Kd.S_reads' HO_6.out).2.1); (case side3 => repeat (first | exact (Kd.C_below HR0.out HB.out) | (with_reducible refine Kd.C_alloc ?_ _) | (with_reducible refine Kd.C_drewN ?_ _) | (with_reducible refine Kd.C_drew ?_))); (case side4 => exact HC0.out); rintro e w34 ⟨rfl, hb⟩; have n0_ := Aside0.mk (Kd.S_below (by (with_reducible repeat (first | apply Kd.S_alloc | apply Kd.S_drewN | apply Kd.S_drew)); exact HO_6.out) hb); have n1_ := Aside0.mk (Kd.R_below (by (with_reducible repeat (first | apply Kd.R_alloc | apply Kd.R_drewN | apply Kd.R_drew)); exact HO_7.out) hb); have n2_ := Aside0.mk (below_step (by repeat (first | (with_reducible first | exact HB.out | apply below_alloc | apply pw_below_drewN | apply below_drew1) | exact HB.out)) hb); clear HO_6; clear HO_7; clear HB; have HO_6 := n0_; have HO_7 := n1_; have HB := n2_; clear n0_ n1_ n2_; (try clear hb); (try clear hb2); (try clear hk); (try clear hi))); try go_wp2_with (first | (go_at_call 15; (with_reducible refine (bursarlaw04_sameTerms.calls kj8 _ _ t505 _ _ l0 true _ ?side1 ?side2 ?side3 ?side4 A32.out).mono ?_); (case side1 => repeat (first | exact (Kd.S_reads' HO_6.out).2.2 | (with_reducible refine Kd.C_alloc ?_ _) | (with_reducible refine Kd.C_drewN ?_ _) | (with_reducible refine Kd.C_drew ?_))); (case side2 => exact (Kd.S_reads' HO_6.out).2.1); (case side3 => repeat (first | exact (Kd.C_below HR0.out HB.out) | (with_reducible refine Kd.C_alloc ?_ _) | (with_reducible refine Kd.C_drewN ?_ _) | (with_reducible refine Kd.C_drew ?_))); (case side4 => exact HC0.out); rintro e w34 ⟨rfl, hb⟩; have n0_ := Aside0.mk (Kd.S_below (by (with_reducible repeat (first | apply Kd.S_alloc | apply Kd.S_drewN | apply Kd.S_drew)); exact HO_6.out) hb); have n1_ := Aside0.mk (Kd.R_below (by (with_reducible repeat (first | apply Kd.R_alloc | apply Kd.R_drewN | apply Kd.R_drew)); exact HO_7.out) hb); have n2_ := Aside0.mk (below_step (by repeat (first | (with_reducible first | exact HB.out | apply below_alloc | apply pw_below_drewN | apply below_drew1) | exact HB.out)) hb); clear HO_6; clear HO_7; clear HB; have HO_6 := n0_; have HO_7 := n1_; have HB := n2_; clear n0_ n1_ n2_; (try clear hb); (try clear hb2); (try clear hk); (try clear hi))))
          go_meet
          case rel => exact ⟨_, (((y508.length : Int) != (l1.length : Int))), (by first | rfl | (simp; done) | (simp [*]; done) | (simp; rw [Bool.eq_iff_iff]; simp; done) | (rw [Bool.eq_iff_iff]; simp; done)), H', ⟨by have := HJ8.out; first | omega | exact Nat.le_refl _⟩, ⟨by (with_reducible repeat (first | apply Kd.R_alloc | apply Kd.R_drewN | apply Kd.R_drew)); exact HO_7.out⟩, ⟨by repeat (first | (with_reducible first | exact HB.out | apply below_alloc | apply pw_below_drewN | apply below_drew1) | exact HB.out)⟩⟩
         ·replace c33 := Bool.eq_false_iff.mpr c33
          subst c33
          have H1 : (bursarlaw04_LabelMatches.j1 kj8 l1 y508 true) = some r := by rw [if_neg (show ¬ (false = true) by decide)] at H; exact H
          clear H
          have H := H1
          clear H1
          have H' := Aside0.mk H
          clear H
          go_wp2_with (first | (go_at_call 15; (with_reducible refine (bursarlaw04_sameTerms.calls kj8 _ _ t505 _ _ l0 false _ ?side1 ?side2 ?side3 ?side4 A32.out).mono ?_); (case side1 => repeat (first | exact (Kd.S_reads' HO_6.out).2.2 | (with_reducible refine Kd.C_alloc ?_ _) | (with_reducible refine Kd.C_drewN ?_ _) | (with_reducible refine Kd.C_drew ?_))); (case side2 => exact (Kd.S_reads' HO_6.out).2.1); (case side3 => repeat (first | exact (Kd.C_below HR0.out HB.out) | (with_reducible refine Kd.C_alloc ?_ _) | (with_reducible refine Kd.C_drewN ?_ _) | (with_reducible refine Kd.C_drew ?_))); (case side4 => exact HC0.out); rintro e w35 ⟨rfl, hb⟩; have n0_ := Aside0.mk (Kd.S_below (by (with_reducible repeat (first | apply Kd.S_alloc | apply Kd.S_drewN | apply Kd.S_drew)); exact HO_6.out) hb); have n1_ := Aside0.mk (Kd.R_below (by (with_reducible repeat (first | apply Kd.R_alloc | apply Kd.R_drewN | apply Kd.R_drew)); exact HO_7.out) hb); have n2_ := Aside0.mk (below_step (by repeat (first | (with_reducible first | exact HB.out | apply below_alloc | apply pw_below_drewN | apply below_drew1) | exact HB.out)) hb); clear HO_6; clear HO_7; clear HB; have HO_6 := n0_; have HO_7 := n1_; have HB := n2_; clear n0_ n1_ n2_; (try clear hb); (try clear hb2); (try clear hk); (try clear hi)))
          repeat (go_quiet (first | (go_at_call 15; (with_reducible refine (bursarlaw04_sameTerms.calls kj8 _ _ t505 _ _ l0 false _ ?side1 ?side2 ?side3 ?side4 A32.out).mono ?_); (case side1 => repeat (first | exact (Kd.S_reads' HO_6.out).2.2 | (with_reducible refine Kd.C_alloc ?_ _) | (with_reducible refine Kd.C_drewN ?_ _) | (with_reducible refine Kd.C_drew ?_))); (case side2 => exact (Kd.S_reads' HO_6.out).2.1); (case side3 => repeat (first | exact (Kd.C_below HR0.out HB.out) | (with_reducible refine Kd.C_alloc ?_ _) | (with_reducible refine Kd.C_drewN ?_ _) | (with_reducible refine Kd.C_drew ?_))); (case side4 => exact HC0.out); rintro e w35 ⟨rfl, hb⟩; have n0_ := Aside0.mk (Kd.S_below (by (with_reducible repeat (first | apply Kd.S_alloc | apply Kd.S_drewN | apply Kd.S_drew)); exact HO_6.out) hb); have n1_ := Aside0.mk (Kd.R_below (by (with_reducible repeat (first | apply Kd.R_alloc | apply Kd.R_drewN | apply Kd.R_drew)); exact HO_7.out) hb); have n2_ := Aside0.mk (below_step (by repeat (first | (with_reducible first | exact HB.out | apply below_alloc | apply pw_below_drewN | apply below_drew1) | exact HB.out)) hb); clear HO_6; clear HO_7; clear HB; have HO_6 := n0_; have HO_7 := n1_; have HB := n2_; clear n0_ n1_ n2_; (try clear hb); (try clear hb2); (try clear hk); (try clear hi))); try go_wp2_with (first | (go_at_call 15; (with_reducible refine (bursarlaw04_sameTerms.calls kj8 _ _ t505 _ _ l0 false _ ?side1 ?side2 ?side3 ?side4 A32.out).mono ?_); (case side1 => repeat (first | exact (Kd.S_reads' HO_6.out).2.2 | (with_reducible refine Kd.C_alloc ?_ _) | (with_reducible refine Kd.C_drewN ?_ _) | (with_reducible refine Kd.C_drew ?_))); (case side2 => exact (Kd.S_reads' HO_6.out).2.1); (case side3 => repeat (first | exact (Kd.C_below HR0.out HB.out) | (with_reducible refine Kd.C_alloc ?_ _) | (with_reducible refine Kd.C_drewN ?_ _) | (with_reducible refine Kd.C_drew ?_))); (case side4 => exact HC0.out); rintro e w35 ⟨rfl, hb⟩; have n0_ := Aside0.mk (Kd.S_below (by (with_reducible repeat (first | apply Kd.S_alloc | apply Kd.S_drewN | apply Kd.S_drew)); exact HO_6.out) hb); have n1_ := Aside0.mk (Kd.R_below (by (with_reducible repeat (first | apply Kd.R_alloc | apply Kd.R_drewN | apply Kd.R_drew)); exact HO_7.out) hb); have n2_ := Aside0.mk (below_step (by repeat (first | (with_reducible first | exact HB.out | apply below_alloc | apply pw_below_drewN | apply below_drew1) | exact HB.out)) hb); clear HO_6; clear HO_7; clear HB; have HO_6 := n0_; have HO_7 := n1_; have HB := n2_; clear n0_ n1_ n2_; (try clear hb); (try clear hb2); (try clear hk); (try clear hi))))
          go_meet
          case rel => exact ⟨_, (true), (by first | rfl | (simp; done) | (simp [*]; done) | (simp; rw [Bool.eq_iff_iff]; simp; done) | (rw [Bool.eq_iff_iff]; simp; done)), H', ⟨by have := HJ8.out; first | omega | exact Nat.le_refl _⟩, ⟨by (with_reducible repeat (first | apply Kd.R_alloc | apply Kd.R_drewN | apply Kd.R_drew)); exact HO_7.out⟩, ⟨by repeat (first | (with_reducible first | exact HB.out | apply below_alloc | apply pw_below_drewN | apply below_drew1) | exact HB.out)⟩⟩
        ·rw [if_neg c31] at H
         have c31b0 : (t518 == t520) = false := beq_eq_false_iff_ne.mpr c31
         have c31b1 : (t518 != t520) = true := bne_iff_ne.mpr c31
         have H' := Aside0.mk H
         clear H
         go_wp2
         repeat (go_quiet (fail); try go_wp2)
         go_meet
         case rel => exact ⟨_, (true), (by first | rfl | (simp; done) | (simp [*]; done) | (simp; rw [Bool.eq_iff_iff]; simp; done) | (rw [Bool.eq_iff_iff]; simp; done)), H', ⟨by have := HJ8.out; first | omega | exact Nat.le_refl _⟩, ⟨by (with_reducible repeat (first | apply Kd.R_alloc | apply Kd.R_drewN | apply Kd.R_drew)); exact HO_7.out⟩, ⟨by repeat (first | (with_reducible first | exact HB.out | apply below_alloc | apply pw_below_drewN | apply below_drew1) | exact HB.out)⟩⟩
      case rest =>
       clear HC26
       try clear c1
       try clear c2
       try clear p2
       try clear c3
       try clear c4
       try clear c6
       try clear c10
       try clear c16
       try clear c16b0
       try clear c16b1
       try clear c17
       try clear c17b0
       try clear c17b1
       try clear c23
       try clear c30
       try clear c30b0
       try clear c30b1
       try clear c30b2
       try clear c31
       try clear c31b0
       try clear c31b1
       try clear c33
       try clear p2
       obtain ⟨kq, x79_25, rfl, HA, HJ25, HO_7, HB⟩ := hcut
       cases kq with
       | zero => exact absurd HA.out (by simp [bursarlaw04_LabelMatches.j1])
       | succ kj25 =>
        have H := HA.out
        clear HA
        simp only [bursarlaw04_LabelMatches.j1] at H
        by_cases c36 : x79_25 = true
        ·subst c36
         have H1 : (some false) = some r := by rw [if_pos rfl] at H; exact H
         clear H
         have H := H1
         clear H1
         obtain rfl := Option.some.inj H
         go_wp2
         repeat (go_quiet (fail); try go_wp2)
         go_ret
         exact ⟨by first | rfl | (simp [errW_none, errW_some] <;> rfl) | (simp [*, errW_none, errW_some] <;> rfl), by repeat (first | (with_reducible first | exact HB.out | apply below_alloc | apply pw_below_drewN | apply below_drew1) | exact HB.out)⟩
        ·replace c36 := Bool.eq_false_iff.mpr c36
         subst c36
         have H1 : (bursarlaw04_LabelMatches.l0 kj25 l1 y508 0) = some r := by rw [if_neg (show ¬ (false = true) by decide)] at H; exact H
         clear H
         have H := H1
         clear H1
         have H' := Aside0.mk H
         clear H
         go_wp2
         repeat (go_quiet (fail); try go_wp2)
         go_loopg [14] kj25 (fun kq v14 w' => ∃ (x14_3 : Int), v14 = .int .i64 x14_3 ∧ Aside0 (bursarlaw04_LabelMatches.l0 kq l1 y508 x14_3 = some r) ∧ Aside0 (kq ≤ kj25) ∧ Aside0 (Kd.R k51 51 w' w.heap.size (fun _ => True) (.slice Ao27 y508.length co27) y508) ∧ Aside0 (Below w.heap.size w w'))
         case atStart => exact ⟨(0), (by first | rfl | (simp; done) | (simp [*]; done) | (simp; rw [Bool.eq_iff_iff]; simp; done) | (rw [Bool.eq_iff_iff]; simp; done)), H', ⟨Nat.le_refl _⟩, ⟨by (with_reducible repeat (first | apply Kd.R_alloc | apply Kd.R_drewN | apply Kd.R_drew)); exact HO_7.out⟩, ⟨by repeat (first | (with_reducible first | exact HB.out | apply below_alloc | apply pw_below_drewN | apply below_drew1) | exact HB.out)⟩⟩
         case round =>
          clear H'
          try clear c1
          try clear c2
          try clear p2
          try clear c3
          try clear c4
          try clear c6
          try clear c10
          try clear c16
          try clear c16b0
          try clear c16b1
          try clear c17
          try clear c17b0
          try clear c17b1
          try clear c23
          try clear c30
          try clear c30b0
          try clear c30b1
          try clear c30b2
          try clear c31
          try clear c31b0
          try clear c31b1
          try clear c33
          try clear c36
          try clear p2
          obtain ⟨x14_3, rfl, HA, HK3, HO_7, HB⟩ := hrel
          cases gk with
          | zero => exact absurd HA.out (by simp [bursarlaw04_LabelMatches.l0])
          | succ k3 =>
           have H := HA.out
           clear HA
           simp only [bursarlaw04_LabelMatches.l0] at H
           by_cases c37 : x14_3 < (l1.length : Int)
           ·rw [if_pos c37] at H
            have c37b0 : decide (x14_3 < (l1.length : Int)) = true := decide_eq_true c37
            clear c37
            by_cases c38 : 0 ≤ x14_3
            ·rw [if_pos c38] at H
             have c38b0 : decide (0 ≤ x14_3) = true := decide_eq_true c38
             clear c38
             by_cases c39 : x14_3 < (y508.length : Int)
             ·rw [if_pos c39] at H
              have c39b0 : decide (x14_3 < (y508.length : Int)) = true := decide_eq_true c39
              clear c39
              by_cases c40 : (!((((rd_T51 y508 x14_3).f0).toList) == (((rd_T51 l1 x14_3).f0).toList)) || (!((((rd_T51 y508 x14_3).f1).toList) == (((rd_T51 l1 x14_3).f1).toList)))) = true
              ·rw [if_pos c40] at H
               have c40b0 : (!((((rd_T51 y508 x14_3).f0).toList) == (((rd_T51 l1 x14_3).f0).toList)) || (!((((rd_T51 y508 x14_3).f1).toList) == (((rd_T51 l1 x14_3).f1).toList)))) = true := c40
               clear c40
               obtain rfl := Option.some.inj H
               have p522 : 0 ≤ (x14_3 : Int) := of_decide_eq_true (by first | (with_reducible assumption) | assumption)
               have q522 : x14_3 < (y508.length : Int) := of_decide_eq_true (by first | (with_reducible assumption) | assumption)
               obtain ⟨ad522, e522, hx522_0, hx522_1⟩ := at_T51 (Kd.R_reads' HO_7.out).2.2 x14_3 p522 q522
               cases e522
               replace p522 := eq_true p522
               replace q522 := eq_true q522
               have p523 : 0 ≤ (x14_3 : Int) := of_decide_eq_true (by first | (with_reducible assumption) | assumption)
               have q523 : x14_3 < (l1.length : Int) := of_decide_eq_true (by first | (with_reducible assumption) | assumption)
               obtain ⟨ad523, e523, hx523_0, hx523_1⟩ := at_T51 HR1.out x14_3 p523 q523
               cases e523
               replace hx523_0 := (HB.out.cell (World.block_lt_of_cell? w _ hx523_0)).trans hx523_0
               replace hx523_1 := (HB.out.cell (World.block_lt_of_cell? w _ hx523_1)).trans hx523_1
               replace p523 := eq_true p523
               replace q523 := eq_true q523
               go_wp2
               repeat (go_quiet (fail); try go_wp2)
               go_ret
               exact ⟨by first | rfl | (simp [errW_none, errW_some] <;> rfl) | (simp [*, errW_none, errW_some] <;> rfl), by repeat (first | (with_reducible first | exact HB.out | apply below_alloc | apply pw_below_drewN | apply below_drew1) | exact HB.out)⟩
              ·rw [if_neg c40] at H
               have c40b0 : (!((((rd_T51 y508 x14_3).f0).toList) == (((rd_T51 l1 x14_3).f0).toList)) || (!((((rd_T51 y508 x14_3).f1).toList) == (((rd_T51 l1 x14_3).f1).toList)))) = false := by simpa using c40
               clear c40
               have H' := Aside0.mk H
               clear H
               have p522 : 0 ≤ (x14_3 : Int) := of_decide_eq_true (by first | (with_reducible assumption) | assumption)
               have q522 : x14_3 < (y508.length : Int) := of_decide_eq_true (by first | (with_reducible assumption) | assumption)
               obtain ⟨ad522, e522, hx522_0, hx522_1⟩ := at_T51 (Kd.R_reads' HO_7.out).2.2 x14_3 p522 q522
               cases e522
               replace p522 := eq_true p522
               replace q522 := eq_true q522
               have p523 : 0 ≤ (x14_3 : Int) := of_decide_eq_true (by first | (with_reducible assumption) | assumption)
               have q523 : x14_3 < (l1.length : Int) := of_decide_eq_true (by first | (with_reducible assumption) | assumption)
               obtain ⟨ad523, e523, hx523_0, hx523_1⟩ := at_T51 HR1.out x14_3 p523 q523
               cases e523
               replace hx523_0 := (HB.out.cell (World.block_lt_of_cell? w _ hx523_0)).trans hx523_0
               replace hx523_1 := (HB.out.cell (World.block_lt_of_cell? w _ hx523_1)).trans hx523_1
               replace p523 := eq_true p523
               replace q523 := eq_true q523
               go_wp2
               repeat (go_quiet (fail); try go_wp2)
               go_roundg k3
               case measure => have := HJ8.out; have := HJ25.out; have := HK3.out; omega
               case rel => exact ⟨(wrap64 (x14_3 + 1)), (by first | rfl | (simp; done) | (simp [*]; done) | (simp; rw [Bool.eq_iff_iff]; simp; done) | (rw [Bool.eq_iff_iff]; simp; done)), H', ⟨by have := HJ8.out; have := HJ25.out; have := HK3.out; omega⟩, ⟨by (with_reducible repeat (first | apply Kd.R_alloc | apply Kd.R_drewN | apply Kd.R_drew)); exact HO_7.out⟩, ⟨by repeat (first | (with_reducible first | exact HB.out | apply below_alloc | apply pw_below_drewN | apply below_drew1) | exact HB.out)⟩⟩
             ·rw [if_neg c39] at H
              exact absurd H (by simp)
            ·rw [if_neg c38] at H
             exact absurd H (by simp)
           ·rw [if_neg c37] at H
            have c37b0 : decide (x14_3 < (l1.length : Int)) = false := decide_eq_false c37
            clear c37
            obtain rfl := Option.some.inj H
            go_wp2
            repeat (go_quiet (fail); try go_wp2)
            go_ret
            exact ⟨by first | rfl | (simp [errW_none, errW_some] <;> rfl) | (simp [*, errW_none, errW_some] <;> rfl), by repeat (first | (with_reducible first | exact HB.out | apply below_alloc | apply pw_below_drewN | apply below_drew1) | exact HB.out)⟩
  ·rw [if_neg c6] at H
   exact absurd H (by simp)
 ·replace c4 := Bool.eq_false_iff.mpr c4
  subst c4
  have H1 : (some false) = some r := by rw [if_neg (show ¬ (false = true) by decide)] at H; exact H
  clear H
  have H := H1
  clear H1
  obtain rfl := Option.some.inj H
  go_enter Tryd.func10, Tryd.ntmps10
  go_wp2_with (first | (go_at_call 12; (with_reducible refine (bursarlaw04_fixed.calls k  false _ A3.out (Glob.below hG (by repeat (first | (with_reducible first | exact HB.out | apply below_alloc | apply pw_below_drewN | apply below_drew1) | exact HB.out)))).mono ?_); rintro e w41 ⟨rfl, hb⟩; have n0_ := Aside0.mk (below_step (by repeat (first | (with_reducible first | exact HB.out | apply below_alloc | apply pw_below_drewN | apply below_drew1) | exact HB.out)) hb); clear HB; have HB := n0_; clear n0_; (try clear hb); (try clear hb2); (try clear hk); (try clear hi)))
  repeat (go_quiet (first | (go_at_call 12; (with_reducible refine (bursarlaw04_fixed.calls k  false _ A3.out (Glob.below hG (by repeat (first | (with_reducible first | exact HB.out | apply below_alloc | apply pw_below_drewN | apply below_drew1) | exact HB.out)))).mono ?_); rintro e w41 ⟨rfl, hb⟩; have n0_ := Aside0.mk (below_step (by repeat (first | (with_reducible first | exact HB.out | apply below_alloc | apply pw_below_drewN | apply below_drew1) | exact HB.out)) hb); clear HB; have HB := n0_; clear n0_; (try clear hb); (try clear hb2); (try clear hk); (try clear hi))); try go_wp2_with (first | (go_at_call 12; (with_reducible refine (bursarlaw04_fixed.calls k  false _ A3.out (Glob.below hG (by repeat (first | (with_reducible first | exact HB.out | apply below_alloc | apply pw_below_drewN | apply below_drew1) | exact HB.out)))).mono ?_); rintro e w41 ⟨rfl, hb⟩; have n0_ := Aside0.mk (below_step (by repeat (first | (with_reducible first | exact HB.out | apply below_alloc | apply pw_below_drewN | apply below_drew1) | exact HB.out)) hb); clear HB; have HB := n0_; clear n0_; (try clear hb); (try clear hb2); (try clear hk); (try clear hi))))
  go_ret
  exact ⟨by first | rfl | (simp [errW_none, errW_some] <;> rfl) | (simp [*, errW_none, errW_some] <;> rfl), by repeat (first | (with_reducible first | exact HB.out | apply below_alloc | apply pw_below_drewN | apply below_drew1) | exact HB.out)⟩
end Go.Proofs.YteaiobgnhlpblaaDoor.Q
namespace Go.Proofs.YteaiobgnhlpblaaDoor.Q
open Go.RowKit Go.Proofs.YteaiobgnhlpblaaDoorW.PrintWords Go.Proofs.YteaiobgnhlpblaaDoorW.PrintLast Go.Proofs.YteaiobgnhlpblaaDoorW.PrintMore
attribute [local go_sem] max2_int min2_int max_two min_two max_three min_three max_four min_four   -- for this text's walks alone
set_option linter.unusedVariables false
set_option linter.unusedSimpArgs false
mutual
def label_Join.l0 : Nat → List ByteArray → ByteArray → List ByteArray → Int → Int → Option (ByteArray × Int)
  | 0, _, _, _, _, _ => none
  | k + 1, x0, x4, x9, x10, x11 => if x11 < x10 then (if 0 ≤ x11 then (if x11 < (x9.length : Int) then ((label_Name.f (rdOf ByteArray.empty x9 x11)).bind fun t344 => (if t344 = true then (label_Join.l0 k x0 x4 x9 x10 (wrap64 (x11 + 1))) else (some ((⟨#[]⟩ : ByteArray), 40)))) else (none)) else (none)) else (if (x0.length : Int) > 8 then (some ((⟨#[]⟩ : ByteArray), 41)) else (label_Join.l1 k x4 x0 (x0.length : Int) 0))
def label_Join.l1 : Nat → ByteArray → List ByteArray → Int → Int → Option (ByteArray × Int)
  | 0, _, _, _, _ => none
  | k + 1, x4, x22, x23, x24 => if x24 < x23 then (if 0 ≤ x24 then (if x24 < (x22.length : Int) then (if 1 + (rdOf ByteArray.empty x22 x24).size ≤ 9223372036854775807 then (if x4.size + ((⟨#[47]⟩ : ByteArray) ++ (rdOf ByteArray.empty x22 x24)).size ≤ 9223372036854775807 then (label_Join.l1 k (x4 ++ ((⟨#[47]⟩ : ByteArray) ++ (rdOf ByteArray.empty x22 x24))) x22 x23 (wrap64 (x24 + 1))) else (none)) else (none)) else (none)) else (none)) else (if (x4.size : Int) > 64 then (some ((⟨#[]⟩ : ByteArray), 41)) else (if x4.toList = ([] : List UInt8) then (some ((⟨#[47]⟩ : ByteArray), 0)) else (some (x4, 0))))
end
def label_Join.f (k : Nat) (l0 : List ByteArray) : Option (ByteArray × Int) := label_Join.l0 k l0 (⟨#[]⟩ : ByteArray) l0 (l0.length : Int) 0
theorem label_Join.mono_l : ∀ k, (∀ y0 y1 y2 y3 y4, LeO (label_Join.l0 k y0 y1 y2 y3 y4) (label_Join.l0 (k + 1) y0 y1 y2 y3 y4)) ∧ (∀ y0 y1 y2 y3, LeO (label_Join.l1 k y0 y1 y2 y3) (label_Join.l1 (k + 1) y0 y1 y2 y3))
  | 0 => ⟨fun _ _ _ _ _ r h => by simp [label_Join.l0] at h, fun _ _ _ _ r h => by simp [label_Join.l1] at h⟩
  | k + 1 => by
    obtain ⟨ih0, ih1⟩ := label_Join.mono_l k
    refine ⟨?_, ?_⟩
    · intro y0 y1 y2 y3 y4
      unfold label_Join.l0
      repeat' first
      | (with_reducible exact ih0 _ _ _ _ _)
      | (with_reducible exact ih1 _ _ _ _)
      | (with_reducible exact LeO.refl _)
      | (with_reducible exact LeO.none _)
      | (with_reducible refine LeO.ite ?_ ?_)
      | (with_reducible refine LeO.bind ?_ (fun _ => ?_))
      | exact ih0 _ _ _ _ _
      | exact ih1 _ _ _ _
      | exact LeO.none _
      | refine LeO.ite ?_ ?_
      | refine LeO.bind ?_ (fun _ => ?_)
    · intro y0 y1 y2 y3
      unfold label_Join.l1
      repeat' first
      | (with_reducible exact ih0 _ _ _ _ _)
      | (with_reducible exact ih1 _ _ _ _)
      | (with_reducible exact LeO.refl _)
      | (with_reducible exact LeO.none _)
      | (with_reducible refine LeO.ite ?_ ?_)
      | (with_reducible refine LeO.bind ?_ (fun _ => ?_))
      | exact ih0 _ _ _ _ _
      | exact ih1 _ _ _ _
      | exact LeO.none _
      | refine LeO.ite ?_ ?_
      | refine LeO.bind ?_ (fun _ => ?_)
theorem label_Join.mono : ∀ a0 k, LeO (label_Join.f k a0) (label_Join.f (k + 1) a0) := by
  intro a0 k
  obtain ⟨ih0, ih1⟩ := label_Join.mono_l k
  unfold label_Join.f
  repeat' first
      | (with_reducible exact ih0 _ _ _ _ _)
      | (with_reducible exact ih1 _ _ _ _)
      | (with_reducible exact LeO.refl _)
      | (with_reducible exact LeO.none _)
      | (with_reducible refine LeO.ite ?_ ?_)
      | (with_reducible refine LeO.bind ?_ (fun _ => ?_))
      | exact ih0 _ _ _ _ _
      | exact ih1 _ _ _ _
      | exact LeO.none _
      | refine LeO.ite ?_ ?_
      | refine LeO.bind ?_ (fun _ => ?_)
end Go.Proofs.YteaiobgnhlpblaaDoor.Q
namespace Go.Proofs.YteaiobgnhlpblaaDoor.Q
open Go.RowKit Go.Proofs.YteaiobgnhlpblaaDoorW.PrintWords Go.Proofs.YteaiobgnhlpblaaDoorW.PrintLast Go.Proofs.YteaiobgnhlpblaaDoorW.PrintMore
attribute [local go_sem] max2_int min2_int max_two min_two max_three min_three max_four min_four   -- for this text's walks alone
set_option linter.unusedVariables false
set_option linter.unusedSimpArgs false
def strings_HasPrefix.f (a0 : ByteArray) (a1 : ByteArray) : Option (Bool) := (stringslite_HasPrefix.f a0 a1).bind fun t282 => (some t282)
end Go.Proofs.YteaiobgnhlpblaaDoor.Q
namespace Go.Proofs.YteaiobgnhlpblaaDoor.Q
open Go.RowKit Go.Proofs.YteaiobgnhlpblaaDoorW.PrintWords Go.Proofs.YteaiobgnhlpblaaDoorW.PrintLast Go.Proofs.YteaiobgnhlpblaaDoorW.PrintMore
attribute [local go_sem] max2_int min2_int max_two min_two max_three min_three max_four min_four   -- for this text's walks alone
set_option linter.unusedVariables false
set_option linter.unusedSimpArgs false
def label_Under.f (k : Nat) (a0 : ByteArray) (a1 : ByteArray) : Option (Bool) := (label_Path.f k a0).bind fun t283 => (if t283 = 0 then ((label_Path.f k a1).bind fun t284 => (if t284 = 0 then (if a1.toList = ([47] : List UInt8) then (some true) else (if a0.toList = a1.toList then (some true) else (if a1.size + 1 ≤ 9223372036854775807 then ((strings_HasPrefix.f a0 (a1 ++ (⟨#[47]⟩ : ByteArray))).bind fun t285 => (some t285)) else (none)))) else (some false))) else (some false))
theorem label_Under.mono : ∀ a0 a1 k, LeO (label_Under.f k a0 a1) (label_Under.f (k + 1) a0 a1) := by
  intro a0 a1 k
  unfold label_Under.f
  repeat' first
      | (with_reducible exact label_Path.mono _ _)
      | (with_reducible exact LeO.refl _)
      | (with_reducible exact LeO.none _)
      | (with_reducible refine LeO.ite ?_ ?_)
      | (with_reducible refine LeO.bind ?_ (fun _ => ?_))
      | exact label_Path.mono _ _
      | exact LeO.none _
      | refine LeO.ite ?_ ?_
      | refine LeO.bind ?_ (fun _ => ?_)
end Go.Proofs.YteaiobgnhlpblaaDoor.Q
namespace Go.Proofs.YteaiobgnhlpblaaDoor.Q
open Go.RowKit Go.Proofs.YteaiobgnhlpblaaDoorW.PrintWords Go.Proofs.YteaiobgnhlpblaaDoorW.PrintLast Go.Proofs.YteaiobgnhlpblaaDoorW.PrintMore
attribute [local go_sem] max2_int min2_int max_two min_two max_three min_three max_four min_four   -- for this text's walks alone
set_option linter.unusedVariables false
set_option linter.unusedSimpArgs false
def bursarref04_pieces.l0 : Nat → ByteArray → Int → List ByteArray → Int → Int → Option (List ByteArray)
  | 0, _, _, _, _, _ => none
  | k + 1, x0, x1, x5, x6, x7 => if x7 ≤ (x0.size : Int) then (if x7 = (x0.size : Int) then (if 0 ≤ x6 then (if x6 ≤ x7 then (if x5.length < 8796093022208 then (bursarref04_pieces.l0 k x0 x1 (x5 ++ [x0.extract (x6 : Int).toNat (x7 : Int).toNat]) (wrap64 (x7 + 1)) (wrap64 (x7 + 1))) else (none)) else (none)) else (none)) else (if 0 ≤ x7 then (if x7 < (x0.size : Int) then (if (bt x0 x7) = x1 then (if 0 ≤ x6 then (if x6 ≤ x7 then (if x5.length < 8796093022208 then (bursarref04_pieces.l0 k x0 x1 (x5 ++ [x0.extract (x6 : Int).toNat (x7 : Int).toNat]) (wrap64 (x7 + 1)) (wrap64 (x7 + 1))) else (none)) else (none)) else (none)) else (bursarref04_pieces.l0 k x0 x1 x5 x6 (wrap64 (x7 + 1)))) else (none)) else (none))) else (some x5)
def bursarref04_pieces.f (k : Nat) (a0 : ByteArray) (a1 : Int) : Option (List ByteArray) := bursarref04_pieces.l0 k a0 a1 ([] : List ByteArray) 0 0
theorem bursarref04_pieces.mono_l : ∀ k, (∀ y0 y1 y2 y3 y4, LeO (bursarref04_pieces.l0 k y0 y1 y2 y3 y4) (bursarref04_pieces.l0 (k + 1) y0 y1 y2 y3 y4))
  | 0 => fun _ _ _ _ _ r h => by simp [bursarref04_pieces.l0] at h
  | k + 1 => by
    have ih0 := bursarref04_pieces.mono_l k
    · intro y0 y1 y2 y3 y4
      unfold bursarref04_pieces.l0
      repeat' first
      | (with_reducible exact ih0 _ _ _ _ _)
      | (with_reducible exact LeO.refl _)
      | (with_reducible exact LeO.none _)
      | (with_reducible refine LeO.ite ?_ ?_)
      | (with_reducible refine LeO.bind ?_ (fun _ => ?_))
      | exact ih0 _ _ _ _ _
      | exact LeO.none _
      | refine LeO.ite ?_ ?_
      | refine LeO.bind ?_ (fun _ => ?_)
theorem bursarref04_pieces.mono : ∀ a0 a1 k, LeO (bursarref04_pieces.f k a0 a1) (bursarref04_pieces.f (k + 1) a0 a1) := by
  intro a0 a1 k
  have ih0 := bursarref04_pieces.mono_l k
  unfold bursarref04_pieces.f
  repeat' first
      | (with_reducible exact ih0 _ _ _ _ _)
      | (with_reducible exact LeO.refl _)
      | (with_reducible exact LeO.none _)
      | (with_reducible refine LeO.ite ?_ ?_)
      | (with_reducible refine LeO.bind ?_ (fun _ => ?_))
      | exact ih0 _ _ _ _ _
      | exact LeO.none _
      | refine LeO.ite ?_ ?_
      | refine LeO.bind ?_ (fun _ => ?_)
end Go.Proofs.YteaiobgnhlpblaaDoor.Q
namespace Go.Proofs.YteaiobgnhlpblaaDoor.Q
open Go.RowKit Go.Proofs.YteaiobgnhlpblaaDoorW.PrintWords Go.Proofs.YteaiobgnhlpblaaDoorW.PrintLast Go.Proofs.YteaiobgnhlpblaaDoorW.PrintMore
attribute [local go_sem] max2_int min2_int max_two min_two max_three min_three max_four min_four   -- for this text's walks alone
set_option linter.unusedVariables false
set_option linter.unusedSimpArgs false
mutual
def bursarref04_Split.j0 : Nat → List ByteArray → Bool → Option (List ByteArray × Int)
  | 0, _, _ => none
  | k + 1, x4, x29 => if x29 = true then (some (([] : List ByteArray), 41)) else (bursarref04_Split.l0 k x4 1)
def bursarref04_Split.l0 : Nat → List ByteArray → Int → Option (List ByteArray × Int)
  | 0, _, _ => none
  | k + 1, x4, x5 => if x5 < (x4.length : Int) then (if 0 ≤ x5 then ((bursarref04_Name.f k (rdOf ByteArray.empty x4 x5)).bind fun t274 => (if t274 = true then (bursarref04_Split.l0 k x4 (wrap64 (x5 + 1))) else (some (([] : List ByteArray), 41)))) else (none)) else (if 1 ≤ (x4.length : Int) then (some ((x4.drop (1 : Int).toNat), 0)) else (none))
end
def bursarref04_Split.f (k : Nat) (a0 : ByteArray) : Option (List ByteArray × Int) := if a0.toList = ([47] : List UInt8) then (some (([] : List ByteArray), 0)) else ((bursarref04_pieces.f k a0 47).bind fun t269 => (if (a0.size : Int) > 64 then (bursarref04_Split.j0 k t269 true) else (if (t269.length : Int) < 2 then (bursarref04_Split.j0 k t269 true) else (if (t269.length : Int) > 9 then (bursarref04_Split.j0 k t269 true) else (if 0 < (t269.length : Int) then (bursarref04_Split.j0 k t269 ((rdOf ByteArray.empty t269 0).toList != ([] : List UInt8))) else (none))))))
theorem bursarref04_Split.mono_l : ∀ k, (∀ y0 y1, LeO (bursarref04_Split.j0 k y0 y1) (bursarref04_Split.j0 (k + 1) y0 y1)) ∧ (∀ y0 y1, LeO (bursarref04_Split.l0 k y0 y1) (bursarref04_Split.l0 (k + 1) y0 y1))
  | 0 => ⟨fun _ _ r h => by simp [bursarref04_Split.j0] at h, fun _ _ r h => by simp [bursarref04_Split.l0] at h⟩
  | k + 1 => by
    obtain ⟨ih0, ih1⟩ := bursarref04_Split.mono_l k
    refine ⟨?_, ?_⟩
    · intro y0 y1
      unfold bursarref04_Split.j0
      repeat' first
      | (with_reducible exact ih0 _ _)
      | (with_reducible exact ih1 _ _)
      | (with_reducible exact bursarref04_Name.mono _ _)
      | (with_reducible exact bursarref04_pieces.mono _ _ _)
      | (with_reducible exact LeO.refl _)
      | (with_reducible exact LeO.none _)
      | (with_reducible refine LeO.ite ?_ ?_)
      | (with_reducible refine LeO.bind ?_ (fun _ => ?_))
      | exact ih0 _ _
      | exact ih1 _ _
      | exact bursarref04_Name.mono _ _
      | exact bursarref04_pieces.mono _ _ _
      | exact LeO.none _
      | refine LeO.ite ?_ ?_
      | refine LeO.bind ?_ (fun _ => ?_)
    · intro y0 y1
      unfold bursarref04_Split.l0
      repeat' first
      | (with_reducible exact ih0 _ _)
      | (with_reducible exact ih1 _ _)
      | (with_reducible exact bursarref04_Name.mono _ _)
      | (with_reducible exact bursarref04_pieces.mono _ _ _)
      | (with_reducible exact LeO.refl _)
      | (with_reducible exact LeO.none _)
      | (with_reducible refine LeO.ite ?_ ?_)
      | (with_reducible refine LeO.bind ?_ (fun _ => ?_))
      | exact ih0 _ _
      | exact ih1 _ _
      | exact bursarref04_Name.mono _ _
      | exact bursarref04_pieces.mono _ _ _
      | exact LeO.none _
      | refine LeO.ite ?_ ?_
      | refine LeO.bind ?_ (fun _ => ?_)
theorem bursarref04_Split.mono : ∀ a0 k, LeO (bursarref04_Split.f k a0) (bursarref04_Split.f (k + 1) a0) := by
  intro a0 k
  obtain ⟨ih0, ih1⟩ := bursarref04_Split.mono_l k
  unfold bursarref04_Split.f
  repeat' first
      | (with_reducible exact ih0 _ _)
      | (with_reducible exact ih1 _ _)
      | (with_reducible exact bursarref04_Name.mono _ _)
      | (with_reducible exact bursarref04_pieces.mono _ _ _)
      | (with_reducible exact LeO.refl _)
      | (with_reducible exact LeO.none _)
      | (with_reducible refine LeO.ite ?_ ?_)
      | (with_reducible refine LeO.bind ?_ (fun _ => ?_))
      | exact ih0 _ _
      | exact ih1 _ _
      | exact bursarref04_Name.mono _ _
      | exact bursarref04_pieces.mono _ _ _
      | exact LeO.none _
      | refine LeO.ite ?_ ?_
      | refine LeO.bind ?_ (fun _ => ?_)
end Go.Proofs.YteaiobgnhlpblaaDoor.Q
namespace Go.Proofs.YteaiobgnhlpblaaDoor.Q
open Go.RowKit Go.Proofs.YteaiobgnhlpblaaDoorW.PrintWords Go.Proofs.YteaiobgnhlpblaaDoorW.PrintLast Go.Proofs.YteaiobgnhlpblaaDoorW.PrintMore
attribute [local go_sem] max2_int min2_int max_two min_two max_three min_three max_four min_four   -- for this text's walks alone
set_option linter.unusedVariables false
set_option linter.unusedSimpArgs false
mutual
def bursarref04_Join.l0 : Nat → List ByteArray → ByteArray → Int → Option (ByteArray × Int)
  | 0, _, _, _ => none
  | k + 1, x0, x4, x5 => if x5 < (x0.length : Int) then (if 0 ≤ x5 then ((bursarref04_Name.f k (rdOf ByteArray.empty x0 x5)).bind fun t287 => (if t287 = true then (if x4.size + 1 ≤ 9223372036854775807 then (if (x4 ++ (⟨#[47]⟩ : ByteArray)).size + (rdOf ByteArray.empty x0 x5).size ≤ 9223372036854775807 then (bursarref04_Join.l0 k x0 ((x4 ++ (⟨#[47]⟩ : ByteArray)) ++ (rdOf ByteArray.empty x0 x5)) (wrap64 (x5 + 1))) else (none)) else (none)) else (some ((⟨#[]⟩ : ByteArray), 40)))) else (none)) else (if (x0.length : Int) > 8 then (bursarref04_Join.j1 k x4 true) else (bursarref04_Join.j1 k x4 (decide ((x4.size : Int) > 64))))
def bursarref04_Join.j1 : Nat → ByteArray → Bool → Option (ByteArray × Int)
  | 0, _, _ => none
  | k + 1, x4, x34 => if x34 = true then (some ((⟨#[]⟩ : ByteArray), 41)) else (if x4.toList = ([] : List UInt8) then (some ((⟨#[47]⟩ : ByteArray), 0)) else (some (x4, 0)))
end
def bursarref04_Join.f (k : Nat) (l0 : List ByteArray) : Option (ByteArray × Int) := bursarref04_Join.l0 k l0 (⟨#[]⟩ : ByteArray) 0
theorem bursarref04_Join.mono_l : ∀ k, (∀ y0 y1 y2, LeO (bursarref04_Join.l0 k y0 y1 y2) (bursarref04_Join.l0 (k + 1) y0 y1 y2)) ∧ (∀ y0 y1, LeO (bursarref04_Join.j1 k y0 y1) (bursarref04_Join.j1 (k + 1) y0 y1))
  | 0 => ⟨fun _ _ _ r h => by simp [bursarref04_Join.l0] at h, fun _ _ r h => by simp [bursarref04_Join.j1] at h⟩
  | k + 1 => by
    obtain ⟨ih0, ih1⟩ := bursarref04_Join.mono_l k
    refine ⟨?_, ?_⟩
    · intro y0 y1 y2
      unfold bursarref04_Join.l0
      repeat' first
      | (with_reducible exact ih0 _ _ _)
      | (with_reducible exact ih1 _ _)
      | (with_reducible exact bursarref04_Name.mono _ _)
      | (with_reducible exact LeO.refl _)
      | (with_reducible exact LeO.none _)
      | (with_reducible refine LeO.ite ?_ ?_)
      | (with_reducible refine LeO.bind ?_ (fun _ => ?_))
      | exact ih0 _ _ _
      | exact ih1 _ _
      | exact bursarref04_Name.mono _ _
      | exact LeO.none _
      | refine LeO.ite ?_ ?_
      | refine LeO.bind ?_ (fun _ => ?_)
    · intro y0 y1
      unfold bursarref04_Join.j1
      repeat' first
      | (with_reducible exact ih0 _ _ _)
      | (with_reducible exact ih1 _ _)
      | (with_reducible exact bursarref04_Name.mono _ _)
      | (with_reducible exact LeO.refl _)
      | (with_reducible exact LeO.none _)
      | (with_reducible refine LeO.ite ?_ ?_)
      | (with_reducible refine LeO.bind ?_ (fun _ => ?_))
      | exact ih0 _ _ _
      | exact ih1 _ _
      | exact bursarref04_Name.mono _ _
      | exact LeO.none _
      | refine LeO.ite ?_ ?_
      | refine LeO.bind ?_ (fun _ => ?_)
theorem bursarref04_Join.mono : ∀ a0 k, LeO (bursarref04_Join.f k a0) (bursarref04_Join.f (k + 1) a0) := by
  intro a0 k
  obtain ⟨ih0, ih1⟩ := bursarref04_Join.mono_l k
  unfold bursarref04_Join.f
  repeat' first
      | (with_reducible exact ih0 _ _ _)
      | (with_reducible exact ih1 _ _)
      | (with_reducible exact bursarref04_Name.mono _ _)
      | (with_reducible exact LeO.refl _)
      | (with_reducible exact LeO.none _)
      | (with_reducible refine LeO.ite ?_ ?_)
      | (with_reducible refine LeO.bind ?_ (fun _ => ?_))
      | exact ih0 _ _ _
      | exact ih1 _ _
      | exact bursarref04_Name.mono _ _
      | exact LeO.none _
      | refine LeO.ite ?_ ?_
      | refine LeO.bind ?_ (fun _ => ?_)
end Go.Proofs.YteaiobgnhlpblaaDoor.Q
namespace Go.Proofs.YteaiobgnhlpblaaDoor.Q
open Go.RowKit Go.Proofs.YteaiobgnhlpblaaDoorW.PrintWords Go.Proofs.YteaiobgnhlpblaaDoorW.PrintLast Go.Proofs.YteaiobgnhlpblaaDoorW.PrintMore
attribute [local go_sem] max2_int min2_int max_two min_two max_three min_three max_four min_four   -- for this text's walks alone
set_option linter.unusedVariables false
set_option linter.unusedSimpArgs false
def bursarref04_Line.l0 : Nat → List ByteArray → List ByteArray → Int → Option (List ByteArray × Int)
  | 0, _, _, _ => none
  | k + 1, x4, x6, x7 => if x7 ≥ 0 then (if 0 ≤ x7 then (if x7 ≤ (x4.length : Int) then ((bursarref04_Join.f k (x4.take (x7 : Int).toNat)).bind fun bt297 => (if x6.length < 8796093022208 then (bursarref04_Line.l0 k x4 (x6 ++ [bt297.1]) (wrap64 (x7 - 1))) else (none))) else (none)) else (none)) else (some (x6, 0))
def bursarref04_Line.f (k : Nat) (a0 : ByteArray) : Option (List ByteArray × Int) := (bursarref04_Split.f k a0).bind fun bt289 => (if bt289.2 = 0 then (bursarref04_Line.l0 k bt289.1 ([] : List ByteArray) (bt289.1.length : Int)) else (some (([] : List ByteArray), bt289.2)))
theorem bursarref04_Line.mono_l : ∀ k, (∀ y0 y1 y2, LeO (bursarref04_Line.l0 k y0 y1 y2) (bursarref04_Line.l0 (k + 1) y0 y1 y2))
  | 0 => fun _ _ _ r h => by simp [bursarref04_Line.l0] at h
  | k + 1 => by
    have ih0 := bursarref04_Line.mono_l k
    · intro y0 y1 y2
      unfold bursarref04_Line.l0
      repeat' first
      | (with_reducible exact ih0 _ _ _)
      | (with_reducible exact bursarref04_Join.mono _ _)
      | (with_reducible exact bursarref04_Split.mono _ _)
      | (with_reducible exact LeO.refl _)
      | (with_reducible exact LeO.none _)
      | (with_reducible refine LeO.ite ?_ ?_)
      | (with_reducible refine LeO.bind ?_ (fun _ => ?_))
      | exact ih0 _ _ _
      | exact bursarref04_Join.mono _ _
      | exact bursarref04_Split.mono _ _
      | exact LeO.none _
      | refine LeO.ite ?_ ?_
      | refine LeO.bind ?_ (fun _ => ?_)
theorem bursarref04_Line.mono : ∀ a0 k, LeO (bursarref04_Line.f k a0) (bursarref04_Line.f (k + 1) a0) := by
  intro a0 k
  have ih0 := bursarref04_Line.mono_l k
  unfold bursarref04_Line.f
  repeat' first
      | (with_reducible exact ih0 _ _ _)
      | (with_reducible exact bursarref04_Join.mono _ _)
      | (with_reducible exact bursarref04_Split.mono _ _)
      | (with_reducible exact LeO.refl _)
      | (with_reducible exact LeO.none _)
      | (with_reducible refine LeO.ite ?_ ?_)
      | (with_reducible refine LeO.bind ?_ (fun _ => ?_))
      | exact ih0 _ _ _
      | exact bursarref04_Join.mono _ _
      | exact bursarref04_Split.mono _ _
      | exact LeO.none _
      | refine LeO.ite ?_ ?_
      | refine LeO.bind ?_ (fun _ => ?_)
end Go.Proofs.YteaiobgnhlpblaaDoor.Q
namespace Go.Proofs.YteaiobgnhlpblaaDoor.Q
open Go.RowKit Go.Proofs.YteaiobgnhlpblaaDoorW.PrintWords Go.Proofs.YteaiobgnhlpblaaDoorW.PrintLast Go.Proofs.YteaiobgnhlpblaaDoorW.PrintMore
attribute [local go_sem] max2_int min2_int max_two min_two max_three min_three max_four min_four   -- for this text's walks alone
set_option linter.unusedVariables false
set_option linter.unusedSimpArgs false
def bursarref04_Under.l0 : Nat → ByteArray → List ByteArray → Int → Option (Bool)
  | 0, _, _, _ => none
  | k + 1, x1, x5, x7 => if x7 < (x5.length : Int) then (if 0 ≤ x7 then (if (rdOf ByteArray.empty x5 x7).toList = x1.toList then (some true) else (bursarref04_Under.l0 k x1 x5 (wrap64 (x7 + 1)))) else (none)) else (some false)
def bursarref04_Under.f (k : Nat) (a0 : ByteArray) (a1 : ByteArray) : Option (Bool) := (bursarref04_Line.f k a0).bind fun bt302 => (bursarref04_Under.l0 k a1 bt302.1 0)
theorem bursarref04_Under.mono_l : ∀ k, (∀ y0 y1 y2, LeO (bursarref04_Under.l0 k y0 y1 y2) (bursarref04_Under.l0 (k + 1) y0 y1 y2))
  | 0 => fun _ _ _ r h => by simp [bursarref04_Under.l0] at h
  | k + 1 => by
    have ih0 := bursarref04_Under.mono_l k
    · intro y0 y1 y2
      unfold bursarref04_Under.l0
      repeat' first
      | (with_reducible exact ih0 _ _ _)
      | (with_reducible exact bursarref04_Line.mono _ _)
      | (with_reducible exact LeO.refl _)
      | (with_reducible exact LeO.none _)
      | (with_reducible refine LeO.ite ?_ ?_)
      | (with_reducible refine LeO.bind ?_ (fun _ => ?_))
      | exact ih0 _ _ _
      | exact bursarref04_Line.mono _ _
      | exact LeO.none _
      | refine LeO.ite ?_ ?_
      | refine LeO.bind ?_ (fun _ => ?_)
theorem bursarref04_Under.mono : ∀ a0 a1 k, LeO (bursarref04_Under.f k a0 a1) (bursarref04_Under.f (k + 1) a0 a1) := by
  intro a0 a1 k
  have ih0 := bursarref04_Under.mono_l k
  unfold bursarref04_Under.f
  repeat' first
      | (with_reducible exact ih0 _ _ _)
      | (with_reducible exact bursarref04_Line.mono _ _)
      | (with_reducible exact LeO.refl _)
      | (with_reducible exact LeO.none _)
      | (with_reducible refine LeO.ite ?_ ?_)
      | (with_reducible refine LeO.bind ?_ (fun _ => ?_))
      | exact ih0 _ _ _
      | exact bursarref04_Line.mono _ _
      | exact LeO.none _
      | refine LeO.ite ?_ ?_
      | refine LeO.bind ?_ (fun _ => ?_)
end Go.Proofs.YteaiobgnhlpblaaDoor.Q
namespace Go.Proofs.YteaiobgnhlpblaaDoor.Q
open Go.RowKit Go.Proofs.YteaiobgnhlpblaaDoorW.PrintWords Go.Proofs.YteaiobgnhlpblaaDoorW.PrintLast Go.Proofs.YteaiobgnhlpblaaDoorW.PrintMore
attribute [local go_sem] max2_int min2_int max_two min_two max_three min_three max_four min_four   -- for this text's walks alone
set_option linter.unusedVariables false
set_option linter.unusedSimpArgs false
def label_Parent.f (k : Nat) (a0 : ByteArray) : Option (ByteArray × Int) := (label_Path.f k a0).bind fun t307 => (if t307 = 0 then (if a0.toList = ([47] : List UInt8) then (some ((⟨#[]⟩ : ByteArray), 143)) else ((label_above.f a0).bind fun t308 => (some (t308, 0)))) else (some ((⟨#[]⟩ : ByteArray), t307)))
theorem label_Parent.mono : ∀ a0 k, LeO (label_Parent.f k a0) (label_Parent.f (k + 1) a0) := by
  intro a0 k
  unfold label_Parent.f
  repeat' first
      | (with_reducible exact label_Path.mono _ _)
      | (with_reducible exact LeO.refl _)
      | (with_reducible exact LeO.none _)
      | (with_reducible refine LeO.ite ?_ ?_)
      | (with_reducible refine LeO.bind ?_ (fun _ => ?_))
      | exact label_Path.mono _ _
      | exact LeO.none _
      | refine LeO.ite ?_ ?_
      | refine LeO.bind ?_ (fun _ => ?_)
end Go.Proofs.YteaiobgnhlpblaaDoor.Q
namespace Go.Proofs.YteaiobgnhlpblaaDoor.Q
open Go.RowKit Go.Proofs.YteaiobgnhlpblaaDoorW.PrintWords Go.Proofs.YteaiobgnhlpblaaDoorW.PrintLast Go.Proofs.YteaiobgnhlpblaaDoorW.PrintMore
attribute [local go_sem] max2_int min2_int max_two min_two max_three min_three max_four min_four   -- for this text's walks alone
set_option linter.unusedVariables false
set_option linter.unusedSimpArgs false
def bursarref04_Parent.f (k : Nat) (a0 : ByteArray) : Option (ByteArray × Int) := (bursarref04_Line.f k a0).bind fun bt309 => (if bt309.2 = 0 then (if (bt309.1.length : Int) = 1 then (some ((⟨#[]⟩ : ByteArray), 143)) else (if 1 < (bt309.1.length : Int) then (some (rdOf ByteArray.empty bt309.1 1, 0)) else (none))) else (some ((⟨#[]⟩ : ByteArray), bt309.2)))
theorem bursarref04_Parent.mono : ∀ a0 k, LeO (bursarref04_Parent.f k a0) (bursarref04_Parent.f (k + 1) a0) := by
  intro a0 k
  unfold bursarref04_Parent.f
  repeat' first
      | (with_reducible exact bursarref04_Line.mono _ _)
      | (with_reducible exact LeO.refl _)
      | (with_reducible exact LeO.none _)
      | (with_reducible refine LeO.ite ?_ ?_)
      | (with_reducible refine LeO.bind ?_ (fun _ => ?_))
      | exact bursarref04_Line.mono _ _
      | exact LeO.none _
      | refine LeO.ite ?_ ?_
      | refine LeO.bind ?_ (fun _ => ?_)
end Go.Proofs.YteaiobgnhlpblaaDoor.Q
namespace Go.Proofs.YteaiobgnhlpblaaDoor.Q
open Go.RowKit Go.Proofs.YteaiobgnhlpblaaDoorW.PrintWords Go.Proofs.YteaiobgnhlpblaaDoorW.PrintLast Go.Proofs.YteaiobgnhlpblaaDoorW.PrintMore
attribute [local go_sem] max2_int min2_int max_two min_two max_three min_three max_four min_four   -- for this text's walks alone
set_option linter.unusedVariables false
set_option linter.unusedSimpArgs false
def bursarref04_Path.f (k : Nat) (a0 : ByteArray) : Option (Int) := (bursarref04_Split.f k a0).bind fun bt278 => (some bt278.2)
theorem bursarref04_Path.mono : ∀ a0 k, LeO (bursarref04_Path.f k a0) (bursarref04_Path.f (k + 1) a0) := by
  intro a0 k
  unfold bursarref04_Path.f
  repeat' first
      | (with_reducible exact bursarref04_Split.mono _ _)
      | (with_reducible exact LeO.refl _)
      | (with_reducible exact LeO.none _)
      | (with_reducible refine LeO.ite ?_ ?_)
      | (with_reducible refine LeO.bind ?_ (fun _ => ?_))
      | exact bursarref04_Split.mono _ _
      | exact LeO.none _
      | refine LeO.ite ?_ ?_
      | refine LeO.bind ?_ (fun _ => ?_)
end Go.Proofs.YteaiobgnhlpblaaDoor.Q
namespace Go.Proofs.YteaiobgnhlpblaaDoor.Pl
def pcs (c : UInt8) : List UInt8 → List (List UInt8)
  | [] => [[]]
  | x :: l => if x = c then [] :: pcs c l else match pcs c l with
    | [] => [[x]]
    | p :: r => (x :: p) :: r
def flat (ns : List (List UInt8)) : List UInt8 := (ns.map (47 :: ·)).flatten
def pathL (ns : List (List UInt8)) : List UInt8 := if ns = [] then [47] else flat ns
end Go.Proofs.YteaiobgnhlpblaaDoor.Pl
namespace Go.Proofs.YteaiobgnhlpblaaDoor.Q
open Go.RowKit Go.Proofs.YteaiobgnhlpblaaDoorW.PrintWords Go.Proofs.YteaiobgnhlpblaaDoorW.PrintLast Go.Proofs.YteaiobgnhlpblaaDoor.Pl
set_option linter.unusedVariables false
set_option linter.unusedSimpArgs false
def toB (l : List UInt8) : ByteArray := ⟨l.toArray⟩
theorem toB_list (l : List UInt8) : (toB l).data.toList = l := rfl
theorem toB_of (s : ByteArray) : toB s.data.toList = s := ba_ext rfl
theorem toB_size (l : List UInt8) : (toB l).size = l.length := by simp [toB, ByteArray.size]
theorem size_list (s : ByteArray) : s.data.toList.length = s.size := by rw [Array.length_toList]; rfl
theorem lit_list {s : ByteArray} {l : List UInt8} : s.toList = l ↔ s.data.toList = l := by rw [ByteArray.toList_eq]
def nameL (l : List UInt8) : Bool := nameB (toB l)
theorem nstep (k : Nat) (s : ByteArray) (i : Nat) (h : i < s.size) : bursarref04_Name.l0 (k + 1) s (i : Int) = if okByte (s[i]'h) = true then bursarref04_Name.l0 k s (wrap64 ((i : Int) + 1)) else some false := by
  have hb := bt_get s i h
  have hok := ok_iff (s[i]'h)
  rw [plB_iff, hb] at hok
  simp only [bursarref04_Name.l0]
  rw [if_pos (by omega), if_pos (by omega)]
  by_cases ho : okByte (s[i]'h) = true
  · rw [if_pos ho]
    have := hok.1 ho
    repeat' split
    all_goals first | rfl | (exfalso; omega)
  · rw [if_neg ho]
    have hn := fun h => ho (hok.2 h)
    repeat' split
    all_goals first | rfl | (exfalso; exact hn (by omega))
theorem nloop (s : ByteArray) (hs : s.size ≤ 1048576) (d : Nat) : ∀ i : Nat, i + d = s.size → Ev (fun k => bursarref04_Name.l0 k s (i : Int)) ((s.data.toList.drop i).all okByte) := by
  induction d with
  | zero =>
    intro i hi
    refine Ev.step (f := fun _ => some true) (fun k => ?_) ?_
    · simp only [bursarref04_Name.l0]; rw [if_neg (by omega)]
    · rw [List.drop_of_length_le (by rw [size_list]; omega)]; exact Ev.now true
  | succ d ih =>
    intro i hi
    have hlt : i < s.size := by omega
    have hl : i < s.data.toList.length := by rw [size_list]; exact hlt
    have hd : s.data.toList.drop i = s[i]'hlt :: s.data.toList.drop (i + 1) := List.drop_eq_getElem_cons hl
    rw [hd, List.all_cons]
    cases ho : okByte (s[i]'hlt) with
    | true =>
      rw [Bool.true_and]
      refine Ev.step (fun k => ?_) (ih (i + 1) (by omega))
      rw [nstep k s i hlt, if_pos ho, w64 i (by omega)]
    | false =>
      refine Ev.step (f := fun _ => some false) (fun k => ?_) (Ev.now false)
      rw [nstep k s i hlt, if_neg (by rw [ho]; decide)]
theorem name_ev (s : ByteArray) : Ev (fun k => bursarref04_Name.f k s) (nameB s) := by
  have hfalse : Ev (fun k => bursarref04_Name.j0 k s true) false := Ev.step (f := fun _ => some false) (fun k => by simp [bursarref04_Name.j0]) (Ev.now false)
  by_cases h1 : s.size < 1
  · rw [nameB_false (.inl h1)]
    refine Ev.congr (f := fun k => bursarref04_Name.j0 k s true) (fun k => ?_) hfalse
    unfold bursarref04_Name.f; rw [if_pos (by omega)]
  by_cases h2 : 32 < s.size
  · rw [nameB_false (.inr (.inl h2))]
    refine Ev.congr (f := fun k => bursarref04_Name.j0 k s true) (fun k => ?_) hfalse
    unfold bursarref04_Name.f; rw [if_neg (by omega), if_pos (by omega)]
  by_cases h3 : bt s 0 = 45
  · rw [nameB_false (.inr (.inr (.inl h3)))]
    refine Ev.congr (f := fun k => bursarref04_Name.j0 k s true) (fun k => ?_) hfalse
    unfold bursarref04_Name.f; rw [if_neg (by omega), if_neg (by omega), if_pos (by omega), if_pos h3]
  have hw : wrap64 ((s.size : Int) - 1) = (s.size : Int) - 1 := by unfold wrap64; omega
  by_cases h4 : bt s ((s.size : Int) - 1) = 45
  · rw [nameB_false (.inr (.inr (.inr (.inl h4))))]
    refine Ev.congr (f := fun k => bursarref04_Name.j0 k s true) (fun k => ?_) hfalse
    unfold bursarref04_Name.f
    rw [if_neg (by omega), if_neg (by omega), if_pos (by omega), if_neg h3, hw, if_pos (by omega), if_pos (by omega), h4]; rfl
  have hv : nameB s = s.data.toList.all okByte := by
    cases h : s.data.toList.all okByte with
    | true => exact nameB_true (by omega) (by omega) h3 h4 h
    | false => exact nameB_false (.inr (.inr (.inr (.inr h))))
  rw [hv]
  refine Ev.congr (f := fun k => bursarref04_Name.j0 k s false) (fun k => ?_) ?_
  · unfold bursarref04_Name.f
    have e : (bt s ((s.size : Int) - 1) == 45) = false := by rw [beq_eq_false_iff_ne]; exact h4
    rw [if_neg (by omega), if_neg (by omega), if_pos (by omega), if_neg h3, hw, if_pos (by omega), if_pos (by omega), e]
  · refine Ev.step (f := fun k => bursarref04_Name.l0 k s 0) (fun k => by simp [bursarref04_Name.j0]) ?_
    exact nloop s (by omega) s.size 0 (by omega)
theorem name_size {s : ByteArray} (h : nameB s = true) : 1 ≤ s.size ∧ s.size ≤ 32 := by
  unfold nameB at h
  simp only [Bool.and_eq_true, decide_eq_true_eq] at h
  exact ⟨h.1.1.1.1, h.1.1.1.2⟩
def rest (c : UInt8) (s : ByteArray) (from_ i : Nat) : List (List UInt8) := match pcs c (s.data.toList.drop i) with
  | [] => []
  | p :: r => (((s.data.toList.take i).drop from_) ++ p) :: r
end Go.Proofs.YteaiobgnhlpblaaDoor.Q
namespace Go.Proofs.YteaiobgnhlpblaaDoor.Q
open Go.RowKit Go.Proofs.YteaiobgnhlpblaaDoorW.PrintWords Go.Proofs.YteaiobgnhlpblaaDoorW.PrintLast Go.Proofs.YteaiobgnhlpblaaDoor.Pl
set_option linter.unusedVariables false
set_option linter.unusedSimpArgs false
theorem map_toB (l : List ByteArray) : (l.map (·.data.toList)).map toB = l := by
  simp [List.map_map, Function.comp_def, toB_of]
theorem rd_map (l : List (List UInt8)) (i : Nat) (h : i < l.length) : rdOf ByteArray.empty (l.map toB) (i : Int) = toB (l[i]'h) := by
  rw [rd_at _ i (by simpa using h)]; simp
end Go.Proofs.YteaiobgnhlpblaaDoor.Q
namespace Go.Proofs.YteaiobgnhlpblaaDoor.Q
open Go.RowKit Go.Proofs.YteaiobgnhlpblaaDoorW.PrintWords Go.Proofs.YteaiobgnhlpblaaDoorW.PrintLast Go.Proofs.YteaiobgnhlpblaaDoor.Pl
set_option linter.unusedVariables false
set_option linter.unusedSimpArgs false
def upto (ns : List (List UInt8)) : Nat → List ByteArray
  | 0 => [toB (pathL [])]
  | i + 1 => toB (pathL (ns.take (i + 1))) :: upto ns i
theorem map_list (ns : List (List UInt8)) : (ns.map toB).map (·.data.toList) = ns := by simp [List.map_map, Function.comp_def, toB_list]
theorem toB_app (a b : List UInt8) : toB a ++ toB b = toB (a ++ b) := by
  apply ba_ext
  rw [toB_list]
  simp [toB]
end Go.Proofs.YteaiobgnhlpblaaDoor.Q
namespace Go.Proofs.YteaiobgnhlpblaaDoor.Q
open Go.RowKit Go.Proofs.YteaiobgnhlpblaaDoorW.PrintWords Go.Proofs.YteaiobgnhlpblaaDoorW.PrintLast Go.Proofs.YteaiobgnhlpblaaDoor.Pl
set_option linter.unusedVariables false
set_option linter.unusedSimpArgs false
theorem stloop (l : List ByteArray) (hl : l.length ≤ 2000000) (d : Nat) : ∀ i : Nat, i + d = l.length → Ev (fun k => bursarlaw04_sameTexts.l0 k l l (i : Int)) true := by
  induction d with
  | zero =>
    intro i hi
    refine Ev.step (f := fun _ => some true) (fun k => ?_) (Ev.now _)
    simp only [bursarlaw04_sameTexts.l0]; rw [if_neg (by omega)]
  | succ d ih =>
    intro i hi
    refine Ev.step (fun k => ?_) (ih (i + 1) (by omega))
    simp only [bursarlaw04_sameTexts.l0]
    rw [if_pos (by omega), if_pos (by omega), if_pos (by omega), if_pos trivial, w64 i (by omega)]
theorem same_ev (l : List ByteArray) (hl : l.length ≤ 2000000) : Ev (fun k => bursarlaw04_sameTexts.f k l l) true :=
  Ev.congr (fun k => if_pos rfl) (stloop l hl l.length 0 (by omega))
end Go.Proofs.YteaiobgnhlpblaaDoor.Q
namespace Go.Proofs.YteaiobgnhlpblaaDoor.Q
open Go.RowKit Go.Proofs.YteaiobgnhlpblaaDoorW.PrintWords Go.Proofs.YteaiobgnhlpblaaDoorW.PrintLast Go.Proofs.YteaiobgnhlpblaaDoor.Pl
set_option linter.unusedVariables false
set_option linter.unusedSimpArgs false
theorem fixed_ev : Ev (fun k => bursarlaw04_fixed.f k) true := Ev.of (fun k => bursarlaw04_fixed.mono k) (k := 60) (by decide +kernel)
end Go.Proofs.YteaiobgnhlpblaaDoor.Q
namespace Go.Proofs.YteaiobgnhlpblaaDoor.Q
open Go.RowKit Go.Proofs.YteaiobgnhlpblaaDoorW.PrintWords Go.Proofs.YteaiobgnhlpblaaDoorW.PrintLast Go.Proofs.YteaiobgnhlpblaaDoor.Pl
set_option linter.unusedVariables false
set_option linter.unusedSimpArgs false
theorem rd45 (l : List S45) (i : Nat) (h : i < l.length) : rd_T45 l (i : Int) = l[i]'h := by simp [rd_T45, List.getD_eq_getElem?_getD, List.getElem?_eq_getElem h]
inductive Good : S45 → Prop
  | has (key : List UInt8) (hk : nameL key = true) : Good ⟨toB key, 2, []⟩
  | hasNot (key : List UInt8) (hk : nameL key = true) : Good ⟨toB key, 3, []⟩
  | one (key : List UInt8) (hk : nameL key = true) (how : Int) (hh : how = 0 ∨ how = 1) (v : List UInt8) (hv : nameL v = true ∨ v = []) : Good ⟨toB key, how, [v].map toB⟩
  | many (key : List UInt8) (hk : nameL key = true) (how : Int) (hh : how = 0 ∨ how = 1) (v : List UInt8) (mid : List (List UInt8)) (z : List UInt8) (hv : (v :: (mid ++ [z])).all nameL = true) (hl : mid.length ≤ 6) : Good ⟨toB key, how, (v :: (mid ++ [z])).map toB⟩
theorem good_of (t : S45) (h : propB t = true) : Good t := by
  obtain ⟨key, how, vs⟩ := t
  unfold propB properB at h
  rw [Bool.and_eq_true] at h
  obtain ⟨hk, h⟩ := h
  have hk' : nameL key.data.toList = true := by unfold nameL; rw [toB_of]; exact hk
  simp only at h
  by_cases h2 : how = 2 ∨ how = 3
  · rw [if_pos h2, decide_eq_true_iff, List.length_eq_zero_iff] at h
    subst h
    rcases h2 with rfl | rfl
    · have := Good.has _ hk'; rwa [toB_of] at this
    · have := Good.hasNot _ hk'; rwa [toB_of] at this
  · rw [if_neg h2] at h
    by_cases h0 : how = 0 ∨ how = 1
    · rw [if_pos h0, Bool.and_eq_true, Bool.and_eq_true, decide_eq_true_iff, decide_eq_true_iff] at h
      obtain ⟨⟨h1, h8⟩, hv⟩ := h
      have hall : ∀ j, j < vs.length → vokB vs j = true := fun j hj => by
        unfold valsB at hv; rw [List.all_eq_true] at hv; exact hv j (by simpa using hj)
      by_cases hone : vs.length = 1
      · obtain ⟨v, rfl⟩ := List.length_eq_one_iff.1 hone
        have h0' := hall 0 (by simp)
        unfold vokB at h0'
        rw [Bool.and_eq_true, Bool.or_eq_true, Bool.and_eq_true, decide_eq_true_iff] at h0'
        have hv' : nameL v.data.toList = true ∨ v.data.toList = [] := by
          rcases h0'.1 with hn | hn
          · left; unfold nameL; rw [toB_of]; exact hn
          · right
            have : v = ByteArray.empty := hn.1
            rw [this]; rfl
        have := Good.one _ hk' how h0 _ hv'
        simpa [toB_of] using this
      · have hn : ∀ x ∈ vs, nameB x = true := by
          intro x hx
          obtain ⟨j, hj, rfl⟩ := List.getElem_of_mem hx
          have h0' := hall j hj
          unfold vokB at h0'
          rw [rd_at vs j hj, Bool.and_eq_true, Bool.or_eq_true, Bool.and_eq_true, decide_eq_true_iff, decide_eq_true_iff] at h0'
          rcases h0'.1 with hn | hn
          · exact hn
          · omega
        cases vs with
        | nil => simp at h1
        | cons v r =>
          rcases List.eq_nil_or_concat r with rfl | ⟨mid, z, rfl⟩
          · simp at hone
          · rw [List.concat_eq_append] at *
            have hm : ((v.data.toList) :: (mid.map (·.data.toList) ++ [z.data.toList])).all nameL = true := by
              rw [List.all_eq_true]
              intro x hx
              have : x ∈ (v :: (mid ++ [z])).map (·.data.toList) := by simpa using hx
              obtain ⟨y, hy, rfl⟩ := List.mem_map.1 this
              unfold nameL
              rw [toB_of]
              exact hn y hy
            have := Good.many _ hk' how h0 _ (mid.map (·.data.toList)) _ hm (by simp at h8; simpa using h8)
            have e : ((v.data.toList) :: (mid.map (·.data.toList) ++ [z.data.toList])).map toB = v :: (mid ++ [z]) := by
              have := map_toB (v :: (mid ++ [z]))
              simpa using this
            rwa [e, toB_of] at this
    · rw [if_neg h0] at h
      cases h
def wL (key : List UInt8) (how : Int) (vs : List (List UInt8)) : List UInt8 :=
  if how = 2 then key else if how = 3 then 33 :: key else if vs.length = 1 then key ++ ((if how = 0 then [61] else [33, 61]) ++ vs.headD [])
  else key ++ ((if how = 1 then [32, 110, 111, 116, 105, 110, 32, 40] else [32, 105, 110, 32, 40]) ++ (Lib.join vs [32] ++ [41]))
def wS (t : S45) : List UInt8 := wL t.f0.data.toList t.f1 (t.f2.map (·.data.toList))
theorem wS_mk (key : List UInt8) (how : Int) (vs : List (List UInt8)) : wS ⟨toB key, how, vs.map toB⟩ = wL key how vs := by unfold wS; simp only [map_list, toB_list]
theorem join_len (vs : List (List UInt8)) (sep : List UInt8) : (Lib.join vs sep).length ≤ (vs.map List.length).sum + vs.length * sep.length := by
  cases vs with
  | nil => simp [Lib.join_nil]
  | cons v r =>
    rw [Lib.join_cons]
    have : ∀ r : List (List UInt8), (Lib.joinTail sep r).length = (r.map List.length).sum + r.length * sep.length := by
      intro r
      induction r with
      | nil => simp [Lib.joinTail]
      | cons y r ih =>
        unfold Lib.joinTail at ih ⊢
        simp only [List.map_cons, List.flatten_cons, List.length_append, ih, List.sum_cons, List.length_cons, Nat.add_mul]
        omega
    rw [List.length_append, this, List.map_cons, List.sum_cons, List.length_cons, Nat.add_mul]
    omega
theorem names_sum : ∀ vs : List (List UInt8), vs.all nameL = true → (vs.map List.length).sum ≤ 32 * vs.length
  | [], _ => by simp
  | v :: vs, h => by
    rw [List.all_cons, Bool.and_eq_true] at h
    have := names_sum vs h.2
    have hs := (name_size h.1).2
    rw [toB_size] at hs
    simp
    omega
theorem name_len {l : List UInt8} (h : nameL l = true) : 1 ≤ l.length ∧ l.length ≤ 32 := by
  have := name_size h
  rwa [toB_size] at this
theorem wS_len {t : S45} (h : Good t) : 1 ≤ (wS t).length ∧ (wS t).length ≤ 400 := by
  cases h with
  | has key hk => have := name_len hk; rw [show (⟨toB key, 2, []⟩ : S45) = ⟨toB key, 2, [].map toB⟩ from rfl, wS_mk]; simp [wL]; omega
  | hasNot key hk => have := name_len hk; rw [show (⟨toB key, 3, []⟩ : S45) = ⟨toB key, 3, [].map toB⟩ from rfl, wS_mk]; simp [wL]; omega
  | one key hk how hh v hv =>
    have := name_len hk
    have hv' : v.length ≤ 32 := by
      rcases hv with h | h
      · exact (name_len h).2
      · simp [h]
    rw [wS_mk]
    rcases hh with rfl | rfl <;> simp [wL] <;> omega
  | many key hk how hh v mid z hv hl =>
    have := name_len hk
    have hj := join_len (v :: (mid ++ [z])) [32]
    have hs := names_sum _ hv
    simp at hs hj
    rw [wS_mk]
    rcases hh with rfl | rfl <;> simp [wL] <;> omega
theorem joinB_toB (vs : List (List UInt8)) (sep : List UInt8) : joinB (vs.map toB) (toB sep) = toB (Lib.join vs sep) := by
  unfold joinB
  rw [map_list, toB_list]; rfl
theorem sjoin_some (vs : List (List UInt8)) (sep : List UInt8) (h1 : vs.length ≤ 1000) (h2 : (vs.map List.length).sum ≤ 1000000) (h3 : sep.length ≤ 10) : strings_Join.f (vs.map toB) (toB sep) = some (toB (Lib.join vs sep)) := by
  unfold strings_Join.f
  have := join_len vs sep
  have : vs.length * sep.length ≤ 1000 * 10 := Nat.mul_le_mul h1 h3
  rw [if_pos ⟨by simp; omega, by rw [joinB_toB, toB_size]; omega⟩, joinB_toB]
set_option maxHeartbeats 2000000 in
theorem printed_ev (t : S45) (h : Good t) : Ev (fun k => label_printed.f k t.f0 t.f1 t.f2) (toB (wS t)) := by
  cases h with
  | has key hk =>
    rw [show (⟨toB key, 2, []⟩ : S45) = ⟨toB key, 2, [].map toB⟩ from rfl, wS_mk]
    dsimp only
    exact Ev.congr (fun k => by unfold label_printed.f; rw [if_pos rfl]; rfl) (Ev.now _)
  | hasNot key hk =>
    have := name_len hk
    rw [show (⟨toB key, 3, []⟩ : S45) = ⟨toB key, 3, [].map toB⟩ from rfl, wS_mk]
    dsimp only
    exact Ev.congr (f := fun _ => some (toB (33 :: key))) (fun k => by unfold label_printed.f; rw [if_neg (by decide), if_pos rfl, if_pos (by rw [toB_size]; omega), show (⟨#[33]⟩ : ByteArray) = toB [33] from rfl, toB_app]; rfl) (Ev.now _)
  | one key hk how hh v hv =>
    have := name_len hk
    have hv' : v.length ≤ 32 := by
      rcases hv with h | h
      · exact (name_len h).2
      · simp [h]
    rw [wS_mk]
    dsimp only
    have e0 : rdOf ByteArray.empty (List.map toB [v]) 0 = toB v := rfl
    rcases hh with rfl | rfl
    · refine Ev.congr (f := fun k => label_printed.j0 k false true (toB key) 0 (List.map toB [v])) (fun k => by unfold label_printed.f; rw [if_neg (by decide), if_neg (by decide), if_pos rfl]; rfl) ?_
      refine Ev.step (f := fun _ => some (toB (key ++ 61 :: v))) (fun k => ?_) (Ev.now _)
      simp only [label_printed.j0]
      rw [if_pos trivial, if_pos (by rw [toB_size]; omega), if_pos (by simp), e0, show (⟨#[61]⟩ : ByteArray) = toB [61] from rfl, toB_app, if_pos (by rw [toB_size, toB_size]; simp; omega), toB_app]
      simp
    · refine Ev.congr (f := fun k => label_printed.j0 k false false (toB key) 1 (List.map toB [v])) (fun k => by unfold label_printed.f; rw [if_neg (by decide), if_neg (by decide), if_neg (by decide)]; rfl) ?_
      refine Ev.step (f := fun k => label_printed.j1 k true (toB key) 1 (List.map toB [v])) (fun k => by simp only [label_printed.j0]; rw [if_neg (by decide), if_pos trivial]; rfl) ?_
      refine Ev.step (f := fun _ => some (toB (key ++ 33 :: 61 :: v))) (fun k => ?_) (Ev.now _)
      simp only [label_printed.j1]
      rw [if_pos trivial, if_pos (by rw [toB_size]; omega), if_pos (by simp), e0, show (⟨#[33, 61]⟩ : ByteArray) = toB [33, 61] from rfl, toB_app, if_pos (by rw [toB_size, toB_size]; simp; omega), toB_app]
      simp
  | many key hk how hh v mid z hv hl =>
    have := name_len hk
    have hs := names_sum _ hv
    have hj := join_len (v :: (mid ++ [z])) [32]
    have hsj := sjoin_some (v :: (mid ++ [z])) [32] (by simp; omega) (by simp at hs ⊢; omega) (by decide)
    have hne : ¬ (v :: (mid ++ [z])).length = 1 := by simp
    have hm : decide (((List.map toB (v :: (mid ++ [z]))).length : Int) > 1) = true := decide_eq_true (by simp; omega)
    rw [wS_mk]
    dsimp only
    generalize hvs : v :: (mid ++ [z]) = vs at *
    have hl8 : (Lib.join vs [32]).length ≤ 272 := by
      have : vs.length = mid.length + 2 := by rw [← hvs]; simp
      simp at hj
      omega
    rcases hh with rfl | rfl
    · have e : wL key 0 vs = key ++ ([32, 105, 110, 32, 40] ++ (Lib.join vs [32] ++ [41])) := by unfold wL; rw [if_neg (by decide), if_neg (by decide), if_neg hne, if_neg (by decide)]
      rw [e]
      refine Ev.congr (f := fun k => label_printed.j0 k true false (toB key) 0 (List.map toB vs)) (fun k => by unfold label_printed.f; rw [if_neg (by decide), if_neg (by decide), if_pos rfl, hm]; rfl) ?_
      refine Ev.step (f := fun k => label_printed.j1 k false (toB key) 0 (List.map toB vs)) (fun k => by simp only [label_printed.j0]; rw [if_neg (by decide), if_neg (by decide)]) ?_
      refine Ev.step (f := fun _ => some (toB (key ++ ([32, 105, 110, 32, 40] ++ (Lib.join vs [32] ++ [41]))))) (fun k => ?_) (Ev.now _)
      simp only [label_printed.j1]
      rw [if_neg (by decide), if_neg (by decide), if_pos (by rw [toB_size]; omega), show (⟨#[32]⟩ : ByteArray) = toB [32] from rfl, hsj, Option.bind_some, show (⟨#[32, 105, 110, 32, 40]⟩ : ByteArray) = toB [32, 105, 110, 32, 40] from rfl, toB_app, if_pos (by rw [toB_size, toB_size]; simp; omega), toB_app, if_pos (by rw [toB_size]; simp; omega), show (⟨#[41]⟩ : ByteArray) = toB [41] from rfl, toB_app]
      simp
    · have e : wL key 1 vs = key ++ ([32, 110, 111, 116, 105, 110, 32, 40] ++ (Lib.join vs [32] ++ [41])) := by unfold wL; rw [if_neg (by decide), if_neg (by decide), if_neg hne, if_pos rfl]
      rw [e]
      refine Ev.congr (f := fun k => label_printed.j0 k true false (toB key) 1 (List.map toB vs)) (fun k => by unfold label_printed.f; rw [if_neg (by decide), if_neg (by decide), if_neg (by decide), hm]) ?_
      refine Ev.step (f := fun k => label_printed.j1 k false (toB key) 1 (List.map toB vs)) (fun k => by simp only [label_printed.j0]; rw [if_neg (by decide), if_pos trivial]; rfl) ?_
      refine Ev.step (f := fun _ => some (toB (key ++ ([32, 110, 111, 116, 105, 110, 32, 40] ++ (Lib.join vs [32] ++ [41]))))) (fun k => ?_) (Ev.now _)
      simp only [label_printed.j1]
      rw [if_neg (by decide), if_pos trivial, if_pos (by rw [toB_size]; omega), show (⟨#[32]⟩ : ByteArray) = toB [32] from rfl, hsj, Option.bind_some, show (⟨#[32, 110, 111, 116, 105, 110, 32, 40]⟩ : ByteArray) = toB [32, 110, 111, 116, 105, 110, 32, 40] from rfl, toB_app, if_pos (by rw [toB_size, toB_size]; simp; omega), toB_app, if_pos (by rw [toB_size]; simp; omega), show (⟨#[41]⟩ : ByteArray) = toB [41] from rfl, toB_app]
      simp
end Go.Proofs.YteaiobgnhlpblaaDoor.Q
namespace Go.Proofs.YteaiobgnhlpblaaDoor.Q
open Go.RowKit Go.Proofs.YteaiobgnhlpblaaDoorW.PrintWords Go.Proofs.YteaiobgnhlpblaaDoorW.PrintLast Go.Proofs.YteaiobgnhlpblaaDoor.Pl
set_option linter.unusedVariables false
set_option linter.unusedSimpArgs false
theorem join_snoc (vs : List (List UInt8)) (sep : List UInt8) (i : Nat) (h0 : 0 < i) (h : i < vs.length) : Lib.join (vs.take (i + 1)) sep = Lib.join (vs.take i) sep ++ sep ++ vs[i] := by
  cases vs with
  | nil => simp at h
  | cons x r =>
    obtain ⟨j, rfl⟩ : ∃ j, i = j + 1 := ⟨i - 1, by omega⟩
    have hj : r[j]? = some (r[j]'(by simpa using h)) := List.getElem?_eq_getElem _
    rw [List.take_succ_cons, List.take_succ_cons, Lib.join_cons, Lib.join_cons, Lib.joinTail_take_succ sep r j _ hj]
    simp [List.append_assoc]
theorem join_first (vs : List (List UInt8)) (sep : List UInt8) (h : 0 < vs.length) : Lib.join (vs.take 1) sep = vs[0] := by
  cases vs with
  | nil => simp at h
  | cons x r => simp [Lib.join_one]
theorem vl_loop (key : ByteArray) (how : Int) (vs : List ByteArray) (n : Nat) (hn : n < vs.length) (hl : vs.length ≤ 2000000) (d : Nat) : ∀ j : Nat, j + d = n →
    Ev (fun k => bursarref04_value.l0 k (n : Int) vs[n] (j : Int) key how vs) ((nameB vs[n] || (decide (vs[n] = ByteArray.empty) && decide (vs.length ≤ 1))) && !memB ((vs.take n).drop j) vs[n]) := by
  induction d with
  | zero =>
    intro j hj
    have hd : (vs.take n).drop j = [] := List.drop_of_length_le (by rw [List.length_take]; omega)
    rw [hd, show memB [] vs[n] = false from rfl, Bool.not_false, Bool.and_true]
    refine Ev.step (f := fun k => (bursarref04_Name.f k vs[n]).bind fun t141 => (if t141 = true then (some true) else (if (vs[n]).toList = ([] : List UInt8) then (some ((vs.length : Int) == 1)) else (some false)))) (fun k => by simp only [bursarref04_value.l0]; rw [if_neg (by omega)]) ?_
    refine Ev.bind (name_ev _) ?_
    cases hn' : nameB vs[n] with
    | true => rw [Bool.true_or]; exact Ev.congr (fun k => if_pos rfl) (Ev.now _)
    | false =>
      rw [Bool.false_or]
      refine Ev.congr (fun k => if_neg (by decide)) ?_
      by_cases he : vs[n] = ByteArray.empty
      · refine Ev.congr (fun k => if_pos (by rw [he]; exact lit_list.2 rfl)) ?_
        have e : ((vs.length : Int) == 1) = (decide (vs[n] = ByteArray.empty) && decide (vs.length ≤ 1)) := by
          rw [decide_eq_true he, Bool.true_and, Bool.eq_iff_iff, beq_iff_eq, decide_eq_true_iff]; omega
        rw [e]; exact Ev.now _
      · refine Ev.congr (fun k => if_neg (fun h => he (ba_ext ((lit_list.1 h).trans rfl)))) ?_
        rw [decide_eq_false he, Bool.false_and]; exact Ev.now _
  | succ d ih =>
    intro j hj
    have hjn : j < n := by omega
    have hd : (vs.take n).drop j = vs[j] :: (vs.take n).drop (j + 1) := by
      rw [List.drop_eq_getElem_cons (by rw [List.length_take]; omega), List.getElem_take]
    have hrd : rdOf ByteArray.empty vs (j : Int) = vs[j]'(by omega) := rd_at vs j (by omega)
    rw [hd]
    by_cases he : vs[j] = vs[n]
    · have : memB (vs[j] :: (vs.take n).drop (j + 1)) vs[n] = true := by rw [memB_iff]; rw [he]; simp
      rw [this, Bool.not_true, Bool.and_false]
      refine Ev.step (f := fun _ => some false) (fun k => ?_) (Ev.now _)
      simp only [bursarref04_value.l0]
      rw [if_pos (by omega), if_pos (by omega), if_pos (by omega), hrd, if_pos (by rw [he])]
    · have : memB (vs[j] :: (vs.take n).drop (j + 1)) vs[n] = memB ((vs.take n).drop (j + 1)) vs[n] := by
        unfold memB
        rw [List.any_cons, decide_eq_false (fun h => he h.symm), Bool.false_or]
      rw [this]
      refine Ev.step (fun k => ?_) (ih (j + 1) (by omega))
      simp only [bursarref04_value.l0]
      rw [if_pos (by omega), if_pos (by omega), if_pos (by omega), hrd, if_neg (fun h => he ((ba_iff _ _).1 h)), w64 j (by omega)]
theorem value_ev (key : ByteArray) (how : Int) (vs : List ByteArray) (n : Nat) (hn : n < vs.length) (hl : vs.length ≤ 2000000) : Ev (fun k => bursarref04_value.f k key how vs (n : Int)) (vokB vs n) := by
  have h := vl_loop key how vs n hn hl n 0 (by omega)
  rw [List.drop_zero] at h
  unfold vokB
  rw [rd_at vs n hn]
  refine Ev.congr (fun k => ?_) h
  unfold bursarref04_value.f
  rw [if_pos (by omega), if_pos (by omega), rd_at vs n hn]
  rfl
theorem tm_loop (key : ByteArray) (how : Int) (vs : List ByteArray) (hl : vs.length ≤ 2000000) (d : Nat) : ∀ i : Nat, i + d = vs.length →
    Ev (fun k => bursarref04_term.l0 k (i : Int) key how vs) (((List.range vs.length).drop i).all (vokB vs)) := by
  induction d with
  | zero =>
    intro i hi
    rw [List.drop_of_length_le (by simp; omega)]
    refine Ev.step (f := fun _ => some true) (fun k => ?_) (Ev.now _)
    simp only [bursarref04_term.l0]
    rw [if_neg (by omega)]
  | succ d ih =>
    intro i hi
    have hd : (List.range vs.length).drop i = i :: (List.range vs.length).drop (i + 1) := by
      rw [List.drop_eq_getElem_cons (by simp; omega), List.getElem_range]
    rw [hd, List.all_cons]
    refine Ev.step (f := fun k => (bursarref04_value.f k key how vs (i : Int)).bind fun t144 => (if t144 = true then (bursarref04_term.l0 k ((i + 1 : Nat) : Int) key how vs) else (some false))) (fun k => by simp only [bursarref04_term.l0]; rw [if_pos (by omega), w64 i (by omega)]) ?_
    refine Ev.bind (value_ev key how vs i (by omega) hl) ?_
    cases hv : vokB vs i with
    | true => rw [Bool.true_and]; exact Ev.congr (fun k => if_pos rfl) (ih (i + 1) (by omega))
    | false => rw [Bool.false_and]; exact Ev.congr (fun k => if_neg (by decide)) (Ev.now _)
theorem term_ev (key : ByteArray) (how : Int) (vs : List ByteArray) : Ev (fun k => bursarref04_term.f k key how vs) (properB key how vs) := by
  have hno : Ev (fun k => bursarref04_term.j0 k true key how vs) false := Ev.step (f := fun _ => some false) (fun k => by simp only [bursarref04_term.j0]; rw [if_pos trivial]) (Ev.now _)
  refine Ev.congr (fun k => rfl) (Ev.bind (name_ev key) (f := fun k t143 => (if t143 = true then (if how < 0 then (bursarref04_term.j0 k true key how vs) else (bursarref04_term.j0 k (decide (how > 3)) key how vs)) else (bursarref04_term.j0 k true key how vs))) ?_)
  unfold properB
  cases hn : nameB key with
  | false => rw [Bool.false_and]; exact Ev.congr (fun k => if_neg (by decide)) hno
  | true =>
    rw [Bool.true_and]
    refine Ev.congr (fun k => if_pos rfl) ?_
    by_cases h0 : how < 0
    · rw [if_neg (by omega), if_neg (by omega)]
      exact Ev.congr (fun k => if_pos h0) hno
    refine Ev.congr (fun k => if_neg h0) ?_
    by_cases h3 : how > 3
    · rw [if_neg (by omega), if_neg (by omega), decide_eq_true h3]
      exact hno
    rw [decide_eq_false h3]
    by_cases h1 : how > 1
    · rw [if_pos (by omega)]
      refine Ev.step (f := fun _ => some ((vs.length : Int) == 0)) (fun k => by simp only [bursarref04_term.j0]; rw [if_neg (by decide), if_pos h1]) ?_
      have e : ((vs.length : Int) == 0) = decide (vs.length = 0) := by rw [Bool.eq_iff_iff, beq_iff_eq, decide_eq_true_iff]; omega
      rw [e]; exact Ev.now _
    rw [if_neg (by omega), if_pos (by omega)]
    have hj1 : Ev (fun k => bursarref04_term.j1 k true key how vs) false := Ev.step (f := fun _ => some false) (fun k => by simp only [bursarref04_term.j1]; rw [if_pos trivial]) (Ev.now _)
    by_cases hz : vs.length < 1
    · rw [decide_eq_false (by omega), Bool.false_and, Bool.false_and]
      exact Ev.step (fun k => by simp only [bursarref04_term.j0]; rw [if_neg (by decide), if_neg h1, if_pos (by omega)]) hj1
    · rw [decide_eq_true (by omega), Bool.true_and]
      refine Ev.step (fun k => by simp only [bursarref04_term.j0]; rw [if_neg (by decide), if_neg h1, if_neg (by omega)]) (f := fun k => bursarref04_term.j1 k (decide ((vs.length : Int) > 8)) key how vs) ?_
      by_cases h8 : vs.length ≤ 8
      · rw [decide_eq_true h8, Bool.true_and, decide_eq_false (by omega)]
        have h := tm_loop key how vs (by omega) vs.length 0 (by omega)
        exact Ev.step (fun k => by simp only [bursarref04_term.j1]; rw [if_neg (by decide)]; rfl) h
      · rw [decide_eq_false h8, Bool.false_and, decide_eq_true (by omega)]
        exact hj1
def allB (l : List S45) : Bool := decide (l.length ≤ 8) && l.all propB
theorem ts_loop (l : List S45) (hl : l.length ≤ 4611686018427387904) (d : Nat) : ∀ i : Nat, i + d = l.length →
    Ev (fun k => bursarref04_terms.l0 k l (i : Int)) (decide (l.length ≤ 8) && (l.drop i).all propB) := by
  induction d with
  | zero =>
    intro i hi
    rw [List.drop_of_length_le (by omega), List.all_nil, Bool.and_true]
    refine Ev.step (f := fun _ => some (decide (l.length ≤ 8))) (fun k => ?_) (Ev.now _)
    simp only [bursarref04_terms.l0]
    rw [if_neg (by omega)]
    congr 1
    rw [Bool.eq_iff_iff, decide_eq_true_iff, decide_eq_true_iff]; omega
  | succ d ih =>
    intro i hi
    have hlt : i < l.length := by omega
    rw [List.drop_eq_getElem_cons hlt, List.all_cons]
    refine Ev.step (f := fun k => (bursarref04_term.f k l[i].f0 l[i].f1 l[i].f2).bind fun t146 => (if t146 = true then (bursarref04_terms.l0 k l ((i + 1 : Nat) : Int)) else (some false))) (fun k => by simp only [bursarref04_terms.l0]; rw [if_pos (by omega), if_pos (by omega), rd45 l i hlt, w64 i (by omega)]) ?_
    refine Ev.bind (term_ev _ _ _) ?_
    rw [show properB l[i].f0 l[i].f1 l[i].f2 = propB l[i] from rfl]
    cases hp : propB l[i] with
    | true => rw [Bool.true_and]; exact Ev.congr (fun k => if_pos rfl) (ih (i + 1) (by omega))
    | false => rw [Bool.false_and, Bool.and_false]; exact Ev.congr (fun k => if_neg (by decide)) (Ev.now _)
theorem terms_ev (l : List S45) (hl : l.length ≤ 4611686018427387904) : Ev (fun k => bursarref04_terms.f k l) (allB l) := ts_loop l hl l.length 0 (by omega)
set_option maxHeartbeats 1000000 in
theorem wr_loop (pre : List UInt8) (key : ByteArray) (how : Int) (vs : List (List UInt8)) (hp : pre.length ≤ 1000) (hl : vs.length ≤ 8) (hs : (vs.map List.length).sum ≤ 1000) (h1 : 0 < vs.length) (d : Nat) : ∀ i : Nat, i + d = vs.length →
    Ev (fun k => bursarref04_written.l0 k (toB (pre ++ Lib.join (vs.take i) [32])) (i : Int) key how (vs.map toB)) (toB (pre ++ (Lib.join vs [32] ++ [41]))) := by
  have hsum : ∀ i, ((vs.take i).map List.length).sum ≤ (vs.map List.length).sum := fun i => by
    conv => rhs; rw [← List.take_append_drop i vs, List.map_append, List.sum_append]
    omega
  have hjl : ∀ i, (Lib.join (vs.take i) [32]).length ≤ 1008 := fun i => by
    have h := join_len (vs.take i) [32]
    have := hsum i
    rw [List.length_take] at h
    simp only [List.length_cons, List.length_nil] at h
    omega
  induction d with
  | zero =>
    intro i hi
    have hi' : i = vs.length := by omega
    subst hi'
    have := hjl vs.length
    refine Ev.step (f := fun _ => some (toB (pre ++ (Lib.join vs [32] ++ [41])))) (fun k => ?_) (Ev.now _)
    simp only [bursarref04_written.l0]
    rw [if_neg (by simp), if_pos (by rw [toB_size, List.length_append]; omega), show (⟨#[41]⟩ : ByteArray) = toB [41] from rfl, toB_app, List.take_length, List.append_assoc]
  | succ d ih =>
    intro i hi
    have hlt : i < vs.length := by omega
    have hj := hjl i
    have hj' := hjl (i + 1)
    have hih := ih (i + 1) (by omega)
    refine Ev.step (fun k => ?_) hih
    simp only [bursarref04_written.l0]
    rw [if_pos (by simp; omega)]
    by_cases h0 : i = 0
    · subst h0
      have hf := join_first vs [32] h1
      rw [Nat.zero_add, hf] at hj' ⊢
      rw [if_neg (by omega), if_pos (by omega), rd_map vs 0 hlt, if_pos (by rw [toB_size, toB_size, List.length_append]; omega), toB_app, w64 0 (by omega), List.take_zero, Lib.join_nil, List.append_nil]
    · have hsn := join_snoc vs [32] i (by omega) hlt
      rw [hsn] at hj' ⊢
      simp only [List.length_append] at hj'
      rw [if_pos (by omega), if_pos (by rw [toB_size, List.length_append]; omega), if_pos (by omega), rd_map vs i hlt, show (⟨#[32]⟩ : ByteArray) = toB [32] from rfl, toB_app, if_pos (by rw [toB_size, toB_size, List.length_append, List.length_append]; simp; omega), toB_app, w64 i (by omega)]
      simp only [List.append_assoc]
set_option maxHeartbeats 2000000 in
theorem written_ev (t : S45) (h : Good t) : Ev (fun k => bursarref04_written.f k t.f0 t.f1 t.f2) (toB (wS t)) := by
  cases h with
  | has key hk =>
    rw [show (⟨toB key, 2, []⟩ : S45) = ⟨toB key, 2, [].map toB⟩ from rfl, wS_mk]
    dsimp only
    exact Ev.congr (fun k => by unfold bursarref04_written.f; rw [if_pos rfl]; rfl) (Ev.now _)
  | hasNot key hk =>
    have := name_len hk
    rw [show (⟨toB key, 3, []⟩ : S45) = ⟨toB key, 3, [].map toB⟩ from rfl, wS_mk]
    dsimp only
    exact Ev.congr (f := fun _ => some (toB (33 :: key))) (fun k => by unfold bursarref04_written.f; rw [if_neg (by decide), if_pos rfl, if_pos (by rw [toB_size]; omega), show (⟨#[33]⟩ : ByteArray) = toB [33] from rfl, toB_app]; rfl) (Ev.now _)
  | one key hk how hh v hv =>
    have := name_len hk
    have hv' : v.length ≤ 32 := by
      rcases hv with h | h
      · exact (name_len h).2
      · simp [h]
    rw [wS_mk]
    dsimp only
    have e0 : rdOf ByteArray.empty (List.map toB [v]) 0 = toB v := rfl
    rcases hh with rfl | rfl
    · refine Ev.congr (f := fun k => bursarref04_written.j0 k true (toB key) 0 (List.map toB [v])) (fun k => by unfold bursarref04_written.f; rw [if_neg (by decide), if_neg (by decide), if_pos (by simp)]; rfl) ?_
      refine Ev.step (f := fun _ => some (toB (key ++ 61 :: v))) (fun k => ?_) (Ev.now _)
      simp only [bursarref04_written.j0]
      rw [if_pos trivial, if_pos (by rw [toB_size]; omega), if_pos (by simp), e0, show (⟨#[61]⟩ : ByteArray) = toB [61] from rfl, toB_app, if_pos (by rw [toB_size, toB_size]; simp; omega), toB_app]
      simp
    · refine Ev.congr (f := fun k => bursarref04_written.j0 k false (toB key) 1 (List.map toB [v])) (fun k => by unfold bursarref04_written.f; rw [if_neg (by decide), if_neg (by decide), if_pos (by simp)]; rfl) ?_
      refine Ev.step (f := fun _ => some (toB (key ++ 33 :: 61 :: v))) (fun k => ?_) (Ev.now _)
      simp only [bursarref04_written.j0]
      rw [if_neg (by decide), if_pos (by simp), if_pos (by rw [toB_size]; omega), if_pos (by simp), e0, show (⟨#[33, 61]⟩ : ByteArray) = toB [33, 61] from rfl, toB_app, if_pos (by rw [toB_size, toB_size]; simp; omega), toB_app]
      simp
  | many key hk how hh v mid z hv hl =>
    have := name_len hk
    have hs := names_sum _ hv
    have hne : ¬ (v :: (mid ++ [z])).length = 1 := by simp
    have hne' : ¬ (((v :: (mid ++ [z])).map toB).length : Int) = 1 := by simp; omega
    have hl8 : (v :: (mid ++ [z])).length ≤ 8 := by simp; omega
    have h0 : 0 < (v :: (mid ++ [z])).length := by simp
    rw [wS_mk]
    dsimp only
    generalize hvs : v :: (mid ++ [z]) = vs at *
    rcases hh with rfl | rfl
    · have e : wL key 0 vs = (key ++ [32, 105, 110, 32, 40]) ++ (Lib.join vs [32] ++ [41]) := by unfold wL; rw [if_neg (by decide), if_neg (by decide), if_neg hne, if_neg (by decide), List.append_assoc]
      rw [e]
      have h := wr_loop (key ++ [32, 105, 110, 32, 40]) (toB key) 0 vs (by simp; omega) hl8 (by omega) h0 vs.length 0 (by omega)
      rw [List.take_zero, Lib.join_nil, List.append_nil] at h
      refine Ev.congr (f := fun k => bursarref04_written.j0 k false (toB key) 0 (List.map toB vs)) (fun k => by unfold bursarref04_written.f; rw [if_neg (by decide), if_neg (by decide), if_neg hne']) ?_
      refine Ev.step (f := fun k => bursarref04_written.j1 k (toB (key ++ [32, 105, 110, 32, 40])) (toB key) 0 (List.map toB vs)) (fun k => ?_) (Ev.step (fun k => by simp only [bursarref04_written.j1]; rfl) h)
      simp only [bursarref04_written.j0]
      rw [if_neg (by decide), if_neg hne', if_pos (by rw [toB_size]; omega), if_neg (by decide), show (⟨#[32, 105, 110, 32, 40]⟩ : ByteArray) = toB [32, 105, 110, 32, 40] from rfl, toB_app]
    · have e : wL key 1 vs = (key ++ [32, 110, 111, 116, 105, 110, 32, 40]) ++ (Lib.join vs [32] ++ [41]) := by unfold wL; rw [if_neg (by decide), if_neg (by decide), if_neg hne, if_pos rfl, List.append_assoc]
      rw [e]
      have h := wr_loop (key ++ [32, 110, 111, 116, 105, 110, 32, 40]) (toB key) 1 vs (by simp; omega) hl8 (by omega) h0 vs.length 0 (by omega)
      rw [List.take_zero, Lib.join_nil, List.append_nil] at h
      refine Ev.congr (f := fun k => bursarref04_written.j0 k false (toB key) 1 (List.map toB vs)) (fun k => by unfold bursarref04_written.f; rw [if_neg (by decide), if_neg (by decide), if_neg hne']) ?_
      refine Ev.step (f := fun k => bursarref04_written.j1 k (toB (key ++ [32, 110, 111, 116, 105, 110, 32, 40])) (toB key) 1 (List.map toB vs)) (fun k => ?_) (Ev.step (fun k => by simp only [bursarref04_written.j1]; rfl) h)
      simp only [bursarref04_written.j0]
      rw [if_neg (by decide), if_neg hne', if_pos (by rw [toB_size]; omega), if_pos trivial, if_pos (by rw [toB_size]; omega), show (⟨#[32, 110, 111, 116, 105, 110, 32, 40]⟩ : ByteArray) = toB [32, 110, 111, 116, 105, 110, 32, 40] from rfl, toB_app]
def pL (l : List S45) : List UInt8 := Lib.join (l.map wS) [44]
def printS (l : List S45) : ByteArray × Int := if allB l = true then (toB (pL l), 0) else (⟨#[]⟩, 43)
theorem allB_good {l : List S45} (h : allB l = true) : l.length ≤ 8 ∧ ∀ t ∈ l, Good t := by
  unfold allB at h
  rw [Bool.and_eq_true, decide_eq_true_iff, List.all_eq_true] at h
  exact ⟨h.1, fun t ht => good_of t (h.2 t ht)⟩
theorem ws_sum : ∀ l : List S45, (∀ t ∈ l, Good t) → ((l.map wS).map List.length).sum ≤ 400 * l.length
  | [], _ => by simp
  | t :: l, h => by
    have := ws_sum l (fun x hx => h x (by simp [hx]))
    have ht := (wS_len (h t (by simp))).2
    simp only [List.map_cons, List.sum_cons, List.length_cons]
    omega
theorem lp_loop (l : List S45) (h8 : l.length ≤ 8) (hg : ∀ t ∈ l, Good t) (d : Nat) : ∀ i : Nat, i + d = l.length →
    Ev (fun k => label_Print.l0 k (((l.take i).map wS).map toB) l (l.length : Int) (i : Int)) (toB (pL l), 0) := by
  induction d with
  | zero =>
    intro i hi
    have hi' : i = l.length := by omega
    subst hi'
    rw [List.take_length]
    have hs := ws_sum l hg
    refine Ev.step (f := fun _ => some (toB (pL l), 0)) (fun k => ?_) (Ev.now _)
    simp only [label_Print.l0]
    rw [if_neg (by omega), show (⟨#[44]⟩ : ByteArray) = toB [44] from rfl, sjoin_some _ _ (by simp; omega) (by omega) (by decide)]
    rfl
  | succ d ih =>
    intro i hi
    have hlt : i < l.length := by omega
    have hih := ih (i + 1) (by omega)
    have e : ((l.take (i + 1)).map wS).map toB = ((l.take i).map wS).map toB ++ [toB (wS l[i])] := by rw [List.take_succ_eq_append_getElem hlt, List.map_append, List.map_append]; rfl
    rw [e] at hih
    refine Ev.step (f := fun k => (label_printed.f k l[i].f0 l[i].f1 l[i].f2).bind fun t235 => if (((l.take i).map wS).map toB).length < 8796093022208 then label_Print.l0 k ((((l.take i).map wS).map toB) ++ [t235]) l (l.length : Int) ((i + 1 : Nat) : Int) else none) (fun k => ?_) ?_
    · simp only [label_Print.l0]
      rw [if_pos (by omega), if_pos (by omega), if_pos (by omega), rd45 l i hlt, w64 i (by omega)]
    · refine Ev.bind (printed_ev _ (hg _ (List.getElem_mem _))) ?_
      exact Ev.congr (fun k => if_pos (by simp; omega)) hih
theorem print_ev (l : List S45) : Ev (fun k => label_Print.f k l) (printS l) := by
  refine Ev.congr (fun k => rfl) (Ev.bind (a := allB l) (Ev.now _) (f := fun k t232 => if t232 = true then (label_Print.l0 k ([] : List ByteArray) l (l.length : Int) 0) else (some ((⟨#[]⟩ : ByteArray), 43))) ?_)
  unfold printS
  by_cases h : allB l = true
  · rw [if_pos h]
    obtain ⟨h8, hg⟩ := allB_good h
    exact Ev.congr (fun k => if_pos h) (lp_loop l h8 hg l.length 0 (by omega))
  · rw [if_neg h]
    exact Ev.congr (fun k => if_neg h) (Ev.now _)
set_option maxHeartbeats 1000000 in
theorem rp_loop (l : List S45) (h8 : l.length ≤ 8) (hg : ∀ t ∈ l, Good t) (d : Nat) : ∀ i : Nat, i + d = l.length →
    Ev (fun k => bursarref04_Print.l0 k l (toB (Lib.join ((l.map wS).take i) [44])) (i : Int)) (toB (pL l), 0) := by
  have hs := ws_sum l hg
  have hjl : ∀ i, (Lib.join ((l.map wS).take i) [44]).length ≤ 4000 := fun i => by
    have h := join_len ((l.map wS).take i) [44]
    have : (((l.map wS).take i).map List.length).sum ≤ ((l.map wS).map List.length).sum := by
      conv => rhs; rw [← List.take_append_drop i (l.map wS), List.map_append, List.sum_append]
      omega
    rw [List.length_take] at h
    simp only [List.length_map, List.length_cons, List.length_nil] at h
    omega
  induction d with
  | zero =>
    intro i hi
    have hi' : i = l.length := by omega
    subst hi'
    have e : (l.map wS).take l.length = l.map wS := List.take_of_length_le (by simp)
    rw [e]
    refine Ev.step (f := fun _ => some (toB (pL l), 0)) (fun k => ?_) (Ev.now _)
    simp only [bursarref04_Print.l0]
    rw [if_neg (by omega)]
    rfl
  | succ d ih =>
    intro i hi
    have hlt : i < l.length := by omega
    have hlt' : i < (l.map wS).length := by simpa using hlt
    have hw := written_ev _ (hg _ (List.getElem_mem hlt))
    have hwl := wS_len (hg _ (List.getElem_mem hlt))
    have hj := hjl i
    have hj' := hjl (i + 1)
    have hih := ih (i + 1) (by omega)
    by_cases h0 : i = 0
    · subst h0
      rw [Nat.zero_add, join_first _ [44] (by simpa using hlt), List.getElem_map] at hih
      refine Ev.step (f := fun k => (bursarref04_written.f k l[0].f0 l[0].f1 l[0].f2).bind fun t156 => if (toB (Lib.join ((l.map wS).take 0) [44])).size + t156.size ≤ 9223372036854775807 then bursarref04_Print.l0 k l ((toB (Lib.join ((l.map wS).take 0) [44])) ++ t156) ((0 + 1 : Nat) : Int) else none) (fun k => ?_) ?_
      · simp only [bursarref04_Print.l0]
        rw [if_pos (by omega), if_neg (by omega), if_pos (by omega), rd45 l 0 hlt, w64 0 (by omega)]
      · refine Ev.bind hw ?_
        refine Ev.congr (fun k => if_pos (by rw [toB_size, toB_size]; omega)) ?_
        rw [toB_app, List.take_zero, Lib.join_nil, List.nil_append]
        exact hih
    · rw [join_snoc _ [44] i (by omega) hlt', List.getElem_map] at hih
      refine Ev.step (f := fun k => (bursarref04_written.f k l[i].f0 l[i].f1 l[i].f2).bind fun t154 => if ((toB (Lib.join ((l.map wS).take i) [44])) ++ (⟨#[44]⟩ : ByteArray)).size + t154.size ≤ 9223372036854775807 then bursarref04_Print.l0 k l ((toB (Lib.join ((l.map wS).take i) [44])) ++ (⟨#[44]⟩ : ByteArray) ++ t154) ((i + 1 : Nat) : Int) else none) (fun k => ?_) ?_
      · simp only [bursarref04_Print.l0]
        rw [if_pos (by omega), if_pos (by omega), if_pos (by rw [toB_size]; omega), if_pos (by omega), rd45 l i hlt, w64 i (by omega)]
      · refine Ev.bind hw ?_
        rw [show (⟨#[44]⟩ : ByteArray) = toB [44] from rfl, toB_app]
        refine Ev.congr (fun k => if_pos (by rw [toB_size, toB_size, List.length_append]; simp only [List.length_cons, List.length_nil]; omega)) ?_
        rw [toB_app]
        exact hih
theorem refPrint_ev (l : List S45) (hl : l.length ≤ 4611686018427387904) : Ev (fun k => bursarref04_Print.f k l) (printS l) := by
  refine Ev.congr (fun k => rfl) (Ev.bind (terms_ev l hl) (f := fun k t152 => if t152 = true then (bursarref04_Print.l0 k l (⟨#[]⟩ : ByteArray) 0) else (some ((⟨#[]⟩ : ByteArray), 43))) ?_)
  unfold printS
  by_cases h : allB l = true
  · rw [if_pos h]
    obtain ⟨h8, hg⟩ := allB_good h
    exact Ev.congr (fun k => if_pos h) (rp_loop l h8 hg l.length 0 (by omega))
  · rw [if_neg h]
    exact Ev.congr (fun k => if_neg h) (Ev.now _)
end Go.Proofs.YteaiobgnhlpblaaDoor.Q
namespace Go.Proofs.YteaiobgnhlpblaaDoor.Q
open Go.RowKit Go.Proofs.YteaiobgnhlpblaaDoorW.PrintWords Go.Proofs.YteaiobgnhlpblaaDoorW.PrintLast Go.Proofs.YteaiobgnhlpblaaDoor.Pl
set_option linter.unusedVariables false
set_option linter.unusedSimpArgs false
theorem st_loop (l : List S45) (hl : l.length ≤ 2000000) (hv : ∀ t ∈ l, t.f2.length ≤ 2000000) (d : Nat) : ∀ i : Nat, i + d = l.length → Ev (fun k => bursarlaw04_sameTerms.l0 k l l (i : Int)) true := by
  induction d with
  | zero =>
    intro i hi
    exact Ev.step (f := fun _ => some true) (fun k => by simp only [bursarlaw04_sameTerms.l0]; rw [if_neg (by omega)]) (Ev.now _)
  | succ d ih =>
    intro i hi
    have hlt : i < l.length := by omega
    refine Ev.step (f := fun k => (bursarlaw04_sameTexts.f k l[i].f2 l[i].f2).bind fun t216 => (if t216 = true then (bursarlaw04_sameTerms.l0 k l l ((i + 1 : Nat) : Int)) else (some false))) (fun k => ?_) ?_
    · simp only [bursarlaw04_sameTerms.l0]
      rw [if_pos (by omega), if_pos (by omega), if_pos (by omega), rd45 l i hlt, if_pos trivial, if_pos trivial, w64 i (by omega)]
    · refine Ev.bind (same_ev _ (hv _ (List.getElem_mem _))) ?_
      exact Ev.congr (fun k => if_pos rfl) (ih (i + 1) (by omega))
theorem sameTerms_ev (l : List S45) (hl : l.length ≤ 2000000) (hv : ∀ t ∈ l, t.f2.length ≤ 2000000) : Ev (fun k => bursarlaw04_sameTerms.f k l l) true := by
  refine Ev.congr (fun k => ?_) (st_loop l hl hv l.length 0 (by omega))
  unfold bursarlaw04_sameTerms.f
  rw [if_pos rfl]
  rfl
theorem ow_loop (l : List S45) (hl : l.length ≤ 2000000) (hv : ∀ t ∈ l, t.f2.length ≤ 2000000) (d : Nat) : ∀ i : Nat, i + d = l.length → Ev (fun k => bursarlaw04_own.l0 k l (l.take i) (i : Int)) l := by
  induction d with
  | zero =>
    intro i hi
    rw [List.take_of_length_le (by omega)]
    exact Ev.step (f := fun _ => some l) (fun k => by simp only [bursarlaw04_own.l0]; rw [if_neg (by omega)]) (Ev.now _)
  | succ d ih =>
    intro i hi
    have hlt : i < l.length := by omega
    have hih := ih (i + 1) (by omega)
    rw [List.take_succ_eq_append_getElem hlt] at hih
    have h2 := hv _ (List.getElem_mem hlt)
    refine Ev.step (fun k => ?_) hih
    simp only [bursarlaw04_own.l0]
    rw [if_pos (by omega), if_pos (by omega), rd45 l i hlt, if_pos (by simp; omega), if_pos (by simp; omega), w64 i (by omega), List.nil_append]
theorem own_ev (l : List S45) (hl : l.length ≤ 2000000) (hv : ∀ t ∈ l, t.f2.length ≤ 2000000) : Ev (fun k => bursarlaw04_own.f k l) l := ow_loop l hl hv l.length 0 (by omega)
end Go.Proofs.YteaiobgnhlpblaaDoor.Q
namespace Go.Proofs.YteaiobgnhlpblaaDoor.Q
open Go.RowKit Go.Proofs.YteaiobgnhlpblaaDoorW.PrintWords Go.Proofs.YteaiobgnhlpblaaDoorW.PrintLast Go.Proofs.YteaiobgnhlpblaaDoor.Pl
set_option linter.unusedVariables false
set_option linter.unusedSimpArgs false
def valN (l : List S51) (j : Nat) : ByteArray := (rd_T51 l (j : Int)).f1
def vlB (l : List S51) (i : Nat) : Bool := decide (valN l i = ByteArray.empty) || nameB (valN l i)
def ordB (l : List S51) (i : Nat) : Bool := decide (i = 0) || Op.bytesLess (keyN l (i - 1)).toList (keyN l i).toList
def vstep (l : List S51) (i : Nat) : Bool := nameB (keyN l i) && (vlB l i && ordB l i)
def vR (l : List S51) : Int := if l.length ≤ 16 ∧ (List.range' 0 l.length).all (vstep l) = true then 0 else 42
theorem value_some (a : ByteArray) : label_value.f a = some (decide (a = ByteArray.empty) || nameB a) := by
  unfold label_value.f
  by_cases h : a = ByteArray.empty
  · subst h; rw [if_pos (by rw [ByteArray.toList_eq]; rfl)]; rfl
  · rw [if_neg (fun e => h (ba_ext (by rw [ByteArray.toList_eq] at e; rw [e]; rfl))), decide_eq_false h]; rfl
theorem tail_ev (l : List S51) (i : Nat) (hi : i < l.length) (h16 : l.length ≤ 16) (g : Nat → Int → Option Int) (r : Int) (hg : Ev (fun k => g k ((i + 1 : Nat) : Int)) r) :
    Ev (fun k => if (i : Int) > 0 then (if 0 ≤ (wrap64 ((i : Int) - 1)) then (if (wrap64 ((i : Int) - 1)) < (l.length : Int) then (if ((Op.bytesLess (((rd_T51 l (wrap64 ((i : Int) - 1))).f0).toList) (((rd_T51 l (i : Int)).f0).toList)) = true) then (g k (wrap64 ((i : Int) + 1))) else (some 42)) else (none)) else (none)) else (g k (wrap64 ((i : Int) + 1)))) (if ordB l i = true then r else 42) := by
  rw [w64 i (by omega)]
  by_cases h0 : i = 0
  · have : ordB l i = true := by unfold ordB; rw [decide_eq_true h0]; rfl
    rw [if_pos this]
    exact Ev.congr (fun k => if_neg (by omega)) hg
  · have e : wrap64 ((i : Int) - 1) = ((i - 1 : Nat) : Int) := by unfold wrap64; omega
    rw [e]
    cases hb : Op.bytesLess (keyN l (i - 1)).toList (keyN l i).toList with
    | true =>
      have : ordB l i = true := by unfold ordB; rw [hb]; simp
      rw [if_pos this]
      exact Ev.congr (fun k => (if_pos (by omega)).trans ((if_pos (by omega)).trans ((if_pos (by omega)).trans (if_pos hb)))) hg
    | false =>
      have : ordB l i = false := by unfold ordB; rw [hb, decide_eq_false h0]; rfl
      rw [if_neg (by rw [this]; decide)]
      exact Ev.congr (fun k => (if_pos (by omega)).trans ((if_pos (by omega)).trans ((if_pos (by omega)).trans (if_neg (by unfold keyN at hb; rw [hb]; decide))))) (Ev.now _)
theorem vstep_if (l : List S51) (i d : Nat) : (if (List.range' i (d + 1)).all (vstep l) = true then (0 : Int) else 42) = if nameB (keyN l i) = true then (if vlB l i = true then (if ordB l i = true then (if (List.range' (i + 1) d).all (vstep l) = true then 0 else 42) else 42) else 42) else 42 := by
  rw [List.range'_succ, List.all_cons]
  generalize (List.range' (i + 1) d).all (vstep l) = R
  unfold vstep
  cases nameB (keyN l i) <;> cases vlB l i <;> cases ordB l i <;> cases R <;> rfl
theorem lv_loop (l : List S51) (h16 : l.length ≤ 16) (d : Nat) : ∀ i : Nat, i + d = l.length → Ev (fun k => label_Valid.l0 k l l (l.length : Int) (i : Int)) (if (List.range' i d).all (vstep l) = true then 0 else 42) := by
  induction d with
  | zero =>
    intro i hi
    exact Ev.step (f := fun _ => some 0) (fun k => by simp only [label_Valid.l0]; rw [if_neg (by omega)]) (Ev.now _)
  | succ d ih =>
    intro i hi
    have ht := tail_ev l i (by omega) h16 (fun k x => label_Valid.l0 k l l (l.length : Int) x) _ (ih (i + 1) (by omega))
    rw [vstep_if]
    cases hn : nameB (keyN l i) with
    | false =>
      exact Ev.step (f := fun _ => some 42) (fun k => by simp only [label_Valid.l0]; rw [if_pos (by omega), if_pos (by omega), if_pos (by omega), show label_Name.f (rd_T51 l (i : Int)).f0 = some false from congrArg some hn, Option.bind_some, if_neg (by decide)]) (Ev.now _)
    | true =>
      rw [if_pos rfl]
      have hvs : label_value.f (rd_T51 l (i : Int)).f1 = some (vlB l i) := value_some _
      cases hv : vlB l i with
      | false =>
        rw [hv] at hvs
        exact Ev.step (f := fun _ => some 42) (fun k => by simp only [label_Valid.l0]; rw [if_pos (by omega), if_pos (by omega), if_pos (by omega), show label_Name.f (rd_T51 l (i : Int)).f0 = some true from congrArg some hn, Option.bind_some, if_pos rfl, hvs, Option.bind_some, if_neg (by decide)]) (Ev.now _)
      | true =>
        rw [hv] at hvs
        rw [if_pos rfl]
        refine Ev.step (fun k => ?_) ht
        simp only [label_Valid.l0]
        rw [if_pos (by omega), if_pos (by omega), if_pos (by omega), show label_Name.f (rd_T51 l (i : Int)).f0 = some true from congrArg some hn, Option.bind_some, if_pos rfl, hvs, Option.bind_some, if_pos rfl]
def rtail (l : List S51) (i : Nat) (k : Nat) : Option Int := if (i : Int) > 0 then (if 0 ≤ (wrap64 ((i : Int) - 1)) then (if (wrap64 ((i : Int) - 1)) < (l.length : Int) then (if ((Op.bytesLess (((rd_T51 l (wrap64 ((i : Int) - 1))).f0).toList) (((rd_T51 l (i : Int)).f0).toList)) = true) then (bursarref04_Valid.l0 k l (wrap64 ((i : Int) + 1))) else (some 42)) else (none)) else (none)) else (bursarref04_Valid.l0 k l (wrap64 ((i : Int) + 1)))
theorem rv_loop (l : List S51) (h16 : l.length ≤ 16) (d : Nat) : ∀ i : Nat, i + d = l.length → Ev (fun k => bursarref04_Valid.l0 k l (i : Int)) (if (List.range' i d).all (vstep l) = true then 0 else 42) := by
  induction d with
  | zero =>
    intro i hi
    exact Ev.step (f := fun _ => some 0) (fun k => by simp only [bursarref04_Valid.l0]; rw [if_neg (by omega)]) (Ev.now _)
  | succ d ih =>
    intro i hi
    have ht : Ev (rtail l i) _ := tail_ev l i (by omega) h16 (fun k x => bursarref04_Valid.l0 k l x) _ (ih (i + 1) (by omega))
    rw [vstep_if]
    have hname := name_ev (keyN l i)
    by_cases he : valN l i = ByteArray.empty
    · have hv : vlB l i = true := by unfold vlB; rw [decide_eq_true he]; rfl
      have hel : ((rd_T51 l (i : Int)).f1).toList = ([] : List UInt8) := by
        have : (rd_T51 l (i : Int)).f1 = ByteArray.empty := he
        rw [this, ByteArray.toList_eq]; rfl
      rw [if_pos hv]
      refine Ev.step (f := fun k => (bursarref04_Name.f k (keyN l i)).bind fun t => if t = true then rtail l i k else some 42) (fun k => ?_) (Ev.bind hname ?_)
      · simp only [bursarref04_Valid.l0]
        rw [if_pos (by omega), if_pos (by omega), if_pos hel]
        rfl
      · cases hn : nameB (keyN l i) with
        | false => exact Ev.now _
        | true => exact ht
    · have hel : ¬ ((rd_T51 l (i : Int)).f1).toList = ([] : List UInt8) := fun e => he (ba_ext (by rw [ByteArray.toList_eq] at e; show ((rd_T51 l (i : Int)).f1).data.toList = _; rw [e]; rfl))
      have hv : vlB l i = nameB (valN l i) := by unfold vlB; rw [decide_eq_false he]; rfl
      have hval := name_ev (valN l i)
      refine Ev.step (f := fun k => (bursarref04_Name.f k (keyN l i)).bind fun t => if t = true then ((bursarref04_Name.f k (valN l i)).bind fun u => if u = true then rtail l i k else some 42) else some 42) (fun k => ?_) (Ev.bind hname ?_)
      · simp only [bursarref04_Valid.l0]
        rw [if_pos (by omega), if_pos (by omega)]
        simp only [if_neg hel]
        rfl
      · cases hn : nameB (keyN l i) with
        | false => exact Ev.now _
        | true =>
          refine Ev.congr (fun k => if_pos rfl) (Ev.bind hval ?_)
          rw [if_pos rfl, hv]
          cases hnv : nameB (valN l i) with
          | false => exact Ev.now _
          | true => exact ht
theorem valid_ev (l : List S51) : Ev (fun k => label_Valid.f k l) (vR l) := by
  unfold vR
  by_cases h : l.length ≤ 16
  · have := lv_loop l h l.length 0 (by omega)
    have e : (if l.length ≤ 16 ∧ (List.range' 0 l.length).all (vstep l) = true then (0 : Int) else 42) = if (List.range' 0 l.length).all (vstep l) = true then 0 else 42 := by simp only [h, true_and]
    rw [e]
    exact Ev.congr (fun k => by unfold label_Valid.f; rw [if_neg (by omega)]; rfl) this
  · rw [if_neg (fun x => h x.1)]
    exact Ev.congr (fun k => by unfold label_Valid.f; rw [if_pos (by omega)]) (Ev.now _)
theorem refValid_ev (l : List S51) : Ev (fun k => bursarref04_Valid.f k l) (vR l) := by
  unfold vR
  by_cases h : l.length ≤ 16
  · have := rv_loop l h l.length 0 (by omega)
    have e : (if l.length ≤ 16 ∧ (List.range' 0 l.length).all (vstep l) = true then (0 : Int) else 42) = if (List.range' 0 l.length).all (vstep l) = true then 0 else 42 := by simp only [h, true_and]
    rw [e]
    exact Ev.congr (fun k => by unfold bursarref04_Valid.f; rw [if_neg (by omega)]; rfl) this
  · rw [if_neg (fun x => h x.1)]
    exact Ev.congr (fun k => by unfold bursarref04_Valid.f; rw [if_pos (by omega)]) (Ev.now _)
theorem vR_step {l : List S51} (h : vR l = 0) : l.length ≤ 16 ∧ ∀ i, i < l.length → vstep l i = true := by
  unfold vR at h
  split at h
  · rename_i hc
    exact ⟨hc.1, fun i hi => List.all_eq_true.1 hc.2 i (by simp; omega)⟩
  · cases h
theorem keys_rise {l : List S51} (h : vR l = 0) (a : Nat) : ∀ d : Nat, a + d + 1 < l.length → Op.bytesLess (keyN l a).toList (keyN l (a + d + 1)).toList = true
  | 0, hd => by
    have := (vR_step h).2 (a + 1) hd
    unfold vstep ordB at this
    simp only [Bool.and_eq_true, Bool.or_eq_true, decide_eq_true_eq] at this
    rcases this.2.2 with h | h
    · omega
    · exact h
  | d + 1, hd => by
    have := (vR_step h).2 (a + d + 1 + 1) hd
    unfold vstep ordB at this
    simp only [Bool.and_eq_true, Bool.or_eq_true, decide_eq_true_eq] at this
    rcases this.2.2 with h' | h'
    · omega
    · exact less_trans _ _ _ (keys_rise h a d (by omega)) h'
theorem keys_apart {l : List S51} (h : vR l = 0) (a b : Nat) (hab : a < b) (hb : b < l.length) : keyN l a ≠ keyN l b := fun e => by
  obtain ⟨d, rfl⟩ : ∃ d, b = a + d + 1 := ⟨b - a - 1, by omega⟩
  have := keys_rise h a d hb
  rw [e, less_irrefl] at this
  cases this
end Go.Proofs.YteaiobgnhlpblaaDoor.Q
namespace Go.Proofs.YteaiobgnhlpblaaDoor.Q
open Go.RowKit Go.Proofs.YteaiobgnhlpblaaDoorW.PrintWords Go.Proofs.YteaiobgnhlpblaaDoorW.PrintLast Go.Proofs.YteaiobgnhlpblaaDoor.Pl
set_option linter.unusedVariables false
set_option linter.unusedSimpArgs false
theorem lastN_none (l : List S51) (x : ByteArray) : ∀ n, (∀ a, a < n → keyN l a ≠ x) → lastN l x n = none
  | 0, _ => rfl
  | n + 1, h => by
    unfold lastN
    rw [if_neg (h n (by omega))]
    exact lastN_none l x n (fun a ha => h a (by omega))
theorem lastN_some (l : List S51) (x : ByteArray) (i : Nat) (hk : keyN l i = x) : ∀ n, i < n → (∀ b, i < b → b < n → keyN l b ≠ x) → lastN l x n = some i
  | 0, h, _ => by omega
  | n + 1, h, hb => by
    unfold lastN
    by_cases hi : i = n
    · subst hi; rw [if_pos hk]
    · rw [if_neg (hb n (by omega) (by omega))]
      exact lastN_some l x i hk n (by omega) (fun b h1 h2 => hb b h1 (by omega))
theorem prop_f2 {t : S45} (h : propB t = true) : t.f2.length ≤ 8 := by
  rcases prop_how h with hh | hh | ⟨_, hh⟩
  · unfold propB properB at h
    rw [Bool.and_eq_true, if_pos (.inl hh), decide_eq_true_iff] at h
    omega
  · unfold propB properB at h
    rw [Bool.and_eq_true, if_pos (.inr hh), decide_eq_true_iff] at h
    omega
  · exact hh
def inR (how : Int) (b : Bool) : Bool := if how = 0 then b else if how = 1 then !b else how == 2
theorem hd_l1 (l : List S51) (i : Nat) (hi : i < l.length) (key : ByteArray) (how : Int) (vs : List ByteArray) (hv : vs.length ≤ 8) (d : Nat) : ∀ (m : Nat) (b : Bool), m + d = vs.length →
    Ev (fun k => bursarref04_holds.l1 k l (i : Int) b (m : Int) key how vs) (inR how (b || memB (vs.drop m) (valN l i))) := by
  induction d with
  | zero =>
    intro m b hm
    have : memB (vs.drop m) (valN l i) = false := by rw [List.drop_of_length_le (by omega)]; rfl
    rw [this, Bool.or_false]
    refine Ev.step (f := fun _ => some (inR how b)) (fun k => ?_) (Ev.now _)
    simp only [bursarref04_holds.l1]
    rw [if_neg (by omega)]
    unfold inR
    split
    · rfl
    · split <;> rfl
  | succ d ih =>
    intro m b hm
    have hlt : m < vs.length := by omega
    have hd : memB (vs.drop m) (valN l i) = (decide (valN l i = vs[m]) || memB (vs.drop (m + 1)) (valN l i)) := by rw [List.drop_eq_getElem_cons hlt]; rfl
    cases b with
    | true =>
      have := ih (m + 1) true (by omega)
      rw [Bool.true_or] at this ⊢
      refine Ev.step (fun k => ?_) this
      simp only [bursarref04_holds.l1]
      rw [if_pos (by omega), if_pos trivial, w64 m (by omega)]
    | false =>
      have := ih (m + 1) (decide (valN l i = vs[m])) (by omega)
      rw [Bool.false_or, hd]
      refine Ev.step (fun k => ?_) this
      simp only [bursarref04_holds.l1]
      have e : ((rdOf ByteArray.empty vs (m : Int)).toList == ((rd_T51 l (i : Int)).f1).toList) = decide (valN l i = vs[m]) := by
        rw [rd_at vs m hlt]
        show ((vs[m]).toList == (valN l i).toList) = _
        by_cases h : valN l i = vs[m]
        · rw [h, decide_eq_true rfl, beq_self_eq_true]
        · rw [decide_eq_false h, beq_eq_false_iff_ne]
          exact fun e => h ((ba_iff _ _).1 e).symm
      rw [if_pos (by omega), if_neg (by decide), if_pos (by omega), if_pos (by omega), if_pos (by omega), w64 m (by omega), e]
theorem holds_ev (l : List S51) (hl : vR l = 0) (t : S45) (ht : propB t = true) (d : Nat) : ∀ i : Nat, i + d = l.length → (∀ a, a < i → keyN l a ≠ t.f0) →
    Ev (fun k => bursarref04_holds.l0 k l (i : Int) t.f0 t.f1 t.f2) (holdB l t) := by
  have h16 := (vR_step hl).1
  induction d with
  | zero =>
    intro i hi hno
    have hlast := lastN_none l t.f0 l.length (fun a ha => hno a (by omega))
    refine Ev.step (f := fun _ => some (holdB l t)) (fun k => ?_) (Ev.now _)
    simp only [bursarref04_holds.l0]
    rw [if_neg (by omega)]
    unfold holdB
    rw [hlast]
    rcases prop_how ht with hh | hh | ⟨hh | hh, _⟩ <;> simp [hh]
  | succ d ih =>
    intro i hi hno
    have hlt : i < l.length := by omega
    by_cases hk : keyN l i = t.f0
    · have hlast := lastN_some l t.f0 i hk l.length hlt (fun b h1 h2 e => keys_apart hl i b h1 h2 (hk.trans e.symm))
      have h1 := hd_l1 l i hlt t.f0 t.f1 t.f2 (prop_f2 ht) t.f2.length 0 false (by omega)
      have e : inR t.f1 (false || memB (t.f2.drop 0) (valN l i)) = holdB l t := by
        unfold holdB inR
        rw [hlast, Bool.false_or, List.drop_zero]
        show _ = if t.f1 = 0 then memB t.f2 (valN l i) else if t.f1 = 1 then !memB t.f2 (valN l i) else if t.f1 = 2 then true else false
        rcases prop_how ht with hh | hh | ⟨hh | hh, _⟩ <;> simp [hh]
      rw [e] at h1
      refine Ev.step (fun k => ?_) h1
      simp only [bursarref04_holds.l0]
      rw [if_pos (by omega), if_pos (by omega), if_pos (show (rd_T51 l (i : Int)).f0.toList = t.f0.toList from (ba_iff _ _).2 hk)]
      rfl
    · have := ih (i + 1) (by omega) (fun a ha => by
        by_cases e : a = i
        · rw [e]; exact hk
        · exact hno a (by omega))
      refine Ev.step (fun k => ?_) this
      simp only [bursarref04_holds.l0]
      rw [if_pos (by omega), if_pos (by omega), if_neg (show ¬ (rd_T51 l (i : Int)).f0.toList = t.f0.toList from fun e => hk ((ba_iff _ _).1 e)), w64 i (by omega)]
def mR (ts : List S45) (l : List S51) : Bool × Int := if allB ts = true then (if vR l = 0 then (ts.all (holdB l), 0) else (false, vR l)) else (false, 43)
theorem match_ev (ts : List S45) (l : List S51) : Ev (fun k => label_Match.f k ts l) (mR ts l) := by
  unfold mR
  by_cases h : allB ts = true
  · rw [if_pos h]
    refine Ev.congr (f := fun k => (label_Valid.f k l).bind fun e => if e = 0 then some (ts.all (holdB l), 0) else some (false, e)) (fun k => by unfold label_Match.f; exact if_pos h) (Ev.bind (valid_ev l) ?_)
    by_cases h2 : vR l = 0
    · rw [if_pos h2, if_pos h2]; exact Ev.now _
    · rw [if_neg h2, if_neg h2]; exact Ev.now _
  · rw [if_neg h]
    exact Ev.congr (fun k => by unfold label_Match.f; exact if_neg h) (Ev.now _)
theorem rm_loop (ts : List S45) (h8 : ts.length ≤ 8) (hp : ∀ t ∈ ts, propB t = true) (l : List S51) (hl : vR l = 0) (d : Nat) : ∀ i : Nat, i + d = ts.length →
    Ev (fun k => bursarref04_Match.l0 k ts l (i : Int)) ((ts.drop i).all (holdB l), 0) := by
  induction d with
  | zero =>
    intro i hi
    rw [List.drop_of_length_le (by omega)]
    exact Ev.step (f := fun _ => some (true, 0)) (fun k => by simp only [bursarref04_Match.l0]; rw [if_neg (by omega)]) (Ev.now _)
  | succ d ih =>
    intro i hi
    have hlt : i < ts.length := by omega
    have hh := holds_ev l hl ts[i] (hp _ (List.getElem_mem _)) l.length 0 (by omega) (fun a ha => by omega)
    rw [List.drop_eq_getElem_cons hlt, List.all_cons]
    refine Ev.step (f := fun k => (bursarref04_holds.f k ts[i].f0 ts[i].f1 ts[i].f2 l).bind fun t503 => if t503 = true then bursarref04_Match.l0 k ts l ((i + 1 : Nat) : Int) else some (false, 0)) (fun k => ?_) (Ev.bind hh ?_)
    · simp only [bursarref04_Match.l0]
      rw [if_pos (by omega), if_pos (by omega), rd45 ts i hlt, w64 i (by omega)]
    · cases hb : holdB l ts[i] with
      | false => exact Ev.now _
      | true => rw [Bool.true_and]; exact Ev.congr (fun k => if_pos rfl) (ih (i + 1) (by omega))
theorem refMatch_ev (ts : List S45) (hts : ts.length ≤ 1048576) (l : List S51) : Ev (fun k => bursarref04_Match.f k ts l) (mR ts l) := by
  unfold mR
  refine Ev.congr (f := fun k => (bursarref04_terms.f k ts).bind fun t500 => (if t500 = true then ((bursarref04_Valid.f k l).bind fun t501 => (if t501 = 0 then (bursarref04_Match.l0 k ts l 0) else (some (false, t501)))) else (some (false, 43)))) (fun k => rfl) (Ev.bind (terms_ev ts (by omega)) ?_)
  by_cases h : allB ts = true
  · rw [if_pos h]
    refine Ev.congr (fun k => if_pos h) (Ev.bind (refValid_ev l) ?_)
    by_cases h2 : vR l = 0
    · rw [if_pos h2]
      unfold allB at h
      rw [Bool.and_eq_true, decide_eq_true_iff] at h
      have := rm_loop ts h.1 (fun t ht => List.all_eq_true.1 h.2 t ht) l h2 ts.length 0 (by omega)
      rw [List.drop_zero] at this
      exact Ev.congr (fun k => if_pos h2) this
    · rw [if_neg h2]; exact Ev.congr (fun k => if_neg h2) (Ev.now _)
  · rw [if_neg h]
    exact Ev.congr (fun k => if_neg h) (Ev.now _)
end Go.Proofs.YteaiobgnhlpblaaDoor.Q
namespace Go.Proofs.YteaiobgnhlpblaaDoor.Q
open Go.RowKit Go.Proofs.YteaiobgnhlpblaaDoorW.PrintWords Go.Proofs.YteaiobgnhlpblaaDoorW.PrintLast Go.ChangeShapes
set_option linter.unusedVariables false
set_option linter.unusedSimpArgs false
section
variable {H : Type} (enc : TypeId × Value → H) (P : Program) (w : World) (base : Nat) (spare : Nat → Bool) (held : Bool)
def Opens (t : TypeId) {α : Type} (d : Kd α) (Rel : DataW H → α → Prop) : Prop :=
  ∀ (fuel : Nat) (cs : List Value) (x : DataW H × List MemPlace), DataW.trod enc P w base spare held fuel t cs = some x → ∃ a, d.K w a cs ∧ Rel x.1 a
def OpensFs {α : Type} (off : Nat) (fs : List Field) (d : Kd α) (Rel : List (DataW H) → α → Prop) : Prop :=
  ∀ (n : Nat) (cs : List Value) (xs : List (DataW H × List MemPlace)), xs.length = fs.length → cs.length = off + d.sz →
    (∀ (i : Nat) (f : Field), fs[i]? = some f → DataW.trod enc P w base spare held n f.type ((cs.drop f.offset).take (P.cellsOf f.type)) = xs[i]?) → ∃ a, d.K w a (cs.drop off) ∧ Rel (xs.map (·.1)) a
variable {enc : TypeId × Value → H} {P : Program} {w : World} {base : Nat} {spare : Nat → Bool} {held : Bool}
theorem opens_string {t : TypeId} (ht : P.underlying t = some .string) : Opens enc P w base spare held t Kd.string (fun x (s : ByteArray) => x = .lit (.string s.data.toList) ∧ s.size ≤ maxLen) := by
  intro fuel cs x h
  obtain ⟨s, rfl, rfl, hs⟩ := DataW.trod_string ht h
  exact ⟨s, rfl, rfl, hs⟩
theorem opens_int {t : TypeId} {k : IntKind} (ht : P.underlying t = some (.int k)) : Opens enc P w base spare held t (Kd.int k) (fun x (n : Int) => x = .lit (.int k n) ∧ (Lit.int k n).wf = true) := by
  intro fuel cs x h
  obtain ⟨s, rfl, rfl, hs⟩ := DataW.trod_int ht h
  exact ⟨s, rfl, rfl, hs⟩
theorem list_of {α : Type} {p : Nat → α → Prop} : ∀ n : Nat, (∀ i, i < n → ∃ x, p i x) → ∃ l : List α, l.length = n ∧ ∀ i x, l[i]? = some x → p i x
  | 0, _ => ⟨[], rfl, fun i x h => by simp at h⟩
  | n + 1, h => by
    obtain ⟨l, hl, hp⟩ := list_of n (fun i hi => h i (by omega))
    obtain ⟨x, hx⟩ := h n (by omega)
    refine ⟨l ++ [x], by simp [hl], fun i y hy => ?_⟩
    rcases Nat.lt_trichotomy i n with h1 | h1 | h1
    · rw [List.getElem?_append_left (by omega)] at hy; exact hp i y hy
    · subst h1
      rw [List.getElem?_append_right (by omega), hl, Nat.sub_self] at hy
      simp at hy
      exact hy ▸ hx
    · rw [List.getElem?_eq_none (by simp; omega)] at hy; cases hy
def RowD {H : Type} {α : Type} (Rel : DataW H → α → Prop) (x : DataW H) (l : List α) : Prop :=
  (x = .nil ∧ l = []) ∨ ∃ es r, x = .slice es r ∧ es.length = l.length ∧ ∀ (i : Nat) e a, es[i]? = some e → l[i]? = some a → Rel e a
theorem opens_slice {t e : TypeId} {α : Type} {d : Kd α} {Rel : DataW H → α → Prop} (e' : Nat) (ht : P.underlying t = some (.slice e)) (hc : P.cellsOf e = d.sz) (h : Opens enc P w base spare held e d Rel) :
    Opens enc P w base spare held t (Kd.slice e' d) (fun x l => RowD Rel x l ∧ l.length ≤ maxLen) := by
  intro fuel cs x hx
  have h63 : maxLen ≤ 9223372036854775807 := by decide
  rcases Go.Deep.open_slice ht hx with ⟨rfl, rfl⟩ | ⟨a, len, cap, m, n, D, Pl, rfl, hb, hl, hm, hmm, rfl, hi⟩
  · exact ⟨[], ⟨none, 0, rfl, Nat.le_refl _, rfl, Nat.zero_le _, fun h => absurd h (Nat.lt_irrefl 0)⟩, .inl ⟨rfl, rfl⟩, Nat.zero_le _⟩
  · have hlm : len ≤ m := by rw [hmm]; split <;> omega
    obtain ⟨l, hll, hp⟩ := list_of (α := α) (p := fun i y => ∃ cs', w.cells? base (a.add (i * P.cellsOf e)) (P.cellsOf e) = some cs' ∧ d.K w y cs' ∧ Rel (D i) y) len (fun i h1 => by
      obtain ⟨cs', h2, h3⟩ := hi i (by omega)
      obtain ⟨y, hy, hr⟩ := h n cs' _ h3
      exact ⟨y, cs', h2, hy, hr⟩)
    subst hll
    refine ⟨l, ⟨some a, cap, rfl, hl, rfl, by omega, fun _ => ⟨a, rfl, fun j p hj => ?_⟩⟩, .inr ⟨_, _, rfl, by simp, fun i e' a' h1 h2 => ?_⟩, by omega⟩
    · obtain ⟨cs', h2, h3, _⟩ := hp j p hj
      obtain ⟨_, h4, h5⟩ := World.cells?_some h2
      refine ⟨cs', by rw [h4, hc], h3, fun i u hu => ?_⟩
      have hil : i < cs'.length := (List.getElem?_eq_some_iff.1 hu).1
      have := h5 i (by omega)
      rw [hu, Go.Deep.add_add, hc] at this
      exact this
    · obtain ⟨_, _, _, h4⟩ := hp i a' h2
      have hil : i < l.length := (List.getElem?_eq_some_iff.1 h2).1
      simp [hil] at h1
      subst h1
      exact h4
theorem opens_one {f : Field} {off : Nat} {α : Type} {d : Kd α} {Rel : DataW H → α → Prop} (hf : f.offset = off) (hc : P.cellsOf f.type = d.sz) (h : Opens enc P w base spare held f.type d Rel) :
    OpensFs enc P w base spare held off [f] d (fun l a => ∃ y, l = [y] ∧ Rel y a) := by
  intro n cs xs hx hcs hi
  obtain ⟨x, rfl⟩ := List.length_eq_one_iff.1 (show xs.length = 1 from hx)
  have h0 := hi 0 f rfl
  rw [hf, hc, List.take_of_length_le (by rw [List.length_drop]; omega)] at h0
  obtain ⟨a, ha, hr⟩ := h n _ x h0
  exact ⟨a, ha, _, rfl, hr⟩
theorem opens_cons {f : Field} {fs : List Field} {off : Nat} {α β : Type} {d0 : Kd α} {d : Kd β} {R0 : DataW H → α → Prop} {R : List (DataW H) → β → Prop} (hf : f.offset = off) (hc : P.cellsOf f.type = d0.sz) (h0 : Opens enc P w base spare held f.type d0 R0)
    (h : OpensFs enc P w base spare held (off + d0.sz) fs d R) : OpensFs enc P w base spare held off (f :: fs) (Kd.pair d0 d) (fun l a => ∃ y r, l = y :: r ∧ R0 y a.1 ∧ R r a.2) := by
  intro n cs xs hx hcs hi
  cases xs with
  | nil => simp at hx
  | cons x xs =>
    have hsz : (Kd.pair d0 d).sz = d0.sz + d.sz := rfl
    rw [hsz] at hcs
    have h1 := hi 0 f rfl
    rw [hf, hc] at h1
    obtain ⟨a, ha, hr⟩ := h0 n _ x h1
    obtain ⟨b, hb, hs⟩ := h n cs xs (by simpa using hx) (by omega) (fun i g hg => hi (i + 1) g hg)
    refine ⟨(a, b), ⟨_, _, ?_, ha, hb⟩, _, _, rfl, hr, hs⟩
    rw [← List.drop_drop]
    exact (List.take_append_drop _ _).symm
theorem opens_struct {t : TypeId} {fs : Array Field} {α β : Type} {d : Kd α} {R : List (DataW H) → α → Prop} (f : β → α) (g : α → β) (hg : ∀ a, f (g a) = a) (ht : P.underlying t = some (.struct fs)) (hc : P.cellsOf t = d.sz) (h : OpensFs enc P w base spare held 0 fs.toList d R) :
    Opens enc P w base spare held t (Kd.iso d f) (fun x b => ∃ l, x = .agg l ∧ R l (f b)) := by
  intro fuel cs x hx
  obtain ⟨xs, n, _, rfl, hl, hxl, hi⟩ := DataW.trod_struct ht hx
  obtain ⟨a, ha, hr⟩ := h n cs xs (by simpa using hxl) (by rw [hl, hc, Nat.zero_add]) (fun i g hg' => hi i g (by rw [← Array.getElem?_toList]; exact hg'))
  rw [List.drop_zero] at ha
  refine ⟨g a, ?_, _, rfl, ?_⟩
  · show d.K w (f (g a)) cs
    rw [hg]; exact ha
  · rw [hg]; exact hr
theorem row_open {t e : TypeId} {α : Type} {d : Kd α} {Rel : DataW H → α → Prop} {A : Option Addr} {len cap : Nat} {x : DataW H} {ps : List MemPlace} (ht : P.underlying t = some (.slice e)) (hc : P.cellsOf e = d.sz)
    (h : Opens enc P w base spare held e d Rel) (hx : ∃ m, DataW.trod enc P w base spare held m t [.slice A len cap] = some (x, ps)) :
    ∃ l : List α, len = l.length ∧ d.C w A l.length l ∧ l.length ≤ cap ∧ RowD Rel x l ∧ l.length ≤ maxLen := by
  obtain ⟨m, hm⟩ := hx
  obtain ⟨l, ⟨A', c', he, hlc, hC⟩, hr, hml⟩ := opens_slice 0 ht hc h m _ _ hm
  injection he with he _
  injection he with h1 h2 h3
  subst h1 h2 h3
  exact ⟨l, rfl, hC, hlc, hr, hml⟩
end
theorem bulk_pos {H : Type} (d : DataW H) : 1 ≤ Rows.uptoBulk d := by
  cases d with
  | lit l => cases l <;> simp only [Rows.uptoBulk] <;> omega
  | nil => simp only [Rows.uptoBulk]; omega
  | ptr d => simp only [Rows.uptoBulk]; omega
  | slice a b => simp only [Rows.uptoBulk]; omega
  | agg p => simp only [Rows.uptoBulk]; omega
  | iface a d => simp only [Rows.uptoBulk]; omega
  | map e => simp only [Rows.uptoBulk]; omega
  | _ => simp only [Rows.uptoBulk]; omega
theorem bulk_all {H : Type} : ∀ l : List (DataW H), l.length ≤ Rows.uptoBulkAll l ∧ ∀ (i : Nat) x, l[i]? = some x → Rows.uptoBulk x ≤ Rows.uptoBulkAll l
  | [] => ⟨Nat.zero_le _, fun i x h => by simp at h⟩
  | d :: l => by
    obtain ⟨h1, h2⟩ := bulk_all l
    have hp := bulk_pos d
    simp only [Rows.uptoBulkAll, List.length_cons]
    refine ⟨by omega, fun i x h => ?_⟩
    cases i with
    | zero => simp at h; subst h; omega
    | succ i => have := h2 i x (by simpa using h); omega
theorem bulk_row {H : Type} {α : Type} {Rel : DataW H → α → Prop} {x : DataW H} {l : List α} (h : RowD Rel x l) : l.length ≤ Rows.uptoBulk x ∧ ∀ (i : Nat) a, l[i]? = some a → ∃ e, Rel e a ∧ Rows.uptoBulk e ≤ Rows.uptoBulk x := by
  rcases h with ⟨rfl, rfl⟩ | ⟨es, r, rfl, hl, he⟩
  · exact ⟨Nat.zero_le _, fun i a h => by simp at h⟩
  · obtain ⟨h1, h2⟩ := bulk_all es
    simp only [Rows.uptoBulk]
    refine ⟨by omega, fun i a ha => ?_⟩
    have hil : i < es.length := by rw [hl]; exact (List.getElem?_eq_some_iff.1 ha).1
    have hes : es[i]? = some es[i] := List.getElem?_eq_getElem hil
    exact ⟨es[i], he i _ _ hes ha, by have := h2 i _ hes; omega⟩
theorem bulk_agg {H : Type} {l : List (DataW H)} (i : Nat) (x : DataW H) (h : l[i]? = some x) : Rows.uptoBulk x ≤ Rows.uptoBulk (.agg l) := by
  have := (bulk_all l).2 i x h
  simp only [Rows.uptoBulk]
  omega
end Go.Proofs.YteaiobgnhlpblaaDoor.Q
namespace Go.Proofs.YteaiobgnhlpblaaDoor.Q
open Go.RowKit Go.Proofs.YteaiobgnhlpblaaDoorW.PrintWords Go.Proofs.YteaiobgnhlpblaaDoorW.PrintLast Go.ChangeShapes
set_option linter.unusedVariables false
set_option linter.unusedSimpArgs false
def StrD {H : Type} (x : DataW H) (s : ByteArray) : Prop := x = .lit (.string s.data.toList) ∧ s.size ≤ maxLen
def TermD {H : Type} (x : DataW H) (b : S45) : Prop :=
  ∃ l, x = .agg l ∧ ∃ y r, l = y :: r ∧ StrD y b.f0 ∧ ∃ y2 r2, r = y2 :: r2 ∧ (y2 = .lit (.int .i64 b.f1) ∧ (Lit.int .i64 b.f1).wf = true) ∧ ∃ y3, r2 = [y3] ∧ (RowD StrD y3 b.f2 ∧ b.f2.length ≤ maxLen)
def LabelD {H : Type} (x : DataW H) (b : S51) : Prop := ∃ l, x = .agg l ∧ ∃ y r, l = y :: r ∧ StrD y b.f0 ∧ ∃ y2, r = [y2] ∧ StrD y2 b.f1
section
variable {H : Type} {enc : TypeId × Value → H} {w : World} {base : Nat} {spare : Nat → Bool} {held : Bool}
theorem opens45 : Opens enc Tryd.prog w base spare held 45 k45 TermD :=
  opens_struct (fun x : S45 => (x.f0, x.f1, x.f2)) (fun a => ⟨a.1, a.2.1, a.2.2⟩) (fun _ => rfl) Tryd.underlying45 (by kernel_rfl)
    (opens_cons rfl (by kernel_rfl) (opens_string Tryd.underlying9) (opens_cons rfl (by kernel_rfl) (opens_int Tryd.underlying3) (opens_one rfl (by kernel_rfl) (opens_slice 9 Tryd.underlying35 (by kernel_rfl) (opens_string Tryd.underlying9)))))
theorem opens51 : Opens enc Tryd.prog w base spare held 51 k51 LabelD :=
  opens_struct (fun x : S51 => (x.f0, x.f1)) (fun a => ⟨a.1, a.2⟩) (fun _ => rfl) Tryd.underlying51 (by kernel_rfl)
    (opens_cons rfl (by kernel_rfl) (opens_string Tryd.underlying9) (opens_one rfl (by kernel_rfl) (opens_string Tryd.underlying9)))
end
def Small45 (l : List S45) : Prop := l.length ≤ 1048576 ∧ ∀ t ∈ l, t.f2.length ≤ 1048576
def Small51 (l : List S51) : Prop := l.length ≤ 1048576
theorem small45 {H : Type} {d : DataW H} {l : List S45} (h : RowD TermD d l) (hb : Rows.uptoBulk d ≤ 1048576) : Small45 l := by
  obtain ⟨h1, h2⟩ := bulk_row h
  refine ⟨by omega, fun t ht => ?_⟩
  obtain ⟨i, hi, rfl⟩ := List.getElem_of_mem ht
  obtain ⟨e, ⟨l', rfl, y, r, rfl, _, y2, r2, rfl, _, y3, rfl, h3, _⟩, he⟩ := h2 i _ (List.getElem?_eq_getElem hi)
  have := bulk_agg (l := [y, y2, y3]) 2 y3 rfl
  have := (bulk_row h3).1
  omega
theorem small51 {H : Type} {d : DataW H} {l : List S51} (h : RowD LabelD d l) (hb : Rows.uptoBulk d ≤ 1048576) : Small51 l := by
  have := (bulk_row h).1
  unfold Small51
  omega
end Go.Proofs.YteaiobgnhlpblaaDoor.Q
namespace Go.Proofs.YteaiobgnhlpblaaDoor.Pure
open Go.RowKit Go.Proofs.YteaiobgnhlpblaaDoorW.PrintWords Go.Proofs.YteaiobgnhlpblaaDoorW.PrintLast Go.Proofs.YteaiobgnhlpblaaDoor.Q Go.Proofs.YteaiobgnhlpblaaDoor.Pl
set_option linter.unusedVariables false
set_option linter.unusedSimpArgs false
theorem lm_loop (l : List S51) (hl : l.length ≤ 1048576) (d : Nat) : ∀ i : Nat, i + d = l.length → Ev (fun k => bursarlaw04_LabelMatches.l0 k l l (i : Int)) true := by
  induction d with
  | zero =>
    intro i hi
    exact Ev.step (f := fun _ => some true) (fun k => by simp only [bursarlaw04_LabelMatches.l0]; rw [if_neg (by omega)]) (Ev.now _)
  | succ d ih =>
    intro i hi
    refine Ev.step (fun k => ?_) (ih (i + 1) (by omega))
    simp only [bursarlaw04_LabelMatches.l0]
    rw [if_pos (by omega), if_pos (by omega), if_pos (by omega), if_neg (by simp), w64 i (by omega)]
theorem LabelMatches (terms : List S45) (l : List S51) (ht : Small45 terms) (hl : Small51 l) : ∃ k, bursarlaw04_LabelMatches.f k terms l = some true := by
  refine Ev.rounds ?_
  unfold Small45 at ht
  unfold Small51 at hl
  have hv : ∀ t ∈ terms, t.f2.length ≤ 2000000 := fun t h => by have := ht.2 t h; omega
  have hj1 : Ev (fun k => bursarlaw04_LabelMatches.j1 k l l false) true :=
    Ev.step (fun k => by simp only [bursarlaw04_LabelMatches.j1]; rw [if_neg (by decide)]; rfl) (lm_loop l (by omega) l.length 0 (by omega))
  have hj0 : Ev (fun k => bursarlaw04_LabelMatches.j0 k terms l terms l false) true := by
    refine Ev.step (f := fun k => (label_Match.f k terms l).bind fun bt517 => ((bursarref04_Match.f k terms l).bind fun bt519 => (if (bt517.1 != bt519.1) = true then (bursarlaw04_LabelMatches.j1 k l l true) else (if bt517.2 = bt519.2 then ((bursarlaw04_sameTerms.f k terms terms).bind fun t521 => (if t521 = true then (bursarlaw04_LabelMatches.j1 k l l ((l.length : Int) != (l.length : Int))) else (bursarlaw04_LabelMatches.j1 k l l true))) else (bursarlaw04_LabelMatches.j1 k l l true))))) (fun k => by simp only [bursarlaw04_LabelMatches.j0]; rw [if_neg (by decide)]) ?_
    refine Ev.bind (match_ev terms l) (Ev.bind (refMatch_ev terms (by omega) l) ?_)
    refine Ev.congr (fun k => (if_neg (by simp)).trans (if_pos rfl)) ?_
    refine Ev.bind (sameTerms_ev terms (by omega) hv) ?_
    refine Ev.congr (fun k => (if_pos rfl).trans (by rw [bne_self_eq_false])) hj1
  refine Ev.congr (fun k => rfl) (Ev.bind fixed_ev (f := fun k t504 => _) ?_)
  refine Ev.congr (fun k => if_pos rfl) ?_
  refine Ev.bind (own_ev terms (by omega) hv) ?_
  refine Ev.congr (fun k => if_pos (by simp; omega)) ?_
  refine Ev.congr (fun k => (Option.bind_some _ _).trans (by rw [List.nil_append])) ?_
  refine Ev.bind (print_ev terms) (Ev.bind (refPrint_ev terms (by omega)) ?_)
  refine Ev.congr (fun k => (if_pos rfl).trans (if_pos rfl)) ?_
  refine Ev.bind (valid_ev l) (Ev.bind (refValid_ev l) ?_)
  exact Ev.congr (fun k => by rw [bne_self_eq_false]) hj0
end Go.Proofs.YteaiobgnhlpblaaDoor.Pure
namespace Go.Proofs.YteaiobgnhlpblaaDoor.labelMatches
open Go.ChangeShapes Go.WideShapes Go.ChangeAt Go.RowKit
open Go.ChangeMaps (open_string shut_string)
set_option linter.unusedVariables false
set_option linter.unusedSimpArgs false
theorem own : ownKnob Tryd.prog.godebug = none := by kernel_rfl
theorem laidOut : laidOutB Tryd.prog = true := by kernel_rfl
theorem contract (H : Type) (enc : TypeId × Value → H) (W : World) (base : Nat) (args : Array Value) (ds gs : List (DataW H)) (before : List MemPlace)
    (hval0 : ∀ (j : Nat) t v, Tryd.f10.params[j]? = some t → args[j]? = some v → Value.okWide Tryd.prog W .any base t v)
    (hW : DataW.Whole enc Tryd.prog Tryd.f10.params.toList Rows.labelMatchesSpec.vars false W args.toList ds gs before)
    (hk : Rows.uptoSmall H (ds ++ gs) = true)
    (hsh : W.ShapedOpen Tryd.prog)
    : Calls Tryd.prog 10 args W fun e W' => ∃ v, e = .returned v ∧ Rows.labelMatchesSpec.post enc Tryd.prog Tryd.f10 false true false false W args v W' := by
  have hval : ∀ (j : Nat) t v, Tryd.f10.params[j]? = some t → args[j]? = some v → Value.okWide Tryd.prog W .any base t v := hval0
  have hW' := hW
  obtain ⟨p, q, hA0, hV, rfl, hfz, hnd⟩ := hW
  have hA : DataW.TrodAll enc Tryd.prog W 0 (fun _ => true) true Tryd.f10.params.toList args.toList ds p := hA0
  rw [Tryd.params10] at hA hval
  obtain ⟨v0, vs0, d0, ds0, p0, q0, hargs, rfl, rfl, h0, r0⟩ := trodAll_cons hA
  obtain ⟨v1, vs1, d1, ds1, p1, q1, rfl, rfl, rfl, h1, r1⟩ := trodAll_cons r0
  obtain ⟨rfl, rfl, rfl⟩ := trodAll_nil r1
  obtain rfl : args = #[v0, v1] := by cases args; simp_all
  obtain ⟨rfl, rfl⟩ := trodVars_none hV
  obtain ⟨A0, len0, cap0, rfl⟩ := okWide_slice Tryd.underlying23 (hval 0 23 v0 rfl rfl)
  have k0 := h0
  have lt0 : ∀ x ∈ p0, x.block < W.heap.size := by obtain ⟨m, hm⟩ := k0; exact DataW.trod_lt m _ _ _ hm
  obtain ⟨l0, rfl, hr0, hc0, hz0, hm0⟩ := Q.row_open Tryd.underlying23 (by kernel_rfl) Q.opens45 h0
  obtain ⟨A1, len1, cap1, rfl⟩ := okWide_slice Tryd.underlying46 (hval 1 46 v1 rfl rfl)
  have k1 := h1
  have lt1 : ∀ x ∈ p1, x.block < W.heap.size := by obtain ⟨m, hm⟩ := k1; exact DataW.trod_lt m _ _ _ hm
  obtain ⟨l1, rfl, hr1, hc1, hz1, hm1⟩ := Q.row_open Tryd.underlying46 (by kernel_rfl) Q.opens51 h1
  have hb := of_decide_eq_true hk
  simp only [List.append_nil, List.cons_append, List.nil_append, Rows.uptoBulkAll, Rows.uptoBulk, Array.length_toList] at hb
  have c0 : Q.Small45 l0 := Q.small45 hz0 (by omega)
  have c1 : Q.Small51 l1 := Q.small51 hz1 (by omega)
  obtain ⟨k, hp⟩ := Pure.LabelMatches l0 l1 c0 c1
  refine (Q.bursarlaw04_LabelMatches.calls k A0 cap0 l0 A1 cap1 l1 true W hr0 hc0 hr1 hc1 hp ⟨Tryd.laysM146.s1_3 W hsh⟩).mono fun e W' ⟨he, bel⟩ => ?_
  subst he
  exact ⟨_, rfl, _, _, _, [], _, [], hW', trodAll_mk1 (shut_bool Tryd.underlying4 _), (trodAll_cons_mk (Below.trod laidOut (by kernel_rfl) (of_decide_eq_true (by kernel_rfl)) k0 bel lt0) (trodAll_cons_mk (Below.trod laidOut (by kernel_rfl) (of_decide_eq_true (by kernel_rfl)) k1 bel lt1) trodAll_mk0)), rfl, bel.frame _, fun h => by cases h⟩
noncomputable def tab1 : Obj → Obj
  | .cells _ t frozen => .cells (Go.Pinned.utf8FirstZ.map fun (n : Nat) => Value.int .u8 (n : Int)).toArray t frozen
  | o => o
noncomputable def tab2 : Obj → Obj
  | .cells _ t frozen => .cells #[.int .u8 128, .int .u8 191, .int .u8 160, .int .u8 191, .int .u8 128, .int .u8 159, .int .u8 144, .int .u8 191, .int .u8 128, .int .u8 143, .int .u8 0, .int .u8 0, .int .u8 0, .int .u8 0, .int .u8 0, .int .u8 0, .int .u8 0, .int .u8 0, .int .u8 0, .int .u8 0, .int .u8 0, .int .u8 0, .int .u8 0, .int .u8 0, .int .u8 0, .int .u8 0, .int .u8 0, .int .u8 0, .int .u8 0, .int .u8 0, .int .u8 0, .int .u8 0] t frozen
  | o => o
noncomputable def laidWorld (os : Os) : World :=
  { World.holding Tryd.prog os ⟨#[], #[], []⟩ with heap := ((World.holding Tryd.prog os ⟨#[], #[], []⟩).heap.modify 1 tab1).modify 2 tab2 }
theorem laid_met (os : Os) : laidMet Tryd.prog Rows.labelMatchesRow.laid ((laidWorld os).forCall (fun _ _ => 0) ⟨#[], #[.slice none 0 0, .slice none 0 0], []⟩).memory :=
  laidMet_of_run' 8 (by kernel_rfl) (by kernel_rfl)
theorem reads (os : Os) {H : Type} (enc : TypeId × Value → H) : ∃ places, DataW.whole enc Tryd.prog ((laidWorld os).forCall (fun _ _ => 0) ⟨#[], #[.slice none 0 0, .slice none 0 0], []⟩).memory Tryd.f10.params.toList Rows.labelMatchesSpec.vars false (#[.slice none 0 0, .slice none 0 0] : Array Value).toList 8 = some ([.nil, .nil], [], places) :=
  ⟨[], by kernel_rfl⟩
set_option maxRecDepth 100000 in
theorem lifted (os : Os) (started : os.Started) (H : Type) (enc : TypeId × Value → H) (F : Stop.Interp) :
    ReturnsInHanded {} Tryd.checked os 10 .any ((Rows.OpenSpec.upto Rows.labelMatchesSpec).preRow enc Tryd.prog Tryd.f10 Rows.labelMatchesUptoRow.domain false Rows.labelMatchesUptoRow.laid) (((Rows.OpenSpec.upto Rows.labelMatchesSpec).at F).post enc Tryd.prog Tryd.f10 false true false false) := by
  obtain ⟨places, hx⟩ := reads os enc
  refine returnsInHanded_of_row (C := Tryd.checked) (s := Rows.OpenSpec.upto Rows.labelMatchesSpec) own started (by kernel_rfl) Tryd.func10
    (witness_row_at (enc := enc) (C := Tryd.checked) false (laidWorld os) #[.slice none 0 0, .slice none 0 0] rfl (by kernel_rfl) (by kernel_rfl) (by kernel_rfl)
      (OpenSpec.preRow_of_cond 8 hx (by kernel_rfl) (fun k hk => by cases hk; kernel_rfl) (by kernel_rfl) (laid_met os))) ?_
  intro W base args ds gs before hval hW _ hcond hsz _ hsh _
  exact contract H enc W base args ds gs before hval hW (hcond _ rfl) hsh
theorem said : Rows.LabelMatchesUptoSaid :=
  OpenClaim.holds_of_cond 10 Tryd.f10 rfl rfl rfl rfl rfl rfl rfl ⟨rfl, rfl, rfl, rfl, rfl⟩ rfl rfl rfl rfl rfl (by kernel_rfl) Tryd.func10 (by kernel_rfl)
    (of_decide_eq_true (by kernel_rfl)) (by unfold Func.isWrapper; first | (rw [if_pos (by decide +kernel)]; kernel_rfl) | (rw [if_neg (by decide +kernel)]; exact ⟨rfl, rfl⟩))
    (fun os started H enc _ F => by rw [OpenClaim.pre_eq_preRow]; exact lifted os started H enc F)
theorem plain (f : FuncId) (fn : Func) (hf : Tryd.pinned.checked.prog.funcNamed "bursar/bursarlaw04.LabelMatches" = some f) (hfn : Tryd.pinned.checked.prog.funcs[f]? = some fn) :
    false = Tryd.pinned.checked.prog.looks [] ∧ ∀ (j : Nat) t, fn.params[j]? = some t → Tryd.pinned.checked.prog.wantsStandIn t = false := by
  obtain rfl : f = 10 := Option.some.inj ((show Tryd.prog.funcNamed "bursar/bursarlaw04.LabelMatches" = some 10 by kernel_rfl).symm.trans hf) |>.symm
  obtain rfl : fn = Tryd.f10 := (Option.some.inj (Tryd.func10.symm.trans hfn)).symm
  refine ⟨by kernel_rfl, fun j t ht => ?_⟩
  rw [Tryd.params10] at ht
  have hall : ∀ x ∈ [23, 46], Tryd.prog.wantsStandIn x = false := by
    intro x hx; simp only [List.mem_cons, List.mem_nil_iff, or_false] at hx; rcases hx with rfl | rfl <;> kernel_rfl
  exact hall t (by simpa using Array.mem_of_getElem? ht)
theorem card : Rows.LabelMatchesUptoCardSaid :=
  Claim7.holds_tied_plain_at .later [] _ _ _ _ said (fun _ h => by cases h) (by kernel_rfl) (fun _ h => by cases h) labelMatchesUpto_row_tie rfl ⟨rfl, rfl⟩ (by kernel_rfl) rfl plain (by kernel_rfl)
end Go.Proofs.YteaiobgnhlpblaaDoor.labelMatches
namespace Go.Proofs.YteaiobgnhlpblaaDoor
theorem labelMatches_holds : Rows.LabelMatchesUptoCardSaid := labelMatches.card
end Go.Proofs.YteaiobgnhlpblaaDoor
