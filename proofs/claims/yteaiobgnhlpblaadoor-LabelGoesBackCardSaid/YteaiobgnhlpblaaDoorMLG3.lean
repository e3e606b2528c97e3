/- What the statement LabelGoesBackCardSaid rests on, part 3 of 4: walks and plain laws. -/
import Derived.Test.YteaiobgnhlpblaaDoorMLG1
import Derived.Test.YteaiobgnhlpblaaDoorMLG2
namespace Go.Proofs.YteaiobgnhlpblaaDoor.Q
open Go.RowKit Go.Proofs.YteaiobgnhlpblaaDoorW.PrintWords Go.Proofs.YteaiobgnhlpblaaDoorW.PrintLast Go.Proofs.YteaiobgnhlpblaaDoorW.PrintMore
attribute [local go_sem] max2_int min2_int max_two min_two max_three min_three max_four min_four   -- for this text's walks alone
set_option linter.unusedVariables false
set_option linter.unusedSimpArgs false

/-! ### bursarlaw04_LabelGoesBack: function 9 -/
mutual
def bursarlaw04_LabelGoesBack.j0 : Nat → ByteArray → ByteArray → List ByteArray → List ByteArray → ByteArray → Int → Bool → Option (Bool)
  | 0, _, _, _, _, _, _, _ => none
  | k + 1, x0, x1, x6, x9, x11, x12, x106 => if x106 = true then (some false) else (if (x6.length : Int) = 0 then (if x12 = 143 then (if x11.toList = ([] : List UInt8) then (bursarlaw04_LabelGoesBack.j1 k x0 x1 x6 x9) else (some false)) else (some false)) else ((label_Line.f k x11).bind fun bt464 => (if x12 = 0 then (if bt464.2 = 0 then (if 1 ≤ (x9.length : Int) then ((bursarlaw04_sameTexts.f k bt464.1 (x9.drop 1)).bind fun t472 => (if t472 = true then (bursarlaw04_LabelGoesBack.j1 k x0 x1 x6 x9) else (some false))) else (none)) else (some false)) else (some false))))
def bursarlaw04_LabelGoesBack.j1 : Nat → ByteArray → ByteArray → List ByteArray → List ByteArray → Option (Bool)
  | 0, _, _, _, _ => none
  | k + 1, x0, x1, x6, x9 => bursarlaw04_LabelGoesBack.l0 k x0 x1 x6 x9 false 0
def bursarlaw04_LabelGoesBack.l0 : Nat → ByteArray → ByteArray → List ByteArray → List ByteArray → Bool → Int → Option (Bool)
  | 0, _, _, _, _, _, _ => none
  | k + 1, x0, x1, x6, x9, x15, x16 => if x16 < (x9.length : Int) then (if x15 = true then (bursarlaw04_LabelGoesBack.j3 k x0 x1 x6 x9 true x16) else (if 0 ≤ x16 then (bursarlaw04_LabelGoesBack.j3 k x0 x1 x6 x9 ((rdOf ByteArray.empty x9 x16).toList == x1.toList) x16) else (none))) else (bursarlaw04_LabelGoesBack.l1 k x0 x1 x6 x15 0)
def bursarlaw04_LabelGoesBack.j3 : Nat → ByteArray → ByteArray → List ByteArray → List ByteArray → Bool → Int → Option (Bool)
  | 0, _, _, _, _, _, _ => none
  | k + 1, x0, x1, x6, x9, x15, x16 => if 0 ≤ x16 then (if x16 < (x9.length : Int) then ((label_Under.f k x0 (rdOf ByteArray.empty x9 x16)).bind fun t475 => (if t475 = true then (if x16 > 0 then ((label_Under.f k (rdOf ByteArray.empty x9 x16) x0).bind fun t477 => (if t477 = true then (some false) else (bursarlaw04_LabelGoesBack.l0 k x0 x1 x6 x9 x15 (wrap64 (x16 + 1))))) else (bursarlaw04_LabelGoesBack.l0 k x0 x1 x6 x9 x15 (wrap64 (x16 + 1)))) else (some false))) else (none)) else (none)
def bursarlaw04_LabelGoesBack.l1 : Nat → ByteArray → ByteArray → List ByteArray → Bool → Int → Option (Bool)
  | 0, _, _, _, _, _ => none
  | k + 1, x0, x1, x6, x15, x17 => if x17 < (x6.length : Int) then (if 0 ≤ x17 then ((label_Name.f (rdOf ByteArray.empty x6 x17)).bind fun t479 => (if t479 = true then (bursarlaw04_LabelGoesBack.l1 k x0 x1 x6 x15 (wrap64 (x17 + 1))) else (some false))) else (none)) else ((label_Under.f k x0 x1).bind fun t480 => (some (t480 == x15)))
end
def bursarlaw04_LabelGoesBack.f (k : Nat) (a0 : ByteArray) (a1 : ByteArray) : Option (Bool) := (bursarlaw04_fixed.f k).bind fun t445 => (if t445 = true then ((label_Split.f k a0).bind fun bt446 => (if bt446.2 = 0 then ((label_Join.f k bt446.1).bind fun bt453 => ((label_Line.f k a0).bind fun bt455 => ((label_Parent.f k a0).bind fun bt459 => (if bt453.2 = 0 then (if bt453.1.toList = a0.toList then (if bt455.2 = 0 then (if (bt455.1.length : Int) = (wrap64 ((bt446.1.length : Int) + 1)) then (if 0 < (bt455.1.length : Int) then (if (rdOf ByteArray.empty bt455.1 0).toList = a0.toList then (if 0 ≤ (wrap64 ((bt455.1.length : Int) - 1)) then (if (wrap64 ((bt455.1.length : Int) - 1)) < (bt455.1.length : Int) then (if (rdOf ByteArray.empty bt455.1 (wrap64 ((bt455.1.length : Int) - 1))).toList = ([47] : List UInt8) then ((label_Path.f k a0).bind fun t463 => (bursarlaw04_LabelGoesBack.j0 k a0 a1 bt446.1 bt455.1 bt459.1 bt459.2 (t463 != 0))) else (bursarlaw04_LabelGoesBack.j0 k a0 a1 bt446.1 bt455.1 bt459.1 bt459.2 true)) else (none)) else (none)) else (bursarlaw04_LabelGoesBack.j0 k a0 a1 bt446.1 bt455.1 bt459.1 bt459.2 true)) else (none)) else (bursarlaw04_LabelGoesBack.j0 k a0 a1 bt446.1 bt455.1 bt459.1 bt459.2 true)) else (bursarlaw04_LabelGoesBack.j0 k a0 a1 bt446.1 bt455.1 bt459.1 bt459.2 true)) else (bursarlaw04_LabelGoesBack.j0 k a0 a1 bt446.1 bt455.1 bt459.1 bt459.2 true)) else (bursarlaw04_LabelGoesBack.j0 k a0 a1 bt446.1 bt455.1 bt459.1 bt459.2 true))))) else (if bt446.2 = 41 then ((label_Path.f k a0).bind fun t450 => (if t450 = 41 then (if (bt446.1.length : Int) = 0 then ((label_Under.f k a0 a1).bind fun t451 => (if t451 = true then (some false) else ((label_Under.f k a1 a0).bind fun t452 => (some (!t452))))) else (some false)) else (some false))) else (some false)))) else (some false))
theorem bursarlaw04_LabelGoesBack.mono_l : ∀ k, (∀ y0 y1 y2 y3 y4 y5 y6, LeO (bursarlaw04_LabelGoesBack.j0 k y0 y1 y2 y3 y4 y5 y6) (bursarlaw04_LabelGoesBack.j0 (k + 1) y0 y1 y2 y3 y4 y5 y6)) ∧ (∀ y0 y1 y2 y3, LeO (bursarlaw04_LabelGoesBack.j1 k y0 y1 y2 y3) (bursarlaw04_LabelGoesBack.j1 (k + 1) y0 y1 y2 y3)) ∧ (∀ y0 y1 y2 y3 y4 y5, LeO (bursarlaw04_LabelGoesBack.l0 k y0 y1 y2 y3 y4 y5) (bursarlaw04_LabelGoesBack.l0 (k + 1) y0 y1 y2 y3 y4 y5)) ∧ (∀ y0 y1 y2 y3 y4 y5, LeO (bursarlaw04_LabelGoesBack.j3 k y0 y1 y2 y3 y4 y5) (bursarlaw04_LabelGoesBack.j3 (k + 1) y0 y1 y2 y3 y4 y5)) ∧ (∀ y0 y1 y2 y3 y4, LeO (bursarlaw04_LabelGoesBack.l1 k y0 y1 y2 y3 y4) (bursarlaw04_LabelGoesBack.l1 (k + 1) y0 y1 y2 y3 y4))
  | 0 => ⟨fun _ _ _ _ _ _ _ r h => by simp [bursarlaw04_LabelGoesBack.j0] at h, fun _ _ _ _ r h => by simp [bursarlaw04_LabelGoesBack.j1] at h, fun _ _ _ _ _ _ r h => by simp [bursarlaw04_LabelGoesBack.l0] at h, fun _ _ _ _ _ _ r h => by simp [bursarlaw04_LabelGoesBack.j3] at h, fun _ _ _ _ _ r h => by simp [bursarlaw04_LabelGoesBack.l1] at h⟩
  | k + 1 => by
    obtain ⟨ih0, ih1, ih2, ih3, ih4⟩ := bursarlaw04_LabelGoesBack.mono_l k
    refine ⟨?_, ?_, ?_, ?_, ?_⟩
    · intro y0 y1 y2 y3 y4 y5 y6
      unfold bursarlaw04_LabelGoesBack.j0
      repeat' first
      | (with_reducible exact ih0 _ _ _ _ _ _ _)
      | (with_reducible exact ih1 _ _ _ _)
      | (with_reducible exact ih2 _ _ _ _ _ _)
      | (with_reducible exact ih3 _ _ _ _ _ _)
      | (with_reducible exact ih4 _ _ _ _ _)
      | (with_reducible exact bursarlaw04_fixed.mono _)
      | (with_reducible exact bursarlaw04_sameTexts.mono _ _ _)
      | (with_reducible exact label_Join.mono _ _)
      | (with_reducible exact label_Line.mono _ _)
      | (with_reducible exact label_Parent.mono _ _)
      | (with_reducible exact label_Path.mono _ _)
      | (with_reducible exact label_Split.mono _ _)
      | (with_reducible exact label_Under.mono _ _ _)
      | (with_reducible exact LeO.refl _)
      | (with_reducible exact LeO.none _)
      | (with_reducible refine LeO.ite ?_ ?_)
      | (with_reducible refine LeO.bind ?_ (fun _ => ?_))
      | exact ih0 _ _ _ _ _ _ _
      | exact ih1 _ _ _ _
      | exact ih2 _ _ _ _ _ _
      | exact ih3 _ _ _ _ _ _
      | exact ih4 _ _ _ _ _
      | exact bursarlaw04_fixed.mono _
      | exact bursarlaw04_sameTexts.mono _ _ _
      | exact label_Join.mono _ _
      | exact label_Line.mono _ _
      | exact label_Parent.mono _ _
      | exact label_Path.mono _ _
      | exact label_Split.mono _ _
      | exact label_Under.mono _ _ _
      | exact LeO.none _
      | refine LeO.ite ?_ ?_
      | refine LeO.bind ?_ (fun _ => ?_)
    · intro y0 y1 y2 y3
      unfold bursarlaw04_LabelGoesBack.j1
      repeat' first
      | (with_reducible exact ih0 _ _ _ _ _ _ _)
      | (with_reducible exact ih1 _ _ _ _)
      | (with_reducible exact ih2 _ _ _ _ _ _)
      | (with_reducible exact ih3 _ _ _ _ _ _)
      | (with_reducible exact ih4 _ _ _ _ _)
      | (with_reducible exact bursarlaw04_fixed.mono _)
      | (with_reducible exact bursarlaw04_sameTexts.mono _ _ _)
      | (with_reducible exact label_Join.mono _ _)
      | (with_reducible exact label_Line.mono _ _)
      | (with_reducible exact label_Parent.mono _ _)
      | (with_reducible exact label_Path.mono _ _)
      | (with_reducible exact label_Split.mono _ _)
      | (with_reducible exact label_Under.mono _ _ _)
      | (with_reducible exact LeO.refl _)
      | (with_reducible exact LeO.none _)
      | (with_reducible refine LeO.ite ?_ ?_)
      | (with_reducible refine LeO.bind ?_ (fun _ => ?_))
      | exact ih0 _ _ _ _ _ _ _
      | exact ih1 _ _ _ _
      | exact ih2 _ _ _ _ _ _
      | exact ih3 _ _ _ _ _ _
      | exact ih4 _ _ _ _ _
      | exact bursarlaw04_fixed.mono _
      | exact bursarlaw04_sameTexts.mono _ _ _
      | exact label_Join.mono _ _
      | exact label_Line.mono _ _
      | exact label_Parent.mono _ _
      | exact label_Path.mono _ _
      | exact label_Split.mono _ _
      | exact label_Under.mono _ _ _
      | exact LeO.none _
      | refine LeO.ite ?_ ?_
      | refine LeO.bind ?_ (fun _ => ?_)
    · intro y0 y1 y2 y3 y4 y5
      unfold bursarlaw04_LabelGoesBack.l0
      repeat' first
      | (with_reducible exact ih0 _ _ _ _ _ _ _)
      | (with_reducible exact ih1 _ _ _ _)
      | (with_reducible exact ih2 _ _ _ _ _ _)
      | (with_reducible exact ih3 _ _ _ _ _ _)
      | (with_reducible exact ih4 _ _ _ _ _)
      | (with_reducible exact bursarlaw04_fixed.mono _)
      | (with_reducible exact bursarlaw04_sameTexts.mono _ _ _)
      | (with_reducible exact label_Join.mono _ _)
      | (with_reducible exact label_Line.mono _ _)
      | (with_reducible exact label_Parent.mono _ _)
      | (with_reducible exact label_Path.mono _ _)
      | (with_reducible exact label_Split.mono _ _)
      | (with_reducible exact label_Under.mono _ _ _)
      | (with_reducible exact LeO.refl _)
      | (with_reducible exact LeO.none _)
      | (with_reducible refine LeO.ite ?_ ?_)
      | (with_reducible refine LeO.bind ?_ (fun _ => ?_))
      | exact ih0 _ _ _ _ _ _ _
      | exact ih1 _ _ _ _
      | exact ih2 _ _ _ _ _ _
      | exact ih3 _ _ _ _ _ _
      | exact ih4 _ _ _ _ _
      | exact bursarlaw04_fixed.mono _
      | exact bursarlaw04_sameTexts.mono _ _ _
      | exact label_Join.mono _ _
      | exact label_Line.mono _ _
      | exact label_Parent.mono _ _
      | exact label_Path.mono _ _
      | exact label_Split.mono _ _
      | exact label_Under.mono _ _ _
      | exact LeO.none _
      | refine LeO.ite ?_ ?_
      | refine LeO.bind ?_ (fun _ => ?_)
    · intro y0 y1 y2 y3 y4 y5
      unfold bursarlaw04_LabelGoesBack.j3
      repeat' first
      | (with_reducible exact ih0 _ _ _ _ _ _ _)
      | (with_reducible exact ih1 _ _ _ _)
      | (with_reducible exact ih2 _ _ _ _ _ _)
      | (with_reducible exact ih3 _ _ _ _ _ _)
      | (with_reducible exact ih4 _ _ _ _ _)
      | (with_reducible exact bursarlaw04_fixed.mono _)
      | (with_reducible exact bursarlaw04_sameTexts.mono _ _ _)
      | (with_reducible exact label_Join.mono _ _)
      | (with_reducible exact label_Line.mono _ _)
      | (with_reducible exact label_Parent.mono _ _)
      | (with_reducible exact label_Path.mono _ _)
      | (with_reducible exact label_Split.mono _ _)
      | (with_reducible exact label_Under.mono _ _ _)
      | (with_reducible exact LeO.refl _)
      | (with_reducible exact LeO.none _)
      | (with_reducible refine LeO.ite ?_ ?_)
      | (with_reducible refine LeO.bind ?_ (fun _ => ?_))
      | exact ih0 _ _ _ _ _ _ _
      | exact ih1 _ _ _ _
      | exact ih2 _ _ _ _ _ _
      | exact ih3 _ _ _ _ _ _
      | exact ih4 _ _ _ _ _
      | exact bursarlaw04_fixed.mono _
      | exact bursarlaw04_sameTexts.mono _ _ _
      | exact label_Join.mono _ _
      | exact label_Line.mono _ _
      | exact label_Parent.mono _ _
      | exact label_Path.mono _ _
      | exact label_Split.mono _ _
      | exact label_Under.mono _ _ _
      | exact LeO.none _
      | refine LeO.ite ?_ ?_
      | refine LeO.bind ?_ (fun _ => ?_)
    · intro y0 y1 y2 y3 y4
      unfold bursarlaw04_LabelGoesBack.l1
      repeat' first
      | (with_reducible exact ih0 _ _ _ _ _ _ _)
      | (with_reducible exact ih1 _ _ _ _)
      | (with_reducible exact ih2 _ _ _ _ _ _)
      | (with_reducible exact ih3 _ _ _ _ _ _)
      | (with_reducible exact ih4 _ _ _ _ _)
      | (with_reducible exact bursarlaw04_fixed.mono _)
      | (with_reducible exact bursarlaw04_sameTexts.mono _ _ _)
      | (with_reducible exact label_Join.mono _ _)
      | (with_reducible exact label_Line.mono _ _)
      | (with_reducible exact label_Parent.mono _ _)
      | (with_reducible exact label_Path.mono _ _)
      | (with_reducible exact label_Split.mono _ _)
      | (with_reducible exact label_Under.mono _ _ _)
      | (with_reducible exact LeO.refl _)
      | (with_reducible exact LeO.none _)
      | (with_reducible refine LeO.ite ?_ ?_)
      | (with_reducible refine LeO.bind ?_ (fun _ => ?_))
      | exact ih0 _ _ _ _ _ _ _
      | exact ih1 _ _ _ _
      | exact ih2 _ _ _ _ _ _
      | exact ih3 _ _ _ _ _ _
      | exact ih4 _ _ _ _ _
      | exact bursarlaw04_fixed.mono _
      | exact bursarlaw04_sameTexts.mono _ _ _
      | exact label_Join.mono _ _
      | exact label_Line.mono _ _
      | exact label_Parent.mono _ _
      | exact label_Path.mono _ _
      | exact label_Split.mono _ _
      | exact label_Under.mono _ _ _
      | exact LeO.none _
      | refine LeO.ite ?_ ?_
      | refine LeO.bind ?_ (fun _ => ?_)
theorem bursarlaw04_LabelGoesBack.mono : ∀ a0 a1 k, LeO (bursarlaw04_LabelGoesBack.f k a0 a1) (bursarlaw04_LabelGoesBack.f (k + 1) a0 a1) := by
  intro a0 a1 k
  obtain ⟨ih0, ih1, ih2, ih3, ih4⟩ := bursarlaw04_LabelGoesBack.mono_l k
  unfold bursarlaw04_LabelGoesBack.f
  repeat' first
      | (with_reducible exact ih0 _ _ _ _ _ _ _)
      | (with_reducible exact ih1 _ _ _ _)
      | (with_reducible exact ih2 _ _ _ _ _ _)
      | (with_reducible exact ih3 _ _ _ _ _ _)
      | (with_reducible exact ih4 _ _ _ _ _)
      | (with_reducible exact bursarlaw04_fixed.mono _)
      | (with_reducible exact bursarlaw04_sameTexts.mono _ _ _)
      | (with_reducible exact label_Join.mono _ _)
      | (with_reducible exact label_Line.mono _ _)
      | (with_reducible exact label_Parent.mono _ _)
      | (with_reducible exact label_Path.mono _ _)
      | (with_reducible exact label_Split.mono _ _)
      | (with_reducible exact label_Under.mono _ _ _)
      | (with_reducible exact LeO.refl _)
      | (with_reducible exact LeO.none _)
      | (with_reducible refine LeO.ite ?_ ?_)
      | (with_reducible refine LeO.bind ?_ (fun _ => ?_))
      | exact ih0 _ _ _ _ _ _ _
      | exact ih1 _ _ _ _
      | exact ih2 _ _ _ _ _ _
      | exact ih3 _ _ _ _ _ _
      | exact ih4 _ _ _ _ _
      | exact bursarlaw04_fixed.mono _
      | exact bursarlaw04_sameTexts.mono _ _ _
      | exact label_Join.mono _ _
      | exact label_Line.mono _ _
      | exact label_Parent.mono _ _
      | exact label_Path.mono _ _
      | exact label_Split.mono _ _
      | exact label_Under.mono _ _ _
      | exact LeO.none _
      | refine LeO.ite ?_ ?_
      | refine LeO.bind ?_ (fun _ => ?_)
set_option maxHeartbeats 8000000 in
set_option maxRecDepth 100000 in
theorem bursarlaw04_LabelGoesBack.calls (k : Nat) (a0 : ByteArray) (a1 : ByteArray) (r : Bool) (w : World) (h : bursarlaw04_LabelGoesBack.f k a0 a1 = some r) (hG : Glob w) :
    Calls Tryd.prog 9 #[.string a0, .string a1] w fun e w' => e = .returned (.bool r) ∧ Below w.heap.size w w' := by
  have HB := Aside0.mk (Below.refl w.heap.size w)
  have H : ((bursarlaw04_fixed.f k).bind fun t445 => (if t445 = true then ((label_Split.f k a0).bind fun bt446 => (if bt446.2 = 0 then ((label_Join.f k bt446.1).bind fun bt453 => ((label_Line.f k a0).bind fun bt455 => ((label_Parent.f k a0).bind fun bt459 => (if bt453.2 = 0 then (if bt453.1.toList = a0.toList then (if bt455.2 = 0 then (if (bt455.1.length : Int) = (wrap64 ((bt446.1.length : Int) + 1)) then (if 0 < (bt455.1.length : Int) then (if (rdOf ByteArray.empty bt455.1 0).toList = a0.toList then (if 0 ≤ (wrap64 ((bt455.1.length : Int) - 1)) then (if (wrap64 ((bt455.1.length : Int) - 1)) < (bt455.1.length : Int) then (if (rdOf ByteArray.empty bt455.1 (wrap64 ((bt455.1.length : Int) - 1))).toList = ([47] : List UInt8) then ((label_Path.f k a0).bind fun t463 => (bursarlaw04_LabelGoesBack.j0 k a0 a1 bt446.1 bt455.1 bt459.1 bt459.2 (t463 != 0))) else (bursarlaw04_LabelGoesBack.j0 k a0 a1 bt446.1 bt455.1 bt459.1 bt459.2 true)) else (none)) else (none)) else (bursarlaw04_LabelGoesBack.j0 k a0 a1 bt446.1 bt455.1 bt459.1 bt459.2 true)) else (none)) else (bursarlaw04_LabelGoesBack.j0 k a0 a1 bt446.1 bt455.1 bt459.1 bt459.2 true)) else (bursarlaw04_LabelGoesBack.j0 k a0 a1 bt446.1 bt455.1 bt459.1 bt459.2 true)) else (bursarlaw04_LabelGoesBack.j0 k a0 a1 bt446.1 bt455.1 bt459.1 bt459.2 true)) else (bursarlaw04_LabelGoesBack.j0 k a0 a1 bt446.1 bt455.1 bt459.1 bt459.2 true))))) else (if bt446.2 = 41 then ((label_Path.f k a0).bind fun t450 => (if t450 = 41 then (if (bt446.1.length : Int) = 0 then ((label_Under.f k a0 a1).bind fun t451 => (if t451 = true then (some false) else ((label_Under.f k a1 a0).bind fun t452 => (some (!t452))))) else (some false)) else (some false))) else (some false)))) else (some false))) = some r := h
  clear h
  replace H := Option.bind_eq_some_iff.mp H
  obtain ⟨t445, A30, H⟩ := H
  replace H : (if t445 = true then ((label_Split.f k a0).bind fun bt446 => (if bt446.2 = 0 then ((label_Join.f k bt446.1).bind fun bt453 => ((label_Line.f k a0).bind fun bt455 => ((label_Parent.f k a0).bind fun bt459 => (if bt453.2 = 0 then (if bt453.1.toList = a0.toList then (if bt455.2 = 0 then (if (bt455.1.length : Int) = (wrap64 ((bt446.1.length : Int) + 1)) then (if 0 < (bt455.1.length : Int) then (if (rdOf ByteArray.empty bt455.1 0).toList = a0.toList then (if 0 ≤ (wrap64 ((bt455.1.length : Int) - 1)) then (if (wrap64 ((bt455.1.length : Int) - 1)) < (bt455.1.length : Int) then (if (rdOf ByteArray.empty bt455.1 (wrap64 ((bt455.1.length : Int) - 1))).toList = ([47] : List UInt8) then ((label_Path.f k a0).bind fun t463 => (bursarlaw04_LabelGoesBack.j0 k a0 a1 bt446.1 bt455.1 bt459.1 bt459.2 (t463 != 0))) else (bursarlaw04_LabelGoesBack.j0 k a0 a1 bt446.1 bt455.1 bt459.1 bt459.2 true)) else (none)) else (none)) else (bursarlaw04_LabelGoesBack.j0 k a0 a1 bt446.1 bt455.1 bt459.1 bt459.2 true)) else (none)) else (bursarlaw04_LabelGoesBack.j0 k a0 a1 bt446.1 bt455.1 bt459.1 bt459.2 true)) else (bursarlaw04_LabelGoesBack.j0 k a0 a1 bt446.1 bt455.1 bt459.1 bt459.2 true)) else (bursarlaw04_LabelGoesBack.j0 k a0 a1 bt446.1 bt455.1 bt459.1 bt459.2 true)) else (bursarlaw04_LabelGoesBack.j0 k a0 a1 bt446.1 bt455.1 bt459.1 bt459.2 true))))) else (if bt446.2 = 41 then ((label_Path.f k a0).bind fun t450 => (if t450 = 41 then (if (bt446.1.length : Int) = 0 then ((label_Under.f k a0 a1).bind fun t451 => (if t451 = true then (some false) else ((label_Under.f k a1 a0).bind fun t452 => (some (!t452))))) else (some false)) else (some false))) else (some false)))) else (some false)) = some r := H
  have A3 := Aside0.mk A30
  clear A30
  by_cases c4 : t445 = true
  · subst c4
    have H1 : ((label_Split.f k a0).bind fun bt446 => (if bt446.2 = 0 then ((label_Join.f k bt446.1).bind fun bt453 => ((label_Line.f k a0).bind fun bt455 => ((label_Parent.f k a0).bind fun bt459 => (if bt453.2 = 0 then (if bt453.1.toList = a0.toList then (if bt455.2 = 0 then (if (bt455.1.length : Int) = (wrap64 ((bt446.1.length : Int) + 1)) then (if 0 < (bt455.1.length : Int) then (if (rdOf ByteArray.empty bt455.1 0).toList = a0.toList then (if 0 ≤ (wrap64 ((bt455.1.length : Int) - 1)) then (if (wrap64 ((bt455.1.length : Int) - 1)) < (bt455.1.length : Int) then (if (rdOf ByteArray.empty bt455.1 (wrap64 ((bt455.1.length : Int) - 1))).toList = ([47] : List UInt8) then ((label_Path.f k a0).bind fun t463 => (bursarlaw04_LabelGoesBack.j0 k a0 a1 bt446.1 bt455.1 bt459.1 bt459.2 (t463 != 0))) else (bursarlaw04_LabelGoesBack.j0 k a0 a1 bt446.1 bt455.1 bt459.1 bt459.2 true)) else (none)) else (none)) else (bursarlaw04_LabelGoesBack.j0 k a0 a1 bt446.1 bt455.1 bt459.1 bt459.2 true)) else (none)) else (bursarlaw04_LabelGoesBack.j0 k a0 a1 bt446.1 bt455.1 bt459.1 bt459.2 true)) else (bursarlaw04_LabelGoesBack.j0 k a0 a1 bt446.1 bt455.1 bt459.1 bt459.2 true)) else (bursarlaw04_LabelGoesBack.j0 k a0 a1 bt446.1 bt455.1 bt459.1 bt459.2 true)) else (bursarlaw04_LabelGoesBack.j0 k a0 a1 bt446.1 bt455.1 bt459.1 bt459.2 true))))) else (if bt446.2 = 41 then ((label_Path.f k a0).bind fun t450 => (if t450 = 41 then (if (bt446.1.length : Int) = 0 then ((label_Under.f k a0 a1).bind fun t451 => (if t451 = true then (some false) else ((label_Under.f k a1 a0).bind fun t452 => (some (!t452))))) else (some false)) else (some false))) else (some false)))) = some r := by rw [if_pos rfl] at H; exact H
    clear H
    have H := H1
    clear H1
    replace H := Option.bind_eq_some_iff.mp H
    obtain ⟨⟨t446, t447⟩, A50, H⟩ := H
    replace H : (if t447 = 0 then ((label_Join.f k t446).bind fun bt453 => ((label_Line.f k a0).bind fun bt455 => ((label_Parent.f k a0).bind fun bt459 => (if bt453.2 = 0 then (if bt453.1.toList = a0.toList then (if bt455.2 = 0 then (if (bt455.1.length : Int) = (wrap64 ((t446.length : Int) + 1)) then (if 0 < (bt455.1.length : Int) then (if (rdOf ByteArray.empty bt455.1 0).toList = a0.toList then (if 0 ≤ (wrap64 ((bt455.1.length : Int) - 1)) then (if (wrap64 ((bt455.1.length : Int) - 1)) < (bt455.1.length : Int) then (if (rdOf ByteArray.empty bt455.1 (wrap64 ((bt455.1.length : Int) - 1))).toList = ([47] : List UInt8) then ((label_Path.f k a0).bind fun t463 => (bursarlaw04_LabelGoesBack.j0 k a0 a1 t446 bt455.1 bt459.1 bt459.2 (t463 != 0))) else (bursarlaw04_LabelGoesBack.j0 k a0 a1 t446 bt455.1 bt459.1 bt459.2 true)) else (none)) else (none)) else (bursarlaw04_LabelGoesBack.j0 k a0 a1 t446 bt455.1 bt459.1 bt459.2 true)) else (none)) else (bursarlaw04_LabelGoesBack.j0 k a0 a1 t446 bt455.1 bt459.1 bt459.2 true)) else (bursarlaw04_LabelGoesBack.j0 k a0 a1 t446 bt455.1 bt459.1 bt459.2 true)) else (bursarlaw04_LabelGoesBack.j0 k a0 a1 t446 bt455.1 bt459.1 bt459.2 true)) else (bursarlaw04_LabelGoesBack.j0 k a0 a1 t446 bt455.1 bt459.1 bt459.2 true))))) else (if t447 = 41 then ((label_Path.f k a0).bind fun t450 => (if t450 = 41 then (if (t446.length : Int) = 0 then ((label_Under.f k a0 a1).bind fun t451 => (if t451 = true then (some false) else ((label_Under.f k a1 a0).bind fun t452 => (some (!t452))))) else (some false)) else (some false))) else (some false))) = some r := H
    have A5 := Aside0.mk A50
    clear A50
    by_cases c6 : t447 = 0
    · rw [if_pos c6] at H
      have c6b0 : (t447 == 0) = true := beq_iff_eq.mpr c6
      have c6b1 : (t447 != 0) = false := bne_eq_false_iff_eq.mpr c6
      clear c6
      replace H := Option.bind_eq_some_iff.mp H
      obtain ⟨⟨t453, t454⟩, A70, H⟩ := H
      replace H : ((label_Line.f k a0).bind fun bt455 => ((label_Parent.f k a0).bind fun bt459 => (if t454 = 0 then (if t453.toList = a0.toList then (if bt455.2 = 0 then (if (bt455.1.length : Int) = (wrap64 ((t446.length : Int) + 1)) then (if 0 < (bt455.1.length : Int) then (if (rdOf ByteArray.empty bt455.1 0).toList = a0.toList then (if 0 ≤ (wrap64 ((bt455.1.length : Int) - 1)) then (if (wrap64 ((bt455.1.length : Int) - 1)) < (bt455.1.length : Int) then (if (rdOf ByteArray.empty bt455.1 (wrap64 ((bt455.1.length : Int) - 1))).toList = ([47] : List UInt8) then ((label_Path.f k a0).bind fun t463 => (bursarlaw04_LabelGoesBack.j0 k a0 a1 t446 bt455.1 bt459.1 bt459.2 (t463 != 0))) else (bursarlaw04_LabelGoesBack.j0 k a0 a1 t446 bt455.1 bt459.1 bt459.2 true)) else (none)) else (none)) else (bursarlaw04_LabelGoesBack.j0 k a0 a1 t446 bt455.1 bt459.1 bt459.2 true)) else (none)) else (bursarlaw04_LabelGoesBack.j0 k a0 a1 t446 bt455.1 bt459.1 bt459.2 true)) else (bursarlaw04_LabelGoesBack.j0 k a0 a1 t446 bt455.1 bt459.1 bt459.2 true)) else (bursarlaw04_LabelGoesBack.j0 k a0 a1 t446 bt455.1 bt459.1 bt459.2 true)) else (bursarlaw04_LabelGoesBack.j0 k a0 a1 t446 bt455.1 bt459.1 bt459.2 true)))) = some r := H
      have A7 := Aside0.mk A70
      clear A70
      replace H := Option.bind_eq_some_iff.mp H
      obtain ⟨⟨t455, t456⟩, A80, H⟩ := H
      replace H : ((label_Parent.f k a0).bind fun bt459 => (if t454 = 0 then (if t453.toList = a0.toList then (if t456 = 0 then (if (t455.length : Int) = (wrap64 ((t446.length : Int) + 1)) then (if 0 < (t455.length : Int) then (if (rdOf ByteArray.empty t455 0).toList = a0.toList then (if 0 ≤ (wrap64 ((t455.length : Int) - 1)) then (if (wrap64 ((t455.length : Int) - 1)) < (t455.length : Int) then (if (rdOf ByteArray.empty t455 (wrap64 ((t455.length : Int) - 1))).toList = ([47] : List UInt8) then ((label_Path.f k a0).bind fun t463 => (bursarlaw04_LabelGoesBack.j0 k a0 a1 t446 t455 bt459.1 bt459.2 (t463 != 0))) else (bursarlaw04_LabelGoesBack.j0 k a0 a1 t446 t455 bt459.1 bt459.2 true)) else (none)) else (none)) else (bursarlaw04_LabelGoesBack.j0 k a0 a1 t446 t455 bt459.1 bt459.2 true)) else (none)) else (bursarlaw04_LabelGoesBack.j0 k a0 a1 t446 t455 bt459.1 bt459.2 true)) else (bursarlaw04_LabelGoesBack.j0 k a0 a1 t446 t455 bt459.1 bt459.2 true)) else (bursarlaw04_LabelGoesBack.j0 k a0 a1 t446 t455 bt459.1 bt459.2 true)) else (bursarlaw04_LabelGoesBack.j0 k a0 a1 t446 t455 bt459.1 bt459.2 true))) = some r := H
      have A8 := Aside0.mk A80
      clear A80
      replace H := Option.bind_eq_some_iff.mp H
      obtain ⟨⟨t459, t460⟩, A90, H⟩ := H
      replace H : (if t454 = 0 then (if t453.toList = a0.toList then (if t456 = 0 then (if (t455.length : Int) = (wrap64 ((t446.length : Int) + 1)) then (if 0 < (t455.length : Int) then (if (rdOf ByteArray.empty t455 0).toList = a0.toList then (if 0 ≤ (wrap64 ((t455.length : Int) - 1)) then (if (wrap64 ((t455.length : Int) - 1)) < (t455.length : Int) then (if (rdOf ByteArray.empty t455 (wrap64 ((t455.length : Int) - 1))).toList = ([47] : List UInt8) then ((label_Path.f k a0).bind fun t463 => (bursarlaw04_LabelGoesBack.j0 k a0 a1 t446 t455 t459 t460 (t463 != 0))) else (bursarlaw04_LabelGoesBack.j0 k a0 a1 t446 t455 t459 t460 true)) else (none)) else (none)) else (bursarlaw04_LabelGoesBack.j0 k a0 a1 t446 t455 t459 t460 true)) else (none)) else (bursarlaw04_LabelGoesBack.j0 k a0 a1 t446 t455 t459 t460 true)) else (bursarlaw04_LabelGoesBack.j0 k a0 a1 t446 t455 t459 t460 true)) else (bursarlaw04_LabelGoesBack.j0 k a0 a1 t446 t455 t459 t460 true)) else (bursarlaw04_LabelGoesBack.j0 k a0 a1 t446 t455 t459 t460 true)) = some r := H
      have A9 := Aside0.mk A90
      clear A90
      have HC10 := Aside0.mk H
      clear H
      go_enter Tryd.func9, Tryd.ntmps9
      go_upto_region 10 with (first | ((with_reducible refine gate_callee (f := 12) rfl ?_); refine goesL_ (some 18) rfl rfl Tryd.func12 (by kernel_rfl) rfl #[] rfl (by (try simp only [List.map_toArray, List.map_cons, List.map_nil]); first | done | rfl | (simp only [List.length_drop, List.length_take]; rfl)) ?_; (with_reducible refine (bursarlaw04_fixed.calls k  true _ A3.out (Glob.below hG (by repeat (first | (with_reducible first | exact HB.out | apply below_alloc | apply pw_below_drewN | apply below_drew1) | exact HB.out)))).mono ?_); rintro e w11 ⟨rfl, hb⟩; refine ⟨_, rfl, ?_⟩; have n0_ := Aside0.mk (below_step (by repeat (first | (with_reducible first | exact HB.out | apply below_alloc | apply pw_below_drewN | apply below_drew1) | exact HB.out)) hb); clear HB; have HB := n0_; clear n0_; (try clear hb); (try clear hb2); (try clear hk); (try clear hi)) | ((with_reducible refine gate_callee (f := 24) rfl ?_); refine goesL_ (some 23) rfl rfl Tryd.func24 (by kernel_rfl) rfl #[.string a0] rfl (by (try simp only [List.map_toArray, List.map_cons, List.map_nil]); first | done | rfl | (simp only [List.length_drop, List.length_take]; rfl)) ?_; (with_reducible refine (label_Split.calls k a0 t446 t447 _ A5.out (Glob.below hG (by repeat (first | (with_reducible first | exact HB.out | apply below_alloc | apply pw_below_drewN | apply below_drew1) | exact HB.out)))).mono ?_); rintro e w12 ⟨v448, rfl, ho0, hb⟩; refine ⟨_, rfl, ?_⟩; have n0_ := Aside0.mk (Kd.R_lower ho0 (below_size (by repeat (first | (with_reducible first | exact HB.out | apply below_alloc | apply pw_below_drewN | apply below_drew1) | exact HB.out)))); have n1_ := Aside0.mk (below_step (by repeat (first | (with_reducible first | exact HB.out | apply below_alloc | apply pw_below_drewN | apply below_drew1) | exact HB.out)) hb); clear HB; have HO449 := n0_; have HB := n1_; clear n0_ n1_; (try clear hb); (try clear hb2); (try clear hk); (try clear hi); (try clear ho0); obtain ⟨Ao13, co13, eo13⟩ := Kd.R_slice HO449.out; subst eo13) | ((with_reducible refine gate_callee (f := 31) rfl ?_); refine goesL_ (some 54) rfl rfl Tryd.func31 (by kernel_rfl) rfl #[.slice Ao13 t446.length co13] rfl (by (try simp only [List.map_toArray, List.map_cons, List.map_nil]); first | done | rfl | (simp only [List.length_drop, List.length_take]; rfl)) ?_; (with_reducible refine (label_Join.calls k _ _ t446 t453 t454 _ ?side1 ?side2 A7.out).mono ?_); (case side1 => repeat (first | exact (Kd.R_reads' HO449.out).2.2 | (with_reducible refine Kd.C_alloc ?_ _) | (with_reducible refine Kd.C_drewN ?_ _) | (with_reducible refine Kd.C_drew ?_))); (case side2 => exact (Kd.R_reads' HO449.out).2.1); rintro e w14 ⟨rfl, hb⟩; refine ⟨_, rfl, ?_⟩; have n0_ := Aside0.mk (Kd.R_below (by (with_reducible repeat (first | apply Kd.R_alloc | apply Kd.R_drewN | apply Kd.R_drew)); exact HO449.out) hb); have n1_ := Aside0.mk (below_step (by repeat (first | (with_reducible first | exact HB.out | apply below_alloc | apply pw_below_drewN | apply below_drew1) | exact HB.out)) hb); clear HO449; clear HB; have HO449 := n0_; have HB := n1_; clear n0_ n1_; (try clear hb); (try clear hb2); (try clear hk); (try clear hi)) | ((with_reducible refine gate_callee (f := 29) rfl ?_); refine goesL_ (some 59) rfl rfl Tryd.func29 (by kernel_rfl) rfl #[.string a0] rfl (by (try simp only [List.map_toArray, List.map_cons, List.map_nil]); first | done | rfl | (simp only [List.length_drop, List.length_take]; rfl)) ?_; (with_reducible refine (label_Line.calls k a0 t455 t456 _ A8.out (Glob.below hG (by repeat (first | (with_reducible first | exact HB.out | apply below_alloc | apply pw_below_drewN | apply below_drew1) | exact HB.out)))).mono ?_); rintro e w15 ⟨v457, rfl, ho0, hb⟩; refine ⟨_, rfl, ?_⟩; have n0_ := Aside0.mk (Kd.R_elder' (by (with_reducible repeat (first | apply Kd.R_alloc | apply Kd.R_drewN | apply Kd.R_drew)); exact HO449.out) (Kd.R_base ho0) hb); have n1_ := Aside0.mk (Kd.R_lower (Kd.R_new' ho0 (Kd.R_lt (by (with_reducible repeat (first | apply Kd.R_alloc | apply Kd.R_drewN | apply Kd.R_drew)); exact HO449.out))) (below_size (by repeat (first | (with_reducible first | exact HB.out | apply below_alloc | apply pw_below_drewN | apply below_drew1) | exact HB.out)))); have n2_ := Aside0.mk (below_step (by repeat (first | (with_reducible first | exact HB.out | apply below_alloc | apply pw_below_drewN | apply below_drew1) | exact HB.out)) hb); clear HO449; clear HB; have HO449 := n0_; have HO458 := n1_; have HB := n2_; clear n0_ n1_ n2_; (try clear hb); (try clear hb2); (try clear hk); (try clear hi); (try clear ho0)) | ((with_reducible refine gate_callee (f := 27) rfl ?_); refine goesL_ (some 64) rfl rfl Tryd.func27 (by kernel_rfl) rfl #[.string a0] rfl (by (try simp only [List.map_toArray, List.map_cons, List.map_nil]); first | done | rfl | (simp only [List.length_drop, List.length_take]; rfl)) ?_; (with_reducible refine (label_Parent.calls k a0 t459 t460 _ A9.out (Glob.below hG (by repeat (first | (with_reducible first | exact HB.out | apply below_alloc | apply pw_below_drewN | apply below_drew1) | exact HB.out)))).mono ?_); rintro e w16 ⟨rfl, hb⟩; refine ⟨_, rfl, ?_⟩; have n0_ := Aside0.mk (Kd.R_below (by (with_reducible repeat (first | apply Kd.R_alloc | apply Kd.R_drewN | apply Kd.R_drew)); exact HO449.out) hb); have n1_ := Aside0.mk (Kd.R_below (by (with_reducible repeat (first | apply Kd.R_alloc | apply Kd.R_drewN | apply Kd.R_drew)); exact HO458.out) hb); have n2_ := Aside0.mk (below_step (by repeat (first | (with_reducible first | exact HB.out | apply below_alloc | apply pw_below_drewN | apply below_drew1) | exact HB.out)) hb); clear HO449; clear HO458; clear HB; have HO449 := n0_; have HO458 := n1_; have HB := n2_; clear n0_ n1_ n2_; (try clear hb); (try clear hb2); (try clear hk); (try clear hi)))
      (try simp only [Act.put, List.setIfInBounds_toArray, List.set_cons_zero, List.set_cons_succ])
      go_cut [106] (fun v106 wc => ∃ (kq : Nat) (x106_9 : Bool), v106 = .bool x106_9 ∧ Aside0 (bursarlaw04_LabelGoesBack.j0 kq a0 a1 t446 t455 t459 t460 x106_9 = some r) ∧ Aside0 (kq ≤ k) ∧ Aside0 (Kd.R Kd.string 9 wc w.heap.size (fun k_ => some k_ ≠ (v457 : Value).ownBlock) (.slice Ao13 t446.length co13) t446) ∧ Aside0 (Kd.R Kd.string 9 wc w.heap.size (fun k_ => some k_ ≠ ((.slice Ao13 t446.length co13) : Value).ownBlock) v457 t455) ∧ Aside0 (Below w.heap.size w wc))
      case first =>
        have H := HC10.out
        clear HC10
        by_cases c17 : t454 = 0
        · rw [if_pos c17] at H
          have c17b0 : (t454 == 0) = true := beq_iff_eq.mpr c17
          have c17b1 : (t454 != 0) = false := bne_eq_false_iff_eq.mpr c17
          clear c17
          (first | rw [c17b0] | (simp only [i64_w, i32_w]; rw [c17b0]) | skip)
          by_cases c18 : t453.toList = a0.toList
          · rw [if_pos c18] at H
            have c18b0 : (t453.toList == a0.toList) = true := beq_iff_eq.mpr c18
            have c18b1 : (t453.toList != a0.toList) = false := bne_eq_false_iff_eq.mpr c18
            clear c18
            by_cases c19 : t456 = 0
            · rw [if_pos c19] at H
              have c19b0 : (t456 == 0) = true := beq_iff_eq.mpr c19
              have c19b1 : (t456 != 0) = false := bne_eq_false_iff_eq.mpr c19
              clear c19
              by_cases c20 : (t455.length : Int) = (wrap64 ((t446.length : Int) + 1))
              · rw [if_pos c20] at H
                have c20b0 : ((t455.length : Int) == (wrap64 ((t446.length : Int) + 1))) = true := beq_iff_eq.mpr c20
                have c20b1 : ((t455.length : Int) != (wrap64 ((t446.length : Int) + 1))) = false := bne_eq_false_iff_eq.mpr c20
                clear c20
                by_cases c21 : 0 < (t455.length : Int)
                · rw [if_pos c21] at H
                  have c21b0 : decide (0 < (t455.length : Int)) = true := decide_eq_true c21
                  have c21b1 : decide (0 < t455.length) = true := decide_eq_true (by omega)
                  clear c21
                  by_cases c22 : (rdOf ByteArray.empty t455 0).toList = a0.toList
                  · rw [if_pos c22] at H
                    have c22b0 : ((rdOf ByteArray.empty t455 0).toList == a0.toList) = true := beq_iff_eq.mpr c22
                    have c22b1 : ((rdOf ByteArray.empty t455 0).toList != a0.toList) = false := bne_eq_false_iff_eq.mpr c22
                    clear c22
                    obtain ⟨ji23, hji23⟩ : ∃ j_ : Int, (wrap64 ((t455.length : Int) - 1)) = j_ := ⟨_, rfl⟩
                    replace H : (if 0 ≤ (ji23) then (if (ji23) < (t455.length : Int) then (if (rdOf ByteArray.empty t455 (ji23)).toList = ([47] : List UInt8) then ((label_Path.f k a0).bind fun t463 => (bursarlaw04_LabelGoesBack.j0 k a0 a1 t446 t455 t459 t460 (t463 != 0))) else (bursarlaw04_LabelGoesBack.j0 k a0 a1 t446 t455 t459 t460 true)) else (none)) else (none)) = some r := by first | (rw [hji23] at H; exact H) | (simp only [hji23] at H ⊢; exact H)
                    have hji23w : (IntKind.i64.wrap ((t455.length : Int) - 1)) = ji23 := (i64_w _).trans hji23
                    by_cases c24 : 0 ≤ (ji23)
                    · rw [if_pos c24] at H
                      have c24b0 : decide (0 ≤ (ji23)) = true := decide_eq_true c24
                      clear c24
                      by_cases c25 : (ji23) < (t455.length : Int)
                      · rw [if_pos c25] at H
                        have c25b0 : decide ((ji23) < (t455.length : Int)) = true := decide_eq_true c25
                        clear c25
                        by_cases c26 : (rdOf ByteArray.empty t455 (ji23)).toList = ([47] : List UInt8)
                        · rw [if_pos c26] at H
                          have c26b0 : ((rdOf ByteArray.empty t455 (ji23)).toList == ([47] : List UInt8)) = true := beq_iff_eq.mpr c26
                          have c26b1 : ((rdOf ByteArray.empty t455 (ji23)).toList != ([47] : List UInt8)) = false := bne_eq_false_iff_eq.mpr c26
                          clear c26
                          replace H := Option.bind_eq_some_iff.mp H
                          obtain ⟨t463, A270, H⟩ := H
                          replace H : (bursarlaw04_LabelGoesBack.j0 k a0 a1 t446 t455 t459 t460 (t463 != 0)) = some r := H
                          have A27 := Aside0.mk A270
                          clear A270
                          have H' := Aside0.mk H
                          clear H
                          obtain ⟨Ao28, co28, eo28⟩ := Kd.R_slice HO458.out
                          subst eo28
                          have p461 : 0 ≤ (0 : Int) := (by omega)
                          have q461 : 0 < (t455.length : Int) := of_decide_eq_true (by first | (with_reducible assumption) | assumption)
                          obtain ⟨ad461, e461, hx461_0⟩ := Kd.at_string (Kd.R_reads' HO458.out).2.2 0 p461 q461
                          cases e461
                          have qi461 : (0 < t455.length) = True := eq_true (by omega)
                          (try rw [show ((0 : Int)).toNat = 0 from rfl] at hx461_0)
                          (try rw [Addr.add_zero'] at hx461_0)
                          replace p461 := eq_true p461
                          replace q461 := eq_true q461
                          have p462 : 0 ≤ ((ji23) : Int) := of_decide_eq_true (by first | (with_reducible assumption) | assumption)
                          have q462 : (ji23) < (t455.length : Int) := of_decide_eq_true (by first | (with_reducible assumption) | assumption)
                          obtain ⟨ad462, e462, hx462_0⟩ := Kd.at_string (Kd.R_reads' HO458.out).2.2 (ji23) p462 q462
                          obtain rfl : ad461 = ad462 := (by injection e462)
                          replace p462 := eq_true p462
                          replace q462 := eq_true q462
                          go_wp2_with (first | (go_at_call 20; (with_reducible refine (label_Path.calls k a0 t463 _ A27.out (Glob.below hG (by repeat (first | (with_reducible first | exact HB.out | apply below_alloc | apply pw_below_drewN | apply below_drew1) | exact HB.out)))).mono ?_); rintro e w29 ⟨rfl, hb⟩; have n0_ := Aside0.mk (Kd.R_below (by (with_reducible repeat (first | apply Kd.R_alloc | apply Kd.R_drewN | apply Kd.R_drew)); exact HO449.out) hb); have n1_ := Aside0.mk (Kd.R_below (by (with_reducible repeat (first | apply Kd.R_alloc | apply Kd.R_drewN | apply Kd.R_drew)); exact HO458.out) hb); have n2_ := Aside0.mk (below_step (by repeat (first | (with_reducible first | exact HB.out | apply below_alloc | apply pw_below_drewN | apply below_drew1) | exact HB.out)) hb); clear HO449; clear HO458; clear HB; have HO449 := n0_; have HO458 := n1_; have HB := n2_; clear n0_ n1_ n2_; (try clear hb); (try clear hb2); (try clear hk); (try clear hi)))
                          go_meet
                          case rel => exact ⟨_, ((t463 != 0)), (by first | rfl | (simp; done) | (simp [*]; done) | (simp; rw [Bool.eq_iff_iff]; simp; done) | (rw [Bool.eq_iff_iff]; simp; done)), H', ⟨by first | omega | exact Nat.le_refl _⟩, ⟨by (with_reducible repeat (first | apply Kd.R_alloc | apply Kd.R_drewN | apply Kd.R_drew)); exact Kd.R_mono HO449.out (fun _ hk => hk.2)⟩, ⟨by (with_reducible repeat (first | apply Kd.R_alloc | apply Kd.R_drewN | apply Kd.R_drew)); exact Kd.R_mono HO458.out (fun _ hk => hk.2)⟩, ⟨by repeat (first | (with_reducible first | exact HB.out | apply below_alloc | apply pw_below_drewN | apply below_drew1) | exact HB.out)⟩⟩
                        · rw [if_neg c26] at H
                          have c26b0 : ((rdOf ByteArray.empty t455 (ji23)).toList == ([47] : List UInt8)) = false := beq_eq_false_iff_ne.mpr c26
                          have c26b1 : ((rdOf ByteArray.empty t455 (ji23)).toList != ([47] : List UInt8)) = true := bne_iff_ne.mpr c26
                          have H' := Aside0.mk H
                          clear H
                          obtain ⟨Ao30, co30, eo30⟩ := Kd.R_slice HO458.out
                          subst eo30
                          have p461 : 0 ≤ (0 : Int) := (by omega)
                          have q461 : 0 < (t455.length : Int) := of_decide_eq_true (by first | (with_reducible assumption) | assumption)
                          obtain ⟨ad461, e461, hx461_0⟩ := Kd.at_string (Kd.R_reads' HO458.out).2.2 0 p461 q461
                          cases e461
                          have qi461 : (0 < t455.length) = True := eq_true (by omega)
                          (try rw [show ((0 : Int)).toNat = 0 from rfl] at hx461_0)
                          (try rw [Addr.add_zero'] at hx461_0)
                          replace p461 := eq_true p461
                          replace q461 := eq_true q461
                          have p462 : 0 ≤ ((ji23) : Int) := of_decide_eq_true (by first | (with_reducible assumption) | assumption)
                          have q462 : (ji23) < (t455.length : Int) := of_decide_eq_true (by first | (with_reducible assumption) | assumption)
                          obtain ⟨ad462, e462, hx462_0⟩ := Kd.at_string (Kd.R_reads' HO458.out).2.2 (ji23) p462 q462
                          obtain rfl : ad461 = ad462 := (by injection e462)
                          replace p462 := eq_true p462
                          replace q462 := eq_true q462
                          go_wp2
                          go_meet
                          case rel => exact ⟨_, (true), (by first | rfl | (simp; done) | (simp [*]; done) | (simp; rw [Bool.eq_iff_iff]; simp; done) | (rw [Bool.eq_iff_iff]; simp; done)), H', ⟨by first | omega | exact Nat.le_refl _⟩, ⟨by (with_reducible repeat (first | apply Kd.R_alloc | apply Kd.R_drewN | apply Kd.R_drew)); exact Kd.R_mono HO449.out (fun _ hk => hk.2)⟩, ⟨by (with_reducible repeat (first | apply Kd.R_alloc | apply Kd.R_drewN | apply Kd.R_drew)); exact Kd.R_mono HO458.out (fun _ hk => hk.2)⟩, ⟨by repeat (first | (with_reducible first | exact HB.out | apply below_alloc | apply pw_below_drewN | apply below_drew1) | exact HB.out)⟩⟩
                      · rw [if_neg c25] at H
                        exact absurd H (by simp)
                    · rw [if_neg c24] at H
                      exact absurd H (by simp)
                  · rw [if_neg c22] at H
                    have c22b0 : ((rdOf ByteArray.empty t455 0).toList == a0.toList) = false := beq_eq_false_iff_ne.mpr c22
                    have c22b1 : ((rdOf ByteArray.empty t455 0).toList != a0.toList) = true := bne_iff_ne.mpr c22
                    have H' := Aside0.mk H
                    clear H
                    obtain ⟨Ao31, co31, eo31⟩ := Kd.R_slice HO458.out
                    subst eo31
                    have p461 : 0 ≤ (0 : Int) := (by omega)
                    have q461 : 0 < (t455.length : Int) := of_decide_eq_true (by first | (with_reducible assumption) | assumption)
                    obtain ⟨ad461, e461, hx461_0⟩ := Kd.at_string (Kd.R_reads' HO458.out).2.2 0 p461 q461
                    cases e461
                    have qi461 : (0 < t455.length) = True := eq_true (by omega)
                    (try rw [show ((0 : Int)).toNat = 0 from rfl] at hx461_0)
                    (try rw [Addr.add_zero'] at hx461_0)
                    replace p461 := eq_true p461
                    replace q461 := eq_true q461
                    go_wp2
                    go_meet
                    case rel => exact ⟨_, (true), (by first | rfl | (simp; done) | (simp [*]; done) | (simp; rw [Bool.eq_iff_iff]; simp; done) | (rw [Bool.eq_iff_iff]; simp; done)), H', ⟨by first | omega | exact Nat.le_refl _⟩, ⟨by (with_reducible repeat (first | apply Kd.R_alloc | apply Kd.R_drewN | apply Kd.R_drew)); exact Kd.R_mono HO449.out (fun _ hk => hk.2)⟩, ⟨by (with_reducible repeat (first | apply Kd.R_alloc | apply Kd.R_drewN | apply Kd.R_drew)); exact Kd.R_mono HO458.out (fun _ hk => hk.2)⟩, ⟨by repeat (first | (with_reducible first | exact HB.out | apply below_alloc | apply pw_below_drewN | apply below_drew1) | exact HB.out)⟩⟩
                · rw [if_neg c21] at H
                  exact absurd H (by simp)
              · rw [if_neg c20] at H
                have c20b0 : ((t455.length : Int) == (wrap64 ((t446.length : Int) + 1))) = false := beq_eq_false_iff_ne.mpr c20
                have c20b1 : ((t455.length : Int) != (wrap64 ((t446.length : Int) + 1))) = true := bne_iff_ne.mpr c20
                have H' := Aside0.mk H
                clear H
                obtain ⟨Ao32, co32, eo32⟩ := Kd.R_slice HO458.out
                subst eo32
                go_wp2
                go_meet
                case rel => exact ⟨_, (true), (by first | rfl | (simp; done) | (simp [*]; done) | (simp; rw [Bool.eq_iff_iff]; simp; done) | (rw [Bool.eq_iff_iff]; simp; done)), H', ⟨by first | omega | exact Nat.le_refl _⟩, ⟨by (with_reducible repeat (first | apply Kd.R_alloc | apply Kd.R_drewN | apply Kd.R_drew)); exact Kd.R_mono HO449.out (fun _ hk => hk.2)⟩, ⟨by (with_reducible repeat (first | apply Kd.R_alloc | apply Kd.R_drewN | apply Kd.R_drew)); exact Kd.R_mono HO458.out (fun _ hk => hk.2)⟩, ⟨by repeat (first | (with_reducible first | exact HB.out | apply below_alloc | apply pw_below_drewN | apply below_drew1) | exact HB.out)⟩⟩
            · rw [if_neg c19] at H
              have c19b0 : (t456 == 0) = false := beq_eq_false_iff_ne.mpr c19
              have c19b1 : (t456 != 0) = true := bne_iff_ne.mpr c19
              have H' := Aside0.mk H
              clear H
              go_wp2
              go_meet
              case rel => exact ⟨_, (true), (by first | rfl | (simp; done) | (simp [*]; done) | (simp; rw [Bool.eq_iff_iff]; simp; done) | (rw [Bool.eq_iff_iff]; simp; done)), H', ⟨by first | omega | exact Nat.le_refl _⟩, ⟨by (with_reducible repeat (first | apply Kd.R_alloc | apply Kd.R_drewN | apply Kd.R_drew)); exact Kd.R_mono HO449.out (fun _ hk => hk.2)⟩, ⟨by (with_reducible repeat (first | apply Kd.R_alloc | apply Kd.R_drewN | apply Kd.R_drew)); exact Kd.R_mono HO458.out (fun _ hk => hk.2)⟩, ⟨by repeat (first | (with_reducible first | exact HB.out | apply below_alloc | apply pw_below_drewN | apply below_drew1) | exact HB.out)⟩⟩
          · rw [if_neg c18] at H
            have c18b0 : (t453.toList == a0.toList) = false := beq_eq_false_iff_ne.mpr c18
            have c18b1 : (t453.toList != a0.toList) = true := bne_iff_ne.mpr c18
            have H' := Aside0.mk H
            clear H
            go_wp2
            go_meet
            case rel => exact ⟨_, (true), (by first | rfl | (simp; done) | (simp [*]; done) | (simp; rw [Bool.eq_iff_iff]; simp; done) | (rw [Bool.eq_iff_iff]; simp; done)), H', ⟨by first | omega | exact Nat.le_refl _⟩, ⟨by (with_reducible repeat (first | apply Kd.R_alloc | apply Kd.R_drewN | apply Kd.R_drew)); exact Kd.R_mono HO449.out (fun _ hk => hk.2)⟩, ⟨by (with_reducible repeat (first | apply Kd.R_alloc | apply Kd.R_drewN | apply Kd.R_drew)); exact Kd.R_mono HO458.out (fun _ hk => hk.2)⟩, ⟨by repeat (first | (with_reducible first | exact HB.out | apply below_alloc | apply pw_below_drewN | apply below_drew1) | exact HB.out)⟩⟩
        · rw [if_neg c17] at H
          have c17b0 : (t454 == 0) = false := beq_eq_false_iff_ne.mpr c17
          have c17b1 : (t454 != 0) = true := bne_iff_ne.mpr c17
          (first | rw [c17b0] | (simp only [i64_w, i32_w]; rw [c17b0]) | skip)
          have H' := Aside0.mk H
          clear H
          go_wp2
          go_meet
          case rel => exact ⟨_, (true), (by first | rfl | (simp; done) | (simp [*]; done) | (simp; rw [Bool.eq_iff_iff]; simp; done) | (rw [Bool.eq_iff_iff]; simp; done)), H', ⟨by first | omega | exact Nat.le_refl _⟩, ⟨by (with_reducible repeat (first | apply Kd.R_alloc | apply Kd.R_drewN | apply Kd.R_drew)); exact Kd.R_mono HO449.out (fun _ hk => hk.2)⟩, ⟨by (with_reducible repeat (first | apply Kd.R_alloc | apply Kd.R_drewN | apply Kd.R_drew)); exact Kd.R_mono HO458.out (fun _ hk => hk.2)⟩, ⟨by repeat (first | (with_reducible first | exact HB.out | apply below_alloc | apply pw_below_drewN | apply below_drew1) | exact HB.out)⟩⟩
      case rest =>
        clear HC10
        try clear c1
        try clear c2
        try clear p2
        try clear c3
        try clear c4
        try clear p4
        try clear q4
        try clear hx4
        try clear qi4
        try clear c6
        try clear c6b0
        try clear c6b1
        try clear p6
        try clear c9
        try clear c12
        try clear c17
        try clear c17b0
        try clear c17b1
        try clear c18
        try clear c18b0
        try clear c18b1
        try clear c19
        try clear c19b0
        try clear c19b1
        try clear c20
        try clear c20b0
        try clear c20b1
        try clear c21
        try clear c21b0
        try clear c21b1
        try clear c22
        try clear c22b0
        try clear c22b1
        try clear c24
        try clear c24b0
        try clear c25
        try clear c25b0
        try clear c26
        try clear c26b0
        try clear c26b1
        try clear c27
        try clear c29
        try clear c31
        try clear hx461_0
        try clear hx462_0
        try clear p461
        try clear p462
        try clear q461
        try clear q462
        obtain ⟨kq, x106_9, rfl, HA, HJ9, HO_6, HO_9, HB⟩ := hcut
        cases kq with
        | zero => exact absurd HA.out (by simp [bursarlaw04_LabelGoesBack.j0])
        | succ kj9 =>
          have H := HA.out
          clear HA
          simp only [bursarlaw04_LabelGoesBack.j0] at H
          by_cases c33 : x106_9 = true
          · subst c33
            have H1 : (some false) = some r := by rw [if_pos rfl] at H; exact H
            clear H
            have H := H1
            clear H1
            obtain rfl := Option.some.inj H
            go_wp2
            go_ret
            exact ⟨by first | rfl | (simp [errW_none, errW_some] <;> rfl) | (simp [*, errW_none, errW_some] <;> rfl), by repeat (first | (with_reducible first | exact HB.out | apply below_alloc | apply pw_below_drewN | apply below_drew1) | exact HB.out)⟩
          · replace c33 := Bool.eq_false_iff.mpr c33
            subst c33
            have H1 : (if (t446.length : Int) = 0 then (if t460 = 143 then (if t459.toList = ([] : List UInt8) then (bursarlaw04_LabelGoesBack.j1 kj9 a0 a1 t446 t455) else (some false)) else (some false)) else ((label_Line.f kj9 t459).bind fun bt464 => (if t460 = 0 then (if bt464.2 = 0 then (if 1 ≤ (t455.length : Int) then ((bursarlaw04_sameTexts.f kj9 bt464.1 (t455.drop 1)).bind fun t472 => (if t472 = true then (bursarlaw04_LabelGoesBack.j1 kj9 a0 a1 t446 t455) else (some false))) else (none)) else (some false)) else (some false)))) = some r := by rw [if_neg (show ¬ (false = true) by decide)] at H; exact H
            clear H
            have H := H1
            clear H1
            have HC34 := Aside0.mk H
            clear H
            go_upto_if 109 with (fail)
            go_cut [] (fun wc => ∃ (kq : Nat), Aside0 (bursarlaw04_LabelGoesBack.j1 kq a0 a1 t446 t455 = some r) ∧ Aside0 (kq ≤ kj9) ∧ Aside0 (Kd.R Kd.string 9 wc w.heap.size (fun k_ => some k_ ≠ (v457 : Value).ownBlock) (.slice Ao13 t446.length co13) t446) ∧ Aside0 (Kd.R Kd.string 9 wc w.heap.size (fun k_ => some k_ ≠ ((.slice Ao13 t446.length co13) : Value).ownBlock) v457 t455) ∧ Aside0 (Below w.heap.size w wc))
            case first =>
              have H := HC34.out
              clear HC34
              by_cases c35 : (t446.length : Int) = 0
              · rw [if_pos c35] at H
                have c35b0 : ((t446.length : Int) == 0) = true := beq_iff_eq.mpr c35
                have c35b1 : ((t446.length : Int) != 0) = false := bne_eq_false_iff_eq.mpr c35
                clear c35
                (first | rw [c35b0] | (simp only [i64_w, i32_w]; rw [c35b0]) | skip)
                by_cases c36 : t460 = 143
                · rw [if_pos c36] at H
                  have c36b0 : (t460 == 143) = true := beq_iff_eq.mpr c36
                  have c36b1 : (t460 != 143) = false := bne_eq_false_iff_eq.mpr c36
                  clear c36
                  by_cases c37 : t459.toList = ([] : List UInt8)
                  · rw [if_pos c37] at H
                    have c37b0 : (t459.toList == ([] : List UInt8)) = true := beq_iff_eq.mpr c37
                    have c37b1 : (t459.toList != ([] : List UInt8)) = false := bne_eq_false_iff_eq.mpr c37
                    clear c37
                    have H' := Aside0.mk H
                    clear H
                    go_wp2
                    go_meet
                    case rel => exact ⟨_, H', ⟨by have := HJ9.out; first | omega | exact Nat.le_refl _⟩, ⟨by (with_reducible repeat (first | apply Kd.R_alloc | apply Kd.R_drewN | apply Kd.R_drew)); exact HO_6.out⟩, ⟨by (with_reducible repeat (first | apply Kd.R_alloc | apply Kd.R_drewN | apply Kd.R_drew)); exact HO_9.out⟩, ⟨by repeat (first | (with_reducible first | exact HB.out | apply below_alloc | apply pw_below_drewN | apply below_drew1) | exact HB.out)⟩⟩
                  · rw [if_neg c37] at H
                    have c37b0 : (t459.toList == ([] : List UInt8)) = false := beq_eq_false_iff_ne.mpr c37
                    have c37b1 : (t459.toList != ([] : List UInt8)) = true := bne_iff_ne.mpr c37
                    obtain rfl := Option.some.inj H
                    go_wp2
                    go_ret
                    exact ⟨by first | rfl | (simp [errW_none, errW_some] <;> rfl) | (simp [*, errW_none, errW_some] <;> rfl), by repeat (first | (with_reducible first | exact HB.out | apply below_alloc | apply pw_below_drewN | apply below_drew1) | exact HB.out)⟩
                · rw [if_neg c36] at H
                  have c36b0 : (t460 == 143) = false := beq_eq_false_iff_ne.mpr c36
                  have c36b1 : (t460 != 143) = true := bne_iff_ne.mpr c36
                  obtain rfl := Option.some.inj H
                  go_wp2
                  go_ret
                  exact ⟨by first | rfl | (simp [errW_none, errW_some] <;> rfl) | (simp [*, errW_none, errW_some] <;> rfl), by repeat (first | (with_reducible first | exact HB.out | apply below_alloc | apply pw_below_drewN | apply below_drew1) | exact HB.out)⟩
              · rw [if_neg c35] at H
                have c35b0 : ((t446.length : Int) == 0) = false := beq_eq_false_iff_ne.mpr c35
                have c35b1 : ((t446.length : Int) != 0) = true := bne_iff_ne.mpr c35
                have c35b2 : ¬ (t446 = []) := fun h_ => c35 (by rw [h_]; rfl)
                (first | rw [c35b0] | (simp only [i64_w, i32_w]; rw [c35b0]) | skip)
                replace H := Option.bind_eq_some_iff.mp H
                obtain ⟨⟨t464, t465⟩, A380, H⟩ := H
                replace H : (if t460 = 0 then (if t465 = 0 then (if 1 ≤ (t455.length : Int) then ((bursarlaw04_sameTexts.f kj9 t464 (t455.drop 1)).bind fun t472 => (if t472 = true then (bursarlaw04_LabelGoesBack.j1 kj9 a0 a1 t446 t455) else (some false))) else (none)) else (some false)) else (some false)) = some r := H
                have A38 := Aside0.mk A380
                clear A380
                by_cases c39 : t460 = 0
                · rw [if_pos c39] at H
                  have c39b0 : (t460 == 0) = true := beq_iff_eq.mpr c39
                  have c39b1 : (t460 != 0) = false := bne_eq_false_iff_eq.mpr c39
                  clear c39
                  by_cases c40 : t465 = 0
                  · rw [if_pos c40] at H
                    have c40b0 : (t465 == 0) = true := beq_iff_eq.mpr c40
                    have c40b1 : (t465 != 0) = false := bne_eq_false_iff_eq.mpr c40
                    clear c40
                    by_cases c41 : 1 ≤ (t455.length : Int)
                    · rw [if_pos c41] at H
                      have c41b0 := eq_true c41
                      have c41b1 : decide (1 ≤ (t455.length : Int)) = true := decide_eq_true c41
                      clear c41
                      obtain ⟨y468, hy468⟩ : ∃ y_ : List ByteArray, y_ = (t455.drop 1) := ⟨_, rfl⟩
                      replace H : ((bursarlaw04_sameTexts.f kj9 t464 y468).bind fun t472 => (if t472 = true then (bursarlaw04_LabelGoesBack.j1 kj9 a0 a1 t446 t455) else (some false))) = some r := by first | (rw [hy468]; with_reducible exact H) | (have H2_ := (Option.bind_some _ _).symm.trans H; rw [hy468]; with_reducible exact H2_) | (have H2_ := (Option.bind_some _ _).symm.trans H; with_reducible exact H2_) | with_reducible exact H | (rw [hy468]; exact H) | exact H
                      have Ny468 := Aside0.mk hy468
                      clear hy468
                      replace H := Option.bind_eq_some_iff.mp H
                      obtain ⟨t472, A420, H⟩ := H
                      replace H : (if t472 = true then (bursarlaw04_LabelGoesBack.j1 kj9 a0 a1 t446 t455) else (some false)) = some r := H
                      have A42 := Aside0.mk A420
                      clear A420
                      by_cases c43 : t472 = true
                      · subst c43
                        have H1 : (bursarlaw04_LabelGoesBack.j1 kj9 a0 a1 t446 t455) = some r := by rw [if_pos rfl] at H; exact H
                        clear H
                        have H := H1
                        clear H1
                        have H' := Aside0.mk H
                        clear H
                        go_wp2_with (first | ((with_reducible refine gate_callee (f := 29) rfl ?_); refine goesL_ (some 118) rfl rfl Tryd.func29 (by kernel_rfl) rfl #[.string t459] rfl (by (try simp only [List.map_toArray, List.map_cons, List.map_nil]); first | done | rfl | (simp only [List.length_drop, List.length_take]; rfl)) ?_; (with_reducible refine (label_Line.calls kj9 t459 t464 t465 _ A38.out (Glob.below hG (by repeat (first | (with_reducible first | exact HB.out | apply below_alloc | apply pw_below_drewN | apply below_drew1) | exact HB.out)))).mono ?_); rintro e w44 ⟨v466, rfl, ho0, hb⟩; refine ⟨_, rfl, ?_⟩; have n0_ := Aside0.mk (Kd.R_elder' (by (with_reducible repeat (first | apply Kd.R_alloc | apply Kd.R_drewN | apply Kd.R_drew)); exact HO_6.out) (Kd.R_base ho0) hb); have n1_ := Aside0.mk (Kd.R_elder' (by (with_reducible repeat (first | apply Kd.R_alloc | apply Kd.R_drewN | apply Kd.R_drew)); exact HO_9.out) (Kd.R_base ho0) hb); have n2_ := Aside0.mk (Kd.R_lower (Kd.R_new' (Kd.R_new' ho0 (Kd.R_lt (by (with_reducible repeat (first | apply Kd.R_alloc | apply Kd.R_drewN | apply Kd.R_drew)); exact HO_6.out))) (Kd.R_lt (by (with_reducible repeat (first | apply Kd.R_alloc | apply Kd.R_drewN | apply Kd.R_drew)); exact HO_9.out))) (below_size (by repeat (first | (with_reducible first | exact HB.out | apply below_alloc | apply pw_below_drewN | apply below_drew1) | exact HB.out)))); have n3_ := Aside0.mk (below_step (by repeat (first | (with_reducible first | exact HB.out | apply below_alloc | apply pw_below_drewN | apply below_drew1) | exact HB.out)) hb); clear HO_6; clear HO_9; clear HB; have HO_6 := n0_; have HO_9 := n1_; have HO467 := n2_; have HB := n3_; clear n0_ n1_ n2_ n3_; (try clear hb); (try clear hb2); (try clear hk); (try clear hi); (try clear ho0); obtain ⟨Ao46, co46, eo46⟩ := Kd.R_slice HO_9.out; subst eo46; have q45 : (1 : Int) ≤ ((t455.length : Int) : Int) := of_decide_eq_true (by first | (with_reducible assumption) | assumption); obtain ⟨i045, hi045, _, hsz45, _⟩ := info_parts info9; have hroom45 : t455.length ≤ co46 := (Kd.R_reads' HO_9.out).2.1; have hC45 : Kd.C Kd.string _ Ao46 t455.length t455 := (Kd.R_reads' HO_9.out).2.2; have hcut45 := cut_from (P := Tryd.prog) 35 9 .i64 Tryd.underlying35 hi045 1 hsz45 Ao46 t455.length co46 1 (by omega) q45; have hr45 := Kd.C_drop (m := (1 : Int).toNat) (c := co46) hC45 (by omega) hroom45; obtain ⟨A45, hA45⟩ : ∃ A1, A1 = (if co46 = (1 : Int).toNat then Ao46 else (Ao46 : Option Addr).map (·.add ((1 : Int).toNat * 1))) := ⟨_, rfl⟩; obtain ⟨c45, hc45⟩ : ∃ c1, c1 = co46 - (1 : Int).toNat := ⟨_, rfl⟩; have hy45 : y468.length = t455.length - (1 : Int).toNat := (by rw [Ny468.out, List.length_drop] <;> omega); rw [show (t455).drop (1 : Int).toNat = y468 from Ny468.out.symm] at hr45; replace hr45 : Kd.C Kd.string _ A45 y468.length y468 := (by rw [hA45]; exact hr45); rw [← hy45, ← hA45, ← hc45] at hcut45; have HR471 := Aside0.mk hr45; have HC471 := Aside0.mk (show y468.length ≤ c45 from by rw [hy45, hc45]; exact Nat.sub_le_sub_right hroom45 _); clear hr45 hC45 hroom45 hi045 hsz45 hc45; have KY45 := Aside0.mk hy45; have KA45 := Aside0.mk hA45; clear hy45 hA45; have KL45 := Aside0.mk (show 1 ≤ t455.length from by omega); replace q45 := eq_true q45; obtain ⟨Ao47, co47, eo47⟩ := Kd.R_slice HO467.out; subst eo47) | (go_at_call 26; (with_reducible refine (bursarlaw04_sameTexts.calls kj9 _ _ t464 _ _ y468 true _ ?side1 ?side2 ?side3 ?side4 A42.out).mono ?_); (case side1 => repeat (first | exact (Kd.R_reads' HO467.out).2.2 | (with_reducible refine Kd.C_alloc ?_ _) | (with_reducible refine Kd.C_drewN ?_ _) | (with_reducible refine Kd.C_drew ?_))); (case side2 => exact (Kd.R_reads' HO467.out).2.1); (case side3 => repeat (first | exact (by repeat (first | (with_reducible exact HR471.out) | (with_reducible refine Kd.C_alloc ?_ _) | (with_reducible refine Kd.C_drewN ?_ _) | (with_reducible refine Kd.C_drew ?_) | exact HR471.out)) | (with_reducible refine Kd.C_alloc ?_ _) | (with_reducible refine Kd.C_drewN ?_ _) | (with_reducible refine Kd.C_drew ?_))); (case side4 => exact HC471.out); rintro e w' ⟨rfl, ⟨nd, rfl⟩⟩))
                        go_meet
                        case rel => exact ⟨_, H', ⟨by have := HJ9.out; first | omega | exact Nat.le_refl _⟩, ⟨by (with_reducible repeat (first | apply Kd.R_alloc | apply Kd.R_drewN | apply Kd.R_drew)); exact Kd.R_mono HO_6.out (fun _ hk => hk.1)⟩, ⟨by (with_reducible repeat (first | apply Kd.R_alloc | apply Kd.R_drewN | apply Kd.R_drew)); exact Kd.R_mono HO_9.out (fun _ hk => hk.1)⟩, ⟨by repeat (first | (with_reducible first | exact HB.out | apply below_alloc | apply pw_below_drewN | apply below_drew1) | exact HB.out)⟩⟩
                      · replace c43 := Bool.eq_false_iff.mpr c43
                        subst c43
                        have H1 : (some false) = some r := by rw [if_neg (show ¬ (false = true) by decide)] at H; exact H
                        clear H
                        have H := H1
                        clear H1
                        obtain rfl := Option.some.inj H
                        go_wp2_with (first | ((with_reducible refine gate_callee (f := 29) rfl ?_); refine goesL_ (some 118) rfl rfl Tryd.func29 (by kernel_rfl) rfl #[.string t459] rfl (by (try simp only [List.map_toArray, List.map_cons, List.map_nil]); first | done | rfl | (simp only [List.length_drop, List.length_take]; rfl)) ?_; (with_reducible refine (label_Line.calls kj9 t459 t464 t465 _ A38.out (Glob.below hG (by repeat (first | (with_reducible first | exact HB.out | apply below_alloc | apply pw_below_drewN | apply below_drew1) | exact HB.out)))).mono ?_); rintro e w48 ⟨v466, rfl, ho0, hb⟩; refine ⟨_, rfl, ?_⟩; have n0_ := Aside0.mk (Kd.R_elder' (by (with_reducible repeat (first | apply Kd.R_alloc | apply Kd.R_drewN | apply Kd.R_drew)); exact HO_6.out) (Kd.R_base ho0) hb); have n1_ := Aside0.mk (Kd.R_elder' (by (with_reducible repeat (first | apply Kd.R_alloc | apply Kd.R_drewN | apply Kd.R_drew)); exact HO_9.out) (Kd.R_base ho0) hb); have n2_ := Aside0.mk (Kd.R_lower (Kd.R_new' (Kd.R_new' ho0 (Kd.R_lt (by (with_reducible repeat (first | apply Kd.R_alloc | apply Kd.R_drewN | apply Kd.R_drew)); exact HO_6.out))) (Kd.R_lt (by (with_reducible repeat (first | apply Kd.R_alloc | apply Kd.R_drewN | apply Kd.R_drew)); exact HO_9.out))) (below_size (by repeat (first | (with_reducible first | exact HB.out | apply below_alloc | apply pw_below_drewN | apply below_drew1) | exact HB.out)))); have n3_ := Aside0.mk (below_step (by repeat (first | (with_reducible first | exact HB.out | apply below_alloc | apply pw_below_drewN | apply below_drew1) | exact HB.out)) hb); clear HO_6; clear HO_9; clear HB; have HO_6 := n0_; have HO_9 := n1_; have HO467 := n2_; have HB := n3_; clear n0_ n1_ n2_ n3_; (try clear hb); (try clear hb2); (try clear hk); (try clear hi); (try clear ho0); obtain ⟨Ao50, co50, eo50⟩ := Kd.R_slice HO_9.out; subst eo50; have q49 : (1 : Int) ≤ ((t455.length : Int) : Int) := of_decide_eq_true (by first | (with_reducible assumption) | assumption); obtain ⟨i049, hi049, _, hsz49, _⟩ := info_parts info9; have hroom49 : t455.length ≤ co50 := (Kd.R_reads' HO_9.out).2.1; have hC49 : Kd.C Kd.string _ Ao50 t455.length t455 := (Kd.R_reads' HO_9.out).2.2; have hcut49 := cut_from (P := Tryd.prog) 35 9 .i64 Tryd.underlying35 hi049 1 hsz49 Ao50 t455.length co50 1 (by omega) q49; have hr49 := Kd.C_drop (m := (1 : Int).toNat) (c := co50) hC49 (by omega) hroom49; obtain ⟨A49, hA49⟩ : ∃ A1, A1 = (if co50 = (1 : Int).toNat then Ao50 else (Ao50 : Option Addr).map (·.add ((1 : Int).toNat * 1))) := ⟨_, rfl⟩; obtain ⟨c49, hc49⟩ : ∃ c1, c1 = co50 - (1 : Int).toNat := ⟨_, rfl⟩; have hy49 : y468.length = t455.length - (1 : Int).toNat := (by rw [Ny468.out, List.length_drop] <;> omega); rw [show (t455).drop (1 : Int).toNat = y468 from Ny468.out.symm] at hr49; replace hr49 : Kd.C Kd.string _ A49 y468.length y468 := (by rw [hA49]; exact hr49); rw [← hy49, ← hA49, ← hc49] at hcut49; have HR471 := Aside0.mk hr49; have HC471 := Aside0.mk (show y468.length ≤ c49 from by rw [hy49, hc49]; exact Nat.sub_le_sub_right hroom49 _); clear hr49 hC49 hroom49 hi049 hsz49 hc49; have KY49 := Aside0.mk hy49; have KA49 := Aside0.mk hA49; clear hy49 hA49; have KL49 := Aside0.mk (show 1 ≤ t455.length from by omega); replace q49 := eq_true q49; obtain ⟨Ao51, co51, eo51⟩ := Kd.R_slice HO467.out; subst eo51) | (go_at_call 26; (with_reducible refine (bursarlaw04_sameTexts.calls kj9 _ _ t464 _ _ y468 false _ ?side1 ?side2 ?side3 ?side4 A42.out).mono ?_); (case side1 => repeat (first | exact (Kd.R_reads' HO467.out).2.2 | (with_reducible refine Kd.C_alloc ?_ _) | (with_reducible refine Kd.C_drewN ?_ _) | (with_reducible refine Kd.C_drew ?_))); (case side2 => exact (Kd.R_reads' HO467.out).2.1); (case side3 => repeat (first | exact (by repeat (first | (with_reducible exact HR471.out) | (with_reducible refine Kd.C_alloc ?_ _) | (with_reducible refine Kd.C_drewN ?_ _) | (with_reducible refine Kd.C_drew ?_) | exact HR471.out)) | (with_reducible refine Kd.C_alloc ?_ _) | (with_reducible refine Kd.C_drewN ?_ _) | (with_reducible refine Kd.C_drew ?_))); (case side4 => exact HC471.out); rintro e w' ⟨rfl, ⟨nd, rfl⟩⟩))
                        go_ret
                        exact ⟨by first | rfl | (simp [errW_none, errW_some] <;> rfl) | (simp [*, errW_none, errW_some] <;> rfl), by repeat (first | (with_reducible first | exact HB.out | apply below_alloc | apply pw_below_drewN | apply below_drew1) | exact HB.out)⟩
                    · rw [if_neg c41] at H
                      exact absurd H (by simp)
                  · rw [if_neg c40] at H
                    have c40b0 : (t465 == 0) = false := beq_eq_false_iff_ne.mpr c40
                    have c40b1 : (t465 != 0) = true := bne_iff_ne.mpr c40
                    obtain rfl := Option.some.inj H
                    go_wp2_with (first | ((with_reducible refine gate_callee (f := 29) rfl ?_); refine goesL_ (some 118) rfl rfl Tryd.func29 (by kernel_rfl) rfl #[.string t459] rfl (by (try simp only [List.map_toArray, List.map_cons, List.map_nil]); first | done | rfl | (simp only [List.length_drop, List.length_take]; rfl)) ?_; (with_reducible refine (label_Line.calls kj9 t459 t464 t465 _ A38.out (Glob.below hG (by repeat (first | (with_reducible first | exact HB.out | apply below_alloc | apply pw_below_drewN | apply below_drew1) | exact HB.out)))).mono ?_); rintro e w52 ⟨v466, rfl, ho0, hb⟩; refine ⟨_, rfl, ?_⟩; have n0_ := Aside0.mk (Kd.R_elder' (by (with_reducible repeat (first | apply Kd.R_alloc | apply Kd.R_drewN | apply Kd.R_drew)); exact HO_6.out) (Kd.R_base ho0) hb); have n1_ := Aside0.mk (Kd.R_elder' (by (with_reducible repeat (first | apply Kd.R_alloc | apply Kd.R_drewN | apply Kd.R_drew)); exact HO_9.out) (Kd.R_base ho0) hb); have n2_ := Aside0.mk (Kd.R_lower (Kd.R_new' (Kd.R_new' ho0 (Kd.R_lt (by (with_reducible repeat (first | apply Kd.R_alloc | apply Kd.R_drewN | apply Kd.R_drew)); exact HO_6.out))) (Kd.R_lt (by (with_reducible repeat (first | apply Kd.R_alloc | apply Kd.R_drewN | apply Kd.R_drew)); exact HO_9.out))) (below_size (by repeat (first | (with_reducible first | exact HB.out | apply below_alloc | apply pw_below_drewN | apply below_drew1) | exact HB.out)))); have n3_ := Aside0.mk (below_step (by repeat (first | (with_reducible first | exact HB.out | apply below_alloc | apply pw_below_drewN | apply below_drew1) | exact HB.out)) hb); clear HO_6; clear HO_9; clear HB; have HO_6 := n0_; have HO_9 := n1_; have HO467 := n2_; have HB := n3_; clear n0_ n1_ n2_ n3_; (try clear hb); (try clear hb2); (try clear hk); (try clear hi); (try clear ho0)))
                    go_ret
                    exact ⟨by first | rfl | (simp [errW_none, errW_some] <;> rfl) | (simp [*, errW_none, errW_some] <;> rfl), by repeat (first | (with_reducible first | exact HB.out | apply below_alloc | apply pw_below_drewN | apply below_drew1) | exact HB.out)⟩
                · rw [if_neg c39] at H
                  have c39b0 : (t460 == 0) = false := beq_eq_false_iff_ne.mpr c39
                  have c39b1 : (t460 != 0) = true := bne_iff_ne.mpr c39
                  obtain rfl := Option.some.inj H
                  go_wp2_with (first | ((with_reducible refine gate_callee (f := 29) rfl ?_); refine goesL_ (some 118) rfl rfl Tryd.func29 (by kernel_rfl) rfl #[.string t459] rfl (by (try simp only [List.map_toArray, List.map_cons, List.map_nil]); first | done | rfl | (simp only [List.length_drop, List.length_take]; rfl)) ?_; (with_reducible refine (label_Line.calls kj9 t459 t464 t465 _ A38.out (Glob.below hG (by repeat (first | (with_reducible first | exact HB.out | apply below_alloc | apply pw_below_drewN | apply below_drew1) | exact HB.out)))).mono ?_); rintro e w53 ⟨v466, rfl, ho0, hb⟩; refine ⟨_, rfl, ?_⟩; have n0_ := Aside0.mk (Kd.R_elder' (by (with_reducible repeat (first | apply Kd.R_alloc | apply Kd.R_drewN | apply Kd.R_drew)); exact HO_6.out) (Kd.R_base ho0) hb); have n1_ := Aside0.mk (Kd.R_elder' (by (with_reducible repeat (first | apply Kd.R_alloc | apply Kd.R_drewN | apply Kd.R_drew)); exact HO_9.out) (Kd.R_base ho0) hb); have n2_ := Aside0.mk (Kd.R_lower (Kd.R_new' (Kd.R_new' ho0 (Kd.R_lt (by (with_reducible repeat (first | apply Kd.R_alloc | apply Kd.R_drewN | apply Kd.R_drew)); exact HO_6.out))) (Kd.R_lt (by (with_reducible repeat (first | apply Kd.R_alloc | apply Kd.R_drewN | apply Kd.R_drew)); exact HO_9.out))) (below_size (by repeat (first | (with_reducible first | exact HB.out | apply below_alloc | apply pw_below_drewN | apply below_drew1) | exact HB.out)))); have n3_ := Aside0.mk (below_step (by repeat (first | (with_reducible first | exact HB.out | apply below_alloc | apply pw_below_drewN | apply below_drew1) | exact HB.out)) hb); clear HO_6; clear HO_9; clear HB; have HO_6 := n0_; have HO_9 := n1_; have HO467 := n2_; have HB := n3_; clear n0_ n1_ n2_ n3_; (try clear hb); (try clear hb2); (try clear hk); (try clear hi); (try clear ho0)))
                  go_ret
                  exact ⟨by first | rfl | (simp [errW_none, errW_some] <;> rfl) | (simp [*, errW_none, errW_some] <;> rfl), by repeat (first | (with_reducible first | exact HB.out | apply below_alloc | apply pw_below_drewN | apply below_drew1) | exact HB.out)⟩
            case rest =>
              clear HC34
              try clear c1
              try clear c2
              try clear p2
              try clear c3
              try clear c4
              try clear p4
              try clear q4
              try clear hx4
              try clear qi4
              try clear c6
              try clear c6b0
              try clear c6b1
              try clear p6
              try clear c9
              try clear c12
              try clear c17
              try clear c17b0
              try clear c17b1
              try clear c18
              try clear c18b0
              try clear c18b1
              try clear c19
              try clear c19b0
              try clear c19b1
              try clear c20
              try clear c20b0
              try clear c20b1
              try clear c21
              try clear c21b0
              try clear c21b1
              try clear c22
              try clear c22b0
              try clear c22b1
              try clear c24
              try clear c24b0
              try clear c25
              try clear c25b0
              try clear c26
              try clear c26b0
              try clear c26b1
              try clear c27
              try clear c29
              try clear c31
              try clear c33
              try clear c35
              try clear c35b0
              try clear c35b1
              try clear c35b2
              try clear c36
              try clear c36b0
              try clear c36b1
              try clear c37
              try clear c37b0
              try clear c37b1
              try clear c39
              try clear c39b0
              try clear c39b1
              try clear c40
              try clear c40b0
              try clear c40b1
              try clear c41
              try clear c41b0
              try clear c41b1
              try clear c43
              try clear c45
              try clear q45
              try clear p46
              try clear q46
              try clear hx46
              try clear qi46
              try clear c49
              try clear q49
              try clear hx461_0
              try clear hx462_0
              try clear p2
              try clear p4
              try clear p461
              try clear p462
              try clear p6
              try clear q4
              try clear q45
              try clear q461
              try clear q462
              try clear q49
              obtain ⟨kq, HA, HJ33, HO_6, HO_9, HB⟩ := hcut
              cases kq with
              | zero => exact absurd HA.out (by simp [bursarlaw04_LabelGoesBack.j1])
              | succ kj33 =>
                have H := HA.out
                clear HA
                simp only [bursarlaw04_LabelGoesBack.j1] at H
                have H' := Aside0.mk H
                clear H
                go_wp2
                go_loopg [15, 16] kj33 (fun kq v15 v16 w' => ∃ (x15_3 : Bool) (x16_3 : Int), v15 = .bool x15_3 ∧ v16 = .int .i64 x16_3 ∧ Aside0 (bursarlaw04_LabelGoesBack.l0 kq a0 a1 t446 t455 x15_3 x16_3 = some r) ∧ Aside0 (kq ≤ kj33) ∧ Aside0 (Kd.R Kd.string 9 w' w.heap.size (fun k_ => some k_ ≠ (v457 : Value).ownBlock) (.slice Ao13 t446.length co13) t446) ∧ Aside0 (Kd.R Kd.string 9 w' w.heap.size (fun k_ => some k_ ≠ ((.slice Ao13 t446.length co13) : Value).ownBlock) v457 t455) ∧ Aside0 (Below w.heap.size w w'))
                case atStart => exact ⟨(false), (0), (by first | rfl | (simp; done) | (simp [*]; done) | (simp; rw [Bool.eq_iff_iff]; simp; done) | (rw [Bool.eq_iff_iff]; simp; done)), (by first | rfl | (simp; done) | (simp [*]; done) | (simp; rw [Bool.eq_iff_iff]; simp; done) | (rw [Bool.eq_iff_iff]; simp; done)), H', ⟨Nat.le_refl _⟩, ⟨by (with_reducible repeat (first | apply Kd.R_alloc | apply Kd.R_drewN | apply Kd.R_drew)); exact HO_6.out⟩, ⟨by (with_reducible repeat (first | apply Kd.R_alloc | apply Kd.R_drewN | apply Kd.R_drew)); exact HO_9.out⟩, ⟨by repeat (first | (with_reducible first | exact HB.out | apply below_alloc | apply pw_below_drewN | apply below_drew1) | exact HB.out)⟩⟩
                case round =>
                  clear H'
                  try clear c1
                  try clear c2
                  try clear p2
                  try clear c3
                  try clear c4
                  try clear p4
                  try clear q4
                  try clear hx4
                  try clear qi4
                  try clear c6
                  try clear c6b0
                  try clear c6b1
                  try clear p6
                  try clear c9
                  try clear c12
                  try clear c17
                  try clear c17b0
                  try clear c17b1
                  try clear c18
                  try clear c18b0
                  try clear c18b1
                  try clear c19
                  try clear c19b0
                  try clear c19b1
                  try clear c20
                  try clear c20b0
                  try clear c20b1
                  try clear c21
                  try clear c21b0
                  try clear c21b1
                  try clear c22
                  try clear c22b0
                  try clear c22b1
                  try clear c24
                  try clear c24b0
                  try clear c25
                  try clear c25b0
                  try clear c26
                  try clear c26b0
                  try clear c26b1
                  try clear c27
                  try clear c29
                  try clear c31
                  try clear c33
                  try clear c35
                  try clear c35b0
                  try clear c35b1
                  try clear c35b2
                  try clear c36
                  try clear c36b0
                  try clear c36b1
                  try clear c37
                  try clear c37b0
                  try clear c37b1
                  try clear c39
                  try clear c39b0
                  try clear c39b1
                  try clear c40
                  try clear c40b0
                  try clear c40b1
                  try clear c41
                  try clear c41b0
                  try clear c41b1
                  try clear c43
                  try clear c45
                  try clear q45
                  try clear p46
                  try clear q46
                  try clear hx46
                  try clear qi46
                  try clear c49
                  try clear q49
                  try clear hx461_0
                  try clear hx462_0
                  try clear p2
                  try clear p4
                  try clear p46
                  try clear p461
                  try clear p462
                  try clear p6
                  try clear q4
                  try clear q45
                  try clear q46
                  try clear q461
                  try clear q462
                  try clear q49
                  obtain ⟨x15_3, x16_3, rfl, rfl, HA, HK3, HO_6, HO_9, HB⟩ := hrel
                  cases gk with
                  | zero => exact absurd HA.out (by simp [bursarlaw04_LabelGoesBack.l0])
                  | succ k3 =>
                    have H := HA.out
                    clear HA
                    simp only [bursarlaw04_LabelGoesBack.l0] at H
                    by_cases c54 : x16_3 < (t455.length : Int)
                    · rw [if_pos c54] at H
                      have c54b0 : decide (x16_3 < (t455.length : Int)) = true := decide_eq_true c54
                      clear c54
                      have HC55 := Aside0.mk H
                      clear H
                      obtain ⟨Ao56, co56, eo56⟩ := Kd.R_slice HO_9.out
                      subst eo56
                      go_upto_region 22 with (fail)
                      go_cut [15] (fun v15 wc => ∃ (kq : Nat) (x15_54 : Bool), v15 = .bool x15_54 ∧ Aside0 (bursarlaw04_LabelGoesBack.j3 kq a0 a1 t446 t455 x15_54 x16_3 = some r) ∧ Aside0 (kq ≤ k3) ∧ Aside0 (Kd.R Kd.string 9 wc w.heap.size (fun k_ => some k_ ≠ ((.slice Ao56 t455.length co56) : Value).ownBlock) (.slice Ao13 t446.length co13) t446) ∧ Aside0 (Kd.R Kd.string 9 wc w.heap.size (fun k_ => some k_ ≠ ((.slice Ao13 t446.length co13) : Value).ownBlock) (.slice Ao56 t455.length co56) t455) ∧ Aside0 (Below w.heap.size w wc))
                      case first =>
                        have H := HC55.out
                        clear HC55
                        by_cases c57 : x15_3 = true
                        · subst c57
                          have H1 : (bursarlaw04_LabelGoesBack.j3 k3 a0 a1 t446 t455 true x16_3) = some r := by rw [if_pos rfl] at H; exact H
                          clear H
                          have H := H1
                          clear H1
                          have H' := Aside0.mk H
                          clear H
                          go_wp2
                          go_meet
                          case rel => exact ⟨_, (true), (by first | rfl | (simp; done) | (simp [*]; done) | (simp; rw [Bool.eq_iff_iff]; simp; done) | (rw [Bool.eq_iff_iff]; simp; done)), H', ⟨by have := HJ9.out; have := HJ33.out; have := HK3.out; first | omega | exact Nat.le_refl _⟩, ⟨by (with_reducible repeat (first | apply Kd.R_alloc | apply Kd.R_drewN | apply Kd.R_drew)); exact HO_6.out⟩, ⟨by (with_reducible repeat (first | apply Kd.R_alloc | apply Kd.R_drewN | apply Kd.R_drew)); exact HO_9.out⟩, ⟨by repeat (first | (with_reducible first | exact HB.out | apply below_alloc | apply pw_below_drewN | apply below_drew1) | exact HB.out)⟩⟩
                        · replace c57 := Bool.eq_false_iff.mpr c57
                          subst c57
                          have H1 : (if 0 ≤ x16_3 then (bursarlaw04_LabelGoesBack.j3 k3 a0 a1 t446 t455 ((rdOf ByteArray.empty t455 x16_3).toList == a1.toList) x16_3) else (none)) = some r := by rw [if_neg (show ¬ (false = true) by decide)] at H; exact H
                          clear H
                          have H := H1
                          clear H1
                          by_cases c58 : 0 ≤ x16_3
                          · rw [if_pos c58] at H
                            have c58b0 : decide (0 ≤ x16_3) = true := decide_eq_true c58
                            clear c58
                            (first | rw [c58b0] | (simp only [i64_w, i32_w]; rw [c58b0]) | skip)
                            have H' := Aside0.mk H
                            clear H
                            have p473 : 0 ≤ (x16_3 : Int) := of_decide_eq_true (by first | (with_reducible assumption) | assumption)
                            have q473 : x16_3 < (t455.length : Int) := of_decide_eq_true (by first | (with_reducible assumption) | assumption)
                            obtain ⟨ad473, e473, hx473_0⟩ := Kd.at_string (Kd.R_reads' HO_9.out).2.2 x16_3 p473 q473
                            cases e473
                            replace p473 := eq_true p473
                            replace q473 := eq_true q473
                            go_wp2
                            go_meet
                            case rel => exact ⟨_, (((rdOf ByteArray.empty t455 x16_3).toList == a1.toList)), (by first | rfl | (simp; done) | (simp [*]; done) | (simp; rw [Bool.eq_iff_iff]; simp; done) | (rw [Bool.eq_iff_iff]; simp; done)), H', ⟨by have := HJ9.out; have := HJ33.out; have := HK3.out; first | omega | exact Nat.le_refl _⟩, ⟨by (with_reducible repeat (first | apply Kd.R_alloc | apply Kd.R_drewN | apply Kd.R_drew)); exact HO_6.out⟩, ⟨by (with_reducible repeat (first | apply Kd.R_alloc | apply Kd.R_drewN | apply Kd.R_drew)); exact HO_9.out⟩, ⟨by repeat (first | (with_reducible first | exact HB.out | apply below_alloc | apply pw_below_drewN | apply below_drew1) | exact HB.out)⟩⟩
                          · rw [if_neg c58] at H
                            exact absurd H (by simp)
                      case rest =>
                        clear HC55
                        try clear c1
                        try clear c2
                        try clear p2
                        try clear c3
                        try clear c4
                        try clear p4
                        try clear q4
                        try clear hx4
                        try clear qi4
                        try clear c5
                        try clear c6
                        try clear c6b0
                        try clear c6b1
                        try clear p6
                        try clear c9
                        try clear c12
                        try clear c17
                        try clear c17b0
                        try clear c17b1
                        try clear c18
                        try clear c18b0
                        try clear c18b1
                        try clear c19
                        try clear c19b0
                        try clear c19b1
                        try clear c20
                        try clear c20b0
                        try clear c20b1
                        try clear c21
                        try clear c21b0
                        try clear c21b1
                        try clear c22
                        try clear c22b0
                        try clear c22b1
                        try clear c24
                        try clear c24b0
                        try clear c25
                        try clear c25b0
                        try clear c26
                        try clear c26b0
                        try clear c26b1
                        try clear c27
                        try clear c29
                        try clear c31
                        try clear c33
                        try clear c35
                        try clear c35b0
                        try clear c35b1
                        try clear c35b2
                        try clear c36
                        try clear c36b0
                        try clear c36b1
                        try clear c37
                        try clear c37b0
                        try clear c37b1
                        try clear c39
                        try clear c39b0
                        try clear c39b1
                        try clear c40
                        try clear c40b0
                        try clear c40b1
                        try clear c41
                        try clear c41b0
                        try clear c41b1
                        try clear c43
                        try clear c45
                        try clear q45
                        try clear p46
                        try clear q46
                        try clear hx46
                        try clear qi46
                        try clear p47
                        try clear q47
                        try clear hx47
                        try clear c49
                        try clear q49
                        try clear c54
                        try clear c54b0
                        try clear c57
                        try clear c58
                        try clear c58b0
                        try clear hx461_0
                        try clear hx462_0
                        try clear hx473_0
                        try clear p2
                        try clear p4
                        try clear p46
                        try clear p461
                        try clear p462
                        try clear p473
                        try clear p6
                        try clear q4
                        try clear q45
                        try clear q46
                        try clear q461
                        try clear q462
                        try clear q473
                        try clear q49
                        obtain ⟨kq, x15_54, rfl, HA, HJ54, HO_6, HO_9, HB⟩ := hcut
                        cases kq with
                        | zero => exact absurd HA.out (by simp [bursarlaw04_LabelGoesBack.j3])
                        | succ kj54 =>
                          have H := HA.out
                          clear HA
                          simp only [bursarlaw04_LabelGoesBack.j3] at H
                          by_cases c59 : 0 ≤ x16_3
                          · rw [if_pos c59] at H
                            have c59b0 : decide (0 ≤ x16_3) = true := decide_eq_true c59
                            clear c59
                            by_cases c60 : x16_3 < (t455.length : Int)
                            · rw [if_pos c60] at H
                              have c60b0 : decide (x16_3 < (t455.length : Int)) = true := decide_eq_true c60
                              clear c60
                              replace H := Option.bind_eq_some_iff.mp H
                              obtain ⟨t475, A610, H⟩ := H
                              replace H : (if t475 = true then (if x16_3 > 0 then ((label_Under.f kj54 (rdOf ByteArray.empty t455 x16_3) a0).bind fun t477 => (if t477 = true then (some false) else (bursarlaw04_LabelGoesBack.l0 kj54 a0 a1 t446 t455 x15_54 (wrap64 (x16_3 + 1))))) else (bursarlaw04_LabelGoesBack.l0 kj54 a0 a1 t446 t455 x15_54 (wrap64 (x16_3 + 1)))) else (some false)) = some r := H
                              have A61 := Aside0.mk A610
                              clear A610
                              by_cases c62 : t475 = true
                              · subst c62
                                have H1 : (if x16_3 > 0 then ((label_Under.f kj54 (rdOf ByteArray.empty t455 x16_3) a0).bind fun t477 => (if t477 = true then (some false) else (bursarlaw04_LabelGoesBack.l0 kj54 a0 a1 t446 t455 x15_54 (wrap64 (x16_3 + 1))))) else (bursarlaw04_LabelGoesBack.l0 kj54 a0 a1 t446 t455 x15_54 (wrap64 (x16_3 + 1)))) = some r := by rw [if_pos rfl] at H; exact H
                                clear H
                                have H := H1
                                clear H1
                                by_cases c63 : x16_3 > 0
                                · rw [if_pos c63] at H
                                  have c63b0 : decide (0 < x16_3) = true := decide_eq_true c63
                                  clear c63
                                  replace H := Option.bind_eq_some_iff.mp H
                                  obtain ⟨t477, A640, H⟩ := H
                                  replace H : (if t477 = true then (some false) else (bursarlaw04_LabelGoesBack.l0 kj54 a0 a1 t446 t455 x15_54 (wrap64 (x16_3 + 1)))) = some r := H
                                  have A64 := Aside0.mk A640
                                  clear A640
                                  by_cases c65 : t477 = true
                                  · subst c65
                                    have H1 : (some false) = some r := by rw [if_pos rfl] at H; exact H
                                    clear H
                                    have H := H1
                                    clear H1
                                    obtain rfl := Option.some.inj H
                                    have p474 : 0 ≤ (x16_3 : Int) := of_decide_eq_true (by first | (with_reducible assumption) | assumption)
                                    have q474 : x16_3 < (t455.length : Int) := of_decide_eq_true (by first | (with_reducible assumption) | assumption)
                                    obtain ⟨ad474, e474, hx474_0⟩ := Kd.at_string (Kd.R_reads' HO_9.out).2.2 x16_3 p474 q474
                                    cases e474
                                    replace p474 := eq_true p474
                                    replace q474 := eq_true q474
                                    go_wp2_with (first | ((with_reducible refine gate_callee (f := 22) rfl ?_); refine goesL_ (some 154) rfl rfl Tryd.func22 (by kernel_rfl) rfl #[.string a0, .string (rdOf ByteArray.empty t455 x16_3)] rfl (by (try simp only [List.map_toArray, List.map_cons, List.map_nil]); first | done | rfl | (simp only [List.length_drop, List.length_take]; rfl)) ?_; (with_reducible refine (label_Under.calls kj54 a0 (rdOf ByteArray.empty t455 x16_3) true _ A61.out (Glob.below hG (by repeat (first | (with_reducible first | exact HB.out | apply below_alloc | apply pw_below_drewN | apply below_drew1) | exact HB.out)))).mono ?_); rintro e w66 ⟨rfl, hb⟩; refine ⟨_, rfl, ?_⟩; have n0_ := Aside0.mk (Kd.R_below (by (with_reducible repeat (first | apply Kd.R_alloc | apply Kd.R_drewN | apply Kd.R_drew)); exact HO_6.out) hb); have n1_ := Aside0.mk (Kd.R_below (by (with_reducible repeat (first | apply Kd.R_alloc | apply Kd.R_drewN | apply Kd.R_drew)); exact HO_9.out) hb); have n2_ := Aside0.mk (below_step (by repeat (first | (with_reducible first | exact HB.out | apply below_alloc | apply pw_below_drewN | apply below_drew1) | exact HB.out)) hb); clear HO_6; clear HO_9; clear HB; have HO_6 := n0_; have HO_9 := n1_; have HB := n2_; clear n0_ n1_ n2_; (try clear hb); (try clear hb2); (try clear hk); (try clear hi); have p476 : 0 ≤ (x16_3 : Int) := of_decide_eq_true (by first | (with_reducible assumption) | assumption); have q476 : x16_3 < (t455.length : Int) := of_decide_eq_true (by first | (with_reducible assumption) | assumption); obtain ⟨ad476, e476, hx476_0⟩ := Kd.at_string (Kd.R_reads' HO_9.out).2.2 x16_3 p476 q476; obtain rfl : ad474 = ad476 := (by injection e476); replace p476 := eq_true p476; replace q476 := eq_true q476) | (go_at_call 22; (with_reducible refine (label_Under.calls kj54 (rdOf ByteArray.empty t455 x16_3) a0 true _ A64.out (Glob.below hG (by repeat (first | (with_reducible first | exact HB.out | apply below_alloc | apply pw_below_drewN | apply below_drew1) | exact HB.out)))).mono ?_); rintro e w67 ⟨rfl, hb⟩; have n0_ := Aside0.mk (Kd.R_below (by (with_reducible repeat (first | apply Kd.R_alloc | apply Kd.R_drewN | apply Kd.R_drew)); exact HO_6.out) hb); have n1_ := Aside0.mk (Kd.R_below (by (with_reducible repeat (first | apply Kd.R_alloc | apply Kd.R_drewN | apply Kd.R_drew)); exact HO_9.out) hb); have n2_ := Aside0.mk (below_step (by repeat (first | (with_reducible first | exact HB.out | apply below_alloc | apply pw_below_drewN | apply below_drew1) | exact HB.out)) hb); clear HO_6; clear HO_9; clear HB; have HO_6 := n0_; have HO_9 := n1_; have HB := n2_; clear n0_ n1_ n2_; (try clear hb); (try clear hb2); (try clear hk); (try clear hi)))
                                    go_ret
                                    exact ⟨by first | rfl | (simp [errW_none, errW_some] <;> rfl) | (simp [*, errW_none, errW_some] <;> rfl), by repeat (first | (with_reducible first | exact HB.out | apply below_alloc | apply pw_below_drewN | apply below_drew1) | exact HB.out)⟩
                                  · replace c65 := Bool.eq_false_iff.mpr c65
                                    subst c65
                                    have H1 : (bursarlaw04_LabelGoesBack.l0 kj54 a0 a1 t446 t455 x15_54 (wrap64 (x16_3 + 1))) = some r := by rw [if_neg (show ¬ (false = true) by decide)] at H; exact H
                                    clear H
                                    have H := H1
                                    clear H1
                                    have H' := Aside0.mk H
                                    clear H
                                    have p474 : 0 ≤ (x16_3 : Int) := of_decide_eq_true (by first | (with_reducible assumption) | assumption)
                                    have q474 : x16_3 < (t455.length : Int) := of_decide_eq_true (by first | (with_reducible assumption) | assumption)
                                    obtain ⟨ad474, e474, hx474_0⟩ := Kd.at_string (Kd.R_reads' HO_9.out).2.2 x16_3 p474 q474
                                    cases e474
                                    replace p474 := eq_true p474
                                    replace q474 := eq_true q474
                                    go_wp2_with (first | ((with_reducible refine gate_callee (f := 22) rfl ?_); refine goesL_ (some 154) rfl rfl Tryd.func22 (by kernel_rfl) rfl #[.string a0, .string (rdOf ByteArray.empty t455 x16_3)] rfl (by (try simp only [List.map_toArray, List.map_cons, List.map_nil]); first | done | rfl | (simp only [List.length_drop, List.length_take]; rfl)) ?_; (with_reducible refine (label_Under.calls kj54 a0 (rdOf ByteArray.empty t455 x16_3) true _ A61.out (Glob.below hG (by repeat (first | (with_reducible first | exact HB.out | apply below_alloc | apply pw_below_drewN | apply below_drew1) | exact HB.out)))).mono ?_); rintro e w68 ⟨rfl, hb⟩; refine ⟨_, rfl, ?_⟩; have n0_ := Aside0.mk (Kd.R_below (by (with_reducible repeat (first | apply Kd.R_alloc | apply Kd.R_drewN | apply Kd.R_drew)); exact HO_6.out) hb); have n1_ := Aside0.mk (Kd.R_below (by (with_reducible repeat (first | apply Kd.R_alloc | apply Kd.R_drewN | apply Kd.R_drew)); exact HO_9.out) hb); have n2_ := Aside0.mk (below_step (by repeat (first | (with_reducible first | exact HB.out | apply below_alloc | apply pw_below_drewN | apply below_drew1) | exact HB.out)) hb); clear HO_6; clear HO_9; clear HB; have HO_6 := n0_; have HO_9 := n1_; have HB := n2_; clear n0_ n1_ n2_; (try clear hb); (try clear hb2); (try clear hk); (try clear hi); have p476 : 0 ≤ (x16_3 : Int) := of_decide_eq_true (by first | (with_reducible assumption) | assumption); have q476 : x16_3 < (t455.length : Int) := of_decide_eq_true (by first | (with_reducible assumption) | assumption); obtain ⟨ad476, e476, hx476_0⟩ := Kd.at_string (Kd.R_reads' HO_9.out).2.2 x16_3 p476 q476; obtain rfl : ad474 = ad476 := (by injection e476); replace p476 := eq_true p476; replace q476 := eq_true q476) | (go_at_call 22; (with_reducible refine (label_Under.calls kj54 (rdOf ByteArray.empty t455 x16_3) a0 false _ A64.out (Glob.below hG (by repeat (first | (with_reducible first | exact HB.out | apply below_alloc | apply pw_below_drewN | apply below_drew1) | exact HB.out)))).mono ?_); rintro e w69 ⟨rfl, hb⟩; have n0_ := Aside0.mk (Kd.R_below (by (with_reducible repeat (first | apply Kd.R_alloc | apply Kd.R_drewN | apply Kd.R_drew)); exact HO_6.out) hb); have n1_ := Aside0.mk (Kd.R_below (by (with_reducible repeat (first | apply Kd.R_alloc | apply Kd.R_drewN | apply Kd.R_drew)); exact HO_9.out) hb); have n2_ := Aside0.mk (below_step (by repeat (first | (with_reducible first | exact HB.out | apply below_alloc | apply pw_below_drewN | apply below_drew1) | exact HB.out)) hb); clear HO_6; clear HO_9; clear HB; have HO_6 := n0_; have HO_9 := n1_; have HB := n2_; clear n0_ n1_ n2_; (try clear hb); (try clear hb2); (try clear hk); (try clear hi)))
                                    go_roundg kj54
                                    case measure => have := HJ9.out; have := HJ33.out; have := HK3.out; have := HJ54.out; omega
                                    case rel => exact ⟨(x15_54), (wrap64 (x16_3 + 1)), (by first | rfl | (simp; done) | (simp [*]; done) | (simp; rw [Bool.eq_iff_iff]; simp; done) | (rw [Bool.eq_iff_iff]; simp; done)), (by first | rfl | (simp; done) | (simp [*]; done) | (simp; rw [Bool.eq_iff_iff]; simp; done) | (rw [Bool.eq_iff_iff]; simp; done)), H', ⟨by have := HJ9.out; have := HJ33.out; have := HK3.out; have := HJ54.out; omega⟩, ⟨by (with_reducible repeat (first | apply Kd.R_alloc | apply Kd.R_drewN | apply Kd.R_drew)); exact HO_6.out⟩, ⟨by (with_reducible repeat (first | apply Kd.R_alloc | apply Kd.R_drewN | apply Kd.R_drew)); exact HO_9.out⟩, ⟨by repeat (first | (with_reducible first | exact HB.out | apply below_alloc | apply pw_below_drewN | apply below_drew1) | exact HB.out)⟩⟩
                                · rw [if_neg c63] at H
                                  have c63b0 : decide (0 < x16_3) = false := decide_eq_false c63
                                  clear c63
                                  have H' := Aside0.mk H
                                  clear H
                                  have p474 : 0 ≤ (x16_3 : Int) := of_decide_eq_true (by first | (with_reducible assumption) | assumption)
                                  have q474 : x16_3 < (t455.length : Int) := of_decide_eq_true (by first | (with_reducible assumption) | assumption)
                                  obtain ⟨ad474, e474, hx474_0⟩ := Kd.at_string (Kd.R_reads' HO_9.out).2.2 x16_3 p474 q474
                                  cases e474
                                  replace p474 := eq_true p474
                                  replace q474 := eq_true q474
                                  go_wp2_with (first | ((with_reducible refine gate_callee (f := 22) rfl ?_); refine goesL_ (some 154) rfl rfl Tryd.func22 (by kernel_rfl) rfl #[.string a0, .string (rdOf ByteArray.empty t455 x16_3)] rfl (by (try simp only [List.map_toArray, List.map_cons, List.map_nil]); first | done | rfl | (simp only [List.length_drop, List.length_take]; rfl)) ?_; (with_reducible refine (label_Under.calls kj54 a0 (rdOf ByteArray.empty t455 x16_3) true _ A61.out (Glob.below hG (by repeat (first | (with_reducible first | exact HB.out | apply below_alloc | apply pw_below_drewN | apply below_drew1) | exact HB.out)))).mono ?_); rintro e w70 ⟨rfl, hb⟩; refine ⟨_, rfl, ?_⟩; have n0_ := Aside0.mk (Kd.R_below (by (with_reducible repeat (first | apply Kd.R_alloc | apply Kd.R_drewN | apply Kd.R_drew)); exact HO_6.out) hb); have n1_ := Aside0.mk (Kd.R_below (by (with_reducible repeat (first | apply Kd.R_alloc | apply Kd.R_drewN | apply Kd.R_drew)); exact HO_9.out) hb); have n2_ := Aside0.mk (below_step (by repeat (first | (with_reducible first | exact HB.out | apply below_alloc | apply pw_below_drewN | apply below_drew1) | exact HB.out)) hb); clear HO_6; clear HO_9; clear HB; have HO_6 := n0_; have HO_9 := n1_; have HB := n2_; clear n0_ n1_ n2_; (try clear hb); (try clear hb2); (try clear hk); (try clear hi)))
                                  go_roundg kj54
                                  case measure => have := HJ9.out; have := HJ33.out; have := HK3.out; have := HJ54.out; omega
                                  case rel => exact ⟨(x15_54), (wrap64 (x16_3 + 1)), (by first | rfl | (simp; done) | (simp [*]; done) | (simp; rw [Bool.eq_iff_iff]; simp; done) | (rw [Bool.eq_iff_iff]; simp; done)), (by first | rfl | (simp; done) | (simp [*]; done) | (simp; rw [Bool.eq_iff_iff]; simp; done) | (rw [Bool.eq_iff_iff]; simp; done)), H', ⟨by have := HJ9.out; have := HJ33.out; have := HK3.out; have := HJ54.out; omega⟩, ⟨by (with_reducible repeat (first | apply Kd.R_alloc | apply Kd.R_drewN | apply Kd.R_drew)); exact HO_6.out⟩, ⟨by (with_reducible repeat (first | apply Kd.R_alloc | apply Kd.R_drewN | apply Kd.R_drew)); exact HO_9.out⟩, ⟨by repeat (first | (with_reducible first | exact HB.out | apply below_alloc | apply pw_below_drewN | apply below_drew1) | exact HB.out)⟩⟩
                              · replace c62 := Bool.eq_false_iff.mpr c62
                                subst c62
                                have H1 : (some false) = some r := by rw [if_neg (show ¬ (false = true) by decide)] at H; exact H
                                clear H
                                have H := H1
                                clear H1
                                obtain rfl := Option.some.inj H
                                have p474 : 0 ≤ (x16_3 : Int) := of_decide_eq_true (by first | (with_reducible assumption) | assumption)
                                have q474 : x16_3 < (t455.length : Int) := of_decide_eq_true (by first | (with_reducible assumption) | assumption)
                                obtain ⟨ad474, e474, hx474_0⟩ := Kd.at_string (Kd.R_reads' HO_9.out).2.2 x16_3 p474 q474
                                cases e474
                                replace p474 := eq_true p474
                                replace q474 := eq_true q474
                                go_wp2_with (first | ((with_reducible refine gate_callee (f := 22) rfl ?_); refine goesL_ (some 154) rfl rfl Tryd.func22 (by kernel_rfl) rfl #[.string a0, .string (rdOf ByteArray.empty t455 x16_3)] rfl (by (try simp only [List.map_toArray, List.map_cons, List.map_nil]); first | done | rfl | (simp only [List.length_drop, List.length_take]; rfl)) ?_; (with_reducible refine (label_Under.calls kj54 a0 (rdOf ByteArray.empty t455 x16_3) false _ A61.out (Glob.below hG (by repeat (first | (with_reducible first | exact HB.out | apply below_alloc | apply pw_below_drewN | apply below_drew1) | exact HB.out)))).mono ?_); rintro e w71 ⟨rfl, hb⟩; refine ⟨_, rfl, ?_⟩; have n0_ := Aside0.mk (Kd.R_below (by (with_reducible repeat (first | apply Kd.R_alloc | apply Kd.R_drewN | apply Kd.R_drew)); exact HO_6.out) hb); have n1_ := Aside0.mk (Kd.R_below (by (with_reducible repeat (first | apply Kd.R_alloc | apply Kd.R_drewN | apply Kd.R_drew)); exact HO_9.out) hb); have n2_ := Aside0.mk (below_step (by repeat (first | (with_reducible first | exact HB.out | apply below_alloc | apply pw_below_drewN | apply below_drew1) | exact HB.out)) hb); clear HO_6; clear HO_9; clear HB; have HO_6 := n0_; have HO_9 := n1_; have HB := n2_; clear n0_ n1_ n2_; (try clear hb); (try clear hb2); (try clear hk); (try clear hi)))
                                go_ret
                                exact ⟨by first | rfl | (simp [errW_none, errW_some] <;> rfl) | (simp [*, errW_none, errW_some] <;> rfl), by repeat (first | (with_reducible first | exact HB.out | apply below_alloc | apply pw_below_drewN | apply below_drew1) | exact HB.out)⟩
                            · rw [if_neg c60] at H
                              exact absurd H (by simp)
                          · rw [if_neg c59] at H
                            exact absurd H (by simp)
                    · rw [if_neg c54] at H
                      have c54b0 : decide (x16_3 < (t455.length : Int)) = false := decide_eq_false c54
                      clear c54
                      have H' := Aside0.mk H
                      clear H
                      obtain ⟨Ao72, co72, eo72⟩ := Kd.R_slice HO_9.out
                      subst eo72
                      go_wp2
                      go_loopg [17] k3 (fun kq v17 w' => ∃ (x17_4 : Int), v17 = .int .i64 x17_4 ∧ Aside0 (bursarlaw04_LabelGoesBack.l1 kq a0 a1 t446 x15_3 x17_4 = some r) ∧ Aside0 (kq ≤ k3) ∧ Aside0 (Kd.R Kd.string 9 w' w.heap.size (fun _ => True) (.slice Ao13 t446.length co13) t446) ∧ Aside0 (Below w.heap.size w w'))
                      case atStart => exact ⟨(0), (by first | rfl | (simp; done) | (simp [*]; done) | (simp; rw [Bool.eq_iff_iff]; simp; done) | (rw [Bool.eq_iff_iff]; simp; done)), H', ⟨Nat.le_refl _⟩, ⟨by (with_reducible repeat (first | apply Kd.R_alloc | apply Kd.R_drewN | apply Kd.R_drew)); exact Kd.R_mono HO_6.out (fun _ hk => trivial)⟩, ⟨by repeat (first | (with_reducible first | exact HB.out | apply below_alloc | apply pw_below_drewN | apply below_drew1) | exact HB.out)⟩⟩
                      case round =>
                        clear H'
                        try clear c1
                        try clear c2
                        try clear p2
                        try clear c3
                        try clear c4
                        try clear p4
                        try clear q4
                        try clear hx4
                        try clear qi4
                        try clear c5
                        try clear c6
                        try clear c6b0
                        try clear c6b1
                        try clear p6
                        try clear c9
                        try clear c12
                        try clear c17
                        try clear c17b0
                        try clear c17b1
                        try clear c18
                        try clear c18b0
                        try clear c18b1
                        try clear c19
                        try clear c19b0
                        try clear c19b1
                        try clear c20
                        try clear c20b0
                        try clear c20b1
                        try clear c21
                        try clear c21b0
                        try clear c21b1
                        try clear c22
                        try clear c22b0
                        try clear c22b1
                        try clear c24
                        try clear c24b0
                        try clear c25
                        try clear c25b0
                        try clear c26
                        try clear c26b0
                        try clear c26b1
                        try clear c27
                        try clear c29
                        try clear c31
                        try clear c33
                        try clear c35
                        try clear c35b0
                        try clear c35b1
                        try clear c35b2
                        try clear c36
                        try clear c36b0
                        try clear c36b1
                        try clear c37
                        try clear c37b0
                        try clear c37b1
                        try clear c39
                        try clear c39b0
                        try clear c39b1
                        try clear c40
                        try clear c40b0
                        try clear c40b1
                        try clear c41
                        try clear c41b0
                        try clear c41b1
                        try clear c43
                        try clear c45
                        try clear q45
                        try clear p46
                        try clear q46
                        try clear hx46
                        try clear qi46
                        try clear p47
                        try clear q47
                        try clear hx47
                        try clear c49
                        try clear q49
                        try clear c54
                        try clear c54b0
                        try clear c57
                        try clear c58
                        try clear c58b0
                        try clear c59
                        try clear c59b0
                        try clear c60
                        try clear c60b0
                        try clear c62
                        try clear c63
                        try clear c63b0
                        try clear p64
                        try clear c65
                        try clear hx461_0
                        try clear hx462_0
                        try clear hx473_0
                        try clear hx474_0
                        try clear hx476_0
                        try clear p2
                        try clear p4
                        try clear p46
                        try clear p461
                        try clear p462
                        try clear p47
                        try clear p473
                        try clear p474
                        try clear p476
                        try clear p6
                        try clear q4
                        try clear q45
                        try clear q46
                        try clear q461
                        try clear q462
                        try clear q47
                        try clear q473
                        try clear q474
                        try clear q476
                        try clear q49
                        obtain ⟨x17_4, rfl, HA, HK4, HO_6, HB⟩ := hrel
                        cases gk with
                        | zero => exact absurd HA.out (by simp [bursarlaw04_LabelGoesBack.l1])
                        | succ k4 =>
                          have H := HA.out
                          clear HA
                          simp only [bursarlaw04_LabelGoesBack.l1] at H
                          by_cases c73 : x17_4 < (t446.length : Int)
                          · rw [if_pos c73] at H
                            have c73b0 : decide (x17_4 < (t446.length : Int)) = true := decide_eq_true c73
                            clear c73
                            by_cases c74 : 0 ≤ x17_4
                            · rw [if_pos c74] at H
                              have c74b0 : decide (0 ≤ x17_4) = true := decide_eq_true c74
                              clear c74
                              replace H := Option.bind_eq_some_iff.mp H
                              obtain ⟨t479, A750, H⟩ := H
                              replace H : (if t479 = true then (bursarlaw04_LabelGoesBack.l1 k4 a0 a1 t446 x15_3 (wrap64 (x17_4 + 1))) else (some false)) = some r := H
                              have A75 := Aside0.mk A750
                              clear A750
                              by_cases c76 : t479 = true
                              · subst c76
                                have H1 : (bursarlaw04_LabelGoesBack.l1 k4 a0 a1 t446 x15_3 (wrap64 (x17_4 + 1))) = some r := by rw [if_pos rfl] at H; exact H
                                clear H
                                have H := H1
                                clear H1
                                have H' := Aside0.mk H
                                clear H
                                have p478 : 0 ≤ (x17_4 : Int) := of_decide_eq_true (by first | (with_reducible assumption) | assumption)
                                have q478 : x17_4 < (t446.length : Int) := of_decide_eq_true (by first | (with_reducible assumption) | assumption)
                                obtain ⟨ad478, e478, hx478_0⟩ := Kd.at_string (Kd.R_reads' HO_6.out).2.2 x17_4 p478 q478
                                cases e478
                                replace p478 := eq_true p478
                                replace q478 := eq_true q478
                                go_wp2_with (first | ((with_reducible refine gate_callee (f := 18) rfl ?_); refine goesL_ (some 178) rfl rfl Tryd.func18 (by kernel_rfl) rfl #[.string (rdOf ByteArray.empty t446 x17_4)] rfl (by (try simp only [List.map_toArray, List.map_cons, List.map_nil]); first | done | rfl | (simp only [List.length_drop, List.length_take]; rfl)) ?_; (with_reducible refine (label_Name.calls (rdOf ByteArray.empty t446 x17_4) true _ A75.out).mono ?_); rintro e w77 ⟨rfl, hb⟩; refine ⟨_, rfl, ?_⟩; have n0_ := Aside0.mk (Kd.R_below (by (with_reducible repeat (first | apply Kd.R_alloc | apply Kd.R_drewN | apply Kd.R_drew)); exact HO_6.out) hb); have n1_ := Aside0.mk (below_step (by repeat (first | (with_reducible first | exact HB.out | apply below_alloc | apply pw_below_drewN | apply below_drew1) | exact HB.out)) hb); clear HO_6; clear HB; have HO_6 := n0_; have HB := n1_; clear n0_ n1_; (try clear hb); (try clear hb2); (try clear hk); (try clear hi)))
                                go_roundg k4
                                case measure => have := HJ9.out; have := HJ33.out; have := HK3.out; have := HK4.out; omega
                                case rel => exact ⟨(wrap64 (x17_4 + 1)), (by first | rfl | (simp; done) | (simp [*]; done) | (simp; rw [Bool.eq_iff_iff]; simp; done) | (rw [Bool.eq_iff_iff]; simp; done)), H', ⟨by have := HJ9.out; have := HJ33.out; have := HK3.out; have := HK4.out; omega⟩, ⟨by (with_reducible repeat (first | apply Kd.R_alloc | apply Kd.R_drewN | apply Kd.R_drew)); exact HO_6.out⟩, ⟨by repeat (first | (with_reducible first | exact HB.out | apply below_alloc | apply pw_below_drewN | apply below_drew1) | exact HB.out)⟩⟩
                              · replace c76 := Bool.eq_false_iff.mpr c76
                                subst c76
                                have H1 : (some false) = some r := by rw [if_neg (show ¬ (false = true) by decide)] at H; exact H
                                clear H
                                have H := H1
                                clear H1
                                obtain rfl := Option.some.inj H
                                have p478 : 0 ≤ (x17_4 : Int) := of_decide_eq_true (by first | (with_reducible assumption) | assumption)
                                have q478 : x17_4 < (t446.length : Int) := of_decide_eq_true (by first | (with_reducible assumption) | assumption)
                                obtain ⟨ad478, e478, hx478_0⟩ := Kd.at_string (Kd.R_reads' HO_6.out).2.2 x17_4 p478 q478
                                cases e478
                                replace p478 := eq_true p478
                                replace q478 := eq_true q478
                                go_wp2_with (first | ((with_reducible refine gate_callee (f := 18) rfl ?_); refine goesL_ (some 178) rfl rfl Tryd.func18 (by kernel_rfl) rfl #[.string (rdOf ByteArray.empty t446 x17_4)] rfl (by (try simp only [List.map_toArray, List.map_cons, List.map_nil]); first | done | rfl | (simp only [List.length_drop, List.length_take]; rfl)) ?_; (with_reducible refine (label_Name.calls (rdOf ByteArray.empty t446 x17_4) false _ A75.out).mono ?_); rintro e w78 ⟨rfl, hb⟩; refine ⟨_, rfl, ?_⟩; have n0_ := Aside0.mk (Kd.R_below (by (with_reducible repeat (first | apply Kd.R_alloc | apply Kd.R_drewN | apply Kd.R_drew)); exact HO_6.out) hb); have n1_ := Aside0.mk (below_step (by repeat (first | (with_reducible first | exact HB.out | apply below_alloc | apply pw_below_drewN | apply below_drew1) | exact HB.out)) hb); clear HO_6; clear HB; have HO_6 := n0_; have HB := n1_; clear n0_ n1_; (try clear hb); (try clear hb2); (try clear hk); (try clear hi)))
                                go_ret
                                exact ⟨by first | rfl | (simp [errW_none, errW_some] <;> rfl) | (simp [*, errW_none, errW_some] <;> rfl), by repeat (first | (with_reducible first | exact HB.out | apply below_alloc | apply pw_below_drewN | apply below_drew1) | exact HB.out)⟩
                            · rw [if_neg c74] at H
                              exact absurd H (by simp)
                          · rw [if_neg c73] at H
                            have c73b0 : decide (x17_4 < (t446.length : Int)) = false := decide_eq_false c73
                            clear c73
                            replace H := Option.bind_eq_some_iff.mp H
                            obtain ⟨t480, A790, H⟩ := H
                            replace H : (some (t480 == x15_3)) = some r := H
                            have A79 := Aside0.mk A790
                            clear A790
                            obtain rfl := Option.some.inj H
                            go_wp2_with (first | ((with_reducible refine gate_callee (f := 22) rfl ?_); refine goesL_ (some 182) rfl rfl Tryd.func22 (by kernel_rfl) rfl #[.string a0, .string a1] rfl (by (try simp only [List.map_toArray, List.map_cons, List.map_nil]); first | done | rfl | (simp only [List.length_drop, List.length_take]; rfl)) ?_; (with_reducible refine (label_Under.calls k4 a0 a1 t480 _ A79.out (Glob.below hG (by repeat (first | (with_reducible first | exact HB.out | apply below_alloc | apply pw_below_drewN | apply below_drew1) | exact HB.out)))).mono ?_); rintro e w80 ⟨rfl, hb⟩; refine ⟨_, rfl, ?_⟩; have n0_ := Aside0.mk (Kd.R_below (by (with_reducible repeat (first | apply Kd.R_alloc | apply Kd.R_drewN | apply Kd.R_drew)); exact HO_6.out) hb); have n1_ := Aside0.mk (below_step (by repeat (first | (with_reducible first | exact HB.out | apply below_alloc | apply pw_below_drewN | apply below_drew1) | exact HB.out)) hb); clear HO_6; clear HB; have HO_6 := n0_; have HB := n1_; clear n0_ n1_; (try clear hb); (try clear hb2); (try clear hk); (try clear hi)))
                            go_ret
                            exact ⟨by first | rfl | (simp [errW_none, errW_some] <;> rfl) | (simp [*, errW_none, errW_some] <;> rfl), by repeat (first | (with_reducible first | exact HB.out | apply below_alloc | apply pw_below_drewN | apply below_drew1) | exact HB.out)⟩
    · rw [if_neg c6] at H
      have c6b0 : (t447 == 0) = false := beq_eq_false_iff_ne.mpr c6
      have c6b1 : (t447 != 0) = true := bne_iff_ne.mpr c6
      by_cases c81 : t447 = 41
      · rw [if_pos c81] at H
        have c81b0 : (t447 == 41) = true := beq_iff_eq.mpr c81
        have c81b1 : (t447 != 41) = false := bne_eq_false_iff_eq.mpr c81
        clear c81
        replace H := Option.bind_eq_some_iff.mp H
        obtain ⟨t450, A820, H⟩ := H
        replace H : (if t450 = 41 then (if (t446.length : Int) = 0 then ((label_Under.f k a0 a1).bind fun t451 => (if t451 = true then (some false) else ((label_Under.f k a1 a0).bind fun t452 => (some (!t452))))) else (some false)) else (some false)) = some r := H
        have A82 := Aside0.mk A820
        clear A820
        by_cases c83 : t450 = 41
        · rw [if_pos c83] at H
          have c83b0 : (t450 == 41) = true := beq_iff_eq.mpr c83
          have c83b1 : (t450 != 41) = false := bne_eq_false_iff_eq.mpr c83
          clear c83
          by_cases c84 : (t446.length : Int) = 0
          · rw [if_pos c84] at H
            have c84b0 : ((t446.length : Int) == 0) = true := beq_iff_eq.mpr c84
            have c84b1 : ((t446.length : Int) != 0) = false := bne_eq_false_iff_eq.mpr c84
            clear c84
            replace H := Option.bind_eq_some_iff.mp H
            obtain ⟨t451, A850, H⟩ := H
            replace H : (if t451 = true then (some false) else ((label_Under.f k a1 a0).bind fun t452 => (some (!t452)))) = some r := H
            have A85 := Aside0.mk A850
            clear A850
            by_cases c86 : t451 = true
            · subst c86
              have H1 : (some false) = some r := by rw [if_pos rfl] at H; exact H
              clear H
              have H := H1
              clear H1
              obtain rfl := Option.some.inj H
              go_enter Tryd.func9, Tryd.ntmps9
              go_wp2_with (first | ((with_reducible refine gate_callee (f := 12) rfl ?_); refine goesL_ (some 18) rfl rfl Tryd.func12 (by kernel_rfl) rfl #[] rfl (by (try simp only [List.map_toArray, List.map_cons, List.map_nil]); first | done | rfl | (simp only [List.length_drop, List.length_take]; rfl)) ?_; (with_reducible refine (bursarlaw04_fixed.calls k  true _ A3.out (Glob.below hG (by repeat (first | (with_reducible first | exact HB.out | apply below_alloc | apply pw_below_drewN | apply below_drew1) | exact HB.out)))).mono ?_); rintro e w87 ⟨rfl, hb⟩; refine ⟨_, rfl, ?_⟩; have n0_ := Aside0.mk (below_step (by repeat (first | (with_reducible first | exact HB.out | apply below_alloc | apply pw_below_drewN | apply below_drew1) | exact HB.out)) hb); clear HB; have HB := n0_; clear n0_; (try clear hb); (try clear hb2); (try clear hk); (try clear hi)) | ((with_reducible refine gate_callee (f := 24) rfl ?_); refine goesL_ (some 23) rfl rfl Tryd.func24 (by kernel_rfl) rfl #[.string a0] rfl (by (try simp only [List.map_toArray, List.map_cons, List.map_nil]); first | done | rfl | (simp only [List.length_drop, List.length_take]; rfl)) ?_; (with_reducible refine (label_Split.calls k a0 t446 t447 _ A5.out (Glob.below hG (by repeat (first | (with_reducible first | exact HB.out | apply below_alloc | apply pw_below_drewN | apply below_drew1) | exact HB.out)))).mono ?_); rintro e w88 ⟨v448, rfl, ho0, hb⟩; refine ⟨_, rfl, ?_⟩; have n0_ := Aside0.mk (Kd.R_lower ho0 (below_size (by repeat (first | (with_reducible first | exact HB.out | apply below_alloc | apply pw_below_drewN | apply below_drew1) | exact HB.out)))); have n1_ := Aside0.mk (below_step (by repeat (first | (with_reducible first | exact HB.out | apply below_alloc | apply pw_below_drewN | apply below_drew1) | exact HB.out)) hb); clear HB; have HO449 := n0_; have HB := n1_; clear n0_ n1_; (try clear hb); (try clear hb2); (try clear hk); (try clear hi); (try clear ho0)) | (go_at_call 20; (with_reducible refine (label_Path.calls k a0 t450 _ A82.out (Glob.below hG (by repeat (first | (with_reducible first | exact HB.out | apply below_alloc | apply pw_below_drewN | apply below_drew1) | exact HB.out)))).mono ?_); rintro e w89 ⟨rfl, hb⟩; have n0_ := Aside0.mk (Kd.R_below (by (with_reducible repeat (first | apply Kd.R_alloc | apply Kd.R_drewN | apply Kd.R_drew)); exact HO449.out) hb); have n1_ := Aside0.mk (below_step (by repeat (first | (with_reducible first | exact HB.out | apply below_alloc | apply pw_below_drewN | apply below_drew1) | exact HB.out)) hb); clear HO449; clear HB; have HO449 := n0_; have HB := n1_; clear n0_ n1_; (try clear hb); (try clear hb2); (try clear hk); (try clear hi); obtain ⟨Ao90, co90, eo90⟩ := Kd.R_slice HO449.out; subst eo90) | (go_at_call 22; (with_reducible refine (label_Under.calls k a0 a1 true _ A85.out (Glob.below hG (by repeat (first | (with_reducible first | exact HB.out | apply below_alloc | apply pw_below_drewN | apply below_drew1) | exact HB.out)))).mono ?_); rintro e w91 ⟨rfl, hb⟩; have n0_ := Aside0.mk (Kd.R_below (by (with_reducible repeat (first | apply Kd.R_alloc | apply Kd.R_drewN | apply Kd.R_drew)); exact HO449.out) hb); have n1_ := Aside0.mk (below_step (by repeat (first | (with_reducible first | exact HB.out | apply below_alloc | apply pw_below_drewN | apply below_drew1) | exact HB.out)) hb); clear HO449; clear HB; have HO449 := n0_; have HB := n1_; clear n0_ n1_; (try clear hb); (try clear hb2); (try clear hk); (try clear hi)))
              go_ret
              exact ⟨by first | rfl | (simp [errW_none, errW_some] <;> rfl) | (simp [*, errW_none, errW_some] <;> rfl), by repeat (first | (with_reducible first | exact HB.out | apply below_alloc | apply pw_below_drewN | apply below_drew1) | exact HB.out)⟩
            · replace c86 := Bool.eq_false_iff.mpr c86
              subst c86
              have H1 : ((label_Under.f k a1 a0).bind fun t452 => (some (!t452))) = some r := by rw [if_neg (show ¬ (false = true) by decide)] at H; exact H
              clear H
              have H := H1
              clear H1
              replace H := Option.bind_eq_some_iff.mp H
              obtain ⟨t452, A920, H⟩ := H
              replace H : (some (!t452)) = some r := H
              have A92 := Aside0.mk A920
              clear A920
              obtain rfl := Option.some.inj H
              go_enter Tryd.func9, Tryd.ntmps9
              go_wp2_with (first | ((with_reducible refine gate_callee (f := 12) rfl ?_); refine goesL_ (some 18) rfl rfl Tryd.func12 (by kernel_rfl) rfl #[] rfl (by (try simp only [List.map_toArray, List.map_cons, List.map_nil]); first | done | rfl | (simp only [List.length_drop, List.length_take]; rfl)) ?_; (with_reducible refine (bursarlaw04_fixed.calls k  true _ A3.out (Glob.below hG (by repeat (first | (with_reducible first | exact HB.out | apply below_alloc | apply pw_below_drewN | apply below_drew1) | exact HB.out)))).mono ?_); rintro e w93 ⟨rfl, hb⟩; refine ⟨_, rfl, ?_⟩; have n0_ := Aside0.mk (below_step (by repeat (first | (with_reducible first | exact HB.out | apply below_alloc | apply pw_below_drewN | apply below_drew1) | exact HB.out)) hb); clear HB; have HB := n0_; clear n0_; (try clear hb); (try clear hb2); (try clear hk); (try clear hi)) | ((with_reducible refine gate_callee (f := 24) rfl ?_); refine goesL_ (some 23) rfl rfl Tryd.func24 (by kernel_rfl) rfl #[.string a0] rfl (by (try simp only [List.map_toArray, List.map_cons, List.map_nil]); first | done | rfl | (simp only [List.length_drop, List.length_take]; rfl)) ?_; (with_reducible refine (label_Split.calls k a0 t446 t447 _ A5.out (Glob.below hG (by repeat (first | (with_reducible first | exact HB.out | apply below_alloc | apply pw_below_drewN | apply below_drew1) | exact HB.out)))).mono ?_); rintro e w94 ⟨v448, rfl, ho0, hb⟩; refine ⟨_, rfl, ?_⟩; have n0_ := Aside0.mk (Kd.R_lower ho0 (below_size (by repeat (first | (with_reducible first | exact HB.out | apply below_alloc | apply pw_below_drewN | apply below_drew1) | exact HB.out)))); have n1_ := Aside0.mk (below_step (by repeat (first | (with_reducible first | exact HB.out | apply below_alloc | apply pw_below_drewN | apply below_drew1) | exact HB.out)) hb); clear HB; have HO449 := n0_; have HB := n1_; clear n0_ n1_; (try clear hb); (try clear hb2); (try clear hk); (try clear hi); (try clear ho0)) | (go_at_call 20; (with_reducible refine (label_Path.calls k a0 t450 _ A82.out (Glob.below hG (by repeat (first | (with_reducible first | exact HB.out | apply below_alloc | apply pw_below_drewN | apply below_drew1) | exact HB.out)))).mono ?_); rintro e w95 ⟨rfl, hb⟩; have n0_ := Aside0.mk (Kd.R_below (by (with_reducible repeat (first | apply Kd.R_alloc | apply Kd.R_drewN | apply Kd.R_drew)); exact HO449.out) hb); have n1_ := Aside0.mk (below_step (by repeat (first | (with_reducible first | exact HB.out | apply below_alloc | apply pw_below_drewN | apply below_drew1) | exact HB.out)) hb); clear HO449; clear HB; have HO449 := n0_; have HB := n1_; clear n0_ n1_; (try clear hb); (try clear hb2); (try clear hk); (try clear hi); obtain ⟨Ao96, co96, eo96⟩ := Kd.R_slice HO449.out; subst eo96) | (go_at_call 22; (with_reducible refine (label_Under.calls k a0 a1 false _ A85.out (Glob.below hG (by repeat (first | (with_reducible first | exact HB.out | apply below_alloc | apply pw_below_drewN | apply below_drew1) | exact HB.out)))).mono ?_); rintro e w97 ⟨rfl, hb⟩; have n0_ := Aside0.mk (Kd.R_below (by (with_reducible repeat (first | apply Kd.R_alloc | apply Kd.R_drewN | apply Kd.R_drew)); exact HO449.out) hb); have n1_ := Aside0.mk (below_step (by repeat (first | (with_reducible first | exact HB.out | apply below_alloc | apply pw_below_drewN | apply below_drew1) | exact HB.out)) hb); clear HO449; clear HB; have HO449 := n0_; have HB := n1_; clear n0_ n1_; (try clear hb); (try clear hb2); (try clear hk); (try clear hi)) | (go_at_call 22; (with_reducible refine (label_Under.calls k a1 a0 t452 _ A92.out (Glob.below hG (by repeat (first | (with_reducible first | exact HB.out | apply below_alloc | apply pw_below_drewN | apply below_drew1) | exact HB.out)))).mono ?_); rintro e w98 ⟨rfl, hb⟩; have n0_ := Aside0.mk (Kd.R_below (by (with_reducible repeat (first | apply Kd.R_alloc | apply Kd.R_drewN | apply Kd.R_drew)); exact HO449.out) hb); have n1_ := Aside0.mk (below_step (by repeat (first | (with_reducible first | exact HB.out | apply below_alloc | apply pw_below_drewN | apply below_drew1) | exact HB.out)) hb); clear HO449; clear HB; have HO449 := n0_; have HB := n1_; clear n0_ n1_; (try clear hb); (try clear hb2); (try clear hk); (try clear hi)))
              go_ret
              exact ⟨by first | rfl | (simp [errW_none, errW_some] <;> rfl) | (simp [*, errW_none, errW_some] <;> rfl), by repeat (first | (with_reducible first | exact HB.out | apply below_alloc | apply pw_below_drewN | apply below_drew1) | exact HB.out)⟩
          · rw [if_neg c84] at H
            have c84b0 : ((t446.length : Int) == 0) = false := beq_eq_false_iff_ne.mpr c84
            have c84b1 : ((t446.length : Int) != 0) = true := bne_iff_ne.mpr c84
            have c84b2 : ¬ (t446 = []) := fun h_ => c84 (by rw [h_]; rfl)
            obtain rfl := Option.some.inj H
            go_enter Tryd.func9, Tryd.ntmps9
            go_wp2_with (first | ((with_reducible refine gate_callee (f := 12) rfl ?_); refine goesL_ (some 18) rfl rfl Tryd.func12 (by kernel_rfl) rfl #[] rfl (by (try simp only [List.map_toArray, List.map_cons, List.map_nil]); first | done | rfl | (simp only [List.length_drop, List.length_take]; rfl)) ?_; (with_reducible refine (bursarlaw04_fixed.calls k  true _ A3.out (Glob.below hG (by repeat (first | (with_reducible first | exact HB.out | apply below_alloc | apply pw_below_drewN | apply below_drew1) | exact HB.out)))).mono ?_); rintro e w99 ⟨rfl, hb⟩; refine ⟨_, rfl, ?_⟩; have n0_ := Aside0.mk (below_step (by repeat (first | (with_reducible first | exact HB.out | apply below_alloc | apply pw_below_drewN | apply below_drew1) | exact HB.out)) hb); clear HB; have HB := n0_; clear n0_; (try clear hb); (try clear hb2); (try clear hk); (try clear hi)) | ((with_reducible refine gate_callee (f := 24) rfl ?_); refine goesL_ (some 23) rfl rfl Tryd.func24 (by kernel_rfl) rfl #[.string a0] rfl (by (try simp only [List.map_toArray, List.map_cons, List.map_nil]); first | done | rfl | (simp only [List.length_drop, List.length_take]; rfl)) ?_; (with_reducible refine (label_Split.calls k a0 t446 t447 _ A5.out (Glob.below hG (by repeat (first | (with_reducible first | exact HB.out | apply below_alloc | apply pw_below_drewN | apply below_drew1) | exact HB.out)))).mono ?_); rintro e w100 ⟨v448, rfl, ho0, hb⟩; refine ⟨_, rfl, ?_⟩; have n0_ := Aside0.mk (Kd.R_lower ho0 (below_size (by repeat (first | (with_reducible first | exact HB.out | apply below_alloc | apply pw_below_drewN | apply below_drew1) | exact HB.out)))); have n1_ := Aside0.mk (below_step (by repeat (first | (with_reducible first | exact HB.out | apply below_alloc | apply pw_below_drewN | apply below_drew1) | exact HB.out)) hb); clear HB; have HO449 := n0_; have HB := n1_; clear n0_ n1_; (try clear hb); (try clear hb2); (try clear hk); (try clear hi); (try clear ho0)) | (go_at_call 20; (with_reducible refine (label_Path.calls k a0 t450 _ A82.out (Glob.below hG (by repeat (first | (with_reducible first | exact HB.out | apply below_alloc | apply pw_below_drewN | apply below_drew1) | exact HB.out)))).mono ?_); rintro e w101 ⟨rfl, hb⟩; have n0_ := Aside0.mk (Kd.R_below (by (with_reducible repeat (first | apply Kd.R_alloc | apply Kd.R_drewN | apply Kd.R_drew)); exact HO449.out) hb); have n1_ := Aside0.mk (below_step (by repeat (first | (with_reducible first | exact HB.out | apply below_alloc | apply pw_below_drewN | apply below_drew1) | exact HB.out)) hb); clear HO449; clear HB; have HO449 := n0_; have HB := n1_; clear n0_ n1_; (try clear hb); (try clear hb2); (try clear hk); (try clear hi); obtain ⟨Ao102, co102, eo102⟩ := Kd.R_slice HO449.out; subst eo102))
            go_ret
            exact ⟨by first | rfl | (simp [errW_none, errW_some] <;> rfl) | (simp [*, errW_none, errW_some] <;> rfl), by repeat (first | (with_reducible first | exact HB.out | apply below_alloc | apply pw_below_drewN | apply below_drew1) | exact HB.out)⟩
        · rw [if_neg c83] at H
          have c83b0 : (t450 == 41) = false := beq_eq_false_iff_ne.mpr c83
          have c83b1 : (t450 != 41) = true := bne_iff_ne.mpr c83
          obtain rfl := Option.some.inj H
          go_enter Tryd.func9, Tryd.ntmps9
          go_wp2_with (first | ((with_reducible refine gate_callee (f := 12) rfl ?_); refine goesL_ (some 18) rfl rfl Tryd.func12 (by kernel_rfl) rfl #[] rfl (by (try simp only [List.map_toArray, List.map_cons, List.map_nil]); first | done | rfl | (simp only [List.length_drop, List.length_take]; rfl)) ?_; (with_reducible refine (bursarlaw04_fixed.calls k  true _ A3.out (Glob.below hG (by repeat (first | (with_reducible first | exact HB.out | apply below_alloc | apply pw_below_drewN | apply below_drew1) | exact HB.out)))).mono ?_); rintro e w103 ⟨rfl, hb⟩; refine ⟨_, rfl, ?_⟩; have n0_ := Aside0.mk (below_step (by repeat (first | (with_reducible first | exact HB.out | apply below_alloc | apply pw_below_drewN | apply below_drew1) | exact HB.out)) hb); clear HB; have HB := n0_; clear n0_; (try clear hb); (try clear hb2); (try clear hk); (try clear hi)) | ((with_reducible refine gate_callee (f := 24) rfl ?_); refine goesL_ (some 23) rfl rfl Tryd.func24 (by kernel_rfl) rfl #[.string a0] rfl (by (try simp only [List.map_toArray, List.map_cons, List.map_nil]); first | done | rfl | (simp only [List.length_drop, List.length_take]; rfl)) ?_; (with_reducible refine (label_Split.calls k a0 t446 t447 _ A5.out (Glob.below hG (by repeat (first | (with_reducible first | exact HB.out | apply below_alloc | apply pw_below_drewN | apply below_drew1) | exact HB.out)))).mono ?_); rintro e w104 ⟨v448, rfl, ho0, hb⟩; refine ⟨_, rfl, ?_⟩; have n0_ := Aside0.mk (Kd.R_lower ho0 (below_size (by repeat (first | (with_reducible first | exact HB.out | apply below_alloc | apply pw_below_drewN | apply below_drew1) | exact HB.out)))); have n1_ := Aside0.mk (below_step (by repeat (first | (with_reducible first | exact HB.out | apply below_alloc | apply pw_below_drewN | apply below_drew1) | exact HB.out)) hb); clear HB; have HO449 := n0_; have HB := n1_; clear n0_ n1_; (try clear hb); (try clear hb2); (try clear hk); (try clear hi); (try clear ho0)) | (go_at_call 20; (with_reducible refine (label_Path.calls k a0 t450 _ A82.out (Glob.below hG (by repeat (first | (with_reducible first | exact HB.out | apply below_alloc | apply pw_below_drewN | apply below_drew1) | exact HB.out)))).mono ?_); rintro e w105 ⟨rfl, hb⟩; have n0_ := Aside0.mk (Kd.R_below (by (with_reducible repeat (first | apply Kd.R_alloc | apply Kd.R_drewN | apply Kd.R_drew)); exact HO449.out) hb); have n1_ := Aside0.mk (below_step (by repeat (first | (with_reducible first | exact HB.out | apply below_alloc | apply pw_below_drewN | apply below_drew1) | exact HB.out)) hb); clear HO449; clear HB; have HO449 := n0_; have HB := n1_; clear n0_ n1_; (try clear hb); (try clear hb2); (try clear hk); (try clear hi)))
          go_ret
          exact ⟨by first | rfl | (simp [errW_none, errW_some] <;> rfl) | (simp [*, errW_none, errW_some] <;> rfl), by repeat (first | (with_reducible first | exact HB.out | apply below_alloc | apply pw_below_drewN | apply below_drew1) | exact HB.out)⟩
      · rw [if_neg c81] at H
        have c81b0 : (t447 == 41) = false := beq_eq_false_iff_ne.mpr c81
        have c81b1 : (t447 != 41) = true := bne_iff_ne.mpr c81
        obtain rfl := Option.some.inj H
        go_enter Tryd.func9, Tryd.ntmps9
        go_wp2_with (first | ((with_reducible refine gate_callee (f := 12) rfl ?_); refine goesL_ (some 18) rfl rfl Tryd.func12 (by kernel_rfl) rfl #[] rfl (by (try simp only [List.map_toArray, List.map_cons, List.map_nil]); first | done | rfl | (simp only [List.length_drop, List.length_take]; rfl)) ?_; (with_reducible refine (bursarlaw04_fixed.calls k  true _ A3.out (Glob.below hG (by repeat (first | (with_reducible first | exact HB.out | apply below_alloc | apply pw_below_drewN | apply below_drew1) | exact HB.out)))).mono ?_); rintro e w106 ⟨rfl, hb⟩; refine ⟨_, rfl, ?_⟩; have n0_ := Aside0.mk (below_step (by repeat (first | (with_reducible first | exact HB.out | apply below_alloc | apply pw_below_drewN | apply below_drew1) | exact HB.out)) hb); clear HB; have HB := n0_; clear n0_; (try clear hb); (try clear hb2); (try clear hk); (try clear hi)) | ((with_reducible refine gate_callee (f := 24) rfl ?_); refine goesL_ (some 23) rfl rfl Tryd.func24 (by kernel_rfl) rfl #[.string a0] rfl (by (try simp only [List.map_toArray, List.map_cons, List.map_nil]); first | done | rfl | (simp only [List.length_drop, List.length_take]; rfl)) ?_; (with_reducible refine (label_Split.calls k a0 t446 t447 _ A5.out (Glob.below hG (by repeat (first | (with_reducible first | exact HB.out | apply below_alloc | apply pw_below_drewN | apply below_drew1) | exact HB.out)))).mono ?_); rintro e w107 ⟨v448, rfl, ho0, hb⟩; refine ⟨_, rfl, ?_⟩; have n0_ := Aside0.mk (Kd.R_lower ho0 (below_size (by repeat (first | (with_reducible first | exact HB.out | apply below_alloc | apply pw_below_drewN | apply below_drew1) | exact HB.out)))); have n1_ := Aside0.mk (below_step (by repeat (first | (with_reducible first | exact HB.out | apply below_alloc | apply pw_below_drewN | apply below_drew1) | exact HB.out)) hb); clear HB; have HO449 := n0_; have HB := n1_; clear n0_ n1_; (try clear hb); (try clear hb2); (try clear hk); (try clear hi); (try clear ho0)))
        go_ret
        exact ⟨by first | rfl | (simp [errW_none, errW_some] <;> rfl) | (simp [*, errW_none, errW_some] <;> rfl), by repeat (first | (with_reducible first | exact HB.out | apply below_alloc | apply pw_below_drewN | apply below_drew1) | exact HB.out)⟩
  · replace c4 := Bool.eq_false_iff.mpr c4
    subst c4
    have H1 : (some false) = some r := by rw [if_neg (show ¬ (false = true) by decide)] at H; exact H
    clear H
    have H := H1
    clear H1
    obtain rfl := Option.some.inj H
    go_enter Tryd.func9, Tryd.ntmps9
    go_wp2_with (first | ((with_reducible refine gate_callee (f := 12) rfl ?_); refine goesL_ (some 18) rfl rfl Tryd.func12 (by kernel_rfl) rfl #[] rfl (by (try simp only [List.map_toArray, List.map_cons, List.map_nil]); first | done | rfl | (simp only [List.length_drop, List.length_take]; rfl)) ?_; (with_reducible refine (bursarlaw04_fixed.calls k  false _ A3.out (Glob.below hG (by repeat (first | (with_reducible first | exact HB.out | apply below_alloc | apply pw_below_drewN | apply below_drew1) | exact HB.out)))).mono ?_); rintro e w108 ⟨rfl, hb⟩; refine ⟨_, rfl, ?_⟩; have n0_ := Aside0.mk (below_step (by repeat (first | (with_reducible first | exact HB.out | apply below_alloc | apply pw_below_drewN | apply below_drew1) | exact HB.out)) hb); clear HB; have HB := n0_; clear n0_; (try clear hb); (try clear hb2); (try clear hk); (try clear hi)))
    go_ret
    exact ⟨by first | rfl | (simp [errW_none, errW_some] <;> rfl) | (simp [*, errW_none, errW_some] <;> rfl), by repeat (first | (with_reducible first | exact HB.out | apply below_alloc | apply pw_below_drewN | apply below_drew1) | exact HB.out)⟩

end Go.Proofs.YteaiobgnhlpblaaDoor.Q
namespace Go.Proofs.YteaiobgnhlpblaaDoor.Q
open Go.RowKit Go.Proofs.YteaiobgnhlpblaaDoorW.PrintWords Go.Proofs.YteaiobgnhlpblaaDoorW.PrintLast Go.Proofs.YteaiobgnhlpblaaDoorW.PrintMore
attribute [local go_sem] max2_int min2_int max_two min_two max_three min_three max_four min_four   -- for this text's walks alone
set_option linter.unusedVariables false
set_option linter.unusedSimpArgs false

/-! ### bursarref04_Name: function 19 -/
mutual
def bursarref04_Name.j0 : Nat → ByteArray → Bool → Option (Bool)
  | 0, _, _ => none
  | k + 1, x0, x25 => if x25 = true then (some false) else (bursarref04_Name.l0 k x0 0)
def bursarref04_Name.l0 : Nat → ByteArray → Int → Option (Bool)
  | 0, _, _ => none
  | k + 1, x0, x3 => if x3 < (x0.size : Int) then (if 0 ≤ x3 then (if (bt x0 x3) ≥ 97 then (if ((bt x0 x3) ≤ 122) then (bursarref04_Name.l0 k x0 (wrap64 (x3 + 1))) else (if (bt x0 x3) ≥ 48 then (if ((bt x0 x3) ≤ 57) then (bursarref04_Name.l0 k x0 (wrap64 (x3 + 1))) else (if (bt x0 x3) = 45 then (bursarref04_Name.l0 k x0 (wrap64 (x3 + 1))) else (some false))) else (if (bt x0 x3) = 45 then (bursarref04_Name.l0 k x0 (wrap64 (x3 + 1))) else (some false)))) else (if (bt x0 x3) ≥ 48 then (if ((bt x0 x3) ≤ 57) then (bursarref04_Name.l0 k x0 (wrap64 (x3 + 1))) else (if (bt x0 x3) = 45 then (bursarref04_Name.l0 k x0 (wrap64 (x3 + 1))) else (some false))) else (if (bt x0 x3) = 45 then (bursarref04_Name.l0 k x0 (wrap64 (x3 + 1))) else (some false)))) else (none)) else (some true)
end
def bursarref04_Name.f (k : Nat) (a0 : ByteArray) : Option (Bool) := if (a0.size : Int) < 1 then (bursarref04_Name.j0 k a0 true) else (if (a0.size : Int) > 32 then (bursarref04_Name.j0 k a0 true) else (if 0 < (a0.size : Int) then (if (bt a0 0) = 45 then (bursarref04_Name.j0 k a0 true) else (if 0 ≤ (wrap64 ((a0.size : Int) - 1)) then (if (wrap64 ((a0.size : Int) - 1)) < (a0.size : Int) then (bursarref04_Name.j0 k a0 ((bt a0 (wrap64 ((a0.size : Int) - 1))) == 45)) else (none)) else (none))) else (none)))
theorem bursarref04_Name.mono_l : ∀ k, (∀ y0 y1, LeO (bursarref04_Name.j0 k y0 y1) (bursarref04_Name.j0 (k + 1) y0 y1)) ∧ (∀ y0 y1, LeO (bursarref04_Name.l0 k y0 y1) (bursarref04_Name.l0 (k + 1) y0 y1))
  | 0 => ⟨fun _ _ r h => by simp [bursarref04_Name.j0] at h, fun _ _ r h => by simp [bursarref04_Name.l0] at h⟩
  | k + 1 => by
    obtain ⟨ih0, ih1⟩ := bursarref04_Name.mono_l k
    refine ⟨?_, ?_⟩
    · intro y0 y1
      unfold bursarref04_Name.j0
      repeat' first
      | (with_reducible exact ih0 _ _)
      | (with_reducible exact ih1 _ _)
      | (with_reducible exact LeO.refl _)
      | (with_reducible exact LeO.none _)
      | (with_reducible refine LeO.ite ?_ ?_)
      | (with_reducible refine LeO.bind ?_ (fun _ => ?_))
      | exact ih0 _ _
      | exact ih1 _ _
      | exact LeO.none _
      | refine LeO.ite ?_ ?_
      | refine LeO.bind ?_ (fun _ => ?_)
    · intro y0 y1
      unfold bursarref04_Name.l0
      repeat' first
      | (with_reducible exact ih0 _ _)
      | (with_reducible exact ih1 _ _)
      | (with_reducible exact LeO.refl _)
      | (with_reducible exact LeO.none _)
      | (with_reducible refine LeO.ite ?_ ?_)
      | (with_reducible refine LeO.bind ?_ (fun _ => ?_))
      | exact ih0 _ _
      | exact ih1 _ _
      | exact LeO.none _
      | refine LeO.ite ?_ ?_
      | refine LeO.bind ?_ (fun _ => ?_)
theorem bursarref04_Name.mono : ∀ a0 k, LeO (bursarref04_Name.f k a0) (bursarref04_Name.f (k + 1) a0) := by
  intro a0 k
  obtain ⟨ih0, ih1⟩ := bursarref04_Name.mono_l k
  unfold bursarref04_Name.f
  repeat' first
      | (with_reducible exact ih0 _ _)
      | (with_reducible exact ih1 _ _)
      | (with_reducible exact LeO.refl _)
      | (with_reducible exact LeO.none _)
      | (with_reducible refine LeO.ite ?_ ?_)
      | (with_reducible refine LeO.bind ?_ (fun _ => ?_))
      | exact ih0 _ _
      | exact ih1 _ _
      | exact LeO.none _
      | refine LeO.ite ?_ ?_
      | refine LeO.bind ?_ (fun _ => ?_)
set_option maxHeartbeats 8000000 in
set_option maxRecDepth 100000 in
theorem bursarref04_Name.calls (k : Nat) (a0 : ByteArray) (r : Bool) (w : World) (h : bursarref04_Name.f k a0 = some r) :
    Calls Tryd.prog 19 #[.string a0] w fun e w' => e = .returned (.bool r) ∧ Drawn0 w w' := by
  have H : (if (a0.size : Int) < 1 then (bursarref04_Name.j0 k a0 true) else (if (a0.size : Int) > 32 then (bursarref04_Name.j0 k a0 true) else (if 0 < (a0.size : Int) then (if (bt a0 0) = 45 then (bursarref04_Name.j0 k a0 true) else (if 0 ≤ (wrap64 ((a0.size : Int) - 1)) then (if (wrap64 ((a0.size : Int) - 1)) < (a0.size : Int) then (bursarref04_Name.j0 k a0 ((bt a0 (wrap64 ((a0.size : Int) - 1))) == 45)) else (none)) else (none))) else (none)))) = some r := h
  clear h
  have HC2 := Aside0.mk H
  clear H
  go_enter Tryd.func19, Tryd.ntmps19
  go_upto_region 1 with (fail)
  go_cut [25] (fun v25 wc => ∃ (kq : Nat) (x25_1 : Bool), v25 = .bool x25_1 ∧ Aside0 (bursarref04_Name.j0 kq a0 x25_1 = some r) ∧ Aside0 (kq ≤ k) ∧ Drawn0 w wc)
  case first =>
    have H := HC2.out
    clear HC2
    by_cases c3 : (a0.size : Int) < 1
    · rw [if_pos c3] at H
      have c3b0 : decide ((a0.size : Int) < 1) = true := decide_eq_true c3
      have c3b1 : decide (a0.size < 1) = true := decide_eq_true (by omega)
      clear c3
      (first | rw [c3b0] | (simp only [i64_w, i32_w]; rw [c3b0]) | skip)
      have H' := Aside0.mk H
      clear H
      go_wp2
      go_meet
      case rel => exact ⟨_, (true), (by first | rfl | (simp; done) | (simp [*]; done) | (simp; rw [Bool.eq_iff_iff]; simp; done) | (rw [Bool.eq_iff_iff]; simp; done)), H', ⟨by first | omega | exact Nat.le_refl _⟩, by repeat (first | exact Drawn0.refl _ | apply Drawn0.step)⟩
    · rw [if_neg c3] at H
      have c3b0 : decide ((a0.size : Int) < 1) = false := decide_eq_false c3
      have c3b1 : decide (a0.size < 1) = false := decide_eq_false (by omega)
      clear c3
      (first | rw [c3b0] | (simp only [i64_w, i32_w]; rw [c3b0]) | skip)
      by_cases c4 : (a0.size : Int) > 32
      · rw [if_pos c4] at H
        have c4b0 : decide (32 < (a0.size : Int)) = true := decide_eq_true c4
        have c4b1 : decide (32 < a0.size) = true := decide_eq_true (by omega)
        clear c4
        have H' := Aside0.mk H
        clear H
        go_wp2
        go_meet
        case rel => exact ⟨_, (true), (by first | rfl | (simp; done) | (simp [*]; done) | (simp; rw [Bool.eq_iff_iff]; simp; done) | (rw [Bool.eq_iff_iff]; simp; done)), H', ⟨by first | omega | exact Nat.le_refl _⟩, by repeat (first | exact Drawn0.refl _ | apply Drawn0.step)⟩
      · rw [if_neg c4] at H
        have c4b0 : decide (32 < (a0.size : Int)) = false := decide_eq_false c4
        have c4b1 : decide (32 < a0.size) = false := decide_eq_false (by omega)
        clear c4
        by_cases c5 : 0 < (a0.size : Int)
        · rw [if_pos c5] at H
          have c5b0 : decide (0 < (a0.size : Int)) = true := decide_eq_true c5
          have c5b1 : decide (0 < a0.size) = true := decide_eq_true (by omega)
          clear c5
          by_cases c7 : (bt a0 0) = 45
          · rw [if_pos c7] at H
            have c7b0 : ((bt a0 0) == 45) = true := beq_iff_eq.mpr c7
            have c7b1 : ((bt a0 0) != 45) = false := bne_eq_false_iff_eq.mpr c7
            clear c7
            have H' := Aside0.mk H
            clear H
            have p6 : 0 ≤ (0 : Int) := (by omega)
            have q6 : 0 < a0.size := (by have : (0 : Int) < (a0.size : Int) := of_decide_eq_true (by first | (with_reducible assumption) | assumption); omega)
            have hx6 : ∀ h : 0 < a0.size, ((a0[0]'h).toNat : Int) = bt a0 0 := bt_at a0 0
            clear p6
            have qi6 : (0 < (a0.size : Int)) = True := eq_true (of_decide_eq_true (by first | (with_reducible assumption) | assumption))
            replace q6 := eq_true q6
            go_wp2
            go_meet
            case rel => exact ⟨_, (true), (by first | rfl | (simp; done) | (simp [*]; done) | (simp; rw [Bool.eq_iff_iff]; simp; done) | (rw [Bool.eq_iff_iff]; simp; done)), H', ⟨by first | omega | exact Nat.le_refl _⟩, by repeat (first | exact Drawn0.refl _ | apply Drawn0.step)⟩
          · rw [if_neg c7] at H
            have c7b0 : ((bt a0 0) == 45) = false := beq_eq_false_iff_ne.mpr c7
            have c7b1 : ((bt a0 0) != 45) = true := bne_iff_ne.mpr c7
            obtain ⟨ji8, hji8⟩ : ∃ j_ : Int, (wrap64 ((a0.size : Int) - 1)) = j_ := ⟨_, rfl⟩
            replace H : (if 0 ≤ (ji8) then (if (ji8) < (a0.size : Int) then (bursarref04_Name.j0 k a0 ((bt a0 (ji8)) == 45)) else (none)) else (none)) = some r := by first | (rw [hji8] at H; exact H) | (simp only [hji8] at H ⊢; exact H)
            have hji8w : (IntKind.i64.wrap ((a0.size : Int) - 1)) = ji8 := (i64_w _).trans hji8
            by_cases c9 : 0 ≤ (ji8)
            · rw [if_pos c9] at H
              have c9b0 : decide (0 ≤ (ji8)) = true := decide_eq_true c9
              clear c9
              by_cases c10 : (ji8) < (a0.size : Int)
              · rw [if_pos c10] at H
                have c10b0 : decide ((ji8) < (a0.size : Int)) = true := decide_eq_true c10
                clear c10
                have H' := Aside0.mk H
                clear H
                have p6 : 0 ≤ (0 : Int) := (by omega)
                have q6 : 0 < a0.size := (by have : (0 : Int) < (a0.size : Int) := of_decide_eq_true (by first | (with_reducible assumption) | assumption); omega)
                have hx6 : ∀ h : 0 < a0.size, ((a0[0]'h).toNat : Int) = bt a0 0 := bt_at a0 0
                clear p6
                have qi6 : (0 < (a0.size : Int)) = True := eq_true (of_decide_eq_true (by first | (with_reducible assumption) | assumption))
                replace q6 := eq_true q6
                have p11 : 0 ≤ ((ji8) : Int) := of_decide_eq_true (by first | (with_reducible assumption) | assumption)
                have q11 : (ji8) < (a0.size : Int) := of_decide_eq_true (by first | (with_reducible assumption) | assumption)
                have hx11 := bt_at a0 (ji8)
                replace p11 := eq_true p11
                replace q11 := eq_true q11
                go_wp2
                go_meet
                case rel => exact ⟨_, (((bt a0 (ji8)) == 45)), (by first | rfl | (simp; done) | (simp only [← hji8] <;> (first | rfl | simp)) | (simp [*]; done)), H', ⟨by first | omega | exact Nat.le_refl _⟩, by repeat (first | exact Drawn0.refl _ | apply Drawn0.step)⟩
              · rw [if_neg c10] at H
                exact absurd H (by simp)
            · rw [if_neg c9] at H
              exact absurd H (by simp)
        · rw [if_neg c5] at H
          exact absurd H (by simp)
  case rest =>
    clear HC2
    try clear c1
    try clear p1
    try clear q1
    try clear hx1
    try clear p2
    try clear c3
    try clear c3b0
    try clear c3b1
    try clear c4
    try clear c4b0
    try clear c4b1
    try clear c5
    try clear c5b0
    try clear c5b1
    try clear p6
    try clear q6
    try clear hx6
    try clear qi6
    try clear c7
    try clear c7b0
    try clear c7b1
    try clear c9
    try clear c9b0
    try clear c10
    try clear c10b0
    try clear p11
    try clear q11
    try clear hx11
    try clear p11
    try clear p6
    try clear q11
    try clear q6
    obtain ⟨kq, x25_1, rfl, HA, HJ1, ⟨mc1, rfl⟩⟩ := hcut
    cases kq with
    | zero => exact absurd HA.out (by simp [bursarref04_Name.j0])
    | succ kj1 =>
      have H := HA.out
      clear HA
      simp only [bursarref04_Name.j0] at H
      by_cases c12 : x25_1 = true
      · subst c12
        have H1 : (some false) = some r := by rw [if_pos rfl] at H; exact H
        clear H
        have H := H1
        clear H1
        obtain rfl := Option.some.inj H
        go_wp2
        go_ret
        exact ⟨by first | rfl | (simp; done) | (simp [*]; done), by repeat (first | exact Drawn0.refl _ | apply Drawn0.step)⟩
      · replace c12 := Bool.eq_false_iff.mpr c12
        subst c12
        have H1 : (bursarref04_Name.l0 kj1 a0 0) = some r := by rw [if_neg (show ¬ (false = true) by decide)] at H; exact H
        clear H
        have H := H1
        clear H1
        have H' := Aside0.mk H
        clear H
        go_wp2
        go_loopg [3] kj1 (fun kq v3 w' => ∃ (x3_2 : Int), v3 = .int .i64 x3_2 ∧ Aside0 (bursarref04_Name.l0 kq a0 x3_2 = some r) ∧ Aside0 (kq ≤ kj1) ∧ Drawn0 w w')
        case atStart => exact ⟨(0), (by first | rfl | (simp; done) | (simp [*]; done) | (simp; rw [Bool.eq_iff_iff]; simp; done) | (rw [Bool.eq_iff_iff]; simp; done)), H', ⟨Nat.le_refl _⟩, by repeat (first | exact Drawn0.refl _ | apply Drawn0.step)⟩
        case round =>
          clear H'
          try clear c1
          try clear p1
          try clear q1
          try clear hx1
          try clear p2
          try clear c3
          try clear c3b0
          try clear c3b1
          try clear c4
          try clear c4b0
          try clear c4b1
          try clear c5
          try clear c5b0
          try clear c5b1
          try clear p6
          try clear q6
          try clear hx6
          try clear qi6
          try clear c7
          try clear c7b0
          try clear c7b1
          try clear c9
          try clear c9b0
          try clear c10
          try clear c10b0
          try clear p11
          try clear q11
          try clear hx11
          try clear c12
          try clear p1
          try clear p11
          try clear p2
          try clear p6
          try clear q1
          try clear q11
          try clear q6
          obtain ⟨x3_2, rfl, HA, HK2, ⟨m2, rfl⟩⟩ := hrel
          cases gk with
          | zero => exact absurd HA.out (by simp [bursarref04_Name.l0])
          | succ k2 =>
            have H := HA.out
            clear HA
            simp only [bursarref04_Name.l0] at H
            by_cases c13 : x3_2 < (a0.size : Int)
            · rw [if_pos c13] at H
              have c13b0 : decide (x3_2 < (a0.size : Int)) = true := decide_eq_true c13
              clear c13
              by_cases c14 : 0 ≤ x3_2
              · rw [if_pos c14] at H
                have c14b0 : decide (0 ≤ x3_2) = true := decide_eq_true c14
                clear c14
                by_cases c16 : (bt a0 x3_2) ≥ 97
                · rw [if_pos c16] at H
                  have c16b0 : decide (97 ≤ (bt a0 x3_2)) = true := decide_eq_true c16
                  clear c16
                  by_cases c17 : ((bt a0 x3_2) ≤ 122)
                  · rw [if_pos c17] at H
                    have c17b0 : decide ((bt a0 x3_2) ≤ 122) = true := decide_eq_true c17
                    clear c17
                    have H' := Aside0.mk H
                    clear H
                    have p15 : 0 ≤ (x3_2 : Int) := of_decide_eq_true (by first | (with_reducible assumption) | assumption)
                    have q15 : x3_2 < (a0.size : Int) := of_decide_eq_true (by first | (with_reducible assumption) | assumption)
                    have hx15 := bt_at a0 x3_2
                    replace p15 := eq_true p15
                    replace q15 := eq_true q15
                    go_wp2
                    go_roundg k2
                    case measure => have := HJ1.out; have := HK2.out; omega
                    case rel => exact ⟨(wrap64 (x3_2 + 1)), (by first | rfl | (simp; done) | (simp [*]; done) | (simp; rw [Bool.eq_iff_iff]; simp; done) | (rw [Bool.eq_iff_iff]; simp; done)), H', ⟨by have := HJ1.out; have := HK2.out; omega⟩, by repeat (first | exact Drawn0.refl _ | apply Drawn0.step)⟩
                  · rw [if_neg c17] at H
                    have c17b0 : decide ((bt a0 x3_2) ≤ 122) = false := decide_eq_false c17
                    clear c17
                    by_cases c18 : (bt a0 x3_2) ≥ 48
                    · rw [if_pos c18] at H
                      have c18b0 : decide (48 ≤ (bt a0 x3_2)) = true := decide_eq_true c18
                      clear c18
                      by_cases c19 : ((bt a0 x3_2) ≤ 57)
                      · rw [if_pos c19] at H
                        have c19b0 : decide ((bt a0 x3_2) ≤ 57) = true := decide_eq_true c19
                        clear c19
                        have H' := Aside0.mk H
                        clear H
                        have p15 : 0 ≤ (x3_2 : Int) := of_decide_eq_true (by first | (with_reducible assumption) | assumption)
                        have q15 : x3_2 < (a0.size : Int) := of_decide_eq_true (by first | (with_reducible assumption) | assumption)
                        have hx15 := bt_at a0 x3_2
                        replace p15 := eq_true p15
                        replace q15 := eq_true q15
                        go_wp2
                        go_roundg k2
                        case measure => have := HJ1.out; have := HK2.out; omega
                        case rel => exact ⟨(wrap64 (x3_2 + 1)), (by first | rfl | (simp; done) | (simp [*]; done) | (simp; rw [Bool.eq_iff_iff]; simp; done) | (rw [Bool.eq_iff_iff]; simp; done)), H', ⟨by have := HJ1.out; have := HK2.out; omega⟩, by repeat (first | exact Drawn0.refl _ | apply Drawn0.step)⟩
                      · rw [if_neg c19] at H
                        have c19b0 : decide ((bt a0 x3_2) ≤ 57) = false := decide_eq_false c19
                        clear c19
                        by_cases c20 : (bt a0 x3_2) = 45
                        · rw [if_pos c20] at H
                          have c20b0 : ((bt a0 x3_2) == 45) = true := beq_iff_eq.mpr c20
                          have c20b1 : ((bt a0 x3_2) != 45) = false := bne_eq_false_iff_eq.mpr c20
                          clear c20
                          have H' := Aside0.mk H
                          clear H
                          have p15 : 0 ≤ (x3_2 : Int) := of_decide_eq_true (by first | (with_reducible assumption) | assumption)
                          have q15 : x3_2 < (a0.size : Int) := of_decide_eq_true (by first | (with_reducible assumption) | assumption)
                          have hx15 := bt_at a0 x3_2
                          replace p15 := eq_true p15
                          replace q15 := eq_true q15
                          go_wp2
                          go_roundg k2
                          case measure => have := HJ1.out; have := HK2.out; omega
                          case rel => exact ⟨(wrap64 (x3_2 + 1)), (by first | rfl | (simp; done) | (simp [*]; done) | (simp; rw [Bool.eq_iff_iff]; simp; done) | (rw [Bool.eq_iff_iff]; simp; done)), H', ⟨by have := HJ1.out; have := HK2.out; omega⟩, by repeat (first | exact Drawn0.refl _ | apply Drawn0.step)⟩
                        · rw [if_neg c20] at H
                          have c20b0 : ((bt a0 x3_2) == 45) = false := beq_eq_false_iff_ne.mpr c20
                          have c20b1 : ((bt a0 x3_2) != 45) = true := bne_iff_ne.mpr c20
                          obtain rfl := Option.some.inj H
                          have p15 : 0 ≤ (x3_2 : Int) := of_decide_eq_true (by first | (with_reducible assumption) | assumption)
                          have q15 : x3_2 < (a0.size : Int) := of_decide_eq_true (by first | (with_reducible assumption) | assumption)
                          have hx15 := bt_at a0 x3_2
                          replace p15 := eq_true p15
                          replace q15 := eq_true q15
                          go_wp2
                          go_ret
                          exact ⟨by first | rfl | (simp; done) | (simp [*]; done), by repeat (first | exact Drawn0.refl _ | apply Drawn0.step)⟩
                    · rw [if_neg c18] at H
                      have c18b0 : decide (48 ≤ (bt a0 x3_2)) = false := decide_eq_false c18
                      clear c18
                      by_cases c21 : (bt a0 x3_2) = 45
                      · rw [if_pos c21] at H
                        have c21b0 : ((bt a0 x3_2) == 45) = true := beq_iff_eq.mpr c21
                        have c21b1 : ((bt a0 x3_2) != 45) = false := bne_eq_false_iff_eq.mpr c21
                        clear c21
                        have H' := Aside0.mk H
                        clear H
                        have p15 : 0 ≤ (x3_2 : Int) := of_decide_eq_true (by first | (with_reducible assumption) | assumption)
                        have q15 : x3_2 < (a0.size : Int) := of_decide_eq_true (by first | (with_reducible assumption) | assumption)
                        have hx15 := bt_at a0 x3_2
                        replace p15 := eq_true p15
                        replace q15 := eq_true q15
                        go_wp2
                        go_roundg k2
                        case measure => have := HJ1.out; have := HK2.out; omega
                        case rel => exact ⟨(wrap64 (x3_2 + 1)), (by first | rfl | (simp; done) | (simp [*]; done) | (simp; rw [Bool.eq_iff_iff]; simp; done) | (rw [Bool.eq_iff_iff]; simp; done)), H', ⟨by have := HJ1.out; have := HK2.out; omega⟩, by repeat (first | exact Drawn0.refl _ | apply Drawn0.step)⟩
                      · rw [if_neg c21] at H
                        have c21b0 : ((bt a0 x3_2) == 45) = false := beq_eq_false_iff_ne.mpr c21
                        have c21b1 : ((bt a0 x3_2) != 45) = true := bne_iff_ne.mpr c21
                        obtain rfl := Option.some.inj H
                        have p15 : 0 ≤ (x3_2 : Int) := of_decide_eq_true (by first | (with_reducible assumption) | assumption)
                        have q15 : x3_2 < (a0.size : Int) := of_decide_eq_true (by first | (with_reducible assumption) | assumption)
                        have hx15 := bt_at a0 x3_2
                        replace p15 := eq_true p15
                        replace q15 := eq_true q15
                        go_wp2
                        go_ret
                        exact ⟨by first | rfl | (simp; done) | (simp [*]; done), by repeat (first | exact Drawn0.refl _ | apply Drawn0.step)⟩
                · rw [if_neg c16] at H
                  have c16b0 : decide (97 ≤ (bt a0 x3_2)) = false := decide_eq_false c16
                  clear c16
                  by_cases c22 : (bt a0 x3_2) ≥ 48
                  · rw [if_pos c22] at H
                    have c22b0 : decide (48 ≤ (bt a0 x3_2)) = true := decide_eq_true c22
                    clear c22
                    by_cases c23 : ((bt a0 x3_2) ≤ 57)
                    · rw [if_pos c23] at H
                      have c23b0 : decide ((bt a0 x3_2) ≤ 57) = true := decide_eq_true c23
                      clear c23
                      have H' := Aside0.mk H
                      clear H
                      have p15 : 0 ≤ (x3_2 : Int) := of_decide_eq_true (by first | (with_reducible assumption) | assumption)
                      have q15 : x3_2 < (a0.size : Int) := of_decide_eq_true (by first | (with_reducible assumption) | assumption)
                      have hx15 := bt_at a0 x3_2
                      replace p15 := eq_true p15
                      replace q15 := eq_true q15
                      go_wp2
                      go_roundg k2
                      case measure => have := HJ1.out; have := HK2.out; omega
                      case rel => exact ⟨(wrap64 (x3_2 + 1)), (by first | rfl | (simp; done) | (simp [*]; done) | (simp; rw [Bool.eq_iff_iff]; simp; done) | (rw [Bool.eq_iff_iff]; simp; done)), H', ⟨by have := HJ1.out; have := HK2.out; omega⟩, by repeat (first | exact Drawn0.refl _ | apply Drawn0.step)⟩
                    · rw [if_neg c23] at H
                      have c23b0 : decide ((bt a0 x3_2) ≤ 57) = false := decide_eq_false c23
                      clear c23
                      by_cases c24 : (bt a0 x3_2) = 45
                      · rw [if_pos c24] at H
                        have c24b0 : ((bt a0 x3_2) == 45) = true := beq_iff_eq.mpr c24
                        have c24b1 : ((bt a0 x3_2) != 45) = false := bne_eq_false_iff_eq.mpr c24
                        clear c24
                        have H' := Aside0.mk H
                        clear H
                        have p15 : 0 ≤ (x3_2 : Int) := of_decide_eq_true (by first | (with_reducible assumption) | assumption)
                        have q15 : x3_2 < (a0.size : Int) := of_decide_eq_true (by first | (with_reducible assumption) | assumption)
                        have hx15 := bt_at a0 x3_2
                        replace p15 := eq_true p15
                        replace q15 := eq_true q15
                        go_wp2
                        go_roundg k2
                        case measure => have := HJ1.out; have := HK2.out; omega
                        case rel => exact ⟨(wrap64 (x3_2 + 1)), (by first | rfl | (simp; done) | (simp [*]; done) | (simp; rw [Bool.eq_iff_iff]; simp; done) | (rw [Bool.eq_iff_iff]; simp; done)), H', ⟨by have := HJ1.out; have := HK2.out; omega⟩, by repeat (first | exact Drawn0.refl _ | apply Drawn0.step)⟩
                      · rw [if_neg c24] at H
                        have c24b0 : ((bt a0 x3_2) == 45) = false := beq_eq_false_iff_ne.mpr c24
                        have c24b1 : ((bt a0 x3_2) != 45) = true := bne_iff_ne.mpr c24
                        obtain rfl := Option.some.inj H
                        have p15 : 0 ≤ (x3_2 : Int) := of_decide_eq_true (by first | (with_reducible assumption) | assumption)
                        have q15 : x3_2 < (a0.size : Int) := of_decide_eq_true (by first | (with_reducible assumption) | assumption)
                        have hx15 := bt_at a0 x3_2
                        replace p15 := eq_true p15
                        replace q15 := eq_true q15
                        go_wp2
                        go_ret
                        exact ⟨by first | rfl | (simp; done) | (simp [*]; done), by repeat (first | exact Drawn0.refl _ | apply Drawn0.step)⟩
                  · rw [if_neg c22] at H
                    have c22b0 : decide (48 ≤ (bt a0 x3_2)) = false := decide_eq_false c22
                    clear c22
                    by_cases c25 : (bt a0 x3_2) = 45
                    · rw [if_pos c25] at H
                      have c25b0 : ((bt a0 x3_2) == 45) = true := beq_iff_eq.mpr c25
                      have c25b1 : ((bt a0 x3_2) != 45) = false := bne_eq_false_iff_eq.mpr c25
                      clear c25
                      have H' := Aside0.mk H
                      clear H
                      have p15 : 0 ≤ (x3_2 : Int) := of_decide_eq_true (by first | (with_reducible assumption) | assumption)
                      have q15 : x3_2 < (a0.size : Int) := of_decide_eq_true (by first | (with_reducible assumption) | assumption)
                      have hx15 := bt_at a0 x3_2
                      replace p15 := eq_true p15
                      replace q15 := eq_true q15
                      go_wp2
                      go_roundg k2
                      case measure => have := HJ1.out; have := HK2.out; omega
                      case rel => exact ⟨(wrap64 (x3_2 + 1)), (by first | rfl | (simp; done) | (simp [*]; done) | (simp; rw [Bool.eq_iff_iff]; simp; done) | (rw [Bool.eq_iff_iff]; simp; done)), H', ⟨by have := HJ1.out; have := HK2.out; omega⟩, by repeat (first | exact Drawn0.refl _ | apply Drawn0.step)⟩
                    · rw [if_neg c25] at H
                      have c25b0 : ((bt a0 x3_2) == 45) = false := beq_eq_false_iff_ne.mpr c25
                      have c25b1 : ((bt a0 x3_2) != 45) = true := bne_iff_ne.mpr c25
                      obtain rfl := Option.some.inj H
                      have p15 : 0 ≤ (x3_2 : Int) := of_decide_eq_true (by first | (with_reducible assumption) | assumption)
                      have q15 : x3_2 < (a0.size : Int) := of_decide_eq_true (by first | (with_reducible assumption) | assumption)
                      have hx15 := bt_at a0 x3_2
                      replace p15 := eq_true p15
                      replace q15 := eq_true q15
                      go_wp2
                      go_ret
                      exact ⟨by first | rfl | (simp; done) | (simp [*]; done), by repeat (first | exact Drawn0.refl _ | apply Drawn0.step)⟩
              · rw [if_neg c14] at H
                exact absurd H (by simp)
            · rw [if_neg c13] at H
              have c13b0 : decide (x3_2 < (a0.size : Int)) = false := decide_eq_false c13
              clear c13
              obtain rfl := Option.some.inj H
              go_wp2
              go_ret
              exact ⟨by first | rfl | (simp; done) | (simp [*]; done), by repeat (first | exact Drawn0.refl _ | apply Drawn0.step)⟩

end Go.Proofs.YteaiobgnhlpblaaDoor.Q
namespace Go.Proofs.YteaiobgnhlpblaaDoor.Q
open Go.RowKit Go.Proofs.YteaiobgnhlpblaaDoorW.PrintWords Go.Proofs.YteaiobgnhlpblaaDoorW.PrintLast Go.Proofs.YteaiobgnhlpblaaDoorW.PrintMore
attribute [local go_sem] max2_int min2_int max_two min_two max_three min_three max_four min_four   -- for this text's walks alone
set_option linter.unusedVariables false
set_option linter.unusedSimpArgs false

/-! ### bursarref04_pieces: function 43 -/
def bursarref04_pieces.l0 : Nat → ByteArray → Int → List ByteArray → Int → Int → Option (List ByteArray)
  | 0, _, _, _, _, _ => none
  | k + 1, x0, x1, x5, x6, x7 => if x7 ≤ (x0.size : Int) then (if x7 = (x0.size : Int) then (if 0 ≤ x6 then (if x6 ≤ x7 then (if x5.length < 8796093022208 then (bursarref04_pieces.l0 k x0 x1 (x5 ++ [x0.extract (x6 : Int).toNat (x7 : Int).toNat]) (wrap64 (x7 + 1)) (wrap64 (x7 + 1))) else (none)) else (none)) else (none)) else (if 0 ≤ x7 then (if x7 < (x0.size : Int) then (if (bt x0 x7) = x1 then (if 0 ≤ x6 then (if x6 ≤ x7 then (if x5.length < 8796093022208 then (bursarref04_pieces.l0 k x0 x1 (x5 ++ [x0.extract (x6 : Int).toNat (x7 : Int).toNat]) (wrap64 (x7 + 1)) (wrap64 (x7 + 1))) else (none)) else (none)) else (none)) else (bursarref04_pieces.l0 k x0 x1 x5 x6 (wrap64 (x7 + 1)))) else (none)) else (none))) else (some x5)
def bursarref04_pieces.f (k : Nat) (a0 : ByteArray) (a1 : Int) : Option (List ByteArray) := bursarref04_pieces.l0 k a0 a1 ([] : List ByteArray) 0 0
theorem bursarref04_pieces.mono_l : ∀ k, (∀ y0 y1 y2 y3 y4, LeO (bursarref04_pieces.l0 k y0 y1 y2 y3 y4) (bursarref04_pieces.l0 (k + 1) y0 y1 y2 y3 y4))
  | 0 => fun _ _ _ _ _ r h => by simp [bursarref04_pieces.l0] at h
  | k + 1 => by
    have ih0 := bursarref04_pieces.mono_l k
    · intro y0 y1 y2 y3 y4
      unfold bursarref04_pieces.l0
      repeat' first
      | (with_reducible exact ih0 _ _ _ _ _)
      | (with_reducible exact LeO.refl _)
      | (with_reducible exact LeO.none _)
      | (with_reducible refine LeO.ite ?_ ?_)
      | (with_reducible refine LeO.bind ?_ (fun _ => ?_))
      | exact ih0 _ _ _ _ _
      | exact LeO.none _
      | refine LeO.ite ?_ ?_
      | refine LeO.bind ?_ (fun _ => ?_)
theorem bursarref04_pieces.mono : ∀ a0 a1 k, LeO (bursarref04_pieces.f k a0 a1) (bursarref04_pieces.f (k + 1) a0 a1) := by
  intro a0 a1 k
  have ih0 := bursarref04_pieces.mono_l k
  unfold bursarref04_pieces.f
  repeat' first
      | (with_reducible exact ih0 _ _ _ _ _)
      | (with_reducible exact LeO.refl _)
      | (with_reducible exact LeO.none _)
      | (with_reducible refine LeO.ite ?_ ?_)
      | (with_reducible refine LeO.bind ?_ (fun _ => ?_))
      | exact ih0 _ _ _ _ _
      | exact LeO.none _
      | refine LeO.ite ?_ ?_
      | refine LeO.bind ?_ (fun _ => ?_)
set_option maxHeartbeats 8000000 in
set_option maxRecDepth 100000 in
theorem bursarref04_pieces.calls (k : Nat) (a0 : ByteArray) (a1 : Int) (r : List ByteArray) (w : World) (h : bursarref04_pieces.f k a0 a1 = some r) :
    Calls Tryd.prog 43 #[.string a0, .int .u8 a1] w fun e w' => ∃ v0_ : Value, e = .returned (v0_) ∧ Kd.R Kd.string 9 w' w.heap.size (fun _ => True) v0_ r ∧ Below w.heap.size w w' := by
  have HB := Aside0.mk (Below.refl w.heap.size w)
  have H : (bursarref04_pieces.l0 k a0 a1 ([] : List ByteArray) 0 0) = some r := h
  clear h
  have H' := Aside0.mk H
  clear H
  go_enter Tryd.func43, Tryd.ntmps43
  go_wp2
  go_loopg [5, 6, 7] k (fun kq v5 v6 v7 w' => ∃ (x5_1 : List ByteArray) (x6_1 : Int) (x7_1 : Int), v6 = .int .i64 x6_1 ∧ v7 = .int .i64 x7_1 ∧ Aside0 (bursarref04_pieces.l0 kq a0 a1 x5_1 x6_1 x7_1 = some r) ∧ Aside0 (kq ≤ k) ∧ Aside0 (Kd.R Kd.string 9 w' w.heap.size (fun _ => True) v5 x5_1) ∧ Aside0 (Below w.heap.size w w'))
  case atStart => exact ⟨(([] : List ByteArray)), (0), (0), (by first | rfl | (simp; done) | (simp [*]; done) | (simp; rw [Bool.eq_iff_iff]; simp; done) | (rw [Bool.eq_iff_iff]; simp; done)), (by first | rfl | (simp; done) | (simp [*]; done) | (simp; rw [Bool.eq_iff_iff]; simp; done) | (rw [Bool.eq_iff_iff]; simp; done)), H', ⟨Nat.le_refl _⟩, ⟨by first | exact Kd.R_nil _ _ _ _ _ | exact Kd.N_nil _ _ _ _ _ | exact Kd.V_nil _ _ _ _ _ | exact Kd.Q_nil _ _ _ _ _ | exact Kd.S_nil _ _ _ _ _⟩, ⟨by repeat (first | (with_reducible first | exact HB.out | apply below_alloc | apply pw_below_drewN | apply below_drew1) | exact HB.out)⟩⟩
  case round =>
    clear H'
    try clear p2
    obtain ⟨x5_1, x6_1, x7_1, rfl, rfl, HA, HK1, HO_5, HB⟩ := hrel
    cases gk with
    | zero => exact absurd HA.out (by simp [bursarref04_pieces.l0])
    | succ k1 =>
      have H := HA.out
      clear HA
      simp only [bursarref04_pieces.l0] at H
      by_cases c3 : x7_1 ≤ (a0.size : Int)
      · rw [if_pos c3] at H
        have c3b0 : decide (x7_1 ≤ (a0.size : Int)) = true := decide_eq_true c3
        clear c3
        by_cases c4 : x7_1 = (a0.size : Int)
        · rw [if_pos c4] at H
          have c4b0 : (x7_1 == (a0.size : Int)) = true := beq_iff_eq.mpr c4
          have c4b1 : (x7_1 != (a0.size : Int)) = false := bne_eq_false_iff_eq.mpr c4
          clear c4
          by_cases c5 : 0 ≤ x6_1
          · rw [if_pos c5] at H
            have c5b0 := eq_true c5
            have c5b1 : decide (0 ≤ x6_1) = true := decide_eq_true c5
            clear c5
            by_cases c6 : x6_1 ≤ x7_1
            · rw [if_pos c6] at H
              have c6b0 := eq_true c6
              have c6b1 : decide (x6_1 ≤ x7_1) = true := decide_eq_true c6
              clear c6
              have c7b0 := eq_true (of_decide_eq_true (by first | (with_reducible assumption) | assumption) : x7_1 ≤ (a0.size : Int))
              by_cases c8 : x5_1.length < 8796093022208
              · rw [if_pos c8] at H
                have LMc8 := Aside0.mk c8
                clear c8
                obtain ⟨y157, hy157⟩ : ∃ y_ : List ByteArray, y_ = (x5_1 ++ [a0.extract (x6_1 : Int).toNat (x7_1 : Int).toNat]) := ⟨_, rfl⟩
                replace H : (bursarref04_pieces.l0 k1 a0 a1 y157 (wrap64 (x7_1 + 1)) (wrap64 (x7_1 + 1))) = some r := by first | (rw [hy157]; with_reducible exact H) | (have H2_ := (Option.bind_some _ _).symm.trans H; rw [hy157]; with_reducible exact H2_) | (have H2_ := (Option.bind_some _ _).symm.trans H; with_reducible exact H2_) | with_reducible exact H | (rw [hy157]; exact H) | exact H
                have Ny157 := Aside0.mk hy157
                clear hy157
                have H' := Aside0.mk H
                clear H
                go_wp2_with (first | ((with_reducible refine gate_builtin (b := .append) (xs := #[.tmp 25, .tmp 30]) rfl ?_); at_builtin; refine Kd.R_append Kd.string (w0 := w) w.heap.size rfl (.tmp 25) (.tmp 30) 35 9 (.string ⟨#[]⟩) 16 rfl Tryd.underlying35 info9 rfl (by decide) (by omega) u5 x5_1 (a0.extract (x6_1 : Int).toNat (x7_1 : Int).toNat) [.string (a0.extract (x6_1 : Int).toNat (x7_1 : Int).toNat)] (fun _ => True) (fun _ => False) rfl rfl ?aP (fun _ hk => hk.elim) ?aF ?aO ?aB ?aS ?aL ?_; (case aP => exact rfl); (case aB => exact (by repeat (first | (with_reducible first | exact HB.out | apply below_alloc | apply pw_below_drewN | apply below_drew1) | exact HB.out))); (case aF => exact (fun _ _ => trivial)); (case aO => exact (by (with_reducible repeat (first | apply Kd.R_alloc | apply Kd.R_drewN | apply Kd.R_drew)); exact HO_5.out)); (case aS => exact (below_size (by repeat (first | (with_reducible first | exact HB.out | apply below_alloc | apply pw_below_drewN | apply below_drew1) | exact HB.out)))); (case aL => have := LMc8.out; omega); intro v158 w9 ho hb hg hat; rw [← Ny157.out] at ho; have n0_ := Aside0.mk (hb); have n1_ := Aside0.mk (ho); clear HB; clear HO_5; have HB := n0_; have HO159 := n1_; clear n0_ n1_; clear ho hb hg hat))
                go_roundg k1
                case measure => have := HK1.out; omega
                case rel => exact ⟨(y157), (wrap64 (x7_1 + 1)), (wrap64 (x7_1 + 1)), (by first | rfl | (simp; done) | (simp [*]; done) | (simp; rw [Bool.eq_iff_iff]; simp; done) | (rw [Bool.eq_iff_iff]; simp; done)), (by first | rfl | (simp; done) | (simp [*]; done) | (simp; rw [Bool.eq_iff_iff]; simp; done) | (rw [Bool.eq_iff_iff]; simp; done)), H', ⟨by have := HK1.out; omega⟩, ⟨by (with_reducible repeat (first | apply Kd.R_alloc | apply Kd.R_drewN | apply Kd.R_drew)); exact HO159.out⟩, ⟨by repeat (first | (with_reducible first | exact HB.out | apply below_alloc | apply pw_below_drewN | apply below_drew1) | exact HB.out)⟩⟩
              · rw [if_neg c8] at H
                exact absurd H (by simp)
            · rw [if_neg c6] at H
              exact absurd H (by simp)
          · rw [if_neg c5] at H
            exact absurd H (by simp)
        · rw [if_neg c4] at H
          have c4b0 : (x7_1 == (a0.size : Int)) = false := beq_eq_false_iff_ne.mpr c4
          have c4b1 : (x7_1 != (a0.size : Int)) = true := bne_iff_ne.mpr c4
          by_cases c10 : 0 ≤ x7_1
          · rw [if_pos c10] at H
            have c10b0 : decide (0 ≤ x7_1) = true := decide_eq_true c10
            clear c10
            by_cases c11 : x7_1 < (a0.size : Int)
            · rw [if_pos c11] at H
              have c11b0 : decide (x7_1 < (a0.size : Int)) = true := decide_eq_true c11
              clear c11
              by_cases c13 : (bt a0 x7_1) = a1
              · rw [if_pos c13] at H
                have c13b0 : ((bt a0 x7_1) == a1) = true := beq_iff_eq.mpr c13
                have c13b1 : ((bt a0 x7_1) != a1) = false := bne_eq_false_iff_eq.mpr c13
                clear c13
                by_cases c14 : 0 ≤ x6_1
                · rw [if_pos c14] at H
                  have c14b0 := eq_true c14
                  have c14b1 : decide (0 ≤ x6_1) = true := decide_eq_true c14
                  clear c14
                  by_cases c15 : x6_1 ≤ x7_1
                  · rw [if_pos c15] at H
                    have c15b0 := eq_true c15
                    have c15b1 : decide (x6_1 ≤ x7_1) = true := decide_eq_true c15
                    clear c15
                    have c16b0 := eq_true (of_decide_eq_true (by first | (with_reducible assumption) | assumption) : x7_1 ≤ (a0.size : Int))
                    by_cases c17 : x5_1.length < 8796093022208
                    · rw [if_pos c17] at H
                      have LMc17 := Aside0.mk c17
                      clear c17
                      obtain ⟨y160, hy160⟩ : ∃ y_ : List ByteArray, y_ = (x5_1 ++ [a0.extract (x6_1 : Int).toNat (x7_1 : Int).toNat]) := ⟨_, rfl⟩
                      replace H : (bursarref04_pieces.l0 k1 a0 a1 y160 (wrap64 (x7_1 + 1)) (wrap64 (x7_1 + 1))) = some r := by first | (rw [hy160]; with_reducible exact H) | (have H2_ := (Option.bind_some _ _).symm.trans H; rw [hy160]; with_reducible exact H2_) | (have H2_ := (Option.bind_some _ _).symm.trans H; with_reducible exact H2_) | with_reducible exact H | (rw [hy160]; exact H) | exact H
                      have Ny160 := Aside0.mk hy160
                      clear hy160
                      have H' := Aside0.mk H
                      clear H
                      have p12 : 0 ≤ (x7_1 : Int) := of_decide_eq_true (by first | (with_reducible assumption) | assumption)
                      have q12 : x7_1 < (a0.size : Int) := of_decide_eq_true (by first | (with_reducible assumption) | assumption)
                      have hx12 := bt_at a0 x7_1
                      replace p12 := eq_true p12
                      replace q12 := eq_true q12
                      go_wp2_with (first | ((with_reducible refine gate_builtin (b := .append) (xs := #[.tmp 25, .tmp 30]) rfl ?_); at_builtin; refine Kd.R_append Kd.string (w0 := w) w.heap.size rfl (.tmp 25) (.tmp 30) 35 9 (.string ⟨#[]⟩) 16 rfl Tryd.underlying35 info9 rfl (by decide) (by omega) u5 x5_1 (a0.extract (x6_1 : Int).toNat (x7_1 : Int).toNat) [.string (a0.extract (x6_1 : Int).toNat (x7_1 : Int).toNat)] (fun _ => True) (fun _ => False) rfl rfl ?aP (fun _ hk => hk.elim) ?aF ?aO ?aB ?aS ?aL ?_; (case aP => exact rfl); (case aB => exact (by repeat (first | (with_reducible first | exact HB.out | apply below_alloc | apply pw_below_drewN | apply below_drew1) | exact HB.out))); (case aF => exact (fun _ _ => trivial)); (case aO => exact (by (with_reducible repeat (first | apply Kd.R_alloc | apply Kd.R_drewN | apply Kd.R_drew)); exact HO_5.out)); (case aS => exact (below_size (by repeat (first | (with_reducible first | exact HB.out | apply below_alloc | apply pw_below_drewN | apply below_drew1) | exact HB.out)))); (case aL => have := LMc17.out; omega); intro v161 w18 ho hb hg hat; rw [← Ny160.out] at ho; have n0_ := Aside0.mk (hb); have n1_ := Aside0.mk (ho); clear HB; clear HO_5; have HB := n0_; have HO162 := n1_; clear n0_ n1_; clear ho hb hg hat))
                      go_roundg k1
                      case measure => have := HK1.out; omega
                      case rel => exact ⟨(y160), (wrap64 (x7_1 + 1)), (wrap64 (x7_1 + 1)), (by first | rfl | (simp; done) | (simp [*]; done) | (simp; rw [Bool.eq_iff_iff]; simp; done) | (rw [Bool.eq_iff_iff]; simp; done)), (by first | rfl | (simp; done) | (simp [*]; done) | (simp; rw [Bool.eq_iff_iff]; simp; done) | (rw [Bool.eq_iff_iff]; simp; done)), H', ⟨by have := HK1.out; omega⟩, ⟨by (with_reducible repeat (first | apply Kd.R_alloc | apply Kd.R_drewN | apply Kd.R_drew)); exact HO162.out⟩, ⟨by repeat (first | (with_reducible first | exact HB.out | apply below_alloc | apply pw_below_drewN | apply below_drew1) | exact HB.out)⟩⟩
                    · rw [if_neg c17] at H
                      exact absurd H (by simp)
                  · rw [if_neg c15] at H
                    exact absurd H (by simp)
                · rw [if_neg c14] at H
                  exact absurd H (by simp)
              · rw [if_neg c13] at H
                have c13b0 : ((bt a0 x7_1) == a1) = false := beq_eq_false_iff_ne.mpr c13
                have c13b1 : ((bt a0 x7_1) != a1) = true := bne_iff_ne.mpr c13
                have H' := Aside0.mk H
                clear H
                have p12 : 0 ≤ (x7_1 : Int) := of_decide_eq_true (by first | (with_reducible assumption) | assumption)
                have q12 : x7_1 < (a0.size : Int) := of_decide_eq_true (by first | (with_reducible assumption) | assumption)
                have hx12 := bt_at a0 x7_1
                replace p12 := eq_true p12
                replace q12 := eq_true q12
                go_wp2
                go_roundg k1
                case measure => have := HK1.out; omega
                case rel => exact ⟨(x5_1), (x6_1), (wrap64 (x7_1 + 1)), (by first | rfl | (simp; done) | (simp [*]; done) | (simp; rw [Bool.eq_iff_iff]; simp; done) | (rw [Bool.eq_iff_iff]; simp; done)), (by first | rfl | (simp; done) | (simp [*]; done) | (simp; rw [Bool.eq_iff_iff]; simp; done) | (rw [Bool.eq_iff_iff]; simp; done)), H', ⟨by have := HK1.out; omega⟩, ⟨by (with_reducible repeat (first | apply Kd.R_alloc | apply Kd.R_drewN | apply Kd.R_drew)); exact HO_5.out⟩, ⟨by repeat (first | (with_reducible first | exact HB.out | apply below_alloc | apply pw_below_drewN | apply below_drew1) | exact HB.out)⟩⟩
            · rw [if_neg c11] at H
              exact absurd H (by simp)
          · rw [if_neg c10] at H
            exact absurd H (by simp)
      · rw [if_neg c3] at H
        have c3b0 : decide (x7_1 ≤ (a0.size : Int)) = false := decide_eq_false c3
        clear c3
        obtain rfl := Option.some.inj H
        go_wp2
        go_ret
        exact ⟨_, by first | rfl | (simp [errW_none, errW_some] <;> rfl) | (simp [*, errW_none, errW_some] <;> rfl), by (with_reducible repeat (first | apply Kd.R_alloc | apply Kd.R_drewN | apply Kd.R_drew)); exact HO_5.out, by repeat (first | (with_reducible first | exact HB.out | apply below_alloc | apply pw_below_drewN | apply below_drew1) | exact HB.out)⟩

end Go.Proofs.YteaiobgnhlpblaaDoor.Q
namespace Go.Proofs.YteaiobgnhlpblaaDoor.Q
open Go.RowKit Go.Proofs.YteaiobgnhlpblaaDoorW.PrintWords Go.Proofs.YteaiobgnhlpblaaDoorW.PrintLast Go.Proofs.YteaiobgnhlpblaaDoorW.PrintMore
attribute [local go_sem] max2_int min2_int max_two min_two max_three min_three max_four min_four   -- for this text's walks alone
set_option linter.unusedVariables false
set_option linter.unusedSimpArgs false

/-! ### bursarref04_Split: function 25 -/
mutual
def bursarref04_Split.j0 : Nat → List ByteArray → Bool → Option (List ByteArray × Int)
  | 0, _, _ => none
  | k + 1, x4, x29 => if x29 = true then (some (([] : List ByteArray), 41)) else (bursarref04_Split.l0 k x4 1)
def bursarref04_Split.l0 : Nat → List ByteArray → Int → Option (List ByteArray × Int)
  | 0, _, _ => none
  | k + 1, x4, x5 => if x5 < (x4.length : Int) then (if 0 ≤ x5 then ((bursarref04_Name.f k (rdOf ByteArray.empty x4 x5)).bind fun t274 => (if t274 = true then (bursarref04_Split.l0 k x4 (wrap64 (x5 + 1))) else (some (([] : List ByteArray), 41)))) else (none)) else (if 1 ≤ (x4.length : Int) then (some ((x4.drop (1 : Int).toNat), 0)) else (none))
end
def bursarref04_Split.f (k : Nat) (a0 : ByteArray) : Option (List ByteArray × Int) := if a0.toList = ([47] : List UInt8) then (some (([] : List ByteArray), 0)) else ((bursarref04_pieces.f k a0 47).bind fun t269 => (if (a0.size : Int) > 64 then (bursarref04_Split.j0 k t269 true) else (if (t269.length : Int) < 2 then (bursarref04_Split.j0 k t269 true) else (if (t269.length : Int) > 9 then (bursarref04_Split.j0 k t269 true) else (if 0 < (t269.length : Int) then (bursarref04_Split.j0 k t269 ((rdOf ByteArray.empty t269 0).toList != ([] : List UInt8))) else (none))))))
theorem bursarref04_Split.mono_l : ∀ k, (∀ y0 y1, LeO (bursarref04_Split.j0 k y0 y1) (bursarref04_Split.j0 (k + 1) y0 y1)) ∧ (∀ y0 y1, LeO (bursarref04_Split.l0 k y0 y1) (bursarref04_Split.l0 (k + 1) y0 y1))
  | 0 => ⟨fun _ _ r h => by simp [bursarref04_Split.j0] at h, fun _ _ r h => by simp [bursarref04_Split.l0] at h⟩
  | k + 1 => by
    obtain ⟨ih0, ih1⟩ := bursarref04_Split.mono_l k
    refine ⟨?_, ?_⟩
    · intro y0 y1
      unfold bursarref04_Split.j0
      repeat' first
      | (with_reducible exact ih0 _ _)
      | (with_reducible exact ih1 _ _)
      | (with_reducible exact bursarref04_Name.mono _ _)
      | (with_reducible exact bursarref04_pieces.mono _ _ _)
      | (with_reducible exact LeO.refl _)
      | (with_reducible exact LeO.none _)
      | (with_reducible refine LeO.ite ?_ ?_)
      | (with_reducible refine LeO.bind ?_ (fun _ => ?_))
      | exact ih0 _ _
      | exact ih1 _ _
      | exact bursarref04_Name.mono _ _
      | exact bursarref04_pieces.mono _ _ _
      | exact LeO.none _
      | refine LeO.ite ?_ ?_
      | refine LeO.bind ?_ (fun _ => ?_)
    · intro y0 y1
      unfold bursarref04_Split.l0
      repeat' first
      | (with_reducible exact ih0 _ _)
      | (with_reducible exact ih1 _ _)
      | (with_reducible exact bursarref04_Name.mono _ _)
      | (with_reducible exact bursarref04_pieces.mono _ _ _)
      | (with_reducible exact LeO.refl _)
      | (with_reducible exact LeO.none _)
      | (with_reducible refine LeO.ite ?_ ?_)
      | (with_reducible refine LeO.bind ?_ (fun _ => ?_))
      | exact ih0 _ _
      | exact ih1 _ _
      | exact bursarref04_Name.mono _ _
      | exact bursarref04_pieces.mono _ _ _
      | exact LeO.none _
      | refine LeO.ite ?_ ?_
      | refine LeO.bind ?_ (fun _ => ?_)
theorem bursarref04_Split.mono : ∀ a0 k, LeO (bursarref04_Split.f k a0) (bursarref04_Split.f (k + 1) a0) := by
  intro a0 k
  obtain ⟨ih0, ih1⟩ := bursarref04_Split.mono_l k
  unfold bursarref04_Split.f
  repeat' first
      | (with_reducible exact ih0 _ _)
      | (with_reducible exact ih1 _ _)
      | (with_reducible exact bursarref04_Name.mono _ _)
      | (with_reducible exact bursarref04_pieces.mono _ _ _)
      | (with_reducible exact LeO.refl _)
      | (with_reducible exact LeO.none _)
      | (with_reducible refine LeO.ite ?_ ?_)
      | (with_reducible refine LeO.bind ?_ (fun _ => ?_))
      | exact ih0 _ _
      | exact ih1 _ _
      | exact bursarref04_Name.mono _ _
      | exact bursarref04_pieces.mono _ _ _
      | exact LeO.none _
      | refine LeO.ite ?_ ?_
      | refine LeO.bind ?_ (fun _ => ?_)
set_option maxHeartbeats 8000000 in
set_option maxRecDepth 100000 in
theorem bursarref04_Split.calls (k : Nat) (a0 : ByteArray) (r1 : List ByteArray) (r2 : Int) (w : World) (h : bursarref04_Split.f k a0 = some (r1, r2)) :
    Calls Tryd.prog 25 #[.string a0] w fun e w' => ∃ v0_ : Value, e = .returned (.tuple #[v0_, .int .i64 r2]) ∧ Kd.Q Kd.string 9 w' w.heap.size (fun _ => True) v0_ r1 ∧ Below w.heap.size w w' := by
  have HB := Aside0.mk (Below.refl w.heap.size w)
  have H : (if a0.toList = ([47] : List UInt8) then (some (([] : List ByteArray), 0)) else ((bursarref04_pieces.f k a0 47).bind fun t269 => (if (a0.size : Int) > 64 then (bursarref04_Split.j0 k t269 true) else (if (t269.length : Int) < 2 then (bursarref04_Split.j0 k t269 true) else (if (t269.length : Int) > 9 then (bursarref04_Split.j0 k t269 true) else (if 0 < (t269.length : Int) then (bursarref04_Split.j0 k t269 ((rdOf ByteArray.empty t269 0).toList != ([] : List UInt8))) else (none))))))) = some (r1, r2) := h
  clear h
  by_cases c2 : a0.toList = ([47] : List UInt8)
  · rw [if_pos c2] at H
    have c2b0 : (a0.toList == ([47] : List UInt8)) = true := beq_iff_eq.mpr c2
    have c2b1 : (a0.toList != ([47] : List UInt8)) = false := bne_eq_false_iff_eq.mpr c2
    clear c2
    simp only [Option.some.injEq, Prod.mk.injEq] at H
    obtain ⟨rfl, rfl⟩ := H
    go_enter Tryd.func25, Tryd.ntmps25
    go_wp2
    go_ret2
    exact ⟨_, by first | rfl | (simp [errW_none, errW_some] <;> rfl) | (simp [*, errW_none, errW_some] <;> rfl), Kd.Q_of_R (by first | exact Kd.R_nil _ _ _ _ _ | exact Kd.N_nil _ _ _ _ _ | exact Kd.V_nil _ _ _ _ _ | exact Kd.Q_nil _ _ _ _ _ | exact Kd.S_nil _ _ _ _ _), by repeat (first | (with_reducible first | exact HB.out | apply below_alloc | apply pw_below_drewN | apply below_drew1) | exact HB.out)⟩
  · rw [if_neg c2] at H
    have c2b0 : (a0.toList == ([47] : List UInt8)) = false := beq_eq_false_iff_ne.mpr c2
    have c2b1 : (a0.toList != ([47] : List UInt8)) = true := bne_iff_ne.mpr c2
    replace H := Option.bind_eq_some_iff.mp H
    obtain ⟨t269, A30, H⟩ := H
    replace H : (if (a0.size : Int) > 64 then (bursarref04_Split.j0 k t269 true) else (if (t269.length : Int) < 2 then (bursarref04_Split.j0 k t269 true) else (if (t269.length : Int) > 9 then (bursarref04_Split.j0 k t269 true) else (if 0 < (t269.length : Int) then (bursarref04_Split.j0 k t269 ((rdOf ByteArray.empty t269 0).toList != ([] : List UInt8))) else (none))))) = some (r1, r2) := H
    have A3 := Aside0.mk A30
    clear A30
    have HC4 := Aside0.mk H
    clear H
    go_enter Tryd.func25, Tryd.ntmps25
    go_upto_region 4 with (first | ((with_reducible refine gate_callee (f := 43) rfl ?_); refine goesL_ (some 10) rfl rfl Tryd.func43 (by kernel_rfl) rfl #[.string a0, .int .u8 47] rfl (by (try simp only [List.map_toArray, List.map_cons, List.map_nil]); first | done | rfl | (simp only [List.length_drop, List.length_take]; rfl)) ?_; (with_reducible refine (bursarref04_pieces.calls k a0 47 t269 _ A3.out).mono ?_); rintro e w5 ⟨v270, rfl, ho0, hb⟩; refine ⟨_, rfl, ?_⟩; have n0_ := Aside0.mk (Kd.R_lower ho0 (below_size (by repeat (first | (with_reducible first | exact HB.out | apply below_alloc | apply pw_below_drewN | apply below_drew1) | exact HB.out)))); have n1_ := Aside0.mk (below_step (by repeat (first | (with_reducible first | exact HB.out | apply below_alloc | apply pw_below_drewN | apply below_drew1) | exact HB.out)) hb); clear HB; have HO271 := n0_; have HB := n1_; clear n0_ n1_; (try clear hb); (try clear hb2); (try clear hk); (try clear hi); (try clear ho0)))
    (try simp only [Act.put, List.setIfInBounds_toArray, List.set_cons_zero, List.set_cons_succ])
    go_cut [29] (fun v29 wc => ∃ (kq : Nat) (x29_3 : Bool), v29 = .bool x29_3 ∧ Aside0 (bursarref04_Split.j0 kq t269 x29_3 = some (r1, r2)) ∧ Aside0 (kq ≤ k) ∧ Aside0 (Kd.R Kd.string 9 wc w.heap.size (fun _ => True) v270 t269) ∧ Aside0 (Below w.heap.size w wc))
    case first =>
      have H := HC4.out
      clear HC4
      by_cases c6 : (a0.size : Int) > 64
      · rw [if_pos c6] at H
        have c6b0 : decide (64 < (a0.size : Int)) = true := decide_eq_true c6
        have c6b1 : decide (64 < a0.size) = true := decide_eq_true (by omega)
        clear c6
        (first | rw [c6b0] | (simp only [i64_w, i32_w]; rw [c6b0]) | skip)
        have H' := Aside0.mk H
        clear H
        go_wp2
        go_meet
        case rel => exact ⟨_, (true), (by first | rfl | (simp; done) | (simp [*]; done) | (simp; rw [Bool.eq_iff_iff]; simp; done) | (rw [Bool.eq_iff_iff]; simp; done)), H', ⟨by first | omega | exact Nat.le_refl _⟩, ⟨by (with_reducible repeat (first | apply Kd.R_alloc | apply Kd.R_drewN | apply Kd.R_drew)); exact HO271.out⟩, ⟨by repeat (first | (with_reducible first | exact HB.out | apply below_alloc | apply pw_below_drewN | apply below_drew1) | exact HB.out)⟩⟩
      · rw [if_neg c6] at H
        have c6b0 : decide (64 < (a0.size : Int)) = false := decide_eq_false c6
        have c6b1 : decide (64 < a0.size) = false := decide_eq_false (by omega)
        clear c6
        (first | rw [c6b0] | (simp only [i64_w, i32_w]; rw [c6b0]) | skip)
        by_cases c7 : (t269.length : Int) < 2
        · rw [if_pos c7] at H
          have c7b0 : decide ((t269.length : Int) < 2) = true := decide_eq_true c7
          have c7b1 : decide (t269.length < 2) = true := decide_eq_true (by omega)
          clear c7
          have H' := Aside0.mk H
          clear H
          obtain ⟨Ao8, co8, eo8⟩ := Kd.R_slice HO271.out
          subst eo8
          go_wp2
          go_meet
          case rel => exact ⟨_, (true), (by first | rfl | (simp; done) | (simp [*]; done) | (simp; rw [Bool.eq_iff_iff]; simp; done) | (rw [Bool.eq_iff_iff]; simp; done)), H', ⟨by first | omega | exact Nat.le_refl _⟩, ⟨by (with_reducible repeat (first | apply Kd.R_alloc | apply Kd.R_drewN | apply Kd.R_drew)); exact HO271.out⟩, ⟨by repeat (first | (with_reducible first | exact HB.out | apply below_alloc | apply pw_below_drewN | apply below_drew1) | exact HB.out)⟩⟩
        · rw [if_neg c7] at H
          have c7b0 : decide ((t269.length : Int) < 2) = false := decide_eq_false c7
          have c7b1 : decide (t269.length < 2) = false := decide_eq_false (by omega)
          clear c7
          by_cases c9 : (t269.length : Int) > 9
          · rw [if_pos c9] at H
            have c9b0 : decide (9 < (t269.length : Int)) = true := decide_eq_true c9
            have c9b1 : decide (9 < t269.length) = true := decide_eq_true (by omega)
            clear c9
            have H' := Aside0.mk H
            clear H
            obtain ⟨Ao10, co10, eo10⟩ := Kd.R_slice HO271.out
            subst eo10
            go_wp2
            go_meet
            case rel => exact ⟨_, (true), (by first | rfl | (simp; done) | (simp [*]; done) | (simp; rw [Bool.eq_iff_iff]; simp; done) | (rw [Bool.eq_iff_iff]; simp; done)), H', ⟨by first | omega | exact Nat.le_refl _⟩, ⟨by (with_reducible repeat (first | apply Kd.R_alloc | apply Kd.R_drewN | apply Kd.R_drew)); exact HO271.out⟩, ⟨by repeat (first | (with_reducible first | exact HB.out | apply below_alloc | apply pw_below_drewN | apply below_drew1) | exact HB.out)⟩⟩
          · rw [if_neg c9] at H
            have c9b0 : decide (9 < (t269.length : Int)) = false := decide_eq_false c9
            have c9b1 : decide (9 < t269.length) = false := decide_eq_false (by omega)
            clear c9
            by_cases c11 : 0 < (t269.length : Int)
            · rw [if_pos c11] at H
              have c11b0 : decide (0 < (t269.length : Int)) = true := decide_eq_true c11
              have c11b1 : decide (0 < t269.length) = true := decide_eq_true (by omega)
              clear c11
              have H' := Aside0.mk H
              clear H
              obtain ⟨Ao12, co12, eo12⟩ := Kd.R_slice HO271.out
              subst eo12
              have p272 : 0 ≤ (0 : Int) := (by omega)
              have q272 : 0 < (t269.length : Int) := of_decide_eq_true (by first | (with_reducible assumption) | assumption)
              obtain ⟨ad272, e272, hx272_0⟩ := Kd.at_string (Kd.R_reads' HO271.out).2.2 0 p272 q272
              cases e272
              have qi272 : (0 < t269.length) = True := eq_true (by omega)
              (try rw [show ((0 : Int)).toNat = 0 from rfl] at hx272_0)
              (try rw [Addr.add_zero'] at hx272_0)
              replace p272 := eq_true p272
              replace q272 := eq_true q272
              go_wp2
              go_meet
              case rel => exact ⟨_, (((rdOf ByteArray.empty t269 0).toList != ([] : List UInt8))), (by first | rfl | (simp; done) | (simp [*]; done) | (simp; rw [Bool.eq_iff_iff]; simp; done) | (rw [Bool.eq_iff_iff]; simp; done)), H', ⟨by first | omega | exact Nat.le_refl _⟩, ⟨by (with_reducible repeat (first | apply Kd.R_alloc | apply Kd.R_drewN | apply Kd.R_drew)); exact HO271.out⟩, ⟨by repeat (first | (with_reducible first | exact HB.out | apply below_alloc | apply pw_below_drewN | apply below_drew1) | exact HB.out)⟩⟩
            · rw [if_neg c11] at H
              exact absurd H (by simp)
    case rest =>
      clear HC4
      try clear c1
      try clear c2
      try clear c2b0
      try clear c2b1
      try clear p2
      try clear q2
      try clear hx2
      try clear qi2
      try clear c4
      try clear c6
      try clear c6b0
      try clear c6b1
      try clear c7
      try clear c7b0
      try clear c7b1
      try clear c9
      try clear c9b0
      try clear c9b1
      try clear c11
      try clear c11b0
      try clear c11b1
      try clear hx272_0
      try clear p272
      try clear q272
      obtain ⟨kq, x29_3, rfl, HA, HJ3, HO_4, HB⟩ := hcut
      cases kq with
      | zero => exact absurd HA.out (by simp [bursarref04_Split.j0])
      | succ kj3 =>
        have H := HA.out
        clear HA
        simp only [bursarref04_Split.j0] at H
        by_cases c13 : x29_3 = true
        · subst c13
          have H1 : (some (([] : List ByteArray), 41)) = some (r1, r2) := by rw [if_pos rfl] at H; exact H
          clear H
          have H := H1
          clear H1
          simp only [Option.some.injEq, Prod.mk.injEq] at H
          obtain ⟨rfl, rfl⟩ := H
          go_wp2
          go_ret2
          exact ⟨_, by first | rfl | (simp [errW_none, errW_some] <;> rfl) | (simp [*, errW_none, errW_some] <;> rfl), Kd.Q_of_R (by first | exact Kd.R_nil _ _ _ _ _ | exact Kd.N_nil _ _ _ _ _ | exact Kd.V_nil _ _ _ _ _ | exact Kd.Q_nil _ _ _ _ _ | exact Kd.S_nil _ _ _ _ _), by repeat (first | (with_reducible first | exact HB.out | apply below_alloc | apply pw_below_drewN | apply below_drew1) | exact HB.out)⟩
        · replace c13 := Bool.eq_false_iff.mpr c13
          subst c13
          have H1 : (bursarref04_Split.l0 kj3 t269 1) = some (r1, r2) := by rw [if_neg (show ¬ (false = true) by decide)] at H; exact H
          clear H
          have H := H1
          clear H1
          have H' := Aside0.mk H
          clear H
          go_wp2
          go_loopg [5] kj3 (fun kq v5 w' => ∃ (x5_2 : Int), v5 = .int .i64 x5_2 ∧ Aside0 (bursarref04_Split.l0 kq t269 x5_2 = some (r1, r2)) ∧ Aside0 (kq ≤ kj3) ∧ Aside0 (Kd.R Kd.string 9 w' w.heap.size (fun _ => True) v270 t269) ∧ Aside0 (Below w.heap.size w w'))
          case atStart => exact ⟨(1), (by first | rfl | (simp; done) | (simp [*]; done) | (simp; rw [Bool.eq_iff_iff]; simp; done) | (rw [Bool.eq_iff_iff]; simp; done)), H', ⟨Nat.le_refl _⟩, ⟨by (with_reducible repeat (first | apply Kd.R_alloc | apply Kd.R_drewN | apply Kd.R_drew)); exact HO_4.out⟩, ⟨by repeat (first | (with_reducible first | exact HB.out | apply below_alloc | apply pw_below_drewN | apply below_drew1) | exact HB.out)⟩⟩
          case round =>
            clear H'
            try clear c1
            try clear c2
            try clear c2b0
            try clear c2b1
            try clear p2
            try clear q2
            try clear hx2
            try clear qi2
            try clear c4
            try clear c6
            try clear c6b0
            try clear c6b1
            try clear c7
            try clear c7b0
            try clear c7b1
            try clear c9
            try clear c9b0
            try clear c9b1
            try clear c11
            try clear c11b0
            try clear c11b1
            try clear c13
            try clear hx272_0
            try clear p2
            try clear p272
            try clear q2
            try clear q272
            obtain ⟨x5_2, rfl, HA, HK2, HO_4, HB⟩ := hrel
            cases gk with
            | zero => exact absurd HA.out (by simp [bursarref04_Split.l0])
            | succ k2 =>
              have H := HA.out
              clear HA
              simp only [bursarref04_Split.l0] at H
              by_cases c14 : x5_2 < (t269.length : Int)
              · rw [if_pos c14] at H
                have c14b0 : decide (x5_2 < (t269.length : Int)) = true := decide_eq_true c14
                clear c14
                by_cases c15 : 0 ≤ x5_2
                · rw [if_pos c15] at H
                  have c15b0 : decide (0 ≤ x5_2) = true := decide_eq_true c15
                  clear c15
                  replace H := Option.bind_eq_some_iff.mp H
                  obtain ⟨t274, A160, H⟩ := H
                  replace H : (if t274 = true then (bursarref04_Split.l0 k2 t269 (wrap64 (x5_2 + 1))) else (some (([] : List ByteArray), 41))) = some (r1, r2) := H
                  have A16 := Aside0.mk A160
                  clear A160
                  by_cases c17 : t274 = true
                  · subst c17
                    have H1 : (bursarref04_Split.l0 k2 t269 (wrap64 (x5_2 + 1))) = some (r1, r2) := by rw [if_pos rfl] at H; exact H
                    clear H
                    have H := H1
                    clear H1
                    have H' := Aside0.mk H
                    clear H
                    obtain ⟨Ao18, co18, eo18⟩ := Kd.R_slice HO_4.out
                    subst eo18
                    have p273 : 0 ≤ (x5_2 : Int) := of_decide_eq_true (by first | (with_reducible assumption) | assumption)
                    have q273 : x5_2 < (t269.length : Int) := of_decide_eq_true (by first | (with_reducible assumption) | assumption)
                    obtain ⟨ad273, e273, hx273_0⟩ := Kd.at_string (Kd.R_reads' HO_4.out).2.2 x5_2 p273 q273
                    cases e273
                    replace p273 := eq_true p273
                    replace q273 := eq_true q273
                    go_wp2_with (first | ((with_reducible refine gate_callee (f := 19) rfl ?_); refine goesL_ (some 40) rfl rfl Tryd.func19 (by kernel_rfl) rfl #[.string (rdOf ByteArray.empty t269 x5_2)] rfl (by (try simp only [List.map_toArray, List.map_cons, List.map_nil]); first | done | rfl | (simp only [List.length_drop, List.length_take]; rfl)) ?_; (with_reducible refine (bursarref04_Name.calls k2 (rdOf ByteArray.empty t269 x5_2) true _ A16.out).mono ?_); rintro e w' ⟨rfl, ⟨nd, rfl⟩⟩; refine ⟨_, rfl, ?_⟩))
                    go_roundg k2
                    case measure => have := HJ3.out; have := HK2.out; omega
                    case rel => exact ⟨(wrap64 (x5_2 + 1)), (by first | rfl | (simp; done) | (simp [*]; done) | (simp; rw [Bool.eq_iff_iff]; simp; done) | (rw [Bool.eq_iff_iff]; simp; done)), H', ⟨by have := HJ3.out; have := HK2.out; omega⟩, ⟨by (with_reducible repeat (first | apply Kd.R_alloc | apply Kd.R_drewN | apply Kd.R_drew)); exact HO_4.out⟩, ⟨by repeat (first | (with_reducible first | exact HB.out | apply below_alloc | apply pw_below_drewN | apply below_drew1) | exact HB.out)⟩⟩
                  · replace c17 := Bool.eq_false_iff.mpr c17
                    subst c17
                    have H1 : (some (([] : List ByteArray), 41)) = some (r1, r2) := by rw [if_neg (show ¬ (false = true) by decide)] at H; exact H
                    clear H
                    have H := H1
                    clear H1
                    simp only [Option.some.injEq, Prod.mk.injEq] at H
                    obtain ⟨rfl, rfl⟩ := H
                    obtain ⟨Ao19, co19, eo19⟩ := Kd.R_slice HO_4.out
                    subst eo19
                    have p273 : 0 ≤ (x5_2 : Int) := of_decide_eq_true (by first | (with_reducible assumption) | assumption)
                    have q273 : x5_2 < (t269.length : Int) := of_decide_eq_true (by first | (with_reducible assumption) | assumption)
                    obtain ⟨ad273, e273, hx273_0⟩ := Kd.at_string (Kd.R_reads' HO_4.out).2.2 x5_2 p273 q273
                    cases e273
                    replace p273 := eq_true p273
                    replace q273 := eq_true q273
                    go_wp2_with (first | ((with_reducible refine gate_callee (f := 19) rfl ?_); refine goesL_ (some 40) rfl rfl Tryd.func19 (by kernel_rfl) rfl #[.string (rdOf ByteArray.empty t269 x5_2)] rfl (by (try simp only [List.map_toArray, List.map_cons, List.map_nil]); first | done | rfl | (simp only [List.length_drop, List.length_take]; rfl)) ?_; (with_reducible refine (bursarref04_Name.calls k2 (rdOf ByteArray.empty t269 x5_2) false _ A16.out).mono ?_); rintro e w' ⟨rfl, ⟨nd, rfl⟩⟩; refine ⟨_, rfl, ?_⟩))
                    go_ret2
                    exact ⟨_, by first | rfl | (simp [errW_none, errW_some] <;> rfl) | (simp [*, errW_none, errW_some] <;> rfl), Kd.Q_of_R (by first | exact Kd.R_nil _ _ _ _ _ | exact Kd.N_nil _ _ _ _ _ | exact Kd.V_nil _ _ _ _ _ | exact Kd.Q_nil _ _ _ _ _ | exact Kd.S_nil _ _ _ _ _), by repeat (first | (with_reducible first | exact HB.out | apply below_alloc | apply pw_below_drewN | apply below_drew1) | exact HB.out)⟩
                · rw [if_neg c15] at H
                  exact absurd H (by simp)
              · rw [if_neg c14] at H
                have c14b0 : decide (x5_2 < (t269.length : Int)) = false := decide_eq_false c14
                clear c14
                by_cases c20 : 1 ≤ (t269.length : Int)
                · rw [if_pos c20] at H
                  have c20b0 := eq_true c20
                  have c20b1 : decide (1 ≤ (t269.length : Int)) = true := decide_eq_true c20
                  clear c20
                  obtain ⟨y275, hy275⟩ : ∃ y_ : List ByteArray, y_ = (t269.drop (1 : Int).toNat) := ⟨_, rfl⟩
                  replace H : (some (y275, 0)) = some (r1, r2) := by first | (rw [hy275]; with_reducible exact H) | (have H2_ := (Option.bind_some _ _).symm.trans H; rw [hy275]; with_reducible exact H2_) | (have H2_ := (Option.bind_some _ _).symm.trans H; with_reducible exact H2_) | with_reducible exact H | (rw [hy275]; exact H) | exact H
                  have Ny275 := Aside0.mk hy275
                  clear hy275
                  simp only [Option.some.injEq, Prod.mk.injEq] at H
                  obtain ⟨rfl, rfl⟩ := H
                  obtain ⟨Ao21, co21, eo21⟩ := Kd.R_slice HO_4.out
                  subst eo21
                  have q22 : (1 : Int) ≤ ((t269.length : Int) : Int) := of_decide_eq_true (by first | (with_reducible assumption) | assumption)
                  obtain ⟨i022, hi022, _, hsz22, _⟩ := info_parts info9
                  have hcut22 := cut_from (P := Tryd.prog) 35 9 .i64 Tryd.underlying35 hi022 1 hsz22 Ao21 t269.length co21 1 (by omega) q22
                  have hr22 := Kd.Q_drop (k := (1 : Int).toNat) (Kd.Q_of_R HO_4.out) (by omega)
                  obtain ⟨A22, hA22⟩ : ∃ A1, A1 = (if co21 = (1 : Int).toNat then Ao21 else (Ao21 : Option Addr).map (·.add ((1 : Int).toNat * 1))) := ⟨_, rfl⟩
                  obtain ⟨c22, hc22⟩ : ∃ c1, c1 = co21 - (1 : Int).toNat := ⟨_, rfl⟩
                  have hy22 : y275.length = t269.length - (1 : Int).toNat := (by rw [Ny275.out, List.length_drop])
                  rw [← Ny275.out] at hr22
                  rw [← hy22, ← hA22, ← hc22] at hcut22
                  replace hr22 : Kd.Q Kd.string 9 wr w.heap.size (fun _ => True) (.slice A22 y275.length c22) y275 := (by rw [hA22, hc22, hy22]; exact hr22)
                  have HE22 : Aside0 ((Value.slice A22 y275.length c22).ownBlock = (.slice Ao21 t269.length co21 : Value).ownBlock) := ⟨by rw [hA22]; split <;> (cases (Ao21 : Option Addr) <;> rfl)⟩
                  clear hy22 hi022 hsz22 HO_4 hA22 hc22
                  have HO277 := Aside0.mk hr22
                  clear hr22
                  replace q22 := eq_true q22
                  go_wp2
                  go_ret2
                  exact ⟨_, by first | rfl | (simp [errW_none, errW_some] <;> rfl) | (simp [*, errW_none, errW_some] <;> rfl), by (with_reducible repeat (first | apply Kd.Q_alloc | apply Kd.Q_drewN | apply Kd.Q_drew)); exact HO277.out, by repeat (first | (with_reducible first | exact HB.out | apply below_alloc | apply pw_below_drewN | apply below_drew1) | exact HB.out)⟩
                · rw [if_neg c20] at H
                  exact absurd H (by simp)

end Go.Proofs.YteaiobgnhlpblaaDoor.Q
namespace Go.Proofs.YteaiobgnhlpblaaDoor.Q
open Go.RowKit Go.Proofs.YteaiobgnhlpblaaDoorW.PrintWords Go.Proofs.YteaiobgnhlpblaaDoorW.PrintLast Go.Proofs.YteaiobgnhlpblaaDoorW.PrintMore
attribute [local go_sem] max2_int min2_int max_two min_two max_three min_three max_four min_four   -- for this text's walks alone
set_option linter.unusedVariables false
set_option linter.unusedSimpArgs false

/-! ### bursarref04_Join: function 32 -/
mutual
def bursarref04_Join.l0 : Nat → List ByteArray → ByteArray → Int → Option (ByteArray × Int)
  | 0, _, _, _ => none
  | k + 1, x0, x4, x5 => if x5 < (x0.length : Int) then (if 0 ≤ x5 then ((bursarref04_Name.f k (rdOf ByteArray.empty x0 x5)).bind fun t287 => (if t287 = true then (if x4.size + 1 ≤ 9223372036854775807 then (if (x4 ++ (⟨#[47]⟩ : ByteArray)).size + (rdOf ByteArray.empty x0 x5).size ≤ 9223372036854775807 then (bursarref04_Join.l0 k x0 ((x4 ++ (⟨#[47]⟩ : ByteArray)) ++ (rdOf ByteArray.empty x0 x5)) (wrap64 (x5 + 1))) else (none)) else (none)) else (some ((⟨#[]⟩ : ByteArray), 40)))) else (none)) else (if (x0.length : Int) > 8 then (bursarref04_Join.j1 k x4 true) else (bursarref04_Join.j1 k x4 (decide ((x4.size : Int) > 64))))
def bursarref04_Join.j1 : Nat → ByteArray → Bool → Option (ByteArray × Int)
  | 0, _, _ => none
  | k + 1, x4, x34 => if x34 = true then (some ((⟨#[]⟩ : ByteArray), 41)) else (if x4.toList = ([] : List UInt8) then (some ((⟨#[47]⟩ : ByteArray), 0)) else (some (x4, 0)))
end
def bursarref04_Join.f (k : Nat) (l0 : List ByteArray) : Option (ByteArray × Int) := bursarref04_Join.l0 k l0 (⟨#[]⟩ : ByteArray) 0
theorem bursarref04_Join.mono_l : ∀ k, (∀ y0 y1 y2, LeO (bursarref04_Join.l0 k y0 y1 y2) (bursarref04_Join.l0 (k + 1) y0 y1 y2)) ∧ (∀ y0 y1, LeO (bursarref04_Join.j1 k y0 y1) (bursarref04_Join.j1 (k + 1) y0 y1))
  | 0 => ⟨fun _ _ _ r h => by simp [bursarref04_Join.l0] at h, fun _ _ r h => by simp [bursarref04_Join.j1] at h⟩
  | k + 1 => by
    obtain ⟨ih0, ih1⟩ := bursarref04_Join.mono_l k
    refine ⟨?_, ?_⟩
    · intro y0 y1 y2
      unfold bursarref04_Join.l0
      repeat' first
      | (with_reducible exact ih0 _ _ _)
      | (with_reducible exact ih1 _ _)
      | (with_reducible exact bursarref04_Name.mono _ _)
      | (with_reducible exact LeO.refl _)
      | (with_reducible exact LeO.none _)
      | (with_reducible refine LeO.ite ?_ ?_)
      | (with_reducible refine LeO.bind ?_ (fun _ => ?_))
      | exact ih0 _ _ _
      | exact ih1 _ _
      | exact bursarref04_Name.mono _ _
      | exact LeO.none _
      | refine LeO.ite ?_ ?_
      | refine LeO.bind ?_ (fun _ => ?_)
    · intro y0 y1
      unfold bursarref04_Join.j1
      repeat' first
      | (with_reducible exact ih0 _ _ _)
      | (with_reducible exact ih1 _ _)
      | (with_reducible exact bursarref04_Name.mono _ _)
      | (with_reducible exact LeO.refl _)
      | (with_reducible exact LeO.none _)
      | (with_reducible refine LeO.ite ?_ ?_)
      | (with_reducible refine LeO.bind ?_ (fun _ => ?_))
      | exact ih0 _ _ _
      | exact ih1 _ _
      | exact bursarref04_Name.mono _ _
      | exact LeO.none _
      | refine LeO.ite ?_ ?_
      | refine LeO.bind ?_ (fun _ => ?_)
theorem bursarref04_Join.mono : ∀ a0 k, LeO (bursarref04_Join.f k a0) (bursarref04_Join.f (k + 1) a0) := by
  intro a0 k
  obtain ⟨ih0, ih1⟩ := bursarref04_Join.mono_l k
  unfold bursarref04_Join.f
  repeat' first
      | (with_reducible exact ih0 _ _ _)
      | (with_reducible exact ih1 _ _)
      | (with_reducible exact bursarref04_Name.mono _ _)
      | (with_reducible exact LeO.refl _)
      | (with_reducible exact LeO.none _)
      | (with_reducible refine LeO.ite ?_ ?_)
      | (with_reducible refine LeO.bind ?_ (fun _ => ?_))
      | exact ih0 _ _ _
      | exact ih1 _ _
      | exact bursarref04_Name.mono _ _
      | exact LeO.none _
      | refine LeO.ite ?_ ?_
      | refine LeO.bind ?_ (fun _ => ?_)
set_option maxHeartbeats 8000000 in
set_option maxRecDepth 100000 in
theorem bursarref04_Join.calls (k : Nat) (A0 : Option Addr) (c0 : Nat) (l0 : List ByteArray) (r1 : ByteArray) (r2 : Int) (w : World) (hr0 : Kd.C Kd.string w A0 l0.length l0) (hc0 : l0.length ≤ c0) (h : bursarref04_Join.f k l0 = some (r1, r2)) :
    Calls Tryd.prog 32 #[.slice A0 l0.length c0] w fun e w' => e = .returned (.tuple #[.string r1, .int .i64 r2]) ∧ Drawn0 w w' := by
  have HR0 := Aside0.mk hr0
  have HC0 := Aside0.mk hc0
  clear hr0 hc0
  have H : (bursarref04_Join.l0 k l0 (⟨#[]⟩ : ByteArray) 0) = some (r1, r2) := h
  clear h
  have H' := Aside0.mk H
  clear H
  go_enter Tryd.func32, Tryd.ntmps32
  go_wp2
  go_loopg [4, 5] k (fun kq v4 v5 w' => ∃ (x4_1 : ByteArray) (x5_1 : Int), v4 = .string x4_1 ∧ v5 = .int .i64 x5_1 ∧ Aside0 (bursarref04_Join.l0 kq l0 x4_1 x5_1 = some (r1, r2)) ∧ Aside0 (kq ≤ k) ∧ Drawn0 w w')
  case atStart => exact ⟨((⟨#[]⟩ : ByteArray)), (0), (by first | rfl | (simp; done) | (simp [*]; done) | (simp; rw [Bool.eq_iff_iff]; simp; done) | (rw [Bool.eq_iff_iff]; simp; done)), (by first | rfl | (simp; done) | (simp [*]; done) | (simp; rw [Bool.eq_iff_iff]; simp; done) | (rw [Bool.eq_iff_iff]; simp; done)), H', ⟨Nat.le_refl _⟩, by repeat (first | exact Drawn0.refl _ | apply Drawn0.step)⟩
  case round =>
    clear H'
    obtain ⟨x4_1, x5_1, rfl, rfl, HA, HK1, ⟨m1, rfl⟩⟩ := hrel
    cases gk with
    | zero => exact absurd HA.out (by simp [bursarref04_Join.l0])
    | succ k1 =>
      have H := HA.out
      clear HA
      simp only [bursarref04_Join.l0] at H
      by_cases c2 : x5_1 < (l0.length : Int)
      · rw [if_pos c2] at H
        have c2b0 : decide (x5_1 < (l0.length : Int)) = true := decide_eq_true c2
        clear c2
        by_cases c3 : 0 ≤ x5_1
        · rw [if_pos c3] at H
          have c3b0 : decide (0 ≤ x5_1) = true := decide_eq_true c3
          clear c3
          replace H := Option.bind_eq_some_iff.mp H
          obtain ⟨t287, A40, H⟩ := H
          replace H : (if t287 = true then (if x4_1.size + 1 ≤ 9223372036854775807 then (if (x4_1 ++ (⟨#[47]⟩ : ByteArray)).size + (rdOf ByteArray.empty l0 x5_1).size ≤ 9223372036854775807 then (bursarref04_Join.l0 k1 l0 ((x4_1 ++ (⟨#[47]⟩ : ByteArray)) ++ (rdOf ByteArray.empty l0 x5_1)) (wrap64 (x5_1 + 1))) else (none)) else (none)) else (some ((⟨#[]⟩ : ByteArray), 40))) = some (r1, r2) := H
          have A4 := Aside0.mk A40
          clear A40
          by_cases c5 : t287 = true
          · subst c5
            have H1 : (if x4_1.size + 1 ≤ 9223372036854775807 then (if (x4_1 ++ (⟨#[47]⟩ : ByteArray)).size + (rdOf ByteArray.empty l0 x5_1).size ≤ 9223372036854775807 then (bursarref04_Join.l0 k1 l0 ((x4_1 ++ (⟨#[47]⟩ : ByteArray)) ++ (rdOf ByteArray.empty l0 x5_1)) (wrap64 (x5_1 + 1))) else (none)) else (none)) = some (r1, r2) := by rw [if_pos rfl] at H; exact H
            clear H
            have H := H1
            clear H1
            by_cases c6 : x4_1.size + 1 ≤ 9223372036854775807
            · rw [if_pos c6] at H
              have c6b0 := eq_true c6
              have c6b1 : decide (x4_1.size + 1 ≤ 9223372036854775807) = true := decide_eq_true c6
              try have c6b2 : (9223372036854775807 < x4_1.size + 1) = False := eq_false (Nat.not_lt.2 c6)
              by_cases c7 : (x4_1 ++ (⟨#[47]⟩ : ByteArray)).size + (rdOf ByteArray.empty l0 x5_1).size ≤ 9223372036854775807
              · rw [if_pos c7] at H
                have c7b0 := eq_true c7
                have c7b1 : decide ((x4_1 ++ (⟨#[47]⟩ : ByteArray)).size + (rdOf ByteArray.empty l0 x5_1).size ≤ 9223372036854775807) = true := decide_eq_true c7
                try have c7b2 : (9223372036854775807 < (x4_1 ++ (⟨#[47]⟩ : ByteArray)).size + (rdOf ByteArray.empty l0 x5_1).size) = False := eq_false (Nat.not_lt.2 c7)
                try have c7b3 : (9223372036854775807 < x4_1.size + 1 + (rdOf ByteArray.empty l0 x5_1).size) = False := eq_false (Nat.not_lt.2 (by have h_ := c7; simp only [ByteArray.size_append] at h_; exact h_))
                have H' := Aside0.mk H
                clear H
                have p286 : 0 ≤ (x5_1 : Int) := of_decide_eq_true (by first | (with_reducible assumption) | assumption)
                have q286 : x5_1 < (l0.length : Int) := of_decide_eq_true (by first | (with_reducible assumption) | assumption)
                obtain ⟨ad286, e286, hx286_0⟩ := Kd.at_string HR0.out x5_1 p286 q286
                cases e286
                replace p286 := eq_true p286
                replace q286 := eq_true q286
                go_wp2_with (first | ((with_reducible refine gate_callee (f := 19) rfl ?_); refine goesL_ (some 17) rfl rfl Tryd.func19 (by kernel_rfl) rfl #[.string (rdOf ByteArray.empty l0 x5_1)] rfl (by (try simp only [List.map_toArray, List.map_cons, List.map_nil]); first | done | rfl | (simp only [List.length_drop, List.length_take]; rfl)) ?_; (with_reducible refine (bursarref04_Name.calls k1 (rdOf ByteArray.empty l0 x5_1) true _ A4.out).mono ?_); rintro e w' ⟨rfl, ⟨nd, rfl⟩⟩; refine ⟨_, rfl, ?_⟩; have p288 : 0 ≤ (x5_1 : Int) := of_decide_eq_true (by first | (with_reducible assumption) | assumption); have q288 : x5_1 < (l0.length : Int) := of_decide_eq_true (by first | (with_reducible assumption) | assumption); obtain ⟨ad288, e288, hx288_0⟩ := Kd.at_string HR0.out x5_1 p288 q288; obtain rfl : ad286 = ad288 := (by injection e288); replace p288 := eq_true p288; replace q288 := eq_true q288))
                go_roundg k1
                case measure => have := HK1.out; omega
                case rel => exact ⟨((x4_1 ++ (⟨#[47]⟩ : ByteArray)) ++ (rdOf ByteArray.empty l0 x5_1)), (wrap64 (x5_1 + 1)), (by first | rfl | (simp; done) | (simp [*]; done) | (simp; rw [Bool.eq_iff_iff]; simp; done) | (rw [Bool.eq_iff_iff]; simp; done)), (by first | rfl | (simp; done) | (simp [*]; done) | (simp; rw [Bool.eq_iff_iff]; simp; done) | (rw [Bool.eq_iff_iff]; simp; done)), H', ⟨by have := HK1.out; omega⟩, by repeat (first | exact Drawn0.refl _ | apply Drawn0.step)⟩
              · rw [if_neg c7] at H
                exact absurd H (by simp)
            · rw [if_neg c6] at H
              exact absurd H (by simp)
          · replace c5 := Bool.eq_false_iff.mpr c5
            subst c5
            have H1 : (some ((⟨#[]⟩ : ByteArray), 40)) = some (r1, r2) := by rw [if_neg (show ¬ (false = true) by decide)] at H; exact H
            clear H
            have H := H1
            clear H1
            simp only [Option.some.injEq, Prod.mk.injEq] at H
            obtain ⟨rfl, rfl⟩ := H
            have p286 : 0 ≤ (x5_1 : Int) := of_decide_eq_true (by first | (with_reducible assumption) | assumption)
            have q286 : x5_1 < (l0.length : Int) := of_decide_eq_true (by first | (with_reducible assumption) | assumption)
            obtain ⟨ad286, e286, hx286_0⟩ := Kd.at_string HR0.out x5_1 p286 q286
            cases e286
            replace p286 := eq_true p286
            replace q286 := eq_true q286
            go_wp2_with (first | ((with_reducible refine gate_callee (f := 19) rfl ?_); refine goesL_ (some 17) rfl rfl Tryd.func19 (by kernel_rfl) rfl #[.string (rdOf ByteArray.empty l0 x5_1)] rfl (by (try simp only [List.map_toArray, List.map_cons, List.map_nil]); first | done | rfl | (simp only [List.length_drop, List.length_take]; rfl)) ?_; (with_reducible refine (bursarref04_Name.calls k1 (rdOf ByteArray.empty l0 x5_1) false _ A4.out).mono ?_); rintro e w' ⟨rfl, ⟨nd, rfl⟩⟩; refine ⟨_, rfl, ?_⟩))
            go_ret2
            exact ⟨by first | rfl | (simp; done) | (simp [*]; done), by repeat (first | exact Drawn0.refl _ | apply Drawn0.step)⟩
        · rw [if_neg c3] at H
          exact absurd H (by simp)
      · rw [if_neg c2] at H
        have c2b0 : decide (x5_1 < (l0.length : Int)) = false := decide_eq_false c2
        clear c2
        have HC8 := Aside0.mk H
        clear H
        go_upto_region 9 with (fail)
        go_cut [34] (fun v34 wc => ∃ (kq : Nat) (x34_7 : Bool), v34 = .bool x34_7 ∧ Aside0 (bursarref04_Join.j1 kq x4_1 x34_7 = some (r1, r2)) ∧ Aside0 (kq ≤ k1) ∧ Drawn0 w wc)
        case first =>
          have H := HC8.out
          clear HC8
          by_cases c9 : (l0.length : Int) > 8
          · rw [if_pos c9] at H
            have c9b0 : decide (8 < (l0.length : Int)) = true := decide_eq_true c9
            have c9b1 : decide (8 < l0.length) = true := decide_eq_true (by omega)
            clear c9
            (first | rw [c9b0] | (simp only [i64_w, i32_w]; rw [c9b0]) | skip)
            have H' := Aside0.mk H
            clear H
            go_wp2
            go_meet
            case rel => exact ⟨_, (true), (by first | rfl | (simp; done) | (simp [*]; done) | (simp; rw [Bool.eq_iff_iff]; simp; done) | (rw [Bool.eq_iff_iff]; simp; done)), H', ⟨by have := HK1.out; first | omega | exact Nat.le_refl _⟩, by repeat (first | exact Drawn0.refl _ | apply Drawn0.step)⟩
          · rw [if_neg c9] at H
            have c9b0 : decide (8 < (l0.length : Int)) = false := decide_eq_false c9
            have c9b1 : decide (8 < l0.length) = false := decide_eq_false (by omega)
            clear c9
            (first | rw [c9b0] | (simp only [i64_w, i32_w]; rw [c9b0]) | skip)
            have H' := Aside0.mk H
            clear H
            go_wp2
            go_meet
            case rel => exact ⟨_, (decide ((x4_1.size : Int) > 64)), (by first | rfl | (simp; done) | (simp [*]; done) | (simp; rw [Bool.eq_iff_iff]; simp; done) | (rw [Bool.eq_iff_iff]; simp; done)), H', ⟨by have := HK1.out; first | omega | exact Nat.le_refl _⟩, by repeat (first | exact Drawn0.refl _ | apply Drawn0.step)⟩
        case rest =>
          clear HC8
          try clear c1
          try clear c2
          try clear c2b0
          try clear p2
          try clear q2
          try clear hx2
          try clear c3
          try clear c3b0
          try clear c5
          try clear c6
          try clear c6b0
          try clear c6b1
          try clear c6b2
          try clear p6
          try clear c7
          try clear c7b0
          try clear c7b1
          try clear c7b2
          try clear c9
          try clear c9b0
          try clear c9b1
          try clear hx286_0
          try clear hx288_0
          try clear p286
          try clear p288
          try clear q286
          try clear q288
          obtain ⟨kq, x34_7, rfl, HA, HJ7, ⟨mc7, rfl⟩⟩ := hcut
          cases kq with
          | zero => exact absurd HA.out (by simp [bursarref04_Join.j1])
          | succ kj7 =>
            have H := HA.out
            clear HA
            simp only [bursarref04_Join.j1] at H
            by_cases c10 : x34_7 = true
            · subst c10
              have H1 : (some ((⟨#[]⟩ : ByteArray), 41)) = some (r1, r2) := by rw [if_pos rfl] at H; exact H
              clear H
              have H := H1
              clear H1
              simp only [Option.some.injEq, Prod.mk.injEq] at H
              obtain ⟨rfl, rfl⟩ := H
              go_wp2
              go_ret2
              exact ⟨by first | rfl | (simp; done) | (simp [*]; done), by repeat (first | exact Drawn0.refl _ | apply Drawn0.step)⟩
            · replace c10 := Bool.eq_false_iff.mpr c10
              subst c10
              have H1 : (if x4_1.toList = ([] : List UInt8) then (some ((⟨#[47]⟩ : ByteArray), 0)) else (some (x4_1, 0))) = some (r1, r2) := by rw [if_neg (show ¬ (false = true) by decide)] at H; exact H
              clear H
              have H := H1
              clear H1
              by_cases c11 : x4_1.toList = ([] : List UInt8)
              · rw [if_pos c11] at H
                have c11b0 : (x4_1.toList == ([] : List UInt8)) = true := beq_iff_eq.mpr c11
                have c11b1 : (x4_1.toList != ([] : List UInt8)) = false := bne_eq_false_iff_eq.mpr c11
                clear c11
                simp only [Option.some.injEq, Prod.mk.injEq] at H
                obtain ⟨rfl, rfl⟩ := H
                go_wp2
                go_ret2
                exact ⟨by first | rfl | (simp; done) | (simp [*]; done), by repeat (first | exact Drawn0.refl _ | apply Drawn0.step)⟩
              · rw [if_neg c11] at H
                have c11b0 : (x4_1.toList == ([] : List UInt8)) = false := beq_eq_false_iff_ne.mpr c11
                have c11b1 : (x4_1.toList != ([] : List UInt8)) = true := bne_iff_ne.mpr c11
                simp only [Option.some.injEq, Prod.mk.injEq] at H
                obtain ⟨rfl, rfl⟩ := H
                go_wp2
                go_ret2
                exact ⟨by first | rfl | (simp; done) | (simp [*]; done), by repeat (first | exact Drawn0.refl _ | apply Drawn0.step)⟩

end Go.Proofs.YteaiobgnhlpblaaDoor.Q
namespace Go.Proofs.YteaiobgnhlpblaaDoor.Q
open Go.RowKit Go.Proofs.YteaiobgnhlpblaaDoorW.PrintWords Go.Proofs.YteaiobgnhlpblaaDoorW.PrintLast Go.Proofs.YteaiobgnhlpblaaDoorW.PrintMore
attribute [local go_sem] max2_int min2_int max_two min_two max_three min_three max_four min_four   -- for this text's walks alone
set_option linter.unusedVariables false
set_option linter.unusedSimpArgs false

/-! ### bursarref04_Line: function 30 -/
def bursarref04_Line.l0 : Nat → List ByteArray → List ByteArray → Int → Option (List ByteArray × Int)
  | 0, _, _, _ => none
  | k + 1, x4, x6, x7 => if x7 ≥ 0 then (if 0 ≤ x7 then (if x7 ≤ (x4.length : Int) then ((bursarref04_Join.f k (x4.take (x7 : Int).toNat)).bind fun bt297 => (if x6.length < 8796093022208 then (bursarref04_Line.l0 k x4 (x6 ++ [bt297.1]) (wrap64 (x7 - 1))) else (none))) else (none)) else (none)) else (some (x6, 0))
def bursarref04_Line.f (k : Nat) (a0 : ByteArray) : Option (List ByteArray × Int) := (bursarref04_Split.f k a0).bind fun bt289 => (if bt289.2 = 0 then (bursarref04_Line.l0 k bt289.1 ([] : List ByteArray) (bt289.1.length : Int)) else (some (([] : List ByteArray), bt289.2)))
theorem bursarref04_Line.mono_l : ∀ k, (∀ y0 y1 y2, LeO (bursarref04_Line.l0 k y0 y1 y2) (bursarref04_Line.l0 (k + 1) y0 y1 y2))
  | 0 => fun _ _ _ r h => by simp [bursarref04_Line.l0] at h
  | k + 1 => by
    have ih0 := bursarref04_Line.mono_l k
    · intro y0 y1 y2
      unfold bursarref04_Line.l0
      repeat' first
      | (with_reducible exact ih0 _ _ _)
      | (with_reducible exact bursarref04_Join.mono _ _)
      | (with_reducible exact bursarref04_Split.mono _ _)
      | (with_reducible exact LeO.refl _)
      | (with_reducible exact LeO.none _)
      | (with_reducible refine LeO.ite ?_ ?_)
      | (with_reducible refine LeO.bind ?_ (fun _ => ?_))
      | exact ih0 _ _ _
      | exact bursarref04_Join.mono _ _
      | exact bursarref04_Split.mono _ _
      | exact LeO.none _
      | refine LeO.ite ?_ ?_
      | refine LeO.bind ?_ (fun _ => ?_)
theorem bursarref04_Line.mono : ∀ a0 k, LeO (bursarref04_Line.f k a0) (bursarref04_Line.f (k + 1) a0) := by
  intro a0 k
  have ih0 := bursarref04_Line.mono_l k
  unfold bursarref04_Line.f
  repeat' first
      | (with_reducible exact ih0 _ _ _)
      | (with_reducible exact bursarref04_Join.mono _ _)
      | (with_reducible exact bursarref04_Split.mono _ _)
      | (with_reducible exact LeO.refl _)
      | (with_reducible exact LeO.none _)
      | (with_reducible refine LeO.ite ?_ ?_)
      | (with_reducible refine LeO.bind ?_ (fun _ => ?_))
      | exact ih0 _ _ _
      | exact bursarref04_Join.mono _ _
      | exact bursarref04_Split.mono _ _
      | exact LeO.none _
      | refine LeO.ite ?_ ?_
      | refine LeO.bind ?_ (fun _ => ?_)
set_option maxHeartbeats 8000000 in
set_option maxRecDepth 100000 in
theorem bursarref04_Line.calls (k : Nat) (a0 : ByteArray) (r1 : List ByteArray) (r2 : Int) (w : World) (h : bursarref04_Line.f k a0 = some (r1, r2)) :
    Calls Tryd.prog 30 #[.string a0] w fun e w' => ∃ v0_ : Value, e = .returned (.tuple #[v0_, .int .i64 r2]) ∧ Kd.R Kd.string 9 w' w.heap.size (fun _ => True) v0_ r1 ∧ Below w.heap.size w w' := by
  have HB := Aside0.mk (Below.refl w.heap.size w)
  have H : ((bursarref04_Split.f k a0).bind fun bt289 => (if bt289.2 = 0 then (bursarref04_Line.l0 k bt289.1 ([] : List ByteArray) (bt289.1.length : Int)) else (some (([] : List ByteArray), bt289.2)))) = some (r1, r2) := h
  clear h
  replace H := Option.bind_eq_some_iff.mp H
  obtain ⟨⟨t289, t290⟩, A20, H⟩ := H
  replace H : (if t290 = 0 then (bursarref04_Line.l0 k t289 ([] : List ByteArray) (t289.length : Int)) else (some (([] : List ByteArray), t290))) = some (r1, r2) := H
  have A2 := Aside0.mk A20
  clear A20
  by_cases c3 : t290 = 0
  · rw [if_pos c3] at H
    have c3b0 : (t290 == 0) = true := beq_iff_eq.mpr c3
    have c3b1 : (t290 != 0) = false := bne_eq_false_iff_eq.mpr c3
    clear c3
    have H' := Aside0.mk H
    clear H
    go_enter Tryd.func30, Tryd.ntmps30
    go_wp2_with (first | ((with_reducible refine gate_callee (f := 25) rfl ?_); refine goesL_ (some 12) rfl rfl Tryd.func25 (by kernel_rfl) rfl #[.string a0] rfl (by (try simp only [List.map_toArray, List.map_cons, List.map_nil]); first | done | rfl | (simp only [List.length_drop, List.length_take]; rfl)) ?_; (with_reducible refine (bursarref04_Split.calls k a0 t289 t290 _ A2.out).mono ?_); rintro e w4 ⟨v291, rfl, ho0, hb⟩; refine ⟨_, rfl, ?_⟩; have n0_ := Aside0.mk (Kd.Q_lower ho0 (below_size (by repeat (first | (with_reducible first | exact HB.out | apply below_alloc | apply pw_below_drewN | apply below_drew1) | exact HB.out)))); have n1_ := Aside0.mk (below_step (by repeat (first | (with_reducible first | exact HB.out | apply below_alloc | apply pw_below_drewN | apply below_drew1) | exact HB.out)) hb); clear HB; have HO292 := n0_; have HB := n1_; clear n0_ n1_; (try clear hb); (try clear hb2); (try clear hk); (try clear hi); (try clear ho0); obtain ⟨Ao5, co5, eo5, _⟩ := Kd.Q_slice HO292.out; subst eo5))
    go_loopg [6, 7] k (fun kq v6 v7 w' => ∃ (x6_1 : List ByteArray) (x7_1 : Int), v7 = .int .i64 x7_1 ∧ Aside0 (bursarref04_Line.l0 kq t289 x6_1 x7_1 = some (r1, r2)) ∧ Aside0 (kq ≤ k) ∧ Aside0 (Kd.Q Kd.string 9 w' w.heap.size (fun k_ => some k_ ≠ (v6 : Value).ownBlock) (.slice Ao5 t289.length co5) t289) ∧ Aside0 (Kd.R Kd.string 9 w' w.heap.size (fun k_ => some k_ ≠ ((.slice Ao5 t289.length co5) : Value).ownBlock) v6 x6_1) ∧ Aside0 (Below w.heap.size w w'))
    case atStart => exact ⟨(([] : List ByteArray)), ((t289.length : Int)), (by first | rfl | (simp; done) | (simp [*]; done) | (simp; rw [Bool.eq_iff_iff]; simp; done) | (rw [Bool.eq_iff_iff]; simp; done)), H', ⟨Nat.le_refl _⟩, ⟨by (with_reducible repeat (first | apply Kd.Q_alloc | apply Kd.Q_drewN | apply Kd.Q_drew)); exact Kd.Q_mono HO292.out (fun _ hk => (by simp [Value.ownBlock]))⟩, ⟨by first | exact Kd.R_nil _ _ _ _ _ | exact Kd.N_nil _ _ _ _ _ | exact Kd.V_nil _ _ _ _ _ | exact Kd.Q_nil _ _ _ _ _ | exact Kd.S_nil _ _ _ _ _⟩, ⟨by repeat (first | (with_reducible first | exact HB.out | apply below_alloc | apply pw_below_drewN | apply below_drew1) | exact HB.out)⟩⟩
    case round =>
      clear H'
      try clear c2
      try clear p2
      try clear c3
      try clear c3b0
      try clear c3b1
      obtain ⟨x6_1, x7_1, rfl, HA, HK1, HO_4, HO_6, HB⟩ := hrel
      cases gk with
      | zero => exact absurd HA.out (by simp [bursarref04_Line.l0])
      | succ k1 =>
        have H := HA.out
        clear HA
        simp only [bursarref04_Line.l0] at H
        by_cases c6 : x7_1 ≥ 0
        · rw [if_pos c6] at H
          have c6b0 : decide (0 ≤ x7_1) = true := decide_eq_true c6
          clear c6
          by_cases c7 : 0 ≤ x7_1
          · rw [if_pos c7] at H
            have c7b0 := eq_true c7
            have c7b1 : decide (0 ≤ x7_1) = true := decide_eq_true c7
            clear c7
            by_cases c8 : x7_1 ≤ (t289.length : Int)
            · rw [if_pos c8] at H
              have c8b0 := eq_true c8
              have c8b1 : decide (x7_1 ≤ (t289.length : Int)) = true := decide_eq_true c8
              clear c8
              obtain ⟨y293, hy293⟩ : ∃ y_ : List ByteArray, y_ = (t289.take (x7_1 : Int).toNat) := ⟨_, rfl⟩
              replace H : ((bursarref04_Join.f k1 y293).bind fun bt297 => (if x6_1.length < 8796093022208 then (bursarref04_Line.l0 k1 t289 (x6_1 ++ [bt297.1]) (wrap64 (x7_1 - 1))) else (none))) = some (r1, r2) := by first | (rw [hy293]; with_reducible exact H) | (have H2_ := (Option.bind_some _ _).symm.trans H; rw [hy293]; with_reducible exact H2_) | (have H2_ := (Option.bind_some _ _).symm.trans H; with_reducible exact H2_) | with_reducible exact H | (rw [hy293]; exact H) | exact H
              have Ny293 := Aside0.mk hy293
              clear hy293
              replace H := Option.bind_eq_some_iff.mp H
              obtain ⟨⟨t297, t298⟩, A90, H⟩ := H
              replace H : (if x6_1.length < 8796093022208 then (bursarref04_Line.l0 k1 t289 (x6_1 ++ [t297]) (wrap64 (x7_1 - 1))) else (none)) = some (r1, r2) := H
              have A9 := Aside0.mk A90
              clear A90
              by_cases c10 : x6_1.length < 8796093022208
              · rw [if_pos c10] at H
                have LMc10 := Aside0.mk c10
                clear c10
                obtain ⟨y299, hy299⟩ : ∃ y_ : List ByteArray, y_ = (x6_1 ++ [t297]) := ⟨_, rfl⟩
                replace H : (bursarref04_Line.l0 k1 t289 y299 (wrap64 (x7_1 - 1))) = some (r1, r2) := by first | (rw [hy299]; with_reducible exact H) | (have H2_ := (Option.bind_some _ _).symm.trans H; rw [hy299]; with_reducible exact H2_) | (have H2_ := (Option.bind_some _ _).symm.trans H; with_reducible exact H2_) | with_reducible exact H | (rw [hy299]; exact H) | exact H
                have Ny299 := Aside0.mk hy299
                clear hy299
                have H' := Aside0.mk H
                clear H
                have q11 : (x7_1 : Int) ≤ ((t289.length : Int) : Int) := of_decide_eq_true (by first | (with_reducible assumption) | assumption)
                obtain ⟨i011, hi011, _, hsz11, _⟩ := info_parts info9
                have hroom11 : t289.length ≤ co5 := (Kd.Q_reads' HO_4.out).2.1
                have hC11 : Kd.C Kd.string _ Ao5 t289.length t289 := (Kd.Q_reads' HO_4.out).2.2
                have hcut11 := cut_to (P := Tryd.prog) 35 9 .i64 Tryd.underlying35 hi011 Ao5 t289.length co5 x7_1 (of_decide_eq_true (by first | (with_reducible assumption) | assumption)) q11 hroom11
                have hr11 := Kd.C_take (m := (x7_1 : Int).toNat) hC11 (by omega)
                have hy11 : y293.length = (x7_1 : Int).toNat := (by rw [Ny293.out, List.length_take]; omega)
                rw [← Ny293.out] at hr11
                rw [← hy11] at hcut11
                have HR296 := Aside0.mk hr11
                have HC296 := Aside0.mk (show y293.length ≤ co5 from by omega)
                clear hr11 hC11 hroom11 hi011 hsz11
                have KY11 := Aside0.mk hy11
                clear hy11
                have KL11 := Aside0.mk (show (x7_1 : Int).toNat ≤ t289.length from by omega)
                replace q11 := eq_true q11
                go_wp2_with (first | ((with_reducible refine gate_callee (f := 32) rfl ?_); refine goesL_ (some 28) rfl rfl Tryd.func32 (by kernel_rfl) rfl #[.slice Ao5 y293.length co5] rfl (by (try simp only [List.map_toArray, List.map_cons, List.map_nil]); first | done | rfl | (simp only [List.length_drop, List.length_take]; rfl)) ?_; (with_reducible refine (bursarref04_Join.calls k1 _ _ y293 t297 t298 _ ?side1 ?side2 A9.out).mono ?_); (case side1 => repeat (first | exact (by repeat (first | (with_reducible exact HR296.out) | (with_reducible refine Kd.C_alloc ?_ _) | (with_reducible refine Kd.C_drewN ?_ _) | (with_reducible refine Kd.C_drew ?_) | exact HR296.out)) | (with_reducible refine Kd.C_alloc ?_ _) | (with_reducible refine Kd.C_drewN ?_ _) | (with_reducible refine Kd.C_drew ?_))); (case side2 => exact HC296.out); rintro e w' ⟨rfl, ⟨nd, rfl⟩⟩; refine ⟨_, rfl, ?_⟩) | ((with_reducible refine gate_builtin (b := .append) (xs := #[.tmp 31, .tmp 33]) rfl ?_); at_builtin; refine Kd.R_append Kd.string (w0 := w) w.heap.size rfl (.tmp 31) (.tmp 33) 35 9 (.string ⟨#[]⟩) 16 rfl Tryd.underlying35 info9 rfl (by decide) (by omega) u6 x6_1 t297 [.string t297] (fun k_ => some k_ ≠ (.slice Ao5 t289.length co5 : Value).ownBlock) (fun _ => False) rfl rfl ?aP (fun _ hk => hk.elim) ?aF ?aO ?aB ?aS ?aL ?_; (case aP => exact rfl); (case aB => exact (by repeat (first | (with_reducible first | exact HB.out | apply below_alloc | apply pw_below_drewN | apply below_drew1) | exact HB.out))); (case aF => exact (fun k_ hk => Kd.fresh' (Kd.Q_lt (by (with_reducible repeat (first | apply Kd.Q_alloc | apply Kd.Q_drewN | apply Kd.Q_drew)); exact HO_4.out)) k_ hk)); (case aO => exact (by (with_reducible repeat (first | apply Kd.R_alloc | apply Kd.R_drewN | apply Kd.R_drew)); exact HO_6.out)); (case aS => exact (below_size (by repeat (first | (with_reducible first | exact HB.out | apply below_alloc | apply pw_below_drewN | apply below_drew1) | exact HB.out)))); (case aL => have := LMc10.out; omega); intro v300 w12 ho hb hg hat; rw [← Ny299.out] at ho; have n0_ := Aside0.mk (Kd.Q_after (ok := (fun _ => True)) (by (with_reducible repeat (first | apply Kd.Q_alloc | apply Kd.Q_drewN | apply Kd.Q_drew)); exact Kd.Q_mono HO_4.out (fun _ hk => ⟨trivial, hk⟩)) hg hat); have n1_ := Aside0.mk (hb); have n2_ := Aside0.mk ((show Kd.C Kd.string w12 Ao5 y293.length y293 from by rw [Ny293.out]; exact Kd.C_take (m := (x7_1 : Int).toNat) ((Kd.Q_reads' (Kd.Q_after (ok := (fun _ => True)) (by (with_reducible repeat (first | apply Kd.Q_alloc | apply Kd.Q_drewN | apply Kd.Q_drew)); exact Kd.Q_mono HO_4.out (fun _ hk => ⟨trivial, hk⟩)) hg hat)).2.2) KL11.out)); have n3_ := Aside0.mk (ho); clear HO_4; clear HB; clear HR296; clear HO_6; have HO_4 := n0_; have HB := n1_; have HR296 := n2_; have HO301 := n3_; clear n0_ n1_ n2_ n3_; clear ho hb hg hat))
                go_roundg k1
                case measure => have := HK1.out; omega
                case rel => exact ⟨(y299), (wrap64 (x7_1 - 1)), (by first | rfl | (simp; done) | (simp [*]; done) | (simp; rw [Bool.eq_iff_iff]; simp; done) | (rw [Bool.eq_iff_iff]; simp; done)), H', ⟨by have := HK1.out; omega⟩, ⟨by (with_reducible repeat (first | apply Kd.Q_alloc | apply Kd.Q_drewN | apply Kd.Q_drew)); exact Kd.Q_mono HO_4.out (fun _ hk => hk.2)⟩, ⟨by (with_reducible repeat (first | apply Kd.R_alloc | apply Kd.R_drewN | apply Kd.R_drew)); exact HO301.out⟩, ⟨by repeat (first | (with_reducible first | exact HB.out | apply below_alloc | apply pw_below_drewN | apply below_drew1) | exact HB.out)⟩⟩
              · rw [if_neg c10] at H
                exact absurd H (by simp)
            · rw [if_neg c8] at H
              exact absurd H (by simp)
          · rw [if_neg c7] at H
            exact absurd H (by simp)
        · rw [if_neg c6] at H
          have c6b0 : decide (0 ≤ x7_1) = false := decide_eq_false c6
          clear c6
          simp only [Option.some.injEq, Prod.mk.injEq] at H
          obtain ⟨rfl, rfl⟩ := H
          go_wp2
          go_ret2
          exact ⟨_, by first | rfl | (simp [errW_none, errW_some] <;> rfl) | (simp [*, errW_none, errW_some] <;> rfl), by (with_reducible repeat (first | apply Kd.R_alloc | apply Kd.R_drewN | apply Kd.R_drew)); exact Kd.R_mono HO_6.out (fun _ hk => trivial), by repeat (first | (with_reducible first | exact HB.out | apply below_alloc | apply pw_below_drewN | apply below_drew1) | exact HB.out)⟩
  · rw [if_neg c3] at H
    have c3b0 : (t290 == 0) = false := beq_eq_false_iff_ne.mpr c3
    have c3b1 : (t290 != 0) = true := bne_iff_ne.mpr c3
    simp only [Option.some.injEq, Prod.mk.injEq] at H
    obtain ⟨rfl, rfl⟩ := H
    go_enter Tryd.func30, Tryd.ntmps30
    go_wp2_with (first | ((with_reducible refine gate_callee (f := 25) rfl ?_); refine goesL_ (some 12) rfl rfl Tryd.func25 (by kernel_rfl) rfl #[.string a0] rfl (by (try simp only [List.map_toArray, List.map_cons, List.map_nil]); first | done | rfl | (simp only [List.length_drop, List.length_take]; rfl)) ?_; (with_reducible refine (bursarref04_Split.calls k a0 t289 t290 _ A2.out).mono ?_); rintro e w13 ⟨v291, rfl, ho0, hb⟩; refine ⟨_, rfl, ?_⟩; have n0_ := Aside0.mk (Kd.Q_lower ho0 (below_size (by repeat (first | (with_reducible first | exact HB.out | apply below_alloc | apply pw_below_drewN | apply below_drew1) | exact HB.out)))); have n1_ := Aside0.mk (below_step (by repeat (first | (with_reducible first | exact HB.out | apply below_alloc | apply pw_below_drewN | apply below_drew1) | exact HB.out)) hb); clear HB; have HO292 := n0_; have HB := n1_; clear n0_ n1_; (try clear hb); (try clear hb2); (try clear hk); (try clear hi); (try clear ho0)))
    go_ret2
    exact ⟨_, by first | rfl | (simp [errW_none, errW_some] <;> rfl) | (simp [*, errW_none, errW_some] <;> rfl), by first | exact Kd.R_nil _ _ _ _ _ | exact Kd.N_nil _ _ _ _ _ | exact Kd.V_nil _ _ _ _ _ | exact Kd.Q_nil _ _ _ _ _ | exact Kd.S_nil _ _ _ _ _, by repeat (first | (with_reducible first | exact HB.out | apply below_alloc | apply pw_below_drewN | apply below_drew1) | exact HB.out)⟩

end Go.Proofs.YteaiobgnhlpblaaDoor.Q
namespace Go.Proofs.YteaiobgnhlpblaaDoor.Q
open Go.RowKit Go.Proofs.YteaiobgnhlpblaaDoorW.PrintWords Go.Proofs.YteaiobgnhlpblaaDoorW.PrintLast Go.Proofs.YteaiobgnhlpblaaDoorW.PrintMore
attribute [local go_sem] max2_int min2_int max_two min_two max_three min_three max_four min_four   -- for this text's walks alone
set_option linter.unusedVariables false
set_option linter.unusedSimpArgs false

/-! ### bursarref04_Under: function 23 -/
def bursarref04_Under.l0 : Nat → ByteArray → List ByteArray → Int → Option (Bool)
  | 0, _, _, _ => none
  | k + 1, x1, x5, x7 => if x7 < (x5.length : Int) then (if 0 ≤ x7 then (if (rdOf ByteArray.empty x5 x7).toList = x1.toList then (some true) else (bursarref04_Under.l0 k x1 x5 (wrap64 (x7 + 1)))) else (none)) else (some false)
def bursarref04_Under.f (k : Nat) (a0 : ByteArray) (a1 : ByteArray) : Option (Bool) := (bursarref04_Line.f k a0).bind fun bt302 => (bursarref04_Under.l0 k a1 bt302.1 0)
theorem bursarref04_Under.mono_l : ∀ k, (∀ y0 y1 y2, LeO (bursarref04_Under.l0 k y0 y1 y2) (bursarref04_Under.l0 (k + 1) y0 y1 y2))
  | 0 => fun _ _ _ r h => by simp [bursarref04_Under.l0] at h
  | k + 1 => by
    have ih0 := bursarref04_Under.mono_l k
    · intro y0 y1 y2
      unfold bursarref04_Under.l0
      repeat' first
      | (with_reducible exact ih0 _ _ _)
      | (with_reducible exact bursarref04_Line.mono _ _)
      | (with_reducible exact LeO.refl _)
      | (with_reducible exact LeO.none _)
      | (with_reducible refine LeO.ite ?_ ?_)
      | (with_reducible refine LeO.bind ?_ (fun _ => ?_))
      | exact ih0 _ _ _
      | exact bursarref04_Line.mono _ _
      | exact LeO.none _
      | refine LeO.ite ?_ ?_
      | refine LeO.bind ?_ (fun _ => ?_)
theorem bursarref04_Under.mono : ∀ a0 a1 k, LeO (bursarref04_Under.f k a0 a1) (bursarref04_Under.f (k + 1) a0 a1) := by
  intro a0 a1 k
  have ih0 := bursarref04_Under.mono_l k
  unfold bursarref04_Under.f
  repeat' first
      | (with_reducible exact ih0 _ _ _)
      | (with_reducible exact bursarref04_Line.mono _ _)
      | (with_reducible exact LeO.refl _)
      | (with_reducible exact LeO.none _)
      | (with_reducible refine LeO.ite ?_ ?_)
      | (with_reducible refine LeO.bind ?_ (fun _ => ?_))
      | exact ih0 _ _ _
      | exact bursarref04_Line.mono _ _
      | exact LeO.none _
      | refine LeO.ite ?_ ?_
      | refine LeO.bind ?_ (fun _ => ?_)
set_option maxHeartbeats 8000000 in
set_option maxRecDepth 100000 in
theorem bursarref04_Under.calls (k : Nat) (a0 : ByteArray) (a1 : ByteArray) (r : Bool) (w : World) (h : bursarref04_Under.f k a0 a1 = some r) :
    Calls Tryd.prog 23 #[.string a0, .string a1] w fun e w' => e = .returned (.bool r) ∧ Below w.heap.size w w' := by
  have HB := Aside0.mk (Below.refl w.heap.size w)
  have H : ((bursarref04_Line.f k a0).bind fun bt302 => (bursarref04_Under.l0 k a1 bt302.1 0)) = some r := h
  clear h
  replace H := Option.bind_eq_some_iff.mp H
  obtain ⟨⟨t302, t303⟩, A30, H⟩ := H
  replace H : (bursarref04_Under.l0 k a1 t302 0) = some r := H
  have A3 := Aside0.mk A30
  clear A30
  have H' := Aside0.mk H
  clear H
  go_enter Tryd.func23, Tryd.ntmps23
  go_wp2_with (first | ((with_reducible refine gate_callee (f := 30) rfl ?_); refine goesL_ (some 10) rfl rfl Tryd.func30 (by kernel_rfl) rfl #[.string a0] rfl (by (try simp only [List.map_toArray, List.map_cons, List.map_nil]); first | done | rfl | (simp only [List.length_drop, List.length_take]; rfl)) ?_; (with_reducible refine (bursarref04_Line.calls k a0 t302 t303 _ A3.out).mono ?_); rintro e w4 ⟨v304, rfl, ho0, hb⟩; refine ⟨_, rfl, ?_⟩; have n0_ := Aside0.mk (Kd.R_lower ho0 (below_size (by repeat (first | (with_reducible first | exact HB.out | apply below_alloc | apply pw_below_drewN | apply below_drew1) | exact HB.out)))); have n1_ := Aside0.mk (below_step (by repeat (first | (with_reducible first | exact HB.out | apply below_alloc | apply pw_below_drewN | apply below_drew1) | exact HB.out)) hb); clear HB; have HO305 := n0_; have HB := n1_; clear n0_ n1_; (try clear hb); (try clear hb2); (try clear hk); (try clear hi); (try clear ho0)))
  go_loopg [7] k (fun kq v7 w' => ∃ (x7_1 : Int), v7 = .int .i64 x7_1 ∧ Aside0 (bursarref04_Under.l0 kq a1 t302 x7_1 = some r) ∧ Aside0 (kq ≤ k) ∧ Aside0 (Kd.R Kd.string 9 w' w.heap.size (fun _ => True) v304 t302) ∧ Aside0 (Below w.heap.size w w'))
  case atStart => exact ⟨(0), (by first | rfl | (simp; done) | (simp [*]; done) | (simp; rw [Bool.eq_iff_iff]; simp; done) | (rw [Bool.eq_iff_iff]; simp; done)), H', ⟨Nat.le_refl _⟩, ⟨by (with_reducible repeat (first | apply Kd.R_alloc | apply Kd.R_drewN | apply Kd.R_drew)); exact HO305.out⟩, ⟨by repeat (first | (with_reducible first | exact HB.out | apply below_alloc | apply pw_below_drewN | apply below_drew1) | exact HB.out)⟩⟩
  case round =>
    clear H'
    try clear c2
    try clear p2
    try clear c3
    obtain ⟨x7_1, rfl, HA, HK1, HO_5, HB⟩ := hrel
    cases gk with
    | zero => exact absurd HA.out (by simp [bursarref04_Under.l0])
    | succ k1 =>
      have H := HA.out
      clear HA
      simp only [bursarref04_Under.l0] at H
      by_cases c5 : x7_1 < (t302.length : Int)
      · rw [if_pos c5] at H
        have c5b0 : decide (x7_1 < (t302.length : Int)) = true := decide_eq_true c5
        clear c5
        by_cases c6 : 0 ≤ x7_1
        · rw [if_pos c6] at H
          have c6b0 : decide (0 ≤ x7_1) = true := decide_eq_true c6
          clear c6
          by_cases c7 : (rdOf ByteArray.empty t302 x7_1).toList = a1.toList
          · rw [if_pos c7] at H
            have c7b0 : ((rdOf ByteArray.empty t302 x7_1).toList == a1.toList) = true := beq_iff_eq.mpr c7
            have c7b1 : ((rdOf ByteArray.empty t302 x7_1).toList != a1.toList) = false := bne_eq_false_iff_eq.mpr c7
            clear c7
            obtain rfl := Option.some.inj H
            obtain ⟨Ao8, co8, eo8⟩ := Kd.R_slice HO_5.out
            subst eo8
            have p306 : 0 ≤ (x7_1 : Int) := of_decide_eq_true (by first | (with_reducible assumption) | assumption)
            have q306 : x7_1 < (t302.length : Int) := of_decide_eq_true (by first | (with_reducible assumption) | assumption)
            obtain ⟨ad306, e306, hx306_0⟩ := Kd.at_string (Kd.R_reads' HO_5.out).2.2 x7_1 p306 q306
            cases e306
            replace p306 := eq_true p306
            replace q306 := eq_true q306
            go_wp2
            go_ret
            exact ⟨by first | rfl | (simp [errW_none, errW_some] <;> rfl) | (simp [*, errW_none, errW_some] <;> rfl), by repeat (first | (with_reducible first | exact HB.out | apply below_alloc | apply pw_below_drewN | apply below_drew1) | exact HB.out)⟩
          · rw [if_neg c7] at H
            have c7b0 : ((rdOf ByteArray.empty t302 x7_1).toList == a1.toList) = false := beq_eq_false_iff_ne.mpr c7
            have c7b1 : ((rdOf ByteArray.empty t302 x7_1).toList != a1.toList) = true := bne_iff_ne.mpr c7
            have H' := Aside0.mk H
            clear H
            obtain ⟨Ao9, co9, eo9⟩ := Kd.R_slice HO_5.out
            subst eo9
            have p306 : 0 ≤ (x7_1 : Int) := of_decide_eq_true (by first | (with_reducible assumption) | assumption)
            have q306 : x7_1 < (t302.length : Int) := of_decide_eq_true (by first | (with_reducible assumption) | assumption)
            obtain ⟨ad306, e306, hx306_0⟩ := Kd.at_string (Kd.R_reads' HO_5.out).2.2 x7_1 p306 q306
            cases e306
            replace p306 := eq_true p306
            replace q306 := eq_true q306
            go_wp2
            go_roundg k1
            case measure => have := HK1.out; omega
            case rel => exact ⟨(wrap64 (x7_1 + 1)), (by first | rfl | (simp; done) | (simp [*]; done) | (simp; rw [Bool.eq_iff_iff]; simp; done) | (rw [Bool.eq_iff_iff]; simp; done)), H', ⟨by have := HK1.out; omega⟩, ⟨by (with_reducible repeat (first | apply Kd.R_alloc | apply Kd.R_drewN | apply Kd.R_drew)); exact HO_5.out⟩, ⟨by repeat (first | (with_reducible first | exact HB.out | apply below_alloc | apply pw_below_drewN | apply below_drew1) | exact HB.out)⟩⟩
        · rw [if_neg c6] at H
          exact absurd H (by simp)
      · rw [if_neg c5] at H
        have c5b0 : decide (x7_1 < (t302.length : Int)) = false := decide_eq_false c5
        clear c5
        obtain rfl := Option.some.inj H
        obtain ⟨Ao10, co10, eo10⟩ := Kd.R_slice HO_5.out
        subst eo10
        go_wp2
        go_ret
        exact ⟨by first | rfl | (simp [errW_none, errW_some] <;> rfl) | (simp [*, errW_none, errW_some] <;> rfl), by repeat (first | (with_reducible first | exact HB.out | apply below_alloc | apply pw_below_drewN | apply below_drew1) | exact HB.out)⟩

end Go.Proofs.YteaiobgnhlpblaaDoor.Q
namespace Go.Proofs.YteaiobgnhlpblaaDoor.Q
open Go.RowKit Go.Proofs.YteaiobgnhlpblaaDoorW.PrintWords Go.Proofs.YteaiobgnhlpblaaDoorW.PrintLast Go.Proofs.YteaiobgnhlpblaaDoorW.PrintMore
attribute [local go_sem] max2_int min2_int max_two min_two max_three min_three max_four min_four   -- for this text's walks alone
set_option linter.unusedVariables false
set_option linter.unusedSimpArgs false

/-! ### bursarref04_Parent: function 28 -/
def bursarref04_Parent.f (k : Nat) (a0 : ByteArray) : Option (ByteArray × Int) := (bursarref04_Line.f k a0).bind fun bt309 => (if bt309.2 = 0 then (if (bt309.1.length : Int) = 1 then (some ((⟨#[]⟩ : ByteArray), 143)) else (if 1 < (bt309.1.length : Int) then (some (rdOf ByteArray.empty bt309.1 1, 0)) else (none))) else (some ((⟨#[]⟩ : ByteArray), bt309.2)))
theorem bursarref04_Parent.mono : ∀ a0 k, LeO (bursarref04_Parent.f k a0) (bursarref04_Parent.f (k + 1) a0) := by
  intro a0 k
  unfold bursarref04_Parent.f
  repeat' first
      | (with_reducible exact bursarref04_Line.mono _ _)
      | (with_reducible exact LeO.refl _)
      | (with_reducible exact LeO.none _)
      | (with_reducible refine LeO.ite ?_ ?_)
      | (with_reducible refine LeO.bind ?_ (fun _ => ?_))
      | exact bursarref04_Line.mono _ _
      | exact LeO.none _
      | refine LeO.ite ?_ ?_
      | refine LeO.bind ?_ (fun _ => ?_)
set_option maxHeartbeats 8000000 in
set_option maxRecDepth 100000 in
theorem bursarref04_Parent.calls (k : Nat) (a0 : ByteArray) (r1 : ByteArray) (r2 : Int) (w : World) (h : bursarref04_Parent.f k a0 = some (r1, r2)) :
    Calls Tryd.prog 28 #[.string a0] w fun e w' => e = .returned (.tuple #[.string r1, .int .i64 r2]) ∧ Below w.heap.size w w' := by
  have HB := Aside0.mk (Below.refl w.heap.size w)
  have H : ((bursarref04_Line.f k a0).bind fun bt309 => (if bt309.2 = 0 then (if (bt309.1.length : Int) = 1 then (some ((⟨#[]⟩ : ByteArray), 143)) else (if 1 < (bt309.1.length : Int) then (some (rdOf ByteArray.empty bt309.1 1, 0)) else (none))) else (some ((⟨#[]⟩ : ByteArray), bt309.2)))) = some (r1, r2) := h
  clear h
  replace H := Option.bind_eq_some_iff.mp H
  obtain ⟨⟨t309, t310⟩, A20, H⟩ := H
  replace H : (if t310 = 0 then (if (t309.length : Int) = 1 then (some ((⟨#[]⟩ : ByteArray), 143)) else (if 1 < (t309.length : Int) then (some (rdOf ByteArray.empty t309 1, 0)) else (none))) else (some ((⟨#[]⟩ : ByteArray), t310))) = some (r1, r2) := H
  have A2 := Aside0.mk A20
  clear A20
  by_cases c3 : t310 = 0
  · rw [if_pos c3] at H
    have c3b0 : (t310 == 0) = true := beq_iff_eq.mpr c3
    have c3b1 : (t310 != 0) = false := bne_eq_false_iff_eq.mpr c3
    clear c3
    by_cases c4 : (t309.length : Int) = 1
    · rw [if_pos c4] at H
      have c4b0 : ((t309.length : Int) == 1) = true := beq_iff_eq.mpr c4
      have c4b1 : ((t309.length : Int) != 1) = false := bne_eq_false_iff_eq.mpr c4
      clear c4
      simp only [Option.some.injEq, Prod.mk.injEq] at H
      obtain ⟨rfl, rfl⟩ := H
      go_enter Tryd.func28, Tryd.ntmps28
      go_wp2_with (first | ((with_reducible refine gate_callee (f := 30) rfl ?_); refine goesL_ (some 8) rfl rfl Tryd.func30 (by kernel_rfl) rfl #[.string a0] rfl (by (try simp only [List.map_toArray, List.map_cons, List.map_nil]); first | done | rfl | (simp only [List.length_drop, List.length_take]; rfl)) ?_; (with_reducible refine (bursarref04_Line.calls k a0 t309 t310 _ A2.out).mono ?_); rintro e w5 ⟨v311, rfl, ho0, hb⟩; refine ⟨_, rfl, ?_⟩; have n0_ := Aside0.mk (Kd.R_lower ho0 (below_size (by repeat (first | (with_reducible first | exact HB.out | apply below_alloc | apply pw_below_drewN | apply below_drew1) | exact HB.out)))); have n1_ := Aside0.mk (below_step (by repeat (first | (with_reducible first | exact HB.out | apply below_alloc | apply pw_below_drewN | apply below_drew1) | exact HB.out)) hb); clear HB; have HO312 := n0_; have HB := n1_; clear n0_ n1_; (try clear hb); (try clear hb2); (try clear hk); (try clear hi); (try clear ho0); obtain ⟨Ao6, co6, eo6⟩ := Kd.R_slice HO312.out; subst eo6))
      go_ret2
      exact ⟨by first | rfl | (simp [errW_none, errW_some] <;> rfl) | (simp [*, errW_none, errW_some] <;> rfl), by repeat (first | (with_reducible first | exact HB.out | apply below_alloc | apply pw_below_drewN | apply below_drew1) | exact HB.out)⟩
    · rw [if_neg c4] at H
      have c4b0 : ((t309.length : Int) == 1) = false := beq_eq_false_iff_ne.mpr c4
      have c4b1 : ((t309.length : Int) != 1) = true := bne_iff_ne.mpr c4
      by_cases c7 : 1 < (t309.length : Int)
      · rw [if_pos c7] at H
        have c7b0 : decide (1 < (t309.length : Int)) = true := decide_eq_true c7
        have c7b1 : decide (1 < t309.length) = true := decide_eq_true (by omega)
        clear c7
        simp only [Option.some.injEq, Prod.mk.injEq] at H
        obtain ⟨rfl, rfl⟩ := H
        go_enter Tryd.func28, Tryd.ntmps28
        go_wp2_with (first | ((with_reducible refine gate_callee (f := 30) rfl ?_); refine goesL_ (some 8) rfl rfl Tryd.func30 (by kernel_rfl) rfl #[.string a0] rfl (by (try simp only [List.map_toArray, List.map_cons, List.map_nil]); first | done | rfl | (simp only [List.length_drop, List.length_take]; rfl)) ?_; (with_reducible refine (bursarref04_Line.calls k a0 t309 t310 _ A2.out).mono ?_); rintro e w8 ⟨v311, rfl, ho0, hb⟩; refine ⟨_, rfl, ?_⟩; have n0_ := Aside0.mk (Kd.R_lower ho0 (below_size (by repeat (first | (with_reducible first | exact HB.out | apply below_alloc | apply pw_below_drewN | apply below_drew1) | exact HB.out)))); have n1_ := Aside0.mk (below_step (by repeat (first | (with_reducible first | exact HB.out | apply below_alloc | apply pw_below_drewN | apply below_drew1) | exact HB.out)) hb); clear HB; have HO312 := n0_; have HB := n1_; clear n0_ n1_; (try clear hb); (try clear hb2); (try clear hk); (try clear hi); (try clear ho0); obtain ⟨Ao9, co9, eo9⟩ := Kd.R_slice HO312.out; subst eo9; have p313 : 0 ≤ (1 : Int) := (by omega); have q313 : 1 < (t309.length : Int) := of_decide_eq_true (by first | (with_reducible assumption) | assumption); obtain ⟨ad313, e313, hx313_0⟩ := Kd.at_string (Kd.R_reads' HO312.out).2.2 1 p313 q313; cases e313; (try simp only [show (1 : Int).toNat = 1 from rfl, Nat.reduceMul, Nat.reduceEqDiff, Go.Addr.add, ↓reduceIte] at hx313_0); have qi313 : (1 < t309.length) = True := eq_true (by omega); (try rw [show ((1 : Int)).toNat = 1 from rfl] at hx313_0); replace p313 := eq_true p313; replace q313 := eq_true q313))
        go_ret2
        exact ⟨by first | rfl | (simp [errW_none, errW_some] <;> rfl) | (simp [*, errW_none, errW_some] <;> rfl), by repeat (first | (with_reducible first | exact HB.out | apply below_alloc | apply pw_below_drewN | apply below_drew1) | exact HB.out)⟩
      · rw [if_neg c7] at H
        exact absurd H (by simp)
  · rw [if_neg c3] at H
    have c3b0 : (t310 == 0) = false := beq_eq_false_iff_ne.mpr c3
    have c3b1 : (t310 != 0) = true := bne_iff_ne.mpr c3
    simp only [Option.some.injEq, Prod.mk.injEq] at H
    obtain ⟨rfl, rfl⟩ := H
    go_enter Tryd.func28, Tryd.ntmps28
    go_wp2_with (first | ((with_reducible refine gate_callee (f := 30) rfl ?_); refine goesL_ (some 8) rfl rfl Tryd.func30 (by kernel_rfl) rfl #[.string a0] rfl (by (try simp only [List.map_toArray, List.map_cons, List.map_nil]); first | done | rfl | (simp only [List.length_drop, List.length_take]; rfl)) ?_; (with_reducible refine (bursarref04_Line.calls k a0 t309 t310 _ A2.out).mono ?_); rintro e w10 ⟨v311, rfl, ho0, hb⟩; refine ⟨_, rfl, ?_⟩; have n0_ := Aside0.mk (Kd.R_lower ho0 (below_size (by repeat (first | (with_reducible first | exact HB.out | apply below_alloc | apply pw_below_drewN | apply below_drew1) | exact HB.out)))); have n1_ := Aside0.mk (below_step (by repeat (first | (with_reducible first | exact HB.out | apply below_alloc | apply pw_below_drewN | apply below_drew1) | exact HB.out)) hb); clear HB; have HO312 := n0_; have HB := n1_; clear n0_ n1_; (try clear hb); (try clear hb2); (try clear hk); (try clear hi); (try clear ho0)))
    go_ret2
    exact ⟨by first | rfl | (simp [errW_none, errW_some] <;> rfl) | (simp [*, errW_none, errW_some] <;> rfl), by repeat (first | (with_reducible first | exact HB.out | apply below_alloc | apply pw_below_drewN | apply below_drew1) | exact HB.out)⟩

end Go.Proofs.YteaiobgnhlpblaaDoor.Q
namespace Go.Proofs.YteaiobgnhlpblaaDoor.Q
open Go.RowKit Go.Proofs.YteaiobgnhlpblaaDoorW.PrintWords Go.Proofs.YteaiobgnhlpblaaDoorW.PrintLast Go.Proofs.YteaiobgnhlpblaaDoorW.PrintMore
attribute [local go_sem] max2_int min2_int max_two min_two max_three min_three max_four min_four   -- for this text's walks alone
set_option linter.unusedVariables false
set_option linter.unusedSimpArgs false

/-! ### bursarref04_Path: function 21 -/
def bursarref04_Path.f (k : Nat) (a0 : ByteArray) : Option (Int) := (bursarref04_Split.f k a0).bind fun bt278 => (some bt278.2)
theorem bursarref04_Path.mono : ∀ a0 k, LeO (bursarref04_Path.f k a0) (bursarref04_Path.f (k + 1) a0) := by
  intro a0 k
  unfold bursarref04_Path.f
  repeat' first
      | (with_reducible exact bursarref04_Split.mono _ _)
      | (with_reducible exact LeO.refl _)
      | (with_reducible exact LeO.none _)
      | (with_reducible refine LeO.ite ?_ ?_)
      | (with_reducible refine LeO.bind ?_ (fun _ => ?_))
      | exact bursarref04_Split.mono _ _
      | exact LeO.none _
      | refine LeO.ite ?_ ?_
      | refine LeO.bind ?_ (fun _ => ?_)
set_option maxHeartbeats 8000000 in
set_option maxRecDepth 100000 in
theorem bursarref04_Path.calls (k : Nat) (a0 : ByteArray) (r : Int) (w : World) (h : bursarref04_Path.f k a0 = some r) :
    Calls Tryd.prog 21 #[.string a0] w fun e w' => e = .returned (.int .i64 r) ∧ Below w.heap.size w w' := by
  have HB := Aside0.mk (Below.refl w.heap.size w)
  have H : ((bursarref04_Split.f k a0).bind fun bt278 => (some bt278.2)) = some r := h
  clear h
  replace H := Option.bind_eq_some_iff.mp H
  obtain ⟨⟨t278, t279⟩, A20, H⟩ := H
  replace H : (some t279) = some r := H
  have A2 := Aside0.mk A20
  clear A20
  obtain rfl := Option.some.inj H
  go_enter Tryd.func21, Tryd.ntmps21
  go_wp2_with (first | ((with_reducible refine gate_callee (f := 25) rfl ?_); refine goesL_ (some 7) rfl rfl Tryd.func25 (by kernel_rfl) rfl #[.string a0] rfl (by (try simp only [List.map_toArray, List.map_cons, List.map_nil]); first | done | rfl | (simp only [List.length_drop, List.length_take]; rfl)) ?_; (with_reducible refine (bursarref04_Split.calls k a0 t278 t279 _ A2.out).mono ?_); rintro e w3 ⟨v280, rfl, ho0, hb⟩; refine ⟨_, rfl, ?_⟩; have n0_ := Aside0.mk (Kd.Q_lower ho0 (below_size (by repeat (first | (with_reducible first | exact HB.out | apply below_alloc | apply pw_below_drewN | apply below_drew1) | exact HB.out)))); have n1_ := Aside0.mk (below_step (by repeat (first | (with_reducible first | exact HB.out | apply below_alloc | apply pw_below_drewN | apply below_drew1) | exact HB.out)) hb); clear HB; have HO281 := n0_; have HB := n1_; clear n0_ n1_; (try clear hb); (try clear hb2); (try clear hk); (try clear hi); (try clear ho0)))
  go_ret
  exact ⟨by first | rfl | (simp [errW_none, errW_some] <;> rfl) | (simp [*, errW_none, errW_some] <;> rfl), by repeat (first | (with_reducible first | exact HB.out | apply below_alloc | apply pw_below_drewN | apply below_drew1) | exact HB.out)⟩

end Go.Proofs.YteaiobgnhlpblaaDoor.Q
/- Plain lists: a text cut at each c, names and paths. No program. -/
namespace Go.Proofs.YteaiobgnhlpblaaDoor.Pl

/-- l cut at each c. -/
def pcs (c : UInt8) : List UInt8 → List (List UInt8)
  | [] => [[]]
  | x :: l => if x = c then [] :: pcs c l else match pcs c l with
    | [] => [[x]]
    | p :: r => (x :: p) :: r

theorem pcs_ne (c : UInt8) (l : List UInt8) : pcs c l ≠ [] := by
  cases l with
  | nil => simp [pcs]
  | cons x l =>
    unfold pcs
    split
    · simp
    · split <;> simp
theorem pcs_hit (c : UInt8) (l : List UInt8) : pcs c (c :: l) = [] :: pcs c l := by simp [pcs]
theorem pcs_cons (c x : UInt8) (l : List UInt8) (h : x ≠ c) : ∃ p r, pcs c l = p :: r ∧ pcs c (x :: l) = (x :: p) :: r := by
  cases hp : pcs c l with
  | nil => exact absurd hp (pcs_ne c l)
  | cons p r => exact ⟨p, r, rfl, by simp [pcs, h, hp]⟩
/-- A stretch without c, then c. -/
theorem pcs_app (c : UInt8) (n l : List UInt8) (h : c ∉ n) : pcs c (n ++ c :: l) = n :: pcs c l := by
  induction n with
  | nil => simp [pcs]
  | cons x n ih =>
    have hx : x ≠ c := fun e => h (by simp [e])
    have hn : c ∉ n := fun e => h (by simp [e])
    simp [pcs, hx, ih hn]
theorem pcs_one (c : UInt8) (n : List UInt8) (h : c ∉ n) : pcs c n = [n] := by
  induction n with
  | nil => simp [pcs]
  | cons x n ih =>
    have hx : x ≠ c := fun e => h (by simp [e])
    have hn : c ∉ n := fun e => h (by simp [e])
    simp [pcs, hx, ih hn]
theorem pcs_free (c : UInt8) (l : List UInt8) : ∀ p ∈ pcs c l, c ∉ p := by
  induction l with
  | nil => simp [pcs]
  | cons x l ih =>
    by_cases h : x = c
    · subst h
      rw [pcs_hit]
      intro p hp
      rcases List.mem_cons.1 hp with rfl | hp
      · simp
      · exact ih p hp
    · obtain ⟨p, r, h1, h2⟩ := pcs_cons c x l h
      rw [h2]
      rw [h1] at ih
      intro q hq
      rcases List.mem_cons.1 hq with rfl | hq
      · have := ih p List.mem_cons_self
        simp [Ne.symm h, this]
      · exact ih q (List.mem_cons_of_mem _ hq)
/-- Each piece with a c ahead of it: the text with one ahead. -/
theorem pcs_flat (c : UInt8) (l : List UInt8) : ((pcs c l).map (c :: ·)).flatten = c :: l := by
  induction l with
  | nil => simp [pcs]
  | cons x l ih =>
    by_cases h : x = c
    · subst h
      rw [pcs_hit]
      simp only [List.map_cons, List.flatten_cons, ih]
      rfl
    · obtain ⟨p, r, h1, h2⟩ := pcs_cons c x l h
      rw [h2]
      rw [h1] at ih
      simp only [List.map_cons, List.flatten_cons] at ih ⊢
      have := List.cons.inj ih
      show c :: (x :: p) ++ _ = c :: x :: l
      rw [← this.2]
      rfl
theorem pcs_length_le (c : UInt8) (l : List UInt8) : (pcs c l).length ≤ l.length + 1 := by
  induction l with
  | nil => simp [pcs]
  | cons x l ih =>
    by_cases h : x = c
    · subst h; rw [pcs_hit]; simp; omega
    · obtain ⟨p, r, h1, h2⟩ := pcs_cons c x l h
      rw [h2]; rw [h1] at ih; simp at ih ⊢; omega
/-- The pieces of names, each with a c ahead of it (the first c off). -/
theorem pcs_of_names (c : UInt8) (n : List UInt8) (ns : List (List UInt8)) (h : ∀ p ∈ n :: ns, c ∉ p) : pcs c (n ++ (ns.map (c :: ·)).flatten) = n :: ns := by
  induction ns generalizing n with
  | nil => simp [pcs_one c n (h n (by simp))]
  | cons m ns ih =>
    have := ih m (fun p hp => h p (List.mem_cons_of_mem _ hp))
    simp only [List.map_cons, List.flatten_cons, List.cons_append]
    rw [pcs_app c n _ (h n (by simp)), this]

/-- The path of names. -/
def flat (ns : List (List UInt8)) : List UInt8 := (ns.map (47 :: ·)).flatten
def pathL (ns : List (List UInt8)) : List UInt8 := if ns = [] then [47] else flat ns
theorem flat_nil : flat [] = [] := rfl
theorem flat_cons (n : List UInt8) (ns : List (List UInt8)) : flat (n :: ns) = 47 :: (n ++ flat ns) := by simp [flat]
theorem flat_append (a b : List (List UInt8)) : flat (a ++ b) = flat a ++ flat b := by simp [flat]
theorem flat_length (ns : List (List UInt8)) : ns.length ≤ (flat ns).length := by
  induction ns with
  | nil => simp [flat]
  | cons n ns ih => rw [flat_cons]; simp; omega
theorem flat_inj : ∀ (a b : List (List UInt8)), (∀ p ∈ a, (47 : UInt8) ∉ p) → (∀ p ∈ b, (47 : UInt8) ∉ p) → flat a = flat b → a = b := by
  intro a b ha hb h
  cases a with
  | nil =>
    cases b with
    | nil => rfl
    | cons m ms => rw [flat_nil, flat_cons] at h; cases h
  | cons n ns =>
    cases b with
    | nil => rw [flat_nil, flat_cons] at h; cases h
    | cons m ms =>
      rw [flat_cons, flat_cons] at h
      have h' := (List.cons.inj h).2
      have e1 := pcs_of_names 47 n ns ha
      have e2 := pcs_of_names 47 m ms hb
      rw [← e1, ← e2]
      congr 1
/-- A path and a stroke ahead of another path: its names begin the other's. -/
theorem flat_prefix : ∀ (ms ns : List (List UInt8)), (∀ p ∈ ms, (47 : UInt8) ∉ p) → (∀ p ∈ ns, (47 : UInt8) ∉ p) → (flat ms ++ [47]) <+: flat ns → ms <+: ns := by
  intro ms
  induction ms with
  | nil => intro ns _ _ _; exact List.nil_prefix
  | cons m ms ih =>
    intro ns hm hn h
    cases ns with
    | nil =>
      obtain ⟨t, ht⟩ := h
      rw [flat_cons, flat_nil] at ht
      simp at ht
    | cons n ns =>
      rw [flat_cons, flat_cons] at h
      obtain ⟨t, ht⟩ := h
      simp only [List.cons_append, List.append_assoc, List.cons.injEq, true_and] at ht
      -- m ++ (flat ms ++ ([47] ++ t)) = n ++ flat ns
      have e1 : pcs 47 (m ++ (flat ms ++ ([47] ++ t))) = m :: pcs 47 ((flat ms ++ ([47] ++ t)).tail) := by
        cases ms with
        | nil => simp only [flat_nil, List.nil_append, List.cons_append, List.tail_cons]; exact pcs_app 47 m t (hm m (by simp))
        | cons q qs => rw [flat_cons]; simp only [List.cons_append, List.tail_cons]; exact pcs_app 47 m _ (hm m (by simp))
      have e2 := pcs_of_names 47 n ns hn
      have e3 : n ++ flat ns = n ++ (ns.map (47 :: ·)).flatten := rfl
      have ht' : m ++ (flat ms ++ ([47] ++ t)) = n ++ flat ns := ht
      rw [ht', e3, e2] at e1
      have hmn : n = m := (List.cons.inj e1).1
      subst hmn
      have h4 : flat ms ++ ([47] ++ t) = flat ns := List.append_cancel_left ht'
      have h5 := ih ns (fun p hp => hm p (List.mem_cons_of_mem _ hp)) (fun p hp => hn p (List.mem_cons_of_mem _ hp)) ⟨t, by rw [← h4]; simp⟩
      obtain ⟨u, rfl⟩ := h5
      exact ⟨u, by simp⟩
theorem prefix_flat {ms ns : List (List UInt8)} (h : ms <+: ns) (hne : ms ≠ ns) : (flat ms ++ [47]) <+: flat ns := by
  obtain ⟨u, rfl⟩ := h
  cases u with
  | nil => simp at hne
  | cons x u =>
    rw [flat_append, flat_cons]
    exact ⟨x ++ flat u, by simp⟩
end Go.Proofs.YteaiobgnhlpblaaDoor.Pl
/- What the printed functions on names and paths come to, in plain lists. -/
namespace Go.Proofs.YteaiobgnhlpblaaDoor.Q
open Go.RowKit Go.Proofs.YteaiobgnhlpblaaDoorW.PrintWords Go.Proofs.YteaiobgnhlpblaaDoorW.PrintLast Go.Proofs.YteaiobgnhlpblaaDoor.Pl
set_option linter.unusedVariables false
set_option linter.unusedSimpArgs false

def toB (l : List UInt8) : ByteArray := ⟨l.toArray⟩
theorem toB_list (l : List UInt8) : (toB l).data.toList = l := rfl
theorem toB_of (s : ByteArray) : toB s.data.toList = s := ba_ext rfl
theorem toB_inj {a b : List UInt8} (h : toB a = toB b) : a = b := by rw [← toB_list a, h, toB_list]
theorem toB_size (l : List UInt8) : (toB l).size = l.length := by simp [toB, ByteArray.size]
theorem size_list (s : ByteArray) : s.data.toList.length = s.size := by rw [Array.length_toList]; rfl
theorem lit_list {s : ByteArray} {l : List UInt8} : s.toList = l ↔ s.data.toList = l := by rw [ByteArray.toList_eq]
def nameL (l : List UInt8) : Bool := nameB (toB l)

/-! ### names -/
theorem nstep (k : Nat) (s : ByteArray) (i : Nat) (h : i < s.size) : bursarref04_Name.l0 (k + 1) s (i : Int) = if okByte (s[i]'h) = true then bursarref04_Name.l0 k s (wrap64 ((i : Int) + 1)) else some false := by
  have hb := bt_get s i h
  have hok := ok_iff (s[i]'h)
  rw [plB_iff, hb] at hok
  simp only [bursarref04_Name.l0]
  rw [if_pos (by omega), if_pos (by omega)]
  by_cases ho : okByte (s[i]'h) = true
  · rw [if_pos ho]
    have := hok.1 ho
    repeat' split
    all_goals first | rfl | (exfalso; omega)
  · rw [if_neg ho]
    have hn := fun h => ho (hok.2 h)
    repeat' split
    all_goals first | rfl | (exfalso; exact hn (by omega))
theorem nloop (s : ByteArray) (hs : s.size ≤ 1048576) (d : Nat) : ∀ i : Nat, i + d = s.size → Ev (fun k => bursarref04_Name.l0 k s (i : Int)) ((s.data.toList.drop i).all okByte) := by
  induction d with
  | zero =>
    intro i hi
    refine Ev.step (f := fun _ => some true) (fun k => ?_) ?_
    · simp only [bursarref04_Name.l0]; rw [if_neg (by omega)]
    · rw [List.drop_of_length_le (by rw [size_list]; omega)]; exact Ev.now true
  | succ d ih =>
    intro i hi
    have hlt : i < s.size := by omega
    have hl : i < s.data.toList.length := by rw [size_list]; exact hlt
    have hd : s.data.toList.drop i = s[i]'hlt :: s.data.toList.drop (i + 1) := List.drop_eq_getElem_cons hl
    rw [hd, List.all_cons]
    cases ho : okByte (s[i]'hlt) with
    | true =>
      rw [Bool.true_and]
      refine Ev.step (fun k => ?_) (ih (i + 1) (by omega))
      rw [nstep k s i hlt, if_pos ho, w64 i (by omega)]
    | false =>
      refine Ev.step (f := fun _ => some false) (fun k => ?_) (Ev.now false)
      rw [nstep k s i hlt, if_neg (by rw [ho]; decide)]
theorem name_ev (s : ByteArray) : Ev (fun k => bursarref04_Name.f k s) (nameB s) := by
  have hfalse : Ev (fun k => bursarref04_Name.j0 k s true) false := Ev.step (f := fun _ => some false) (fun k => by simp [bursarref04_Name.j0]) (Ev.now false)
  by_cases h1 : s.size < 1
  · rw [nameB_false (.inl h1)]
    refine Ev.congr (f := fun k => bursarref04_Name.j0 k s true) (fun k => ?_) hfalse
    unfold bursarref04_Name.f; rw [if_pos (by omega)]
  by_cases h2 : 32 < s.size
  · rw [nameB_false (.inr (.inl h2))]
    refine Ev.congr (f := fun k => bursarref04_Name.j0 k s true) (fun k => ?_) hfalse
    unfold bursarref04_Name.f; rw [if_neg (by omega), if_pos (by omega)]
  by_cases h3 : bt s 0 = 45
  · rw [nameB_false (.inr (.inr (.inl h3)))]
    refine Ev.congr (f := fun k => bursarref04_Name.j0 k s true) (fun k => ?_) hfalse
    unfold bursarref04_Name.f; rw [if_neg (by omega), if_neg (by omega), if_pos (by omega), if_pos h3]
  have hw : wrap64 ((s.size : Int) - 1) = (s.size : Int) - 1 := by unfold wrap64; omega
  by_cases h4 : bt s ((s.size : Int) - 1) = 45
  · rw [nameB_false (.inr (.inr (.inr (.inl h4))))]
    refine Ev.congr (f := fun k => bursarref04_Name.j0 k s true) (fun k => ?_) hfalse
    unfold bursarref04_Name.f
    rw [if_neg (by omega), if_neg (by omega), if_pos (by omega), if_neg h3, hw, if_pos (by omega), if_pos (by omega), h4]; rfl
  have hv : nameB s = s.data.toList.all okByte := by
    cases h : s.data.toList.all okByte with
    | true => exact nameB_true (by omega) (by omega) h3 h4 h
    | false => exact nameB_false (.inr (.inr (.inr (.inr h))))
  rw [hv]
  refine Ev.congr (f := fun k => bursarref04_Name.j0 k s false) (fun k => ?_) ?_
  · unfold bursarref04_Name.f
    have e : (bt s ((s.size : Int) - 1) == 45) = false := by rw [beq_eq_false_iff_ne]; exact h4
    rw [if_neg (by omega), if_neg (by omega), if_pos (by omega), if_neg h3, hw, if_pos (by omega), if_pos (by omega), e]
  · refine Ev.step (f := fun k => bursarref04_Name.l0 k s 0) (fun k => by simp [bursarref04_Name.j0]) ?_
    exact nloop s (by omega) s.size 0 (by omega)
theorem name_free {l : List UInt8} (h : nameL l = true) : (47 : UInt8) ∉ l := by
  intro hm
  have : (toB l).data.toList.all okByte = false := by
    rw [List.all_eq_false]
    exact ⟨47, hm, by decide⟩
  unfold nameL at h
  rw [nameB_false (.inr (.inr (.inr (.inr this))))] at h
  cases h
theorem name_size {s : ByteArray} (h : nameB s = true) : 1 ≤ s.size ∧ s.size ≤ 32 := by
  unfold nameB at h
  simp only [Bool.and_eq_true, decide_eq_true_eq] at h
  exact ⟨h.1.1.1.1, h.1.1.1.2⟩

/-! ### pieces -/
theorem drop_cons (s : ByteArray) (i : Nat) (h : i < s.size) : s.data.toList.drop i = s[i]'h :: s.data.toList.drop (i + 1) :=
  List.drop_eq_getElem_cons (by rw [size_list]; exact h)
theorem ext_list (s : ByteArray) (a b : Nat) : (s.extract a b).data.toList = (s.data.toList.take b).drop a := by
  rw [List.drop_take]
  simp
/-- What is left of the pieces where the present one began at 'from'. -/
def rest (c : UInt8) (s : ByteArray) (from_ i : Nat) : List (List UInt8) := match pcs c (s.data.toList.drop i) with
  | [] => []
  | p :: r => (((s.data.toList.take i).drop from_) ++ p) :: r
theorem take_drop_succ (s : ByteArray) (f i : Nat) (hf : f ≤ i) (h : i < s.size) : (s.data.toList.take (i + 1)).drop f = (s.data.toList.take i).drop f ++ [s[i]'h] := by
  have hl : i < s.data.toList.length := by rw [size_list]; exact h
  rw [List.take_succ_eq_append_getElem hl, List.drop_append_of_le_length (by rw [List.length_take]; omega)]
  rfl
theorem ploop (s : ByteArray) (c : UInt8) (hs : s.size ≤ 1048576) (d : Nat) : ∀ (i f : Nat) (acc : List ByteArray), i + d = s.size → f ≤ i → acc.length ≤ i →
    Ev (fun k => bursarref04_pieces.l0 k s (c.toNat : Int) acc (f : Int) (i : Int)) (acc ++ (rest c s f i).map toB) := by
  induction d with
  | zero =>
    intro i f acc hi hf ha
    refine Ev.step (f := fun k => bursarref04_pieces.l0 k s (c.toNat : Int) (acc ++ [s.extract f i]) (((i + 1 : Nat)) : Int) (((i + 1 : Nat)) : Int)) (fun k => ?_) ?_
    · simp only [bursarref04_pieces.l0]
      rw [if_pos (by omega), if_pos (by omega), if_pos (by omega), if_pos (by omega), if_pos (by omega), w64 i (by omega), Int.toNat_natCast, Int.toNat_natCast]
    · refine Ev.step (f := fun _ => some (acc ++ [s.extract f i])) (fun k => ?_) ?_
      · simp only [bursarref04_pieces.l0]; rw [if_neg (by omega)]
      · have e : rest c s f i = [(s.data.toList.take i).drop f] := by
          unfold rest
          rw [List.drop_of_length_le (by rw [size_list]; omega)]
          simp [pcs]
        rw [e, List.map_cons, List.map_nil, ← ext_list, toB_of]
        exact Ev.now _
  | succ d ih =>
    intro i f acc hi hf ha
    have hlt : i < s.size := by omega
    have hb := bt_get s i hlt
    by_cases hc : s[i]'hlt = c
    · have e : rest c s f i = ((s.data.toList.take i).drop f) :: rest c s (i + 1) (i + 1) := by
        unfold rest
        rw [drop_cons s i hlt, hc, pcs_hit]
        cases hp : pcs c (s.data.toList.drop (i + 1)) with
        | nil => exact absurd hp (pcs_ne _ _)
        | cons p r => simp [hp]
      refine Ev.step (f := fun k => bursarref04_pieces.l0 k s (c.toNat : Int) (acc ++ [s.extract f i]) (((i + 1 : Nat)) : Int) (((i + 1 : Nat)) : Int)) (fun k => ?_) ?_
      · simp only [bursarref04_pieces.l0]
        rw [if_pos (by omega), if_neg (by omega), if_pos (by omega), if_pos (by omega), if_pos (by rw [← hb, hc]), if_pos (by omega), if_pos (by omega), if_pos (by omega), w64 i (by omega), Int.toNat_natCast, Int.toNat_natCast]
      · rw [e, List.map_cons, ← ext_list, toB_of]
        have := ih (i + 1) (i + 1) (acc ++ [s.extract f i]) (by omega) (by omega) (by simp; omega)
        simpa using this
    · have e : rest c s f i = rest c s f (i + 1) := by
        obtain ⟨p, r, h1, h2⟩ := pcs_cons c (s[i]'hlt) (s.data.toList.drop (i + 1)) hc
        unfold rest
        rw [drop_cons s i hlt, h2, h1, take_drop_succ s f i hf hlt]
        simp
      rw [e]
      refine Ev.step (fun k => ?_) (ih (i + 1) f acc (by omega) (by omega) (by omega))
      have hne : ¬ bt s (i : Int) = (c.toNat : Int) := fun h => hc (by rw [← hb] at h; exact UInt8.toNat_inj.1 (by omega))
      simp only [bursarref04_pieces.l0]
      rw [if_pos (by omega), if_neg (by omega), if_pos (by omega), if_pos (by omega), if_neg hne, w64 i (by omega)]
theorem pieces_ev (s : ByteArray) (c : UInt8) (hs : s.size ≤ 1048576) : Ev (fun k => bursarref04_pieces.f k s (c.toNat : Int)) ((pcs c s.data.toList).map toB) := by
  have h := ploop s c hs s.size 0 0 [] (by omega) (by omega) (by simp)
  have e : rest c s 0 0 = pcs c s.data.toList := by
    unfold rest
    simp only [List.drop_zero, List.take_zero]
    cases hp : pcs c s.data.toList with
    | nil => exact absurd hp (pcs_ne _ _)
    | cons p r => simp
  rw [e, List.nil_append] at h
  exact h
end Go.Proofs.YteaiobgnhlpblaaDoor.Q
