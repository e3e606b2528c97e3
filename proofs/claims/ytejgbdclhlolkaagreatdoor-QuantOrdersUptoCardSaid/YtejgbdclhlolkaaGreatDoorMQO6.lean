/- What the statement QuantOrdersUptoCardSaid rests on, part 6 of 7: walks and plain laws; what of the printer's words it leans on. -/
import Derived.Test.YtejgbdclhlolkaaGreatDoorMQO3
import Derived.Test.YtejgbdclhlolkaaGreatDoorMQO4
import Derived.Test.YtejgbdclhlolkaaGreatDoorMQO5
import Derived.BigQuiet
namespace Go.Proofs.YtejgbdclhlolkaaGreatDoor.Q
open Go.RowKit Go.Proofs.YtejgbdclhlolkaaGreatDoorW.PrintWords Go.Proofs.YtejgbdclhlolkaaGreatDoorW.PrintLast Go.Proofs.YtejgbdclhlolkaaGreatDoorW.PrintMore
attribute [local go_sem] max2_int min2_int max_two min_two max_three min_three max_four min_four   -- for this text's walks alone
set_option linter.unusedVariables false
set_option linter.unusedSimpArgs false
mutual
def bursarlaw03_QuantOrders.j0 : Nat → List (S57) → List (S57) → Int → Bool → Option (Bool)
 | 0, _, _, _, _ => none
 | k + 1, x0, x5, x6, x63 => if x63 = true then (some false) else ((bursarlaw03_behind.f x0).bind fun t485 => (if 0 ≤ (x0.length : Int) then (if (x0.length : Int) ≤ (t485.length : Int) then ((quant_Valid.f k (t485.take ((x0.length : Int) : Int).toNat)).bind fun t492 => (if t492 = 0 then (if x6 = 0 then ((bursarlaw03_same.f k x5 x0).bind fun t493 => (bursarlaw03_QuantOrders.j1 k x0 x5 x6 (!t493))) else (bursarlaw03_QuantOrders.j1 k x0 x5 x6 true)) else (bursarlaw03_QuantOrders.j1 k x0 x5 x6 false))) else (none)) else (none)))
def bursarlaw03_QuantOrders.j1 : Nat → List (S57) → List (S57) → Int → Bool → Option (Bool)
 | 0, _, _, _, _ => none
 | k + 1, x0, x5, x6, x80 => if x80 = true then (some false) else (if x6 = 0 then ((bursarlaw03_behind.f x5).bind fun t494 => (if 0 ≤ (x5.length : Int) then (if (x5.length : Int) ≤ (t494.length : Int) then ((quant_Normal.f k (t494.take ((x5.length : Int) : Int).toNat)).bind fun bt501 => ((bursarlaw03_behind.f x5).bind fun t505 => (if (x5.length : Int) ≤ (t505.length : Int) then ((quant_Valid.f k (t505.take ((x5.length : Int) : Int).toNat)).bind fun t512 => (if t512 = 0 then (if bt501.2 = 0 then ((bursarlaw03_same.f k x5 bt501.1).bind fun t513 => (bursarlaw03_QuantOrders.j2 k x0 x5 (!t513))) else (bursarlaw03_QuantOrders.j2 k x0 x5 true)) else (bursarlaw03_QuantOrders.j2 k x0 x5 true))) else (none)))) else (none)) else (none))) else (if (x5.length : Int) = 0 then (if x6 = 31 then (some true) else (if x6 = 7 then (some true) else (some (x6 == 23)))) else (some false)))
def bursarlaw03_QuantOrders.j2 : Nat → List (S57) → List (S57) → Bool → Option (Bool)
 | 0, _, _, _ => none
 | k + 1, x0, x5, x123 => if x123 = true then (some false) else (bursarlaw03_QuantOrders.l0 k x0 x5 0)
def bursarlaw03_QuantOrders.l0 : Nat → List (S57) → List (S57) → Int → Option (Bool)
 | 0, _, _, _ => none
 | k + 1, x0, x5, x13 => if x13 < (x5.length : Int) then (bursarlaw03_QuantOrders.l1 k x0 x5 x13 0 false 0) else (bursarlaw03_QuantOrders.l2 k x0 x5 0)
def bursarlaw03_QuantOrders.l1 : Nat → List (S57) → List (S57) → Int → Int → Bool → Int → Option (Bool)
 | 0, _, _, _, _, _, _ => none
 | k + 1, x0, x5, x13, x14, x15, x16 => if x16 < (x0.length : Int) then (if 0 ≤ x16 then (if 0 ≤ x13 then (if x13 < (x5.length : Int) then (if ((rd_T57 x0 x16).f0).toList = ((rd_T57 x5 x13).f0).toList then (bursarlaw03_QuantOrders.l1 k x0 x5 x13 (wrap64 (x14 + ((rd_T57 x0 x16).f1))) true (wrap64 (x16 + 1))) else (bursarlaw03_QuantOrders.l1 k x0 x5 x13 x14 x15 (wrap64 (x16 + 1)))) else (none)) else (none)) else (none)) else (if x15 = true then (if 0 ≤ x13 then (if x13 < (x5.length : Int) then (if x14 = ((rd_T57 x5 x13).f1) then (bursarlaw03_QuantOrders.l0 k x0 x5 (wrap64 (x13 + 1))) else (some false)) else (none)) else (none)) else (some false))
def bursarlaw03_QuantOrders.l2 : Nat → List (S57) → List (S57) → Int → Option (Bool)
 | 0, _, _, _ => none
 | k + 1, x0, x5, x17 => if x17 < (x0.length : Int) then (if 0 ≤ x17 then ((quant_Of.f k x5 ((rd_T57 x0 x17).f0)).bind fun bt519 => (if bt519.2 = true then (bursarlaw03_QuantOrders.l2 k x0 x5 (wrap64 (x17 + 1))) else (some false))) else (none)) else (some true)
end
def bursarlaw03_QuantOrders.f (k : Nat) (l0 : List (S57)) (a1 : Int) : Option (Bool) := (bursarlaw03_known.f k).bind fun t457 => (if t457 = true then ((bursarlaw03_behind.f l0).bind fun t458 => (if 0 ≤ (l0.length : Int) then (if (l0.length : Int) ≤ (t458.length : Int) then ((quant_Normal.f k (t458.take ((l0.length : Int) : Int).toNat)).bind fun bt465 => ((bursarlaw03_turned.f l0 a1).bind fun t469 => ((quant_Normal.f k t469).bind fun bt472 => ((bursarlaw03_back.f k l0).bind fun t476 => ((quant_Normal.f k t476).bind fun bt479 => (if bt465.2 = bt472.2 then (if bt465.2 = bt479.2 then ((bursarlaw03_same.f k bt465.1 bt472.1).bind fun t483 => (if t483 = true then ((bursarlaw03_same.f k bt465.1 bt479.1).bind fun t484 => (bursarlaw03_QuantOrders.j0 k l0 bt465.1 bt465.2 (!t484))) else (bursarlaw03_QuantOrders.j0 k l0 bt465.1 bt465.2 true))) else (bursarlaw03_QuantOrders.j0 k l0 bt465.1 bt465.2 true)) else (bursarlaw03_QuantOrders.j0 k l0 bt465.1 bt465.2 true))))))) else (none)) else (none))) else (some false))
theorem bursarlaw03_QuantOrders.mono_l : ∀ k, (∀ y0 y1 y2 y3, LeO (bursarlaw03_QuantOrders.j0 k y0 y1 y2 y3) (bursarlaw03_QuantOrders.j0 (k + 1) y0 y1 y2 y3)) ∧ (∀ y0 y1 y2 y3, LeO (bursarlaw03_QuantOrders.j1 k y0 y1 y2 y3) (bursarlaw03_QuantOrders.j1 (k + 1) y0 y1 y2 y3)) ∧ (∀ y0 y1 y2, LeO (bursarlaw03_QuantOrders.j2 k y0 y1 y2) (bursarlaw03_QuantOrders.j2 (k + 1) y0 y1 y2)) ∧ (∀ y0 y1 y2, LeO (bursarlaw03_QuantOrders.l0 k y0 y1 y2) (bursarlaw03_QuantOrders.l0 (k + 1) y0 y1 y2)) ∧ (∀ y0 y1 y2 y3 y4 y5, LeO (bursarlaw03_QuantOrders.l1 k y0 y1 y2 y3 y4 y5) (bursarlaw03_QuantOrders.l1 (k + 1) y0 y1 y2 y3 y4 y5)) ∧ (∀ y0 y1 y2, LeO (bursarlaw03_QuantOrders.l2 k y0 y1 y2) (bursarlaw03_QuantOrders.l2 (k + 1) y0 y1 y2))
 | 0 => ⟨fun _ _ _ _ r h => by simp [bursarlaw03_QuantOrders.j0] at h, fun _ _ _ _ r h => by simp [bursarlaw03_QuantOrders.j1] at h, fun _ _ _ r h => by simp [bursarlaw03_QuantOrders.j2] at h, fun _ _ _ r h => by simp [bursarlaw03_QuantOrders.l0] at h, fun _ _ _ _ _ _ r h => by simp [bursarlaw03_QuantOrders.l1] at h, fun _ _ _ r h => by simp [bursarlaw03_QuantOrders.l2] at h⟩
 | k + 1 => by
  obtain ⟨ih0, ih1, ih2, ih3, ih4, ih5⟩ := bursarlaw03_QuantOrders.mono_l k
  refine ⟨?_, ?_, ?_, ?_, ?_, ?_⟩
  ·intro y0 y1 y2 y3
   unfold bursarlaw03_QuantOrders.j0
   repeat' first
   | (with_reducible exact ih0 _ _ _ _)
   | (with_reducible exact ih1 _ _ _ _)
   | (with_reducible exact ih2 _ _ _)
   | (with_reducible exact ih3 _ _ _)
   | (with_reducible exact ih4 _ _ _ _ _ _)
   | (with_reducible exact ih5 _ _ _)
   | (with_reducible exact bursarlaw03_back.mono _ _)
   | (with_reducible exact bursarlaw03_known.mono _)
   | (with_reducible exact bursarlaw03_same.mono _ _ _)
   | (with_reducible exact quant_Normal.mono _ _)
   | (with_reducible exact quant_Of.mono _ _ _)
   | (with_reducible exact quant_Valid.mono _ _)
   | (with_reducible exact LeO.refl _)
   | (with_reducible exact LeO.none _)
   | (with_reducible refine LeO.ite ?_ ?_)
   | (with_reducible refine LeO.bind ?_ (fun _ => ?_))
   | exact ih0 _ _ _ _
   | exact ih1 _ _ _ _
   | exact ih2 _ _ _
   | exact ih3 _ _ _
   | exact ih4 _ _ _ _ _ _
   | exact ih5 _ _ _
   | exact bursarlaw03_back.mono _ _
   | exact bursarlaw03_known.mono _
   | exact bursarlaw03_same.mono _ _ _
   | exact quant_Normal.mono _ _
   | exact quant_Of.mono _ _ _
   | exact quant_Valid.mono _ _
   | exact LeO.none _
   | refine LeO.ite ?_ ?_
   | refine LeO.bind ?_ (fun _ => ?_)
  ·intro y0 y1 y2 y3
   unfold bursarlaw03_QuantOrders.j1
   repeat' first
   | (with_reducible exact ih0 _ _ _ _)
   | (with_reducible exact ih1 _ _ _ _)
   | (with_reducible exact ih2 _ _ _)
   | (with_reducible exact ih3 _ _ _)
   | (with_reducible exact ih4 _ _ _ _ _ _)
   | (with_reducible exact ih5 _ _ _)
   | (with_reducible exact bursarlaw03_back.mono _ _)
   | (with_reducible exact bursarlaw03_known.mono _)
   | (with_reducible exact bursarlaw03_same.mono _ _ _)
   | (with_reducible exact quant_Normal.mono _ _)
   | (with_reducible exact quant_Of.mono _ _ _)
   | (with_reducible exact quant_Valid.mono _ _)
   | (with_reducible exact LeO.refl _)
   | (with_reducible exact LeO.none _)
   | (with_reducible refine LeO.ite ?_ ?_)
   | (with_reducible refine LeO.bind ?_ (fun _ => ?_))
   | exact ih0 _ _ _ _
   | exact ih1 _ _ _ _
   | exact ih2 _ _ _
   | exact ih3 _ _ _
   | exact ih4 _ _ _ _ _ _
   | exact ih5 _ _ _
   | exact bursarlaw03_back.mono _ _
   | exact bursarlaw03_known.mono _
   | exact bursarlaw03_same.mono _ _ _
   | exact quant_Normal.mono _ _
   | exact quant_Of.mono _ _ _
   | exact quant_Valid.mono _ _
   | exact LeO.none _
   | refine LeO.ite ?_ ?_
   | refine LeO.bind ?_ (fun _ => ?_)
  ·intro y0 y1 y2
   unfold bursarlaw03_QuantOrders.j2
   repeat' first
   | (with_reducible exact ih0 _ _ _ _)
   | (with_reducible exact ih1 _ _ _ _)
   | (with_reducible exact ih2 _ _ _)
   | (with_reducible exact ih3 _ _ _)
   | (with_reducible exact ih4 _ _ _ _ _ _)
   | (with_reducible exact ih5 _ _ _)
   | (with_reducible exact bursarlaw03_back.mono _ _)
   | (with_reducible exact bursarlaw03_known.mono _)
   | (with_reducible exact bursarlaw03_same.mono _ _ _)
   | (with_reducible exact quant_Normal.mono _ _)
   | (with_reducible exact quant_Of.mono _ _ _)
   | (with_reducible exact quant_Valid.mono _ _)
   | (with_reducible exact LeO.refl _)
   | (with_reducible exact LeO.none _)
   | (with_reducible refine LeO.ite ?_ ?_)
   | (with_reducible refine LeO.bind ?_ (fun _ => ?_))
   | exact ih0 _ _ _ _
   | exact ih1 _ _ _ _
   | exact ih2 _ _ _
   | exact ih3 _ _ _
   | exact ih4 _ _ _ _ _ _
   | exact ih5 _ _ _
   | exact bursarlaw03_back.mono _ _
   | exact bursarlaw03_known.mono _
   | exact bursarlaw03_same.mono _ _ _
   | exact quant_Normal.mono _ _
   | exact quant_Of.mono _ _ _
   | exact quant_Valid.mono _ _
   | exact LeO.none _
   | refine LeO.ite ?_ ?_
   | refine LeO.bind ?_ (fun _ => ?_)
  ·intro y0 y1 y2
   unfold bursarlaw03_QuantOrders.l0
   repeat' first
   | (with_reducible exact ih0 _ _ _ _)
   | (with_reducible exact ih1 _ _ _ _)
   | (with_reducible exact ih2 _ _ _)
   | (with_reducible exact ih3 _ _ _)
   | (with_reducible exact ih4 _ _ _ _ _ _)
   | (with_reducible exact ih5 _ _ _)
   | (with_reducible exact bursarlaw03_back.mono _ _)
   | (with_reducible exact bursarlaw03_known.mono _)
   | (with_reducible exact bursarlaw03_same.mono _ _ _)
   | (with_reducible exact quant_Normal.mono _ _)
   | (with_reducible exact quant_Of.mono _ _ _)
   | (with_reducible exact quant_Valid.mono _ _)
   | (with_reducible exact LeO.refl _)
   | (with_reducible exact LeO.none _)
   | (with_reducible refine LeO.ite ?_ ?_)
   | (with_reducible refine LeO.bind ?_ (fun _ => ?_))
   | exact ih0 _ _ _ _
   | exact ih1 _ _ _ _
   | exact ih2 _ _ _
   | exact ih3 _ _ _
   | exact ih4 _ _ _ _ _ _
   | exact ih5 _ _ _
   | exact bursarlaw03_back.mono _ _
   | exact bursarlaw03_known.mono _
   | exact bursarlaw03_same.mono _ _ _
   | exact quant_Normal.mono _ _
   | exact quant_Of.mono _ _ _
   | exact quant_Valid.mono _ _
   | exact LeO.none _
   | refine LeO.ite ?_ ?_
   | refine LeO.bind ?_ (fun _ => ?_)
  ·intro y0 y1 y2 y3 y4 y5
   unfold bursarlaw03_QuantOrders.l1
   repeat' first
   | (with_reducible exact ih0 _ _ _ _)
   | (with_reducible exact ih1 _ _ _ _)
   | (with_reducible exact ih2 _ _ _)
   | (with_reducible exact ih3 _ _ _)
   | (with_reducible exact ih4 _ _ _ _ _ _)
   | (with_reducible exact ih5 _ _ _)
   | (with_reducible exact bursarlaw03_back.mono _ _)
   | (with_reducible exact bursarlaw03_known.mono _)
   | (with_reducible exact bursarlaw03_same.mono _ _ _)
   | (with_reducible exact quant_Normal.mono _ _)
   | (with_reducible exact quant_Of.mono _ _ _)
   | (with_reducible exact quant_Valid.mono _ _)
   | (with_reducible exact LeO.refl _)
   | (with_reducible exact LeO.none _)
   | (with_reducible refine LeO.ite ?_ ?_)
   | (with_reducible refine LeO.bind ?_ (fun _ => ?_))
   | exact ih0 _ _ _ _
   | exact ih1 _ _ _ _
   | exact ih2 _ _ _
   | exact ih3 _ _ _
   | exact ih4 _ _ _ _ _ _
   | exact ih5 _ _ _
   | exact bursarlaw03_back.mono _ _
   | exact bursarlaw03_known.mono _
   | exact bursarlaw03_same.mono _ _ _
   | exact quant_Normal.mono _ _
   | exact quant_Of.mono _ _ _
   | exact quant_Valid.mono _ _
   | exact LeO.none _
   | refine LeO.ite ?_ ?_
   | refine LeO.bind ?_ (fun _ => ?_)
  ·intro y0 y1 y2
   unfold bursarlaw03_QuantOrders.l2
   repeat' first
   | (with_reducible exact ih0 _ _ _ _)
   | (with_reducible exact ih1 _ _ _ _)
   | (with_reducible exact ih2 _ _ _)
   | (with_reducible exact ih3 _ _ _)
   | (with_reducible exact ih4 _ _ _ _ _ _)
   | (with_reducible exact ih5 _ _ _)
   | (with_reducible exact bursarlaw03_back.mono _ _)
   | (with_reducible exact bursarlaw03_known.mono _)
   | (with_reducible exact bursarlaw03_same.mono _ _ _)
   | (with_reducible exact quant_Normal.mono _ _)
   | (with_reducible exact quant_Of.mono _ _ _)
   | (with_reducible exact quant_Valid.mono _ _)
   | (with_reducible exact LeO.refl _)
   | (with_reducible exact LeO.none _)
   | (with_reducible refine LeO.ite ?_ ?_)
   | (with_reducible refine LeO.bind ?_ (fun _ => ?_))
   | exact ih0 _ _ _ _
   | exact ih1 _ _ _ _
   | exact ih2 _ _ _
   | exact ih3 _ _ _
   | exact ih4 _ _ _ _ _ _
   | exact ih5 _ _ _
   | exact bursarlaw03_back.mono _ _
   | exact bursarlaw03_known.mono _
   | exact bursarlaw03_same.mono _ _ _
   | exact quant_Normal.mono _ _
   | exact quant_Of.mono _ _ _
   | exact quant_Valid.mono _ _
   | exact LeO.none _
   | refine LeO.ite ?_ ?_
   | refine LeO.bind ?_ (fun _ => ?_)
theorem bursarlaw03_QuantOrders.mono : ∀ a0 a1 k, LeO (bursarlaw03_QuantOrders.f k a0 a1) (bursarlaw03_QuantOrders.f (k + 1) a0 a1) := by
 intro a0 a1 k
 obtain ⟨ih0, ih1, ih2, ih3, ih4, ih5⟩ := bursarlaw03_QuantOrders.mono_l k
 unfold bursarlaw03_QuantOrders.f
 repeat' first
   | (with_reducible exact ih0 _ _ _ _)
   | (with_reducible exact ih1 _ _ _ _)
   | (with_reducible exact ih2 _ _ _)
   | (with_reducible exact ih3 _ _ _)
   | (with_reducible exact ih4 _ _ _ _ _ _)
   | (with_reducible exact ih5 _ _ _)
   | (with_reducible exact bursarlaw03_back.mono _ _)
   | (with_reducible exact bursarlaw03_known.mono _)
   | (with_reducible exact bursarlaw03_same.mono _ _ _)
   | (with_reducible exact quant_Normal.mono _ _)
   | (with_reducible exact quant_Of.mono _ _ _)
   | (with_reducible exact quant_Valid.mono _ _)
   | (with_reducible exact LeO.refl _)
   | (with_reducible exact LeO.none _)
   | (with_reducible refine LeO.ite ?_ ?_)
   | (with_reducible refine LeO.bind ?_ (fun _ => ?_))
   | exact ih0 _ _ _ _
   | exact ih1 _ _ _ _
   | exact ih2 _ _ _
   | exact ih3 _ _ _
   | exact ih4 _ _ _ _ _ _
   | exact ih5 _ _ _
   | exact bursarlaw03_back.mono _ _
   | exact bursarlaw03_known.mono _
   | exact bursarlaw03_same.mono _ _ _
   | exact quant_Normal.mono _ _
   | exact quant_Of.mono _ _ _
   | exact quant_Valid.mono _ _
   | exact LeO.none _
   | refine LeO.ite ?_ ?_
   | refine LeO.bind ?_ (fun _ => ?_)
set_option maxHeartbeats 64000000 in
set_option maxRecDepth 100000 in
theorem bursarlaw03_QuantOrders.calls (k : Nat) (A0 : Option Addr) (c0 : Nat) (l0 : List (S57)) (a1 : Int) (r : Bool) (w : World) (hr0 : Kd.C k57 w A0 l0.length l0) (hc0 : l0.length ≤ c0) (h : bursarlaw03_QuantOrders.f k l0 a1 = some r) (hG : GlobM w) :
  Calls Tryz.prog 12 #[.slice A0 l0.length c0, .int .i64 a1] w fun e w' => e = .returned (.bool r) ∧ Below w.heap.size w w' := by
 have HR0 := Aside0.mk hr0
 have HC0 := Aside0.mk hc0
 clear hr0 hc0
 have HB := Aside0.mk (Below.refl w.heap.size w)
 have H : ((bursarlaw03_known.f k).bind fun t457 => (if t457 = true then ((bursarlaw03_behind.f l0).bind fun t458 => (if 0 ≤ (l0.length : Int) then (if (l0.length : Int) ≤ (t458.length : Int) then ((quant_Normal.f k (t458.take ((l0.length : Int) : Int).toNat)).bind fun bt465 => ((bursarlaw03_turned.f l0 a1).bind fun t469 => ((quant_Normal.f k t469).bind fun bt472 => ((bursarlaw03_back.f k l0).bind fun t476 => ((quant_Normal.f k t476).bind fun bt479 => (if bt465.2 = bt472.2 then (if bt465.2 = bt479.2 then ((bursarlaw03_same.f k bt465.1 bt472.1).bind fun t483 => (if t483 = true then ((bursarlaw03_same.f k bt465.1 bt479.1).bind fun t484 => (bursarlaw03_QuantOrders.j0 k l0 bt465.1 bt465.2 (!t484))) else (bursarlaw03_QuantOrders.j0 k l0 bt465.1 bt465.2 true))) else (bursarlaw03_QuantOrders.j0 k l0 bt465.1 bt465.2 true)) else (bursarlaw03_QuantOrders.j0 k l0 bt465.1 bt465.2 true))))))) else (none)) else (none))) else (some false))) = some r := h
 clear h
 replace H := Option.bind_eq_some_iff.mp H
 obtain ⟨t457, A30, H⟩ := H
 replace H : (if t457 = true then ((bursarlaw03_behind.f l0).bind fun t458 => (if 0 ≤ (l0.length : Int) then (if (l0.length : Int) ≤ (t458.length : Int) then ((quant_Normal.f k (t458.take ((l0.length : Int) : Int).toNat)).bind fun bt465 => ((bursarlaw03_turned.f l0 a1).bind fun t469 => ((quant_Normal.f k t469).bind fun bt472 => ((bursarlaw03_back.f k l0).bind fun t476 => ((quant_Normal.f k t476).bind fun bt479 => (if bt465.2 = bt472.2 then (if bt465.2 = bt479.2 then ((bursarlaw03_same.f k bt465.1 bt472.1).bind fun t483 => (if t483 = true then ((bursarlaw03_same.f k bt465.1 bt479.1).bind fun t484 => (bursarlaw03_QuantOrders.j0 k l0 bt465.1 bt465.2 (!t484))) else (bursarlaw03_QuantOrders.j0 k l0 bt465.1 bt465.2 true))) else (bursarlaw03_QuantOrders.j0 k l0 bt465.1 bt465.2 true)) else (bursarlaw03_QuantOrders.j0 k l0 bt465.1 bt465.2 true))))))) else (none)) else (none))) else (some false)) = some r := H
 have A3 := Aside0.mk A30
 clear A30
 by_cases c4 : t457 = true
 ·subst c4
  have H1 : ((bursarlaw03_behind.f l0).bind fun t458 => (if 0 ≤ (l0.length : Int) then (if (l0.length : Int) ≤ (t458.length : Int) then ((quant_Normal.f k (t458.take ((l0.length : Int) : Int).toNat)).bind fun bt465 => ((bursarlaw03_turned.f l0 a1).bind fun t469 => ((quant_Normal.f k t469).bind fun bt472 => ((bursarlaw03_back.f k l0).bind fun t476 => ((quant_Normal.f k t476).bind fun bt479 => (if bt465.2 = bt472.2 then (if bt465.2 = bt479.2 then ((bursarlaw03_same.f k bt465.1 bt472.1).bind fun t483 => (if t483 = true then ((bursarlaw03_same.f k bt465.1 bt479.1).bind fun t484 => (bursarlaw03_QuantOrders.j0 k l0 bt465.1 bt465.2 (!t484))) else (bursarlaw03_QuantOrders.j0 k l0 bt465.1 bt465.2 true))) else (bursarlaw03_QuantOrders.j0 k l0 bt465.1 bt465.2 true)) else (bursarlaw03_QuantOrders.j0 k l0 bt465.1 bt465.2 true))))))) else (none)) else (none))) = some r := by rw [if_pos rfl] at H; exact H
  clear H
  have H := H1
  clear H1
  replace H := Option.bind_eq_some_iff.mp H
  obtain ⟨t458, A50, H⟩ := H
  replace H : (if 0 ≤ (l0.length : Int) then (if (l0.length : Int) ≤ (t458.length : Int) then ((quant_Normal.f k (t458.take ((l0.length : Int) : Int).toNat)).bind fun bt465 => ((bursarlaw03_turned.f l0 a1).bind fun t469 => ((quant_Normal.f k t469).bind fun bt472 => ((bursarlaw03_back.f k l0).bind fun t476 => ((quant_Normal.f k t476).bind fun bt479 => (if bt465.2 = bt472.2 then (if bt465.2 = bt479.2 then ((bursarlaw03_same.f k bt465.1 bt472.1).bind fun t483 => (if t483 = true then ((bursarlaw03_same.f k bt465.1 bt479.1).bind fun t484 => (bursarlaw03_QuantOrders.j0 k l0 bt465.1 bt465.2 (!t484))) else (bursarlaw03_QuantOrders.j0 k l0 bt465.1 bt465.2 true))) else (bursarlaw03_QuantOrders.j0 k l0 bt465.1 bt465.2 true)) else (bursarlaw03_QuantOrders.j0 k l0 bt465.1 bt465.2 true))))))) else (none)) else (none)) = some r := H
  have A5 := Aside0.mk A50
  clear A50
  by_cases c6 : 0 ≤ (l0.length : Int)
  ·rw [if_pos c6] at H
   have c6b0 := eq_true c6
   have c6b1 : decide (0 ≤ (l0.length : Int)) = true := decide_eq_true c6
   clear c6
   by_cases c7 : (l0.length : Int) ≤ (t458.length : Int)
   ·rw [if_pos c7] at H
    have c7b0 := eq_true c7
    have c7b1 : decide ((l0.length : Int) ≤ (t458.length : Int)) = true := decide_eq_true c7
    clear c7
    obtain ⟨y461, hy461⟩ : ∃ y_ : List (S57), y_ = (t458.take ((l0.length : Int) : Int).toNat) := ⟨_, rfl⟩
    replace H : ((quant_Normal.f k y461).bind fun bt465 => ((bursarlaw03_turned.f l0 a1).bind fun t469 => ((quant_Normal.f k t469).bind fun bt472 => ((bursarlaw03_back.f k l0).bind fun t476 => ((quant_Normal.f k t476).bind fun bt479 => (if bt465.2 = bt472.2 then (if bt465.2 = bt479.2 then ((bursarlaw03_same.f k bt465.1 bt472.1).bind fun t483 => (if t483 = true then ((bursarlaw03_same.f k bt465.1 bt479.1).bind fun t484 => (bursarlaw03_QuantOrders.j0 k l0 bt465.1 bt465.2 (!t484))) else (bursarlaw03_QuantOrders.j0 k l0 bt465.1 bt465.2 true))) else (bursarlaw03_QuantOrders.j0 k l0 bt465.1 bt465.2 true)) else (bursarlaw03_QuantOrders.j0 k l0 bt465.1 bt465.2 true))))))) = some r := by first | (rw [hy461]; with_reducible exact H) | (have H2_ := (Option.bind_some _ _).symm.trans H; rw [hy461]; with_reducible exact H2_) | (have H2_ := (Option.bind_some _ _).symm.trans H; with_reducible exact H2_) | with_reducible exact H | (rw [hy461]; exact H) | exact H
    have Ny461 := Aside0.mk hy461
    clear hy461
    replace H := Option.bind_eq_some_iff.mp H
    obtain ⟨⟨t465, t466⟩, A80, H⟩ := H
    replace H : ((bursarlaw03_turned.f l0 a1).bind fun t469 => ((quant_Normal.f k t469).bind fun bt472 => ((bursarlaw03_back.f k l0).bind fun t476 => ((quant_Normal.f k t476).bind fun bt479 => (if t466 = bt472.2 then (if t466 = bt479.2 then ((bursarlaw03_same.f k t465 bt472.1).bind fun t483 => (if t483 = true then ((bursarlaw03_same.f k t465 bt479.1).bind fun t484 => (bursarlaw03_QuantOrders.j0 k l0 t465 t466 (!t484))) else (bursarlaw03_QuantOrders.j0 k l0 t465 t466 true))) else (bursarlaw03_QuantOrders.j0 k l0 t465 t466 true)) else (bursarlaw03_QuantOrders.j0 k l0 t465 t466 true)))))) = some r := H
    have A8 := Aside0.mk A80
    clear A80
    replace H := Option.bind_eq_some_iff.mp H
    obtain ⟨t469, A90, H⟩ := H
    replace H : ((quant_Normal.f k t469).bind fun bt472 => ((bursarlaw03_back.f k l0).bind fun t476 => ((quant_Normal.f k t476).bind fun bt479 => (if t466 = bt472.2 then (if t466 = bt479.2 then ((bursarlaw03_same.f k t465 bt472.1).bind fun t483 => (if t483 = true then ((bursarlaw03_same.f k t465 bt479.1).bind fun t484 => (bursarlaw03_QuantOrders.j0 k l0 t465 t466 (!t484))) else (bursarlaw03_QuantOrders.j0 k l0 t465 t466 true))) else (bursarlaw03_QuantOrders.j0 k l0 t465 t466 true)) else (bursarlaw03_QuantOrders.j0 k l0 t465 t466 true))))) = some r := H
    have A9 := Aside0.mk A90
    clear A90
    replace H := Option.bind_eq_some_iff.mp H
    obtain ⟨⟨t472, t473⟩, A100, H⟩ := H
    replace H : ((bursarlaw03_back.f k l0).bind fun t476 => ((quant_Normal.f k t476).bind fun bt479 => (if t466 = t473 then (if t466 = bt479.2 then ((bursarlaw03_same.f k t465 t472).bind fun t483 => (if t483 = true then ((bursarlaw03_same.f k t465 bt479.1).bind fun t484 => (bursarlaw03_QuantOrders.j0 k l0 t465 t466 (!t484))) else (bursarlaw03_QuantOrders.j0 k l0 t465 t466 true))) else (bursarlaw03_QuantOrders.j0 k l0 t465 t466 true)) else (bursarlaw03_QuantOrders.j0 k l0 t465 t466 true)))) = some r := H
    have A10 := Aside0.mk A100
    clear A100
    replace H := Option.bind_eq_some_iff.mp H
    obtain ⟨t476, A110, H⟩ := H
    replace H : ((quant_Normal.f k t476).bind fun bt479 => (if t466 = t473 then (if t466 = bt479.2 then ((bursarlaw03_same.f k t465 t472).bind fun t483 => (if t483 = true then ((bursarlaw03_same.f k t465 bt479.1).bind fun t484 => (bursarlaw03_QuantOrders.j0 k l0 t465 t466 (!t484))) else (bursarlaw03_QuantOrders.j0 k l0 t465 t466 true))) else (bursarlaw03_QuantOrders.j0 k l0 t465 t466 true)) else (bursarlaw03_QuantOrders.j0 k l0 t465 t466 true))) = some r := H
    have A11 := Aside0.mk A110
    clear A110
    replace H := Option.bind_eq_some_iff.mp H
    obtain ⟨⟨t479, t480⟩, A120, H⟩ := H
    replace H : (if t466 = t473 then (if t466 = t480 then ((bursarlaw03_same.f k t465 t472).bind fun t483 => (if t483 = true then ((bursarlaw03_same.f k t465 t479).bind fun t484 => (bursarlaw03_QuantOrders.j0 k l0 t465 t466 (!t484))) else (bursarlaw03_QuantOrders.j0 k l0 t465 t466 true))) else (bursarlaw03_QuantOrders.j0 k l0 t465 t466 true)) else (bursarlaw03_QuantOrders.j0 k l0 t465 t466 true)) = some r := H
    have A12 := Aside0.mk A120
    clear A120
    have HC13 := Aside0.mk H
    clear H
    go_enter Tryz.func12, Tryz.ntmps12
    go_upto_region 6 with (first | (go_at_call 16; (with_reducible refine (bursarlaw03_known.calls k  true _ A3.out (Glob.below hG.toGlob (by repeat (first | (with_reducible first | exact HB.out | apply below_alloc | apply pw_below_drewN | apply below_drew1) | exact HB.out)))).mono ?_); rintro e w14 ⟨rfl, hb⟩; have n0_ := Aside0.mk (below_step (by repeat (first | (with_reducible first | exact HB.out | apply below_alloc | apply pw_below_drewN | apply below_drew1) | exact HB.out)) hb); clear HB; have HB := n0_; clear n0_; (try clear hb); (try clear hb2); (try clear hk); (try clear hi)) | (go_at_call 29; (with_reducible refine (bursarlaw03_behind.calls _ _ l0 t458 _ ?side1 ?side2 A5.out (GlobM.below hG (by repeat (first | (with_reducible first | exact HB.out | apply below_alloc | apply pw_below_drewN | apply below_drew1) | exact HB.out)))).mono ?_); (case side1 => repeat (first | exact (Kd.C_below HR0.out HB.out) | (with_reducible refine Kd.C_alloc ?_ _) | (with_reducible refine Kd.C_drewN ?_ _) | (with_reducible refine Kd.C_drew ?_))); (case side2 => exact HC0.out); rintro e w15 ⟨v459, rfl, ho0, hb⟩; have n0_ := Aside0.mk (Kd.R_lower ho0 (below_size (by repeat (first | (with_reducible first | exact HB.out | apply below_alloc | apply pw_below_drewN | apply below_drew1) | exact HB.out)))); have n1_ := Aside0.mk (below_step (by repeat (first | (with_reducible first | exact HB.out | apply below_alloc | apply pw_below_drewN | apply below_drew1) | exact HB.out)) hb); clear HB; have HO460 := n0_; have HB := n1_; clear n0_ n1_; (try clear hb); (try clear hb2); (try clear hk); (try clear hi); (try clear ho0); obtain ⟨Ao17, co17, eo17⟩ := Kd.R_slice HO460.out; subst eo17; have q16 : ((l0.length : Int) : Int) ≤ ((t458.length : Int) : Int) := of_decide_eq_true (by first | (with_reducible assumption) | assumption); obtain ⟨i016, hi016, _, hsz16, _⟩ := info_parts info57; have hroom16 : t458.length ≤ co17 := (Kd.R_reads' HO460.out).2.1; have hC16 : Kd.C k57 _ Ao17 t458.length t458 := (Kd.R_reads' HO460.out).2.2; have hcut16 := cut_to (P := Tryz.prog) 46 57 .i64 Tryz.underlying46 hi016 Ao17 t458.length co17 (l0.length : Int) (of_decide_eq_true (by first | (with_reducible assumption) | assumption)) q16 hroom16; have hr16 := Kd.C_take (m := ((l0.length : Int) : Int).toNat) hC16 (by omega); have hy16 : y461.length = ((l0.length : Int) : Int).toNat := (by rw [Ny461.out, List.length_take]; omega); rw [← Ny461.out] at hr16; rw [← hy16] at hcut16; have HR464 := Aside0.mk hr16; have HC464 := Aside0.mk (show y461.length ≤ co17 from by omega); clear hr16 hC16 hroom16 hi016 hsz16; have KY16 := Aside0.mk hy16; clear hy16; have KL16 := Aside0.mk (show ((l0.length : Int) : Int).toNat ≤ t458.length from by omega); replace q16 := eq_true q16) | (go_at_call 36; (with_reducible refine (quant_Normal.calls k _ _ y461 t465 t466 _ ?side1 ?side2 A8.out (Glob.below hG.toGlob (by repeat (first | (with_reducible first | exact HB.out | apply below_alloc | apply pw_below_drewN | apply below_drew1) | exact HB.out)))).mono ?_); (case side1 => repeat (first | exact (by repeat (first | (with_reducible exact HR464.out) | (with_reducible refine Kd.C_alloc ?_ _) | (with_reducible refine Kd.C_drewN ?_ _) | (with_reducible refine Kd.C_drew ?_) | exact HR464.out)) | (with_reducible refine Kd.C_alloc ?_ _) | (with_reducible refine Kd.C_drewN ?_ _) | (with_reducible refine Kd.C_drew ?_))); (case side2 => exact HC464.out); rintro e w18 ⟨v467, rfl, ho0, hb⟩; have n0_ := Aside0.mk (Kd.R_elder' (by (with_reducible repeat (first | apply Kd.R_alloc | apply Kd.R_drewN | apply Kd.R_drew)); exact HO460.out) (Kd.R_base ho0) hb); have n1_ := Aside0.mk (Kd.R_lower (Kd.R_new' ho0 (Kd.R_lt (by (with_reducible repeat (first | apply Kd.R_alloc | apply Kd.R_drewN | apply Kd.R_drew)); exact HO460.out))) (below_size (by repeat (first | (with_reducible first | exact HB.out | apply below_alloc | apply pw_below_drewN | apply below_drew1) | exact HB.out)))); have n2_ := Aside0.mk (Kd.C_below (by repeat (first | (with_reducible exact HR464.out) | (with_reducible refine Kd.C_alloc ?_ _) | (with_reducible refine Kd.C_drewN ?_ _) | (with_reducible refine Kd.C_drew ?_) | exact HR464.out)) hb); have n3_ := Aside0.mk (below_step (by repeat (first | (with_reducible first | exact HB.out | apply below_alloc | apply pw_below_drewN | apply below_drew1) | exact HB.out)) hb); clear HO460; clear HR464; clear HB; have HO460 := n0_; have HO468 := n1_; have HR464 := n2_; have HB := n3_; clear n0_ n1_ n2_ n3_; (try clear hb); (try clear hb2); (try clear hk); (try clear hi); (try clear ho0)) | (go_at_call 37; (with_reducible refine (bursarlaw03_turned.calls _ _ l0 a1 t469 _ ?side1 ?side2 A9.out).mono ?_); (case side1 => repeat (first | exact (Kd.C_below HR0.out HB.out) | (with_reducible refine Kd.C_alloc ?_ _) | (with_reducible refine Kd.C_drewN ?_ _) | (with_reducible refine Kd.C_drew ?_))); (case side2 => exact HC0.out); rintro e w19 ⟨v470, rfl, ho0, hb⟩; have n0_ := Aside0.mk (Kd.R_elder' (by (with_reducible repeat (first | apply Kd.R_alloc | apply Kd.R_drewN | apply Kd.R_drew)); exact HO460.out) (Kd.R_base ho0) hb); have n1_ := Aside0.mk (Kd.R_elder' (by (with_reducible repeat (first | apply Kd.R_alloc | apply Kd.R_drewN | apply Kd.R_drew)); exact HO468.out) (Kd.R_base ho0) hb); have n2_ := Aside0.mk (Kd.R_lower (Kd.R_new' (Kd.R_new' ho0 (Kd.R_lt (by (with_reducible repeat (first | apply Kd.R_alloc | apply Kd.R_drewN | apply Kd.R_drew)); exact HO460.out))) (Kd.R_lt (by (with_reducible repeat (first | apply Kd.R_alloc | apply Kd.R_drewN | apply Kd.R_drew)); exact HO468.out))) (below_size (by repeat (first | (with_reducible first | exact HB.out | apply below_alloc | apply pw_below_drewN | apply below_drew1) | exact HB.out)))); have n3_ := Aside0.mk (Kd.C_below (by repeat (first | (with_reducible exact HR464.out) | (with_reducible refine Kd.C_alloc ?_ _) | (with_reducible refine Kd.C_drewN ?_ _) | (with_reducible refine Kd.C_drew ?_) | exact HR464.out)) hb); have n4_ := Aside0.mk (below_step (by repeat (first | (with_reducible first | exact HB.out | apply below_alloc | apply pw_below_drewN | apply below_drew1) | exact HB.out)) hb); clear HO460; clear HO468; clear HR464; clear HB; have HO460 := n0_; have HO468 := n1_; have HO471 := n2_; have HR464 := n3_; have HB := n4_; clear n0_ n1_ n2_ n3_ n4_; (try clear hb); (try clear hb2); (try clear hk); (try clear hi); (try clear ho0); obtain ⟨Ao20, co20, eo20⟩ := Kd.R_slice HO471.out; subst eo20) | (go_at_call 36; (with_reducible refine (quant_Normal.calls k _ _ t469 t472 t473 _ ?side1 ?side2 A10.out (Glob.below hG.toGlob (by repeat (first | (with_reducible first | exact HB.out | apply below_alloc | apply pw_below_drewN | apply below_drew1) | exact HB.out)))).mono ?_); (case side1 => repeat (first | exact (Kd.R_reads' HO471.out).2.2 | (with_reducible refine Kd.C_alloc ?_ _) | (with_reducible refine Kd.C_drewN ?_ _) | (with_reducible refine Kd.C_drew ?_))); (case side2 => exact (Kd.R_reads' HO471.out).2.1); rintro e w21 ⟨v474, rfl, ho0, hb⟩; have n0_ := Aside0.mk (Kd.R_elder' (by (with_reducible repeat (first | apply Kd.R_alloc | apply Kd.R_drewN | apply Kd.R_drew)); exact HO460.out) (Kd.R_base ho0) hb); have n1_ := Aside0.mk (Kd.R_elder' (by (with_reducible repeat (first | apply Kd.R_alloc | apply Kd.R_drewN | apply Kd.R_drew)); exact HO468.out) (Kd.R_base ho0) hb); have n2_ := Aside0.mk (Kd.R_elder' (by (with_reducible repeat (first | apply Kd.R_alloc | apply Kd.R_drewN | apply Kd.R_drew)); exact HO471.out) (Kd.R_base ho0) hb); have n3_ := Aside0.mk (Kd.R_lower (Kd.R_new' (Kd.R_new' (Kd.R_new' ho0 (Kd.R_lt (by (with_reducible repeat (first | apply Kd.R_alloc | apply Kd.R_drewN | apply Kd.R_drew)); exact HO460.out))) (Kd.R_lt (by (with_reducible repeat (first | apply Kd.R_alloc | apply Kd.R_drewN | apply Kd.R_drew)); exact HO468.out))) (Kd.R_lt (by (with_reducible repeat (first | apply Kd.R_alloc | apply Kd.R_drewN | apply Kd.R_drew)); exact HO471.out))) (below_size (by repeat (first | (with_reducible first | exact HB.out | apply below_alloc | apply pw_below_drewN | apply below_drew1) | exact HB.out)))); have n4_ := Aside0.mk (Kd.C_below (by repeat (first | (with_reducible exact HR464.out) | (with_reducible refine Kd.C_alloc ?_ _) | (with_reducible refine Kd.C_drewN ?_ _) | (with_reducible refine Kd.C_drew ?_) | exact HR464.out)) hb); have n5_ := Aside0.mk (below_step (by repeat (first | (with_reducible first | exact HB.out | apply below_alloc | apply pw_below_drewN | apply below_drew1) | exact HB.out)) hb); clear HO460; clear HO468; clear HO471; clear HR464; clear HB; have HO460 := n0_; have HO468 := n1_; have HO471 := n2_; have HO475 := n3_; have HR464 := n4_; have HB := n5_; clear n0_ n1_ n2_ n3_ n4_ n5_; (try clear hb); (try clear hb2); (try clear hk); (try clear hi); (try clear ho0)) | (go_at_call 38; (with_reducible refine (bursarlaw03_back.calls k _ _ l0 t476 _ ?side1 ?side2 A11.out).mono ?_); (case side1 => repeat (first | exact (Kd.C_below HR0.out HB.out) | (with_reducible refine Kd.C_alloc ?_ _) | (with_reducible refine Kd.C_drewN ?_ _) | (with_reducible refine Kd.C_drew ?_))); (case side2 => exact HC0.out); rintro e w22 ⟨v477, rfl, ho0, hb⟩; have n0_ := Aside0.mk (Kd.R_elder' (by (with_reducible repeat (first | apply Kd.R_alloc | apply Kd.R_drewN | apply Kd.R_drew)); exact HO460.out) (Kd.R_base ho0) hb); have n1_ := Aside0.mk (Kd.R_elder' (by (with_reducible repeat (first | apply Kd.R_alloc | apply Kd.R_drewN | apply Kd.R_drew)); exact HO468.out) (Kd.R_base ho0) hb); have n2_ := Aside0.mk (Kd.R_elder' (by (with_reducible repeat (first | apply Kd.R_alloc | apply Kd.R_drewN | apply Kd.R_drew)); exact HO471.out) (Kd.R_base ho0) hb); have n3_ := Aside0.mk (Kd.R_elder' (by (with_reducible repeat (first | apply Kd.R_alloc | apply Kd.R_drewN | apply Kd.R_drew)); exact HO475.out) (Kd.R_base ho0) hb); have n4_ := Aside0.mk (Kd.R_lower (Kd.R_new' (Kd.R_new' (Kd.R_new' (Kd.R_new' ho0 (Kd.R_lt (by (with_reducible repeat (first | apply Kd.R_alloc | apply Kd.R_drewN | apply Kd.R_drew)); exact HO460.out))) (Kd.R_lt (by (with_reducible repeat (first | apply Kd.R_alloc | apply Kd.R_drewN | apply Kd.R_drew)); exact HO468.out))) (Kd.R_lt (by (with_reducible repeat (first | apply Kd.R_alloc | apply Kd.R_drewN | apply Kd.R_drew)); exact HO471.out))) (Kd.R_lt (by (with_reducible repeat (first | apply Kd.R_alloc | apply Kd.R_drewN | apply Kd.R_drew)); exact HO475.out))) (below_size (by repeat (first | (with_reducible first | exact HB.out | apply below_alloc | apply pw_below_drewN | apply below_drew1) | exact HB.out)))); have n5_ := Aside0.mk (Kd.C_below (by repeat (first | (with_reducible exact HR464.out) | (with_reducible refine Kd.C_alloc ?_ _) | (with_reducible refine Kd.C_drewN ?_ _) | (with_reducible refine Kd.C_drew ?_) | exact HR464.out)) hb); have n6_ := Aside0.mk (below_step (by repeat (first | (with_reducible first | exact HB.out | apply below_alloc | apply pw_below_drewN | apply below_drew1) | exact HB.out)) hb); clear HO460; clear HO468; clear HO471; clear HO475; clear HR464; clear HB; have HO460 := n0_; have HO468 := n1_; have HO471 := n2_; have HO475 := n3_; have HO478 := n4_; have HR464 := n5_; have HB := n6_; clear n0_ n1_ n2_ n3_ n4_ n5_ n6_; (try clear hb); (try clear hb2); (try clear hk); (try clear hi); (try clear ho0); obtain ⟨Ao23, co23, eo23⟩ := Kd.R_slice HO478.out; subst eo23) | (go_at_call 36; (with_reducible refine (quant_Normal.calls k _ _ t476 t479 t480 _ ?side1 ?side2 A12.out (Glob.below hG.toGlob (by repeat (first | (with_reducible first | exact HB.out | apply below_alloc | apply pw_below_drewN | apply below_drew1) | exact HB.out)))).mono ?_); (case side1 => repeat (first | exact (Kd.R_reads' HO478.out).2.2 | (with_reducible refine Kd.C_alloc ?_ _) | (with_reducible refine Kd.C_drewN ?_ _) | (with_reducible refine Kd.C_drew ?_))); (case side2 => exact (Kd.R_reads' HO478.out).2.1); rintro e w24 ⟨v481, rfl, ho0, hb⟩; have n0_ := Aside0.mk (Kd.R_elder' (by (with_reducible repeat (first | apply Kd.R_alloc | apply Kd.R_drewN | apply Kd.R_drew)); exact HO460.out) (Kd.R_base ho0) hb); have n1_ := Aside0.mk (Kd.R_elder' (by (with_reducible repeat (first | apply Kd.R_alloc | apply Kd.R_drewN | apply Kd.R_drew)); exact HO468.out) (Kd.R_base ho0) hb); have n2_ := Aside0.mk (Kd.R_elder' (by (with_reducible repeat (first | apply Kd.R_alloc | apply Kd.R_drewN | apply Kd.R_drew)); exact HO471.out) (Kd.R_base ho0) hb); have n3_ := Aside0.mk (Kd.R_elder' (by (with_reducible repeat (first | apply Kd.R_alloc | apply Kd.R_drewN | apply Kd.R_drew)); exact HO475.out) (Kd.R_base ho0) hb); have n4_ := Aside0.mk (Kd.R_elder' (by (with_reducible repeat (first | apply Kd.R_alloc | apply Kd.R_drewN | apply Kd.R_drew)); exact HO478.out) (Kd.R_base ho0) hb); have n5_ := Aside0.mk (Kd.R_lower (Kd.R_new' (Kd.R_new' (Kd.R_new' (Kd.R_new' (Kd.R_new' ho0 (Kd.R_lt (by (with_reducible repeat (first | apply Kd.R_alloc | apply Kd.R_drewN | apply Kd.R_drew)); exact HO460.out))) (Kd.R_lt (by (with_reducible repeat (first | apply Kd.R_alloc | apply Kd.R_drewN | apply Kd.R_drew)); exact HO468.out))) (Kd.R_lt (by (with_reducible repeat (first | apply Kd.R_alloc | apply Kd.R_drewN | apply Kd.R_drew)); exact HO471.out))) (Kd.R_lt (by (with_reducible repeat (first | apply Kd.R_alloc | apply Kd.R_drewN | apply Kd.R_drew)); exact HO475.out))) (Kd.R_lt (by (with_reducible repeat (first | apply Kd.R_alloc | apply Kd.R_drewN | apply Kd.R_drew)); exact HO478.out))) (below_size (by repeat (first | (with_reducible first | exact HB.out | apply below_alloc | apply pw_below_drewN | apply below_drew1) | exact HB.out)))); have n6_ := Aside0.mk (Kd.C_below (by repeat (first | (with_reducible exact HR464.out) | (with_reducible refine Kd.C_alloc ?_ _) | (with_reducible refine Kd.C_drewN ?_ _) | (with_reducible refine Kd.C_drew ?_) | exact HR464.out)) hb); have n7_ := Aside0.mk (below_step (by repeat (first | (with_reducible first | exact HB.out | apply below_alloc | apply pw_below_drewN | apply below_drew1) | exact HB.out)) hb); clear HO460; clear HO468; clear HO471; clear HO475; clear HO478; clear HR464; clear HB; have HO460 := n0_; have HO468 := n1_; have HO471 := n2_; have HO475 := n3_; have HO478 := n4_; have HO482 := n5_; have HR464 := n6_; have HB := n7_; clear n0_ n1_ n2_ n3_ n4_ n5_ n6_ n7_; (try clear hb); (try clear hb2); (try clear hk); (try clear hi); (try clear ho0)))
    repeat (go_quiet (first | (go_at_call 16; (with_reducible refine (bursarlaw03_known.calls k  true _ A3.out (Glob.below hG.toGlob (by repeat (first | (with_reducible first | exact HB.out | apply below_alloc | apply pw_below_drewN | apply below_drew1) | exact HB.out)))).mono ?_); rintro e w14 ⟨rfl, hb⟩; have n0_ := Aside0.mk (below_step (by repeat (first | (with_reducible first | exact HB.out | apply below_alloc | apply pw_below_drewN | apply below_drew1) | exact HB.out)) hb); clear HB; have HB := n0_; clear n0_; (try clear hb); (try clear hb2); (try clear hk); (try clear hi)) | (go_at_call 29; (with_reducible refine (bursarlaw03_behind.calls _ _ l0 t458 _ ?side1 ?side2 A5.out (GlobM.below hG (by repeat (first | (with_reducible first | exact HB.out | apply below_alloc | apply pw_below_drewN | apply below_drew1) | exact HB.out)))).mono ?_); (case side1 => repeat (first | exact (Kd.C_below HR0.out HB.out) | (with_reducible refine Kd.C_alloc ?_ _) | (with_reducible refine Kd.C_drewN ?_ _) | (with_reducible refine Kd.C_drew ?_))); (case side2 => exact HC0.out); rintro e w15 ⟨v459, rfl, ho0, hb⟩; have n0_ := Aside0.mk (Kd.R_lower ho0 (below_size (by repeat (first | (with_reducible first | exact HB.out | apply below_alloc | apply pw_below_drewN | apply below_drew1) | exact HB.out)))); have n1_ := Aside0.mk (below_step (by repeat (first | (with_reducible first | exact HB.out | apply below_alloc | apply pw_below_drewN | apply below_drew1) | exact HB.out)) hb); clear HB; have HO460 := n0_; have HB := n1_; clear n0_ n1_; (try clear hb); (try clear hb2); (try clear hk); (try clear hi); (try clear ho0); obtain ⟨Ao17, co17, eo17⟩ := Kd.R_slice HO460.out; subst eo17; have q16 : ((l0.length : Int) : Int) ≤ ((t458.length : Int) : Int) := of_decide_eq_true (by first | (with_reducible assumption) | assumption); obtain ⟨i016, hi016, _, hsz16, _⟩ := info_parts info57; have hroom16 : t458.length ≤ co17 := (Kd.R_reads' HO460.out).2.1; have hC16 : Kd.C k57 _ Ao17 t458.length t458 := (Kd.R_reads' HO460.out).2.2; have hcut16 := cut_to (P := Tryz.prog) 46 57 .i64 Tryz.underlying46 hi016 Ao17 t458.length co17 (l0.length : Int) (of_decide_eq_true (by first | (with_reducible assumption) | assumption)) q16 hroom16; have hr16 := Kd.C_take (m := ((l0.length : Int) : Int).toNat) hC16 (by omega); have hy16 : y461.length = ((l0.length : Int) : Int).toNat := (by rw [Ny461.out, List.length_take]; omega); rw [← Ny461.out] at hr16; rw [← hy16] at hcut16; have HR464 := Aside0.mk hr16; have HC464 := Aside0.mk (show y461.length ≤ co17 from by omega); clear hr16 hC16 hroom16 hi016 hsz16; have KY16 := Aside0.mk hy16; clear hy16; have KL16 := Aside0.mk (show ((l0.length : Int) : Int).toNat ≤ t458.length from by omega); replace q16 := eq_true q16) | (go_at_call 36; (with_reducible refine (quant_Normal.calls k _ _ y461 t465 t466 _ ?side1 ?side2 A8.out (Glob.below hG.toGlob (by repeat (first | (with_reducible first | exact HB.out | apply below_alloc | apply pw_below_drewN | apply below_drew1) | exact HB.out)))).mono ?_); (case side1 => repeat (first | exact (by repeat (first | (with_reducible exact HR464.out) | (with_reducible refine Kd.C_alloc ?_ _) | (with_reducible refine Kd.C_drewN ?_ _) | (with_reducible refine Kd.C_drew ?_) | exact HR464.out)) | (with_reducible refine Kd.C_alloc ?_ _) | (with_reducible refine Kd.C_drewN ?_ _) | (with_reducible refine Kd.C_drew ?_))); (case side2 => exact HC464.out); rintro e w18 ⟨v467, rfl, ho0, hb⟩; have n0_ := Aside0.mk (Kd.R_elder' (by (with_reducible repeat (first | apply Kd.R_alloc | apply Kd.R_drewN | apply Kd.R_drew)); exact HO460.out) (Kd.R_base ho0) hb); have n1_ := Aside0.mk (Kd.R_lower (Kd.R_new' ho0 (Kd.R_lt (by (with_reducible repeat (first | apply Kd.R_alloc | apply Kd.R_drewN | apply Kd.R_drew)); exact HO460.out))) (below_size (by repeat (first | (with_reducible first | exact HB.out | apply below_alloc | apply pw_below_drewN | apply below_drew1) | exact HB.out)))); have n2_ := Aside0.mk (Kd.C_below (by repeat (first | (with_reducible exact HR464.out) | (with_reducible refine Kd.C_alloc ?_ _) | (with_reducible refine Kd.C_drewN ?_ _) | (with_reducible refine Kd.C_drew ?_) | exact HR464.out)) hb); have n3_ := Aside0.mk (below_step (by repeat (first | (with_reducible first | exact HB.out | apply below_alloc | apply pw_below_drewN | apply below_drew1) | exact HB.out)) hb); clear HO460; clear HR464; clear HB; have HO460 := n0_; have HO468 := n1_; have HR464 := n2_; have HB := n3_; clear n0_ n1_ n2_ n3_; (try clear hb); (try clear hb2); (try clear hk); (try clear hi); (try clear ho0)) | (go_at_call 37; (with_reducible refine (bursarlaw03_turned.calls _ _ l0 a1 t469 _ ?side1 ?side2 A9.out).mono ?_); (case side1 => repeat (first | exact (Kd.C_below HR0.out HB.out) | (with_reducible refine Kd.C_alloc ?_ _) | (with_reducible refine Kd.C_drewN ?_ _) | (with_reducible refine Kd.C_drew ?_))); (case side2 => exact HC0.out); rintro e w19 ⟨v470, rfl, ho0, hb⟩; have n0_ := Aside0.mk (Kd.R_elder' (by (with_reducible repeat (first | apply Kd.R_alloc | apply Kd.R_drewN | apply Kd.R_drew)); exact HO460.out) (Kd.R_base ho0) hb); have n1_ := Aside0.mk (Kd.R_elder' (by (with_reducible repeat (first | apply Kd.R_alloc | apply Kd.R_drewN | apply Kd.R_drew)); exact HO468.out) (Kd.R_base ho0) hb); have n2_ := Aside0.mk (Kd.R_lower (Kd.R_new' (Kd.R_new' ho0 (Kd.R_lt (by (with_reducible repeat (first | apply Kd.R_alloc | apply Kd.R_drewN | apply Kd.R_drew)); exact HO460.out))) (Kd.R_lt (by (with_reducible repeat (first | apply Kd.R_alloc | apply Kd.R_drewN | apply Kd.R_drew)); exact HO468.out))) (below_size (by repeat (first | (with_reducible first | exact HB.out | apply below_alloc | apply pw_below_drewN | apply below_drew1) | exact HB.out)))); have n3_ := Aside0.mk (Kd.C_below (by repeat (first | (with_reducible exact HR464.out) | (with_reducible refine Kd.C_alloc ?_ _) | (with_reducible refine Kd.C_drewN ?_ _) | (with_reducible refine Kd.C_drew ?_) | exact HR464.out)) hb); have n4_ := Aside0.mk (below_step (by repeat (first | (with_reducible first | exact HB.out | apply below_alloc | apply pw_below_drewN | apply below_drew1) | exact HB.out)) hb); clear HO460; clear HO468; clear HR464; clear HB; have HO460 := n0_; have HO468 := n1_; have HO471 := n2_; have HR464 := n3_; have HB := n4_; clear n0_ n1_ n2_ n3_ n4_; (try clear hb); (try clear hb2); (try clear hk); (try clear hi); (try clear ho0); obtain ⟨Ao20, co20, eo20⟩ := Kd.R_slice HO471.out; subst eo20) | (go_at_call 36; (with_reducible refine (quant_Normal.calls k _ _ t469 t472 t473 _ ?side1 ?side2 A10.out (Glob.below hG.toGlob (by repeat (first | (with_reducible first | exact HB.out | apply below_alloc | apply pw_below_drewN | apply below_drew1) | exact HB.out)))).mono ?_); (case side1 => repeat (first | exact (Kd.R_reads' HO471.out).2.2 | (with_reducible refine Kd.C_alloc ?_ _) | (with_reducible refine Kd.C_drewN ?_ _) | (with_reducible refine Kd.C_drew ?_))); (case side2 => exact (Kd.R_reads' HO471.out).2.1); rintro e w21 ⟨v474, rfl, ho0, hb⟩; have n0_ := Aside0.mk (Kd.R_elder' (by (with_reducible repeat (first | apply Kd.R_alloc | apply Kd.R_drewN | apply Kd.R_drew)); exact HO460.out) (Kd.R_base ho0) hb); have n1_ := Aside0.mk (Kd.R_elder' (by (with_reducible repeat (first | apply Kd.R_alloc | apply Kd.R_drewN | apply Kd.R_drew)); exact HO468.out) (Kd.R_base ho0) hb); have n2_ := Aside0.mk (Kd.R_elder' (by (with_reducible repeat (first | apply Kd.R_alloc | apply Kd.R_drewN | apply Kd.R_drew)); exact HO471.out) (Kd.R_base ho0) hb); have n3_ := Aside0.mk (Kd.R_lower (Kd.R_new' (Kd.R_new' (Kd.R_new' ho0 (Kd.R_lt (by (with_reducible repeat (first | apply Kd.R_alloc | apply Kd.R_drewN | apply Kd.R_drew)); exact HO460.out))) (Kd.R_lt (by (with_reducible repeat (first | apply Kd.R_alloc | apply Kd.R_drewN | apply Kd.R_drew)); exact HO468.out))) (Kd.R_lt (by (with_reducible repeat (first | apply Kd.R_alloc | apply Kd.R_drewN | apply Kd.R_drew)); exact HO471.out))) (below_size (by repeat (first | (with_reducible first | exact HB.out | apply below_alloc | apply pw_below_drewN | apply below_drew1) | exact HB.out)))); have n4_ := Aside0.mk (Kd.C_below (by repeat (first | (with_reducible exact HR464.out) | (with_reducible refine Kd.C_alloc ?_ _) | (with_reducible refine Kd.C_drewN ?_ _) | (with_reducible refine Kd.C_drew ?_) | exact HR464.out)) hb); have n5_ := Aside0.mk (below_step (by repeat (first | (with_reducible first | exact HB.out | apply below_alloc | apply pw_below_drewN | apply below_drew1) | exact HB.out)) hb); clear HO460; clear HO468; clear HO471; clear HR464; clear HB; have HO460 := n0_; have HO468 := n1_; have HO471 := n2_; have HO475 := n3_; have HR464 := n4_; have HB := n5_; clear n0_ n1_ n2_ n3_ n4_ n5_; (try clear hb); (try clear hb2); (try clear hk); (try clear hi); (try clear ho0)) | (go_at_call 38; (with_reducible refine (bursarlaw03_back.calls k _ _ l0 t476 _ ?side1 ?side2 A11.out).mono ?_); (case side1 => repeat (first | exact (Kd.C_below HR0.out HB.out) | (with_reducible refine Kd.C_alloc ?_ _) | (with_reducible refine Kd.C_drewN ?_ _) | (with_reducible refine Kd.C_drew ?_))); (case side2 => exact HC0.out); rintro e w22 ⟨v477, rfl, ho0, hb⟩; have n0_ := Aside0.mk (Kd.R_elder' (by (with_reducible repeat (first | apply Kd.R_alloc | apply Kd.R_drewN | apply Kd.R_drew)); exact HO460.out) (Kd.R_base ho0) hb); have n1_ := Aside0.mk (Kd.R_elder' (by (with_reducible repeat (first | apply Kd.R_alloc | apply Kd.R_drewN | apply Kd.R_drew)); exact HO468.out) (Kd.R_base ho0) hb); have n2_ := Aside0.mk (Kd.R_elder' (by (with_reducible repeat (first | apply Kd.R_alloc | apply Kd.R_drewN | apply Kd.R_drew)); exact HO471.out) (Kd.R_base ho0) hb); have n3_ := Aside0.mk (Kd.R_elder' (by (with_reducible repeat (first | apply Kd.R_alloc | apply Kd.R_drewN | apply Kd.R_drew)); exact HO475.out) (Kd.R_base ho0) hb); have n4_ := Aside0.mk (Kd.R_lower (Kd.R_new' (Kd.R_new' (Kd.R_new' (Kd.R_new' ho0 (Kd.R_lt (by (with_reducible repeat (first | apply Kd.R_alloc | apply Kd.R_drewN | apply Kd.R_drew)); exact HO460.out))) (Kd.R_lt (by (with_reducible repeat (first | apply Kd.R_alloc | apply Kd.R_drewN | apply Kd.R_drew)); exact HO468.out))) (Kd.R_lt (by (with_reducible repeat (first | apply Kd.R_alloc | apply Kd.R_drewN | apply Kd.R_drew)); exact HO471.out))) (Kd.R_lt (by (with_reducible repeat (first | apply Kd.R_alloc | apply Kd.R_drewN | apply Kd.R_drew)); exact HO475.out))) (below_size (by repeat (first | (with_reducible first | exact HB.out | apply below_alloc | apply pw_below_drewN | apply below_drew1) | exact HB.out)))); have n5_ := Aside0.mk (Kd.C_below (by repeat (first | (with_reducible exact HR464.out) | (with_reducible refine Kd.C_alloc ?_ _) | (with_reducible refine Kd.C_drewN ?_ _) | (with_reducible refine Kd.C_drew ?_) | exact HR464.out)) hb); have n6_ := Aside0.mk (below_step (by repeat (first | (with_reducible first | exact HB.out | apply below_alloc | apply pw_below_drewN | apply below_drew1) | exact HB.out)) hb); clear HO460; clear HO468; clear HO471; clear HO475; clear HR464; clear HB; have HO460 := n0_; have HO468 := n1_; have HO471 := n2_; have HO475 := n3_; have HO478 := n4_; have HR464 := n5_; have HB := n6_; clear n0_ n1_ n2_ n3_ n4_ n5_ n6_; (try clear hb); (try clear hb2); (try clear hk); (try clear hi); (try clear ho0); obtain ⟨Ao23, co23, eo23⟩ := Kd.R_slice HO478.out; subst eo23) | (go_at_call 36; (with_reducible refine (quant_Normal.calls k _ _ t476 t479 t480 _ ?side1 ?side2 A12.out (Glob.below hG.toGlob (by repeat (first | (with_reducible first | exact HB.out | apply below_alloc | apply pw_below_drewN | apply below_drew1) | exact HB.out)))).mono ?_); (case side1 => repeat (first | exact (Kd.R_reads' HO478.out).2.2 | (with_reducible refine Kd.C_alloc ?_ _) | (with_reducible refine Kd.C_drewN ?_ _) | (with_reducible refine Kd.C_drew ?_))); (case side2 => exact (Kd.R_reads' HO478.out).2.1); rintro e w24 ⟨v481, rfl, ho0, hb⟩; have n0_ := Aside0.mk (Kd.R_elder' (by (with_reducible repeat (first | apply Kd.R_alloc | apply Kd.R_drewN | apply Kd.R_drew)); exact HO460.out) (Kd.R_base ho0) hb); have n1_ := Aside0.mk (Kd.R_elder' (by (with_reducible repeat (first | apply Kd.R_alloc | apply Kd.R_drewN | apply Kd.R_drew)); exact HO468.out) (Kd.R_base ho0) hb); have n2_ := Aside0.mk (Kd.R_elder' (by (with_reducible repeat (first | apply Kd.R_alloc | apply Kd.R_drewN | apply Kd.R_drew)); exact HO471.out) (Kd.R_base ho0) hb); have n3_ := Aside0.mk (Kd.R_elder' (by (with_reducible repeat (first | apply Kd.R_alloc | apply Kd.R_drewN | apply Kd.R_drew)); exact HO475.out) (Kd.R_base ho0) hb); have n4_ := Aside0.mk (Kd.R_elder' (by (with_reducible repeat (first | apply Kd.R_alloc | apply Kd.R_drewN | apply Kd.R_drew)); exact HO478.out) (Kd.R_base ho0) hb); have n5_ := Aside0.mk (Kd.R_lower (Kd.R_new' (Kd.R_new' (Kd.R_new' (Kd.R_new' (Kd.R_new' ho0 (Kd.R_lt (by (with_reducible repeat (first | apply Kd.R_alloc | apply Kd.R_drewN | apply Kd.R_drew)); exact HO460.out))) (Kd.R_lt (by (with_reducible repeat (first | apply Kd.R_alloc | apply Kd.R_drewN | apply Kd.R_drew)); exact HO468.out))) (Kd.R_lt (by (with_reducible repeat (first | apply Kd.R_alloc | apply Kd.R_drewN | apply Kd.R_drew)); exact HO471.out))) (Kd.R_lt (by (with_reducible repeat (first | apply Kd.R_alloc | apply Kd.R_drewN | apply Kd.R_drew)); exact HO475.out))) (Kd.R_lt (by (with_reducible repeat (first | apply Kd.R_alloc | apply Kd.R_drewN | apply Kd.R_drew)); exact HO478.out))) (below_size (by repeat (first | (with_reducible first | exact HB.out | apply below_alloc | apply pw_below_drewN | apply below_drew1) | exact HB.out)))); have n6_ := Aside0.mk (Kd.C_below (by repeat (first | (with_reducible exact HR464.out) | (with_reducible refine Kd.C_alloc ?_ _) | (with_reducible refine Kd.C_drewN ?_ _) | (with_reducible refine Kd.C_drew ?_) | exact HR464.out)) hb); have n7_ := Aside0.mk (below_step (by repeat (first | (with_reducible first | exact HB.out | apply below_alloc | apply pw_below_drewN | apply below_drew1) | exact HB.out)) hb); clear HO460; clear HO468; clear HO471; clear HO475; clear HO478; clear HR464; clear HB; have HO460 := n0_; have HO468 := n1_; have HO471 := n2_; have HO475 := n3_; have HO478 := n4_; have HO482 := n5_; have HR464 := n6_; have HB := n7_; clear n0_ n1_ n2_ n3_ n4_ n5_ n6_ n7_; (try clear hb); (try clear hb2); (try clear hk); (try clear hi); (try clear ho0))); go_upto_region 6 with (first | (go_at_call 16; (with_reducible refine (bursarlaw03_known.calls k  true _ A3.out (Glob.below hG.toGlob (by repeat (first | (with_reducible first | exact HB.out | apply below_alloc | apply pw_below_drewN | apply below_drew1) | exact HB.out)))).mono ?_); rintro e w14 ⟨rfl, hb⟩; have n0_ := Aside0.mk (below_step (by repeat (first | (with_reducible first | exact HB.out | apply below_alloc | apply pw_below_drewN | apply below_drew1) | exact HB.out)) hb); clear HB; have HB := n0_; clear n0_; (try clear hb); (try clear hb2); (try clear hk); (try clear hi)) | (go_at_call 29; (with_reducible refine (bursarlaw03_behind.calls _ _ l0 t458 _ ?side1 ?side2 A5.out (GlobM.below hG (by repeat (first | (with_reducible first | exact HB.out | apply below_alloc | apply pw_below_drewN | apply below_drew1) | exact HB.out)))).mono ?_); (case side1 => repeat (first | exact (Kd.C_below HR0.out HB.out) | (with_reducible refine Kd.C_alloc ?_ _) | (with_reducible refine Kd.C_drewN ?_ _) | (with_reducible refine Kd.C_drew ?_))); (case side2 => exact HC0.out); rintro e w15 ⟨v459, rfl, ho0, hb⟩; have n0_ := Aside0.mk (Kd.R_lower ho0 (below_size (by repeat (first | (with_reducible first | exact HB.out | apply below_alloc | apply pw_below_drewN | apply below_drew1) | exact HB.out)))); have n1_ := Aside0.mk (below_step (by repeat (first | (with_reducible first | exact HB.out | apply below_alloc | apply pw_below_drewN | apply below_drew1) | exact HB.out)) hb); clear HB; have HO460 := n0_; have HB := n1_; clear n0_ n1_; (try clear hb); (try clear hb2); (try clear hk); (try clear hi); (try clear ho0); obtain ⟨Ao17, co17, eo17⟩ := Kd.R_slice HO460.out; subst eo17; have q16 : ((l0.length : Int) : Int) ≤ ((t458.length : Int) : Int) := of_decide_eq_true (by first | (with_reducible assumption) | assumption); obtain ⟨i016, hi016, _, hsz16, _⟩ := info_parts info57; have hroom16 : t458.length ≤ co17 := (Kd.R_reads' HO460.out).2.1; have hC16 : Kd.C k57 _ Ao17 t458.length t458 := (Kd.R_reads' HO460.out).2.2; have hcut16 := cut_to (P := Tryz.prog) 46 57 .i64 Tryz.underlying46 hi016 Ao17 t458.length co17 (l0.length : Int) (of_decide_eq_true (by first | (with_reducible assumption) | assumption)) q16 hroom16; have hr16 := Kd.C_take (m := ((l0.length : Int) : Int).toNat) hC16 (by omega); have hy16 : y461.length = ((l0.length : Int) : Int).toNat := (by rw [Ny461.out, List.length_take]; omega); rw [← Ny461.out] at hr16; rw [← hy16] at hcut16; have HR464 := Aside0.mk hr16; have HC464 := Aside0.mk (show y461.length ≤ co17 from by omega); clear hr16 hC16 hroom16 hi016 hsz16; have KY16 := Aside0.mk hy16; clear hy16; have KL16 := Aside0.mk (show ((l0.length : Int) : Int).toNat ≤ t458.length from by omega); replace q16 := eq_true q16) | (go_at_call 36; (with_reducible refine (quant_Normal.calls k _ _ y461 t465 t466 _ ?side1 ?side2 A8.out (Glob.below hG.toGlob (by repeat (first | (with_reducible first | exact HB.out | apply below_alloc | apply pw_below_drewN | apply below_drew1) | exact HB.out)))).mono ?_); (case side1 => repeat (first | exact (by repeat (first | (with_reducible exact HR464.out) | (with_reducible refine Kd.C_alloc ?_ _) | (with_reducible refine Kd.C_drewN ?_ _) | (with_reducible refine Kd.C_drew ?_) | exact HR464.out)) | (with_reducible refine Kd.C_alloc ?_ _) | (with_reducible refine Kd.C_drewN ?_ _) | (with_reducible refine Kd.C_drew ?_))); (case side2 => exact HC464.out); rintro e w18 ⟨v467, rfl, ho0, hb⟩; have n0_ := Aside0.mk (Kd.R_elder' (by (with_reducible repeat (first | apply Kd.R_alloc | apply Kd.R_drewN | apply Kd.R_drew)); exact HO460.out) (Kd.R_base ho0) hb); have n1_ := Aside0.mk (Kd.R_lower (Kd.R_new' ho0 (Kd.R_lt (by (with_reducible repeat (first | apply Kd.R_alloc | apply Kd.R_drewN | apply Kd.R_drew)); exact HO460.out))) (below_size (by repeat (first | (with_reducible first | exact HB.out | apply below_alloc | apply pw_below_drewN | apply below_drew1) | exact HB.out)))); have n2_ := Aside0.mk (Kd.C_below (by repeat (first | (with_reducible exact HR464.out) | (with_reducible refine Kd.C_alloc ?_ _) | (with_reducible refine Kd.C_drewN ?_ _) | (with_reducible refine Kd.C_drew ?_) | exact HR464.out)) hb); have n3_ := Aside0.mk (below_step (by repeat (first | (with_reducible first | exact HB.out | apply below_alloc | apply pw_below_drewN | apply below_drew1) | exact HB.out)) hb); clear HO460; clear HR464; clear HB; have HO460 := n0_; have HO468 := n1_; have HR464 := n2_; have HB := n3_; clear n0_ n1_ n2_ n3_; (try clear hb); (try clear hb2); (try clear hk); (try clear hi); (try clear ho0)) | (go_at_call 37; (with_reducible refine (bursarlaw03_turned.calls _ _ l0 a1 t469 _ ?side1 ?side2 A9.out).mono ?_); (case side1 => repeat (first | exact (Kd.C_below HR0.out HB.out) | (with_reducible refine Kd.C_alloc ?_ _) | (with_reducible refine Kd.C_drewN ?_ _) | (with_reducible refine Kd.C_drew ?_))); (case side2 => exact HC0.out); rintro e w19 ⟨v470, rfl, ho0, hb⟩; have n0_ := Aside0.mk (Kd.R_elder' (by (with_reducible repeat (first | apply Kd.R_alloc | apply Kd.R_drewN | apply Kd.R_drew)); exact HO460.out) (Kd.R_base ho0) hb); have n1_ := Aside0.mk (Kd.R_elder' (by (with_reducible repeat (first | apply Kd.R_alloc | apply Kd.R_drewN | apply Kd.R_drew)); exact HO468.out) (Kd.R_base ho0) hb); have n2_ := Aside0.mk (Kd.R_lower (Kd.R_new' (Kd.R_new' ho0 (Kd.R_lt (by (with_reducible repeat (first | apply Kd.R_alloc | apply Kd.R_drewN | apply Kd.R_drew)); exact HO460.out))) (Kd.R_lt (by (with_reducible repeat (first | apply Kd.R_alloc | apply Kd.R_drewN | apply Kd.R_drew)); exact HO468.out))) (below_size (by repeat (first | (with_reducible first | exact HB.out | apply below_alloc | apply pw_below_drewN | apply below_drew1) | exact HB.out)))); have n3_ := Aside0.mk (Kd.C_below (by repeat (first | (with_reducible exact HR464.out) | (with_reducible refine Kd.C_alloc ?_ _) | (with_reducible refine Kd.C_drewN ?_ _) | (with_reducible refine Kd.C_drew ?_) | exact HR464.out)) hb); have n4_ := Aside0.mk (below_step (by repeat (first | (with_reducible first | exact HB.out | apply below_alloc | apply pw_below_drewN | apply below_drew1) | exact HB.out)) hb); clear HO460; clear HO468; clear HR464; clear HB; have HO460 := n0_; have HO468 := n1_; have HO471 := n2_; have HR464 := n3_; have HB := n4_; clear n0_ n1_ n2_ n3_ n4_; (try clear hb); (try clear hb2); (try clear hk); (try clear hi); (try clear ho0); obtain ⟨Ao20, co20, eo20⟩ := Kd.R_slice HO471.out; subst eo20) | (go_at_call 36; (with_reducible refine (quant_Normal.calls k _ _ t469 t472 t473 _ ?side1 ?side2 A10.out (Glob.below hG.toGlob (by repeat (first | (with_reducible first | exact HB.out | apply below_alloc | apply pw_below_drewN | apply below_drew1) | exact HB.out)))).mono ?_); (case side1 => repeat (first | exact (Kd.R_reads' HO471.out).2.2 | (with_reducible refine Kd.C_alloc ?_ _) | (with_reducible refine Kd.C_drewN ?_ _) | (with_reducible refine Kd.C_drew ?_))); (case side2 => exact (Kd.R_reads' HO471.out).2.1); rintro e w21 ⟨v474, rfl, ho0, hb⟩; have n0_ := Aside0.mk (Kd.R_elder' (by (with_reducible repeat (first | apply Kd.R_alloc | apply Kd.R_drewN | apply Kd.R_drew)); exact HO460.out) (Kd.R_base ho0) hb); have n1_ := Aside0.mk (Kd.R_elder' (by (with_reducible repeat (first | apply Kd.R_alloc | apply Kd.R_drewN | apply Kd.R_drew)); exact HO468.out) (Kd.R_base ho0) hb); have n2_ := Aside0.mk (Kd.R_elder' (by (with_reducible repeat (first | apply Kd.R_alloc | apply Kd.R_drewN | apply Kd.R_drew)); exact HO471.out) (Kd.R_base ho0) hb); have n3_ := Aside0.mk (Kd.R_lower (Kd.R_new' (Kd.R_new' (Kd.R_new' ho0 (Kd.R_lt (by (with_reducible repeat (first | apply Kd.R_alloc | apply Kd.R_drewN | apply Kd.R_drew)); exact HO460.out))) (Kd.R_lt (by (with_reducible repeat (first | apply Kd.R_alloc | apply Kd.R_drewN | apply Kd.R_drew)); exact HO468.out))) (Kd.R_lt (by (with_reducible repeat (first | apply Kd.R_alloc | apply Kd.R_drewN | apply Kd.R_drew)); exact HO471.out))) (below_size (by repeat (first | (with_reducible first | exact HB.out | apply below_alloc | apply pw_below_drewN | apply below_drew1) | exact HB.out)))); have n4_ := Aside0.mk (Kd.C_below (by repeat (first | (with_reducible exact HR464.out) | (with_reducible refine Kd.C_alloc ?_ _) | (with_reducible refine Kd.C_drewN ?_ _) | (with_reducible refine Kd.C_drew ?_) | exact HR464.out)) hb); have n5_ := Aside0.mk (below_step (by repeat (first | (with_reducible first | exact HB.out | apply below_alloc | apply pw_below_drewN | apply below_drew1) | exact HB.out)) hb); clear HO460; clear HO468; clear HO471; clear HR464; clear HB; have HO460 := n0_; have HO468 := n1_; have HO471 := n2_; have HO475 := n3_; have HR464 := n4_; have HB := n5_; clear n0_ n1_ n2_ n3_ n4_ n5_; (try clear hb); (try clear hb2); (try clear hk); (try clear hi); (try clear ho0)) | (go_at_call 38; (with_reducible refine (bursarlaw03_back.calls k _ _ l0 t476 _ ?side1 ?side2 A11.out).mono ?_); (case side1 => repeat (first | exact (Kd.C_below HR0.out HB.out) | (with_reducible refine Kd.C_alloc ?_ _) | (with_reducible refine Kd.C_drewN ?_ _) | (with_reducible refine Kd.C_drew ?_))); (case side2 => exact HC0.out); rintro e w22 ⟨v477, rfl, ho0, hb⟩; have n0_ := Aside0.mk (Kd.R_elder' (by (with_reducible repeat (first | apply Kd.R_alloc | apply Kd.R_drewN | apply Kd.R_drew)); exact HO460.out) (Kd.R_base ho0) hb); have n1_ := Aside0.mk (Kd.R_elder' (by (with_reducible repeat (first | apply Kd.R_alloc | apply Kd.R_drewN | apply Kd.R_drew)); exact HO468.out) (Kd.R_base ho0) hb); have n2_ := Aside0.mk (Kd.R_elder' (by (with_reducible repeat (first | apply Kd.R_alloc | apply Kd.R_drewN | apply Kd.R_drew)); exact HO471.out) (Kd.R_base ho0) hb); have n3_ := Aside0.mk (Kd.R_elder' (by (with_reducible repeat (first | apply Kd.R_alloc | apply Kd.R_drewN | apply Kd.R_drew)); exact HO475.out) (Kd.R_base ho0) hb); have n4_ := Aside0.mk (Kd.R_lower (Kd.R_new' (Kd.R_new' (Kd.R_new' (Kd.R_new' ho0 (Kd.R_lt (by (with_reducible repeat (first | apply Kd.R_alloc | apply Kd.R_drewN | apply Kd.R_drew)); exact HO460.out))) (Kd.R_lt (by (with_reducible repeat (first | apply Kd.R_alloc | apply Kd.R_drewN | apply Kd.R_drew)); exact HO468.out))) (Kd.R_lt (by (with_reducible repeat (first | apply Kd.R_alloc | apply Kd.R_drewN | apply Kd.R_drew)); exact HO471.out))) (Kd.R_lt (by (with_reducible repeat (first | apply Kd.R_alloc | apply Kd.R_drewN | apply Kd.R_drew)); exact HO475.out))) (below_size (by repeat (first | (with_reducible first | exact HB.out | apply below_alloc | apply pw_below_drewN | apply below_drew1) | exact HB.out)))); have n5_ := Aside0.mk (Kd.C_below (by repeat (first | (with_reducible exact HR464.out) | (with_reducible refine Kd.C_alloc ?_ _) | (with_reducible refine Kd.C_drewN ?_ _) | (with_reducible refine Kd.C_drew ?_) | exact HR464.out)) hb); have n6_ := Aside0.mk (below_step (by repeat (first | (with_reducible first | exact HB.out | apply below_alloc | apply pw_below_drewN | apply below_drew1) | exact HB.out)) hb); clear HO460; clear HO468; clear HO471; clear HO475; clear HR464; clear HB; have HO460 := n0_; have HO468 := n1_; have HO471 := n2_; have HO475 := n3_; have HO478 := n4_; have HR464 := n5_; have HB := n6_; clear n0_ n1_ n2_ n3_ n4_ n5_ n6_; (try clear hb); (try clear hb2); (try clear hk); (try clear hi); (try clear ho0); obtain ⟨Ao23, co23, eo23⟩ := Kd.R_slice HO478.out; subst eo23) | (go_at_call 36; (with_reducible refine (quant_Normal.calls k _ _ t476 t479 t480 _ ?side1 ?side2 A12.out (Glob.below hG.toGlob (by repeat (first | (with_reducible first | exact HB.out | apply below_alloc | apply pw_below_drewN | apply below_drew1) | exact HB.out)))).mono ?_); (case side1 => repeat (first | exact (Kd.R_reads' HO478.out).2.2 | (with_reducible refine Kd.C_alloc ?_ _) | (with_reducible refine Kd.C_drewN ?_ _) | (with_reducible refine Kd.C_drew ?_))); (case side2 => exact (Kd.R_reads' HO478.out).2.1); rintro e w24 ⟨v481, rfl, ho0, hb⟩; have n0_ := Aside0.mk (Kd.R_elder' (by (with_reducible repeat (first | apply Kd.R_alloc | apply Kd.R_drewN | apply Kd.R_drew)); exact HO460.out) (Kd.R_base ho0) hb); have n1_ := Aside0.mk (Kd.R_elder' (by (with_reducible repeat (first | apply Kd.R_alloc | apply Kd.R_drewN | apply Kd.R_drew)); exact HO468.out) (Kd.R_base ho0) hb); have n2_ := Aside0.mk (Kd.R_elder' (by (with_reducible repeat (first | apply Kd.R_alloc | apply Kd.R_drewN | apply Kd.R_drew)); exact HO471.out) (Kd.R_base ho0) hb); have n3_ := Aside0.mk (Kd.R_elder' (by (with_reducible repeat (first | apply Kd.R_alloc | apply Kd.R_drewN | apply Kd.R_drew)); exact HO475.out) (Kd.R_base ho0) hb); have n4_ := Aside0.mk (Kd.R_elder' (by (with_reducible repeat (first | apply Kd.R_alloc | apply Kd.R_drewN | apply Kd.R_drew)); exact HO478.out) (Kd.R_base ho0) hb); have n5_ := Aside0.mk (Kd.R_lower (Kd.R_new' (Kd.R_new' (Kd.R_new' (Kd.R_new' (Kd.R_new' ho0 (Kd.R_lt (by (with_reducible repeat (first | apply Kd.R_alloc | apply Kd.R_drewN | apply Kd.R_drew)); exact HO460.out))) (Kd.R_lt (by (with_reducible repeat (first | apply Kd.R_alloc | apply Kd.R_drewN | apply Kd.R_drew)); exact HO468.out))) (Kd.R_lt (by (with_reducible repeat (first | apply Kd.R_alloc | apply Kd.R_drewN | apply Kd.R_drew)); exact HO471.out))) (Kd.R_lt (by (with_reducible repeat (first | apply Kd.R_alloc | apply Kd.R_drewN | apply Kd.R_drew)); exact HO475.out))) (Kd.R_lt (by (with_reducible repeat (first | apply Kd.R_alloc | apply Kd.R_drewN | apply Kd.R_drew)); exact HO478.out))) (below_size (by repeat (first | (with_reducible first | exact HB.out | apply below_alloc | apply pw_below_drewN | apply below_drew1) | exact HB.out)))); have n6_ := Aside0.mk (Kd.C_below (by repeat (first | (with_reducible exact HR464.out) | (with_reducible refine Kd.C_alloc ?_ _) | (with_reducible refine Kd.C_drewN ?_ _) | (with_reducible refine Kd.C_drew ?_) | exact HR464.out)) hb); have n7_ := Aside0.mk (below_step (by repeat (first | (with_reducible first | exact HB.out | apply below_alloc | apply pw_below_drewN | apply below_drew1) | exact HB.out)) hb); clear HO460; clear HO468; clear HO471; clear HO475; clear HO478; clear HR464; clear HB; have HO460 := n0_; have HO468 := n1_; have HO471 := n2_; have HO475 := n3_; have HO478 := n4_; have HO482 := n5_; have HR464 := n6_; have HB := n7_; clear n0_ n1_ n2_ n3_ n4_ n5_ n6_ n7_; (try clear hb); (try clear hb2); (try clear hk); (try clear hi); (try clear ho0))))
    (try simp only [Act.put, List.setIfInBounds_toArray, List.set_cons_zero, List.set_cons_succ])
    go_cut [63] (fun v63 wc => ∃ (kq : Nat) (x63_12 : Bool), v63 = .bool x63_12 ∧ Aside0 (bursarlaw03_QuantOrders.j0 kq l0 t465 t466 x63_12 = some r) ∧ Aside0 (kq ≤ k) ∧ Aside0 (Kd.R k57 57 wc w.heap.size (fun _ => True) v467 t465) ∧ Aside0 (Kd.C k57 wc Ao17 y461.length y461) ∧ Aside0 (Below w.heap.size w wc))
    case first =>
     have H := HC13.out
     clear HC13
     by_cases c25 : t466 = t473
     ·rw [if_pos c25] at H
      have c25b0 : (t466 == t473) = true := beq_iff_eq.mpr c25
      have c25b1 : (t466 != t473) = false := bne_eq_false_iff_eq.mpr c25
      clear c25
      (first | rw [c25b0] | (simp only [i64_w, i32_w]; rw [c25b0]) | skip)
      by_cases c26 : t466 = t480
      ·rw [if_pos c26] at H
       have c26b0 : (t466 == t480) = true := beq_iff_eq.mpr c26
       have c26b1 : (t466 != t480) = false := bne_eq_false_iff_eq.mpr c26
       clear c26
       replace H := Option.bind_eq_some_iff.mp H
       obtain ⟨t483, A270, H⟩ := H
       replace H : (if t483 = true then ((bursarlaw03_same.f k t465 t479).bind fun t484 => (bursarlaw03_QuantOrders.j0 k l0 t465 t466 (!t484))) else (bursarlaw03_QuantOrders.j0 k l0 t465 t466 true)) = some r := H
       have A27 := Aside0.mk A270
       clear A270
       by_cases c28 : t483 = true
       ·subst c28
        have H1 : ((bursarlaw03_same.f k t465 t479).bind fun t484 => (bursarlaw03_QuantOrders.j0 k l0 t465 t466 (!t484))) = some r := by rw [if_pos rfl] at H; exact H
        clear H
        have H := H1
        clear H1
        replace H := Option.bind_eq_some_iff.mp H
        obtain ⟨t484, A290, H⟩ := H
        replace H : (bursarlaw03_QuantOrders.j0 k l0 t465 t466 (!t484)) = some r := H
        have A29 := Aside0.mk A290
        clear A290
        have H' := Aside0.mk H
        clear H
        obtain ⟨Ao30, co30, eo30⟩ := Kd.R_slice HO468.out
        subst eo30
        obtain ⟨Ao31, co31, eo31⟩ := Kd.R_slice HO475.out
        subst eo31
        go_wp2_with (first | (go_at_call 39; (with_reducible refine (bursarlaw03_same.calls k _ _ t465 _ _ t472 true _ ?side1 ?side2 ?side3 ?side4 A27.out).mono ?_); (case side1 => repeat (first | exact (Kd.R_reads' HO468.out).2.2 | (with_reducible refine Kd.C_alloc ?_ _) | (with_reducible refine Kd.C_drewN ?_ _) | (with_reducible refine Kd.C_drew ?_))); (case side2 => exact (Kd.R_reads' HO468.out).2.1); (case side3 => repeat (first | exact (Kd.R_reads' HO475.out).2.2 | (with_reducible refine Kd.C_alloc ?_ _) | (with_reducible refine Kd.C_drewN ?_ _) | (with_reducible refine Kd.C_drew ?_))); (case side4 => exact (Kd.R_reads' HO475.out).2.1); rintro e w' ⟨rfl, ⟨nd, rfl⟩⟩; (try first | exact ⟨rfl, _, World.drewN_drewN _ _ _⟩ | exact ⟨rfl, _, Eq.trans (World.drewN_drewN _ _ _) (congrArg (World.drewN _) (Nat.add_assoc _ _ _))⟩); obtain ⟨Ao32, co32, eo32⟩ := Kd.R_slice HO482.out; subst eo32) | (go_at_call 39; (with_reducible refine (bursarlaw03_same.calls k _ _ t465 _ _ t479 t484 _ ?side1 ?side2 ?side3 ?side4 A29.out).mono ?_); (case side1 => repeat (first | exact (Kd.R_reads' HO468.out).2.2 | (with_reducible refine Kd.C_alloc ?_ _) | (with_reducible refine Kd.C_drewN ?_ _) | (with_reducible refine Kd.C_drew ?_))); (case side2 => exact (Kd.R_reads' HO468.out).2.1); (case side3 => repeat (first | exact (Kd.R_reads' HO482.out).2.2 | (with_reducible refine Kd.C_alloc ?_ _) | (with_reducible refine Kd.C_drewN ?_ _) | (with_reducible refine Kd.C_drew ?_))); (case side4 => exact (Kd.R_reads' HO482.out).2.1); rintro e w' ⟨rfl, ⟨nd, rfl⟩⟩; (try first | exact ⟨rfl, _, World.drewN_drewN _ _ _⟩ | exact ⟨rfl, _, Eq.trans (World.drewN_drewN _ _ _) (congrArg (World.drewN _) (Nat.add_assoc _ _ _))⟩)))
        repeat (go_quiet (first | (go_at_call 39; (with_reducible refine (bursarlaw03_same.calls k _ _ t465 _ _ t472 true _ ?side1 ?side2 ?side3 ?side4 A27.out).mono ?_); (case side1 => repeat (first | exact (Kd.R_reads' HO468.out).2.2 | (with_reducible refine Kd.C_alloc ?_ _) | (with_reducible refine Kd.C_drewN ?_ _) | (with_reducible refine Kd.C_drew ?_))); (case side2 => exact (Kd.R_reads' HO468.out).2.1); (case side3 => repeat (first | exact (Kd.R_reads' HO475.out).2.2 | (with_reducible refine Kd.C_alloc ?_ _) | (with_reducible refine Kd.C_drewN ?_ _) | (with_reducible refine Kd.C_drew ?_))); (case side4 => exact (Kd.R_reads' HO475.out).2.1); rintro e w' ⟨rfl, ⟨nd, rfl⟩⟩; (try first | exact ⟨rfl, _, World.drewN_drewN _ _ _⟩ | exact ⟨rfl, _, Eq.trans (World.drewN_drewN _ _ _) (congrArg (World.drewN _) (Nat.add_assoc _ _ _))⟩); obtain ⟨Ao32, co32, eo32⟩ := Kd.R_slice HO482.out; subst eo32) | (go_at_call 39; (with_reducible refine (bursarlaw03_same.calls k _ _ t465 _ _ t479 t484 _ ?side1 ?side2 ?side3 ?side4 A29.out).mono ?_); (case side1 => repeat (first | exact (Kd.R_reads' HO468.out).2.2 | (with_reducible refine Kd.C_alloc ?_ _) | (with_reducible refine Kd.C_drewN ?_ _) | (with_reducible refine Kd.C_drew ?_))); (case side2 => exact (Kd.R_reads' HO468.out).2.1); (case side3 => repeat (first | exact (Kd.R_reads' HO482.out).2.2 | (with_reducible refine Kd.C_alloc ?_ _) | (with_reducible refine Kd.C_drewN ?_ _) | (with_reducible refine Kd.C_drew ?_))); (case side4 => exact (Kd.R_reads' HO482.out).2.1); rintro e w' ⟨rfl, ⟨nd, rfl⟩⟩; (try first | exact ⟨rfl, _, World.drewN_drewN _ _ _⟩ | exact ⟨rfl, _, Eq.trans (World.drewN_drewN _ _ _) (congrArg (World.drewN _) (Nat.add_assoc _ _ _))⟩))); try go_wp2_with (first | (go_at_call 39; (with_reducible refine (bursarlaw03_same.calls k _ _ t465 _ _ t472 true _ ?side1 ?side2 ?side3 ?side4 A27.out).mono ?_); (case side1 => repeat (first | exact (Kd.R_reads' HO468.out).2.2 | (with_reducible refine Kd.C_alloc ?_ _) | (with_reducible refine Kd.C_drewN ?_ _) | (with_reducible refine Kd.C_drew ?_))); (case side2 => exact (Kd.R_reads' HO468.out).2.1); (case side3 => repeat (first | exact (Kd.R_reads' HO475.out).2.2 | (with_reducible refine Kd.C_alloc ?_ _) | (with_reducible refine Kd.C_drewN ?_ _) | (with_reducible refine Kd.C_drew ?_))); (case side4 => exact (Kd.R_reads' HO475.out).2.1); rintro e w' ⟨rfl, ⟨nd, rfl⟩⟩; (try first | exact ⟨rfl, _, World.drewN_drewN _ _ _⟩ | exact ⟨rfl, _, Eq.trans (World.drewN_drewN _ _ _) (congrArg (World.drewN _) (Nat.add_assoc _ _ _))⟩); obtain ⟨Ao32, co32, eo32⟩ := Kd.R_slice HO482.out; subst eo32) | (go_at_call 39; (with_reducible refine (bursarlaw03_same.calls k _ _ t465 _ _ t479 t484 _ ?side1 ?side2 ?side3 ?side4 A29.out).mono ?_); (case side1 => repeat (first | exact (Kd.R_reads' HO468.out).2.2 | (with_reducible refine Kd.C_alloc ?_ _) | (with_reducible refine Kd.C_drewN ?_ _) | (with_reducible refine Kd.C_drew ?_))); (case side2 => exact (Kd.R_reads' HO468.out).2.1); (case side3 => repeat (first | exact (Kd.R_reads' HO482.out).2.2 | (with_reducible refine Kd.C_alloc ?_ _) | (with_reducible refine Kd.C_drewN ?_ _) | (with_reducible refine Kd.C_drew ?_))); (case side4 => exact (Kd.R_reads' HO482.out).2.1); rintro e w' ⟨rfl, ⟨nd, rfl⟩⟩; (try first | exact ⟨rfl, _, World.drewN_drewN _ _ _⟩ | exact ⟨rfl, _, Eq.trans (World.drewN_drewN _ _ _) (congrArg (World.drewN _) (Nat.add_assoc _ _ _))⟩))))
        go_meet
        case rel => exact ⟨_, (!t484), (by first | rfl | (simp; done) | (simp [*]; done) | (simp; rw [Bool.eq_iff_iff]; simp; done) | (rw [Bool.eq_iff_iff]; simp; done)), H', ⟨by first | omega | exact Nat.le_refl _⟩, ⟨by (with_reducible repeat (first | apply Kd.R_alloc | apply Kd.R_drewN | apply Kd.R_drew)); exact Kd.R_mono HO468.out (fun _ hk => trivial)⟩, ⟨by repeat (first | (with_reducible exact HR464.out) | (with_reducible refine Kd.C_alloc ?_ _) | (with_reducible refine Kd.C_drewN ?_ _) | (with_reducible refine Kd.C_drew ?_) | exact HR464.out)⟩, ⟨by repeat (first | (with_reducible first | exact HB.out | apply below_alloc | apply pw_below_drewN | apply below_drew1) | exact HB.out)⟩⟩
       ·replace c28 := Bool.eq_false_iff.mpr c28
        subst c28
        have H1 : (bursarlaw03_QuantOrders.j0 k l0 t465 t466 true) = some r := by rw [if_neg (show ¬ (false = true) by decide)] at H; exact H
        clear H
        have H := H1
        clear H1
        have H' := Aside0.mk H
        clear H
        obtain ⟨Ao33, co33, eo33⟩ := Kd.R_slice HO468.out
        subst eo33
        obtain ⟨Ao34, co34, eo34⟩ := Kd.R_slice HO475.out
        subst eo34
        go_wp2_with (first | (go_at_call 39; (with_reducible refine (bursarlaw03_same.calls k _ _ t465 _ _ t472 false _ ?side1 ?side2 ?side3 ?side4 A27.out).mono ?_); (case side1 => repeat (first | exact (Kd.R_reads' HO468.out).2.2 | (with_reducible refine Kd.C_alloc ?_ _) | (with_reducible refine Kd.C_drewN ?_ _) | (with_reducible refine Kd.C_drew ?_))); (case side2 => exact (Kd.R_reads' HO468.out).2.1); (case side3 => repeat (first | exact (Kd.R_reads' HO475.out).2.2 | (with_reducible refine Kd.C_alloc ?_ _) | (with_reducible refine Kd.C_drewN ?_ _) | (with_reducible refine Kd.C_drew ?_))); (case side4 => exact (Kd.R_reads' HO475.out).2.1); rintro e w' ⟨rfl, ⟨nd, rfl⟩⟩; (try first | exact ⟨rfl, _, World.drewN_drewN _ _ _⟩ | exact ⟨rfl, _, Eq.trans (World.drewN_drewN _ _ _) (congrArg (World.drewN _) (Nat.add_assoc _ _ _))⟩)))
        repeat (go_quiet (first | (go_at_call 39; (with_reducible refine (bursarlaw03_same.calls k _ _ t465 _ _ t472 false _ ?side1 ?side2 ?side3 ?side4 A27.out).mono ?_); (case side1 => repeat (first | exact (Kd.R_reads' HO468.out).2.2 | (with_reducible refine Kd.C_alloc ?_ _) | (with_reducible refine Kd.C_drewN ?_ _) | (with_reducible refine Kd.C_drew ?_))); (case side2 => exact (Kd.R_reads' HO468.out).2.1); (case side3 => repeat (first | exact (Kd.R_reads' HO475.out).2.2 | (with_reducible refine Kd.C_alloc ?_ _) | (with_reducible refine Kd.C_drewN ?_ _) | (with_reducible refine Kd.C_drew ?_))); (case side4 => exact (Kd.R_reads' HO475.out).2.1); rintro e w' ⟨rfl, ⟨nd, rfl⟩⟩; (try first | exact ⟨rfl, _, World.drewN_drewN _ _ _⟩ | exact ⟨rfl, _, Eq.trans (World.drewN_drewN _ _ _) (congrArg (World.drewN _) (Nat.add_assoc _ _ _))⟩))); try go_wp2_with (first | (go_at_call 39; (with_reducible refine (bursarlaw03_same.calls k _ _ t465 _ _ t472 false _ ?side1 ?side2 ?side3 ?side4 A27.out).mono ?_); (case side1 => repeat (first | exact (Kd.R_reads' HO468.out).2.2 | (with_reducible refine Kd.C_alloc ?_ _) | (with_reducible refine Kd.C_drewN ?_ _) | (with_reducible refine Kd.C_drew ?_))); (case side2 => exact (Kd.R_reads' HO468.out).2.1); (case side3 => repeat (first | exact (Kd.R_reads' HO475.out).2.2 | (with_reducible refine Kd.C_alloc ?_ _) | (with_reducible refine Kd.C_drewN ?_ _) | (with_reducible refine Kd.C_drew ?_))); (case side4 => exact (Kd.R_reads' HO475.out).2.1); rintro e w' ⟨rfl, ⟨nd, rfl⟩⟩; (try first | exact ⟨rfl, _, World.drewN_drewN _ _ _⟩ | exact ⟨rfl, _, Eq.trans (World.drewN_drewN _ _ _) (congrArg (World.drewN _) (Nat.add_assoc _ _ _))⟩))))
        go_meet
        case rel => exact ⟨_, (true), (by first | rfl | (simp; done) | (simp [*]; done) | (simp; rw [Bool.eq_iff_iff]; simp; done) | (rw [Bool.eq_iff_iff]; simp; done)), H', ⟨by first | omega | exact Nat.le_refl _⟩, ⟨by (with_reducible repeat (first | apply Kd.R_alloc | apply Kd.R_drewN | apply Kd.R_drew)); exact Kd.R_mono HO468.out (fun _ hk => trivial)⟩, ⟨by repeat (first | (with_reducible exact HR464.out) | (with_reducible refine Kd.C_alloc ?_ _) | (with_reducible refine Kd.C_drewN ?_ _) | (with_reducible refine Kd.C_drew ?_) | exact HR464.out)⟩, ⟨by repeat (first | (with_reducible first | exact HB.out | apply below_alloc | apply pw_below_drewN | apply below_drew1) | exact HB.out)⟩⟩
      ·rw [if_neg c26] at H
       have c26b0 : (t466 == t480) = false := beq_eq_false_iff_ne.mpr c26
       have c26b1 : (t466 != t480) = true := bne_iff_ne.mpr c26
       have H' := Aside0.mk H
       clear H
       go_wp2
       repeat (go_quiet (fail); try go_wp2)
       go_meet
       case rel => exact ⟨_, (true), (by first | rfl | (simp; done) | (simp [*]; done) | (simp; rw [Bool.eq_iff_iff]; simp; done) | (rw [Bool.eq_iff_iff]; simp; done)), H', ⟨by first | omega | exact Nat.le_refl _⟩, ⟨by (with_reducible repeat (first | apply Kd.R_alloc | apply Kd.R_drewN | apply Kd.R_drew)); exact Kd.R_mono HO468.out (fun _ hk => trivial)⟩, ⟨by repeat (first | (with_reducible exact HR464.out) | (with_reducible refine Kd.C_alloc ?_ _) | (with_reducible refine Kd.C_drewN ?_ _) | (with_reducible refine Kd.C_drew ?_) | exact HR464.out)⟩, ⟨by repeat (first | (with_reducible first | exact HB.out | apply below_alloc | apply pw_below_drewN | apply below_drew1) | exact HB.out)⟩⟩
     ·rw [if_neg c25] at H
      have c25b0 : (t466 == t473) = false := beq_eq_false_iff_ne.mpr c25
      have c25b1 : (t466 != t473) = true := bne_iff_ne.mpr c25
      (first | rw [c25b0] | (simp only [i64_w, i32_w]; rw [c25b0]) | skip)
      have H' := Aside0.mk H
      clear H
      go_wp2
      repeat (go_quiet (fail); try go_wp2)
      go_meet
      case rel => exact ⟨_, (true), (by first | rfl | (simp; done) | (simp [*]; done) | (simp; rw [Bool.eq_iff_iff]; simp; done) | (rw [Bool.eq_iff_iff]; simp; done)), H', ⟨by first | omega | exact Nat.le_refl _⟩, ⟨by (with_reducible repeat (first | apply Kd.R_alloc | apply Kd.R_drewN | apply Kd.R_drew)); exact Kd.R_mono HO468.out (fun _ hk => trivial)⟩, ⟨by repeat (first | (with_reducible exact HR464.out) | (with_reducible refine Kd.C_alloc ?_ _) | (with_reducible refine Kd.C_drewN ?_ _) | (with_reducible refine Kd.C_drew ?_) | exact HR464.out)⟩, ⟨by repeat (first | (with_reducible first | exact HB.out | apply below_alloc | apply pw_below_drewN | apply below_drew1) | exact HB.out)⟩⟩
    case rest =>
     clear HC13
     try clear c1
     try clear q1
     try clear c2
     try clear p2
     try clear c4
     try clear c6
     try clear c6b0
     try clear c6b1
     try clear c7
     try clear c7b0
     try clear c7b1
     try clear c12
     try clear q16
     try clear c25
     try clear c25b0
     try clear c25b1
     try clear c26
     try clear c26b0
     try clear c26b1
     try clear c28
     try clear q16
     obtain ⟨kq, x63_12, rfl, HA, HJ12, HO_5, HR464, HB⟩ := hcut
     cases kq with
     | zero => exact absurd HA.out (by simp [bursarlaw03_QuantOrders.j0])
     | succ kj12 =>
      have H := HA.out
      clear HA
      simp only [bursarlaw03_QuantOrders.j0] at H
      by_cases c35 : x63_12 = true
      ·subst c35
       have H1 : (some false) = some r := by rw [if_pos rfl] at H; exact H
       clear H
       have H := H1
       clear H1
       obtain rfl := Option.some.inj H
       go_wp2
       repeat (go_quiet (fail); try go_wp2)
       go_ret
       exact ⟨by first | rfl | (simp [errW_none, errW_some] <;> rfl) | (simp [*, errW_none, errW_some] <;> rfl), by repeat (first | (with_reducible first | exact HB.out | apply below_alloc | apply pw_below_drewN | apply below_drew1) | exact HB.out)⟩
      ·replace c35 := Bool.eq_false_iff.mpr c35
       subst c35
       have H1 : ((bursarlaw03_behind.f l0).bind fun t485 => (if 0 ≤ (l0.length : Int) then (if (l0.length : Int) ≤ (t485.length : Int) then ((quant_Valid.f kj12 (t485.take ((l0.length : Int) : Int).toNat)).bind fun t492 => (if t492 = 0 then (if t466 = 0 then ((bursarlaw03_same.f kj12 t465 l0).bind fun t493 => (bursarlaw03_QuantOrders.j1 kj12 l0 t465 t466 (!t493))) else (bursarlaw03_QuantOrders.j1 kj12 l0 t465 t466 true)) else (bursarlaw03_QuantOrders.j1 kj12 l0 t465 t466 false))) else (none)) else (none))) = some r := by rw [if_neg (show ¬ (false = true) by decide)] at H; exact H
       clear H
       have H := H1
       clear H1
       have HC36 := Aside0.mk H
       clear H
       go_upto_region 8 with (fail)
       repeat (go_quiet (fail); go_upto_region 8 with (fail))
       go_cut [80] (fun v80 wc => ∃ (kq : Nat) (x80_35 : Bool), v80 = .bool x80_35 ∧ Aside0 (bursarlaw03_QuantOrders.j1 kq l0 t465 t466 x80_35 = some r) ∧ Aside0 (kq ≤ kj12) ∧ Aside0 (Kd.R k57 57 wc w.heap.size (fun _ => True) v467 t465) ∧ Aside0 (Kd.C k57 wc Ao17 y461.length y461) ∧ Aside0 (Below w.heap.size w wc))
       case first =>
        have H := HC36.out
        clear HC36
        replace H := Option.bind_eq_some_iff.mp H
        obtain ⟨t485, A370, H⟩ := H
        replace H : (if 0 ≤ (l0.length : Int) then (if (l0.length : Int) ≤ (t485.length : Int) then ((quant_Valid.f kj12 (t485.take ((l0.length : Int) : Int).toNat)).bind fun t492 => (if t492 = 0 then (if t466 = 0 then ((bursarlaw03_same.f kj12 t465 l0).bind fun t493 => (bursarlaw03_QuantOrders.j1 kj12 l0 t465 t466 (!t493))) else (bursarlaw03_QuantOrders.j1 kj12 l0 t465 t466 true)) else (bursarlaw03_QuantOrders.j1 kj12 l0 t465 t466 false))) else (none)) else (none)) = some r := H
        have A37 := Aside0.mk A370
        clear A370
        by_cases c38 : 0 ≤ (l0.length : Int)
        ·rw [if_pos c38] at H
         have c38b0 := eq_true c38
         have c38b1 : decide (0 ≤ (l0.length : Int)) = true := decide_eq_true c38
         clear c38
         by_cases c39 : (l0.length : Int) ≤ (t485.length : Int)
         ·rw [if_pos c39] at H
          have c39b0 := eq_true c39
          have c39b1 : decide ((l0.length : Int) ≤ (t485.length : Int)) = true := decide_eq_true c39
          clear c39
          obtain ⟨y488, hy488⟩ : ∃ y_ : List (S57), y_ = (t485.take ((l0.length : Int) : Int).toNat) := ⟨_, rfl⟩
          replace H : ((quant_Valid.f kj12 y488).bind fun t492 => (if t492 = 0 then (if t466 = 0 then ((bursarlaw03_same.f kj12 t465 l0).bind fun t493 => (bursarlaw03_QuantOrders.j1 kj12 l0 t465 t466 (!t493))) else (bursarlaw03_QuantOrders.j1 kj12 l0 t465 t466 true)) else (bursarlaw03_QuantOrders.j1 kj12 l0 t465 t466 false))) = some r := by first | (rw [hy488]; with_reducible exact H) | (have H2_ := (Option.bind_some _ _).symm.trans H; rw [hy488]; with_reducible exact H2_) | (have H2_ := (Option.bind_some _ _).symm.trans H; with_reducible exact H2_) | with_reducible exact H | (rw [hy488]; exact H) | exact H
          have Ny488 := Aside0.mk hy488
          clear hy488
          replace H := Option.bind_eq_some_iff.mp H
          obtain ⟨t492, A400, H⟩ := H
          replace H : (if t492 = 0 then (if t466 = 0 then ((bursarlaw03_same.f kj12 t465 l0).bind fun t493 => (bursarlaw03_QuantOrders.j1 kj12 l0 t465 t466 (!t493))) else (bursarlaw03_QuantOrders.j1 kj12 l0 t465 t466 true)) else (bursarlaw03_QuantOrders.j1 kj12 l0 t465 t466 false)) = some r := H
          have A40 := Aside0.mk A400
          clear A400
          by_cases c41 : t492 = 0
          ·rw [if_pos c41] at H
           have c41b0 : (t492 == 0) = true := beq_iff_eq.mpr c41
           have c41b1 : (t492 != 0) = false := bne_eq_false_iff_eq.mpr c41
           clear c41
           (first | rw [c41b0] | (simp only [i64_w, i32_w]; rw [c41b0]) | skip)
           by_cases c42 : t466 = 0
           ·rw [if_pos c42] at H
            have c42b0 : (t466 == 0) = true := beq_iff_eq.mpr c42
            have c42b1 : (t466 != 0) = false := bne_eq_false_iff_eq.mpr c42
            clear c42
            replace H := Option.bind_eq_some_iff.mp H
            obtain ⟨t493, A430, H⟩ := H
            replace H : (bursarlaw03_QuantOrders.j1 kj12 l0 t465 t466 (!t493)) = some r := H
            have A43 := Aside0.mk A430
            clear A430
            have H' := Aside0.mk H
            clear H
            go_wp2_with (first | (go_at_call 29; (with_reducible refine (bursarlaw03_behind.calls _ _ l0 t485 _ ?side1 ?side2 A37.out (GlobM.below hG (by repeat (first | (with_reducible first | exact HB.out | apply below_alloc | apply pw_below_drewN | apply below_drew1) | exact HB.out)))).mono ?_); (case side1 => repeat (first | exact (Kd.C_below HR0.out HB.out) | (with_reducible refine Kd.C_alloc ?_ _) | (with_reducible refine Kd.C_drewN ?_ _) | (with_reducible refine Kd.C_drew ?_))); (case side2 => exact HC0.out); rintro e w44 ⟨v486, rfl, ho0, hb⟩; have n0_ := Aside0.mk (Kd.R_elder' (by (with_reducible repeat (first | apply Kd.R_alloc | apply Kd.R_drewN | apply Kd.R_drew)); exact HO_5.out) (Kd.R_base ho0) hb); have n1_ := Aside0.mk (Kd.R_lower (Kd.R_new' ho0 (Kd.R_lt (by (with_reducible repeat (first | apply Kd.R_alloc | apply Kd.R_drewN | apply Kd.R_drew)); exact HO_5.out))) (below_size (by repeat (first | (with_reducible first | exact HB.out | apply below_alloc | apply pw_below_drewN | apply below_drew1) | exact HB.out)))); have n2_ := Aside0.mk (Kd.C_below (by repeat (first | (with_reducible exact HR464.out) | (with_reducible refine Kd.C_alloc ?_ _) | (with_reducible refine Kd.C_drewN ?_ _) | (with_reducible refine Kd.C_drew ?_) | exact HR464.out)) hb); have n3_ := Aside0.mk (below_step (by repeat (first | (with_reducible first | exact HB.out | apply below_alloc | apply pw_below_drewN | apply below_drew1) | exact HB.out)) hb); clear HO_5; clear HR464; clear HB; have HO_5 := n0_; have HO487 := n1_; have HR464 := n2_; have HB := n3_; clear n0_ n1_ n2_ n3_; (try clear hb); (try clear hb2); (try clear hk); (try clear hi); (try clear ho0); obtain ⟨Ao46, co46, eo46⟩ := Kd.R_slice HO487.out; subst eo46; have q45 : ((l0.length : Int) : Int) ≤ ((t485.length : Int) : Int) := of_decide_eq_true (by first | (with_reducible assumption) | assumption); obtain ⟨i045, hi045, _, hsz45, _⟩ := info_parts info57; have hroom45 : t485.length ≤ co46 := (Kd.R_reads' HO487.out).2.1; have hC45 : Kd.C k57 _ Ao46 t485.length t485 := (Kd.R_reads' HO487.out).2.2; have hcut45 := cut_to (P := Tryz.prog) 46 57 .i64 Tryz.underlying46 hi045 Ao46 t485.length co46 (l0.length : Int) (of_decide_eq_true (by first | (with_reducible assumption) | assumption)) q45 hroom45; have hr45 := Kd.C_take (m := ((l0.length : Int) : Int).toNat) hC45 (by omega); have hy45 : y488.length = ((l0.length : Int) : Int).toNat := (by rw [Ny488.out, List.length_take]; omega); rw [← Ny488.out] at hr45; rw [← hy45] at hcut45; have HR491 := Aside0.mk hr45; have HC491 := Aside0.mk (show y488.length ≤ co46 from by omega); clear hr45 hC45 hroom45 hi045 hsz45; have KY45 := Aside0.mk hy45; clear hy45; have KL45 := Aside0.mk (show ((l0.length : Int) : Int).toNat ≤ t485.length from by omega); replace q45 := eq_true q45) | (go_at_call 40; (with_reducible refine (quant_Valid.calls kj12 _ _ y488 t492 _ ?side1 ?side2 A40.out (Glob.below hG.toGlob (by repeat (first | (with_reducible first | exact HB.out | apply below_alloc | apply pw_below_drewN | apply below_drew1) | exact HB.out)))).mono ?_); (case side1 => repeat (first | exact (by repeat (first | (with_reducible exact HR491.out) | (with_reducible refine Kd.C_alloc ?_ _) | (with_reducible refine Kd.C_drewN ?_ _) | (with_reducible refine Kd.C_drew ?_) | exact HR491.out)) | (with_reducible refine Kd.C_alloc ?_ _) | (with_reducible refine Kd.C_drewN ?_ _) | (with_reducible refine Kd.C_drew ?_))); (case side2 => exact HC491.out); rintro e w47 ⟨rfl, hb⟩; have n0_ := Aside0.mk (Kd.R_below (by (with_reducible repeat (first | apply Kd.R_alloc | apply Kd.R_drewN | apply Kd.R_drew)); exact HO_5.out) hb); have n1_ := Aside0.mk (Kd.R_below (by (with_reducible repeat (first | apply Kd.R_alloc | apply Kd.R_drewN | apply Kd.R_drew)); exact HO487.out) hb); have n2_ := Aside0.mk (Kd.C_below (by repeat (first | (with_reducible exact HR464.out) | (with_reducible refine Kd.C_alloc ?_ _) | (with_reducible refine Kd.C_drewN ?_ _) | (with_reducible refine Kd.C_drew ?_) | exact HR464.out)) hb); have n3_ := Aside0.mk (Kd.C_below (by repeat (first | (with_reducible exact HR491.out) | (with_reducible refine Kd.C_alloc ?_ _) | (with_reducible refine Kd.C_drewN ?_ _) | (with_reducible refine Kd.C_drew ?_) | exact HR491.out)) hb); have n4_ := Aside0.mk (below_step (by repeat (first | (with_reducible first | exact HB.out | apply below_alloc | apply pw_below_drewN | apply below_drew1) | exact HB.out)) hb); clear HO_5; clear HO487; clear HR464; clear HR491; clear HB; have HO_5 := n0_; have HO487 := n1_; have HR464 := n2_; have HR491 := n3_; have HB := n4_; clear n0_ n1_ n2_ n3_ n4_; (try clear hb); (try clear hb2); (try clear hk); (try clear hi); obtain ⟨Ao48, co48, eo48⟩ := Kd.R_slice HO_5.out; subst eo48) | (go_at_call 39; (with_reducible refine (bursarlaw03_same.calls kj12 _ _ t465 _ _ l0 t493 _ ?side1 ?side2 ?side3 ?side4 A43.out).mono ?_); (case side1 => repeat (first | exact (Kd.R_reads' HO_5.out).2.2 | (with_reducible refine Kd.C_alloc ?_ _) | (with_reducible refine Kd.C_drewN ?_ _) | (with_reducible refine Kd.C_drew ?_))); (case side2 => exact (Kd.R_reads' HO_5.out).2.1); (case side3 => repeat (first | exact (Kd.C_below HR0.out HB.out) | (with_reducible refine Kd.C_alloc ?_ _) | (with_reducible refine Kd.C_drewN ?_ _) | (with_reducible refine Kd.C_drew ?_))); (case side4 => exact HC0.out); rintro e w' ⟨rfl, ⟨nd, rfl⟩⟩; (try first | exact ⟨rfl, _, World.drewN_drewN _ _ _⟩ | exact ⟨rfl, _, Eq.trans (World.drewN_drewN _ _ _) (congrArg (World.drewN _) (Nat.add_assoc _ _ _))⟩)))
            repeat (go_quiet (first | (go_at_call 29; (with_reducible refine (bursarlaw03_behind.calls _ _ l0 t485 _ ?side1 ?side2 A37.out (GlobM.below hG (by repeat (first | (with_reducible first | exact HB.out | apply below_alloc | apply pw_below_drewN | apply below_drew1) | exact HB.out)))).mono ?_); (case side1 => repeat (first | exact (Kd.C_below HR0.out HB.out) | (with_reducible refine Kd.C_alloc ?_ _) | (with_reducible refine Kd.C_drewN ?_ _) | (with_reducible refine Kd.C_drew ?_))); (case side2 => exact HC0.out); rintro e w44 ⟨v486, rfl, ho0, hb⟩; have n0_ := Aside0.mk (Kd.R_elder' (by (with_reducible repeat (first | apply Kd.R_alloc | apply Kd.R_drewN | apply Kd.R_drew)); exact HO_5.out) (Kd.R_base ho0) hb); have n1_ := Aside0.mk (Kd.R_lower (Kd.R_new' ho0 (Kd.R_lt (by (with_reducible repeat (first | apply Kd.R_alloc | apply Kd.R_drewN | apply Kd.R_drew)); exact HO_5.out))) (below_size (by repeat (first | (with_reducible first | exact HB.out | apply below_alloc | apply pw_below_drewN | apply below_drew1) | exact HB.out)))); have n2_ := Aside0.mk (Kd.C_below (by repeat (first | (with_reducible exact HR464.out) | (with_reducible refine Kd.C_alloc ?_ _) | (with_reducible refine Kd.C_drewN ?_ _) | (with_reducible refine Kd.C_drew ?_) | exact HR464.out)) hb); have n3_ := Aside0.mk (below_step (by repeat (first | (with_reducible first | exact HB.out | apply below_alloc | apply pw_below_drewN | apply below_drew1) | exact HB.out)) hb); clear HO_5; clear HR464; clear HB; have HO_5 := n0_; have HO487 := n1_; have HR464 := n2_; have HB := n3_; clear n0_ n1_ n2_ n3_; (try clear hb); (try clear hb2); (try clear hk); (try clear hi); (try clear ho0); obtain ⟨Ao46, co46, eo46⟩ := Kd.R_slice HO487.out; subst eo46; have q45 : ((l0.length : Int) : Int) ≤ ((t485.length : Int) : Int) := of_decide_eq_true (by first | (with_reducible assumption) | assumption); obtain ⟨i045, hi045, _, hsz45, _⟩ := info_parts info57; have hroom45 : t485.length ≤ co46 := (Kd.R_reads' HO487.out).2.1; have hC45 : Kd.C k57 _ Ao46 t485.length t485 := (Kd.R_reads' HO487.out).2.2; have hcut45 := cut_to (P := Tryz.prog) 46 57 .i64 Tryz.underlying46 hi045 Ao46 t485.length co46 (l0.length : Int) (of_decide_eq_true (by first | (with_reducible assumption) | assumption)) q45 hroom45; have hr45 := Kd.C_take (m := ((l0.length : Int) : Int).toNat) hC45 (by omega); have hy45 : y488.length = ((l0.length : Int) : Int).toNat := (by rw [Ny488.out, List.length_take]; omega); rw [← Ny488.out] at hr45; rw [← hy45] at hcut45; have HR491 := Aside0.mk hr45; have HC491 := Aside0.mk (show y488.length ≤ co46 from by omega); clear hr45 hC45 hroom45 hi045 hsz45; have KY45 := Aside0.mk hy45; clear hy45; have KL45 := Aside0.mk (show ((l0.length : Int) : Int).toNat ≤ t485.length from by omega); replace q45 := eq_true q45) | (go_at_call 40; (with_reducible refine (quant_Valid.calls kj12 _ _ y488 t492 _ ?side1 ?side2 A40.out (Glob.below hG.toGlob (by repeat (first | (with_reducible first | exact HB.out | apply below_alloc | apply pw_below_drewN | apply below_drew1) | exact HB.out)))).mono ?_); (case side1 => repeat (first | exact (by repeat (first | (with_reducible exact HR491.out) | (with_reducible refine Kd.C_alloc ?_ _) | (with_reducible refine Kd.C_drewN ?_ _) | (with_reducible refine Kd.C_drew ?_) | exact HR491.out)) | (with_reducible refine Kd.C_alloc ?_ _) | (with_reducible refine Kd.C_drewN ?_ _) | (with_reducible refine Kd.C_drew ?_))); (case side2 => exact HC491.out); rintro e w47 ⟨rfl, hb⟩; have n0_ := Aside0.mk (Kd.R_below (by (with_reducible repeat (first | apply Kd.R_alloc | apply Kd.R_drewN | apply Kd.R_drew)); exact HO_5.out) hb); have n1_ := Aside0.mk (Kd.R_below (by (with_reducible repeat (first | apply Kd.R_alloc | apply Kd.R_drewN | apply Kd.R_drew)); exact HO487.out) hb); have n2_ := Aside0.mk (Kd.C_below (by repeat (first | (with_reducible exact HR464.out) | (with_reducible refine Kd.C_alloc ?_ _) | (with_reducible refine Kd.C_drewN ?_ _) | (with_reducible refine Kd.C_drew ?_) | exact HR464.out)) hb); have n3_ := Aside0.mk (Kd.C_below (by repeat (first | (with_reducible exact HR491.out) | (with_reducible refine Kd.C_alloc ?_ _) | (with_reducible refine Kd.C_drewN ?_ _) | (with_reducible refine Kd.C_drew ?_) | exact HR491.out)) hb); have n4_ := Aside0.mk (below_step (by repeat (first | (with_reducible first | exact HB.out | apply below_alloc | apply pw_below_drewN | apply below_drew1) | exact HB.out)) hb); clear HO_5; clear HO487; clear HR464; clear HR491; clear HB; have HO_5 := n0_; have HO487 := n1_; have HR464 := n2_; have HR491 := n3_; have HB := n4_; clear n0_ n1_ n2_ n3_ n4_; (try clear hb); (try clear hb2); (try clear hk); (try clear hi); obtain ⟨Ao48, co48, eo48⟩ := Kd.R_slice HO_5.out; subst eo48) | (go_at_call 39; (with_reducible refine (bursarlaw03_same.calls kj12 _ _ t465 _ _ l0 t493 _ ?side1 ?side2 ?side3 ?side4 A43.out).mono ?_); (case side1 => repeat (first | exact (Kd.R_reads' HO_5.out).2.2 | (with_reducible refine Kd.C_alloc ?_ _) | (with_reducible refine Kd.C_drewN ?_ _) | (with_reducible refine Kd.C_drew ?_))); (case side2 => exact (Kd.R_reads' HO_5.out).2.1); (case side3 => repeat (first | exact (Kd.C_below HR0.out HB.out) | (with_reducible refine Kd.C_alloc ?_ _) | (with_reducible refine Kd.C_drewN ?_ _) | (with_reducible refine Kd.C_drew ?_))); (case side4 => exact HC0.out); rintro e w' ⟨rfl, ⟨nd, rfl⟩⟩; (try first | exact ⟨rfl, _, World.drewN_drewN _ _ _⟩ | exact ⟨rfl, _, Eq.trans (World.drewN_drewN _ _ _) (congrArg (World.drewN _) (Nat.add_assoc _ _ _))⟩))); try go_wp2_with (first | (go_at_call 29; (with_reducible refine (bursarlaw03_behind.calls _ _ l0 t485 _ ?side1 ?side2 A37.out (GlobM.below hG (by repeat (first | (with_reducible first | exact HB.out | apply below_alloc | apply pw_below_drewN | apply below_drew1) | exact HB.out)))).mono ?_); (case side1 => repeat (first | exact (Kd.C_below HR0.out HB.out) | (with_reducible refine Kd.C_alloc ?_ _) | (with_reducible refine Kd.C_drewN ?_ _) | (with_reducible refine Kd.C_drew ?_))); (case side2 => exact HC0.out); rintro e w44 ⟨v486, rfl, ho0, hb⟩; have n0_ := Aside0.mk (Kd.R_elder' (by (with_reducible repeat (first | apply Kd.R_alloc | apply Kd.R_drewN | apply Kd.R_drew)); exact HO_5.out) (Kd.R_base ho0) hb); have n1_ := Aside0.mk (Kd.R_lower (Kd.R_new' ho0 (Kd.R_lt (by (with_reducible repeat (first | apply Kd.R_alloc | apply Kd.R_drewN | apply Kd.R_drew)); exact HO_5.out))) (below_size (by repeat (first | (with_reducible first | exact HB.out | apply below_alloc | apply pw_below_drewN | apply below_drew1) | exact HB.out)))); have n2_ := Aside0.mk (Kd.C_below (by repeat (first | (with_reducible exact HR464.out) | (with_reducible refine Kd.C_alloc ?_ _) | (with_reducible refine Kd.C_drewN ?_ _) | (with_reducible refine Kd.C_drew ?_) | exact HR464.out)) hb); have n3_ := Aside0.mk (below_step (by repeat (first | (with_reducible first | exact HB.out | apply below_alloc | apply pw_below_drewN | apply below_drew1) | exact HB.out)) hb); clear HO_5; clear HR464; clear HB; have HO_5 := n0_; have HO487 := n1_; have HR464 := n2_; have HB := n3_; clear n0_ n1_ n2_ n3_; (try clear hb); (try clear hb2); (try clear hk); (try clear hi); (try clear ho0); obtain ⟨Ao46, co46, eo46⟩ := Kd.R_slice HO487.out; subst eo46; have q45 : ((l0.length : Int) : Int) ≤ ((t485.length : Int) : Int) := of_decide_eq_true (by first | (with_reducible assumption) | assumption); obtain ⟨i045, hi045, _, hsz45, _⟩ := info_parts info57; have hroom45 : t485.length ≤ co46 := (Kd.R_reads' HO487.out).2.1; have hC45 : Kd.C k57 _ Ao46 t485.length t485 := (Kd.R_reads' HO487.out).2.2; have hcut45 := cut_to (P := Tryz.prog) 46 57 .i64 Tryz.underlying46 hi045 Ao46 t485.length co46 (l0.length : Int) (of_decide_eq_true (by first | (with_reducible assumption) | assumption)) q45 hroom45; have hr45 := Kd.C_take (m := ((l0.length : Int) : Int).toNat) hC45 (by omega); have hy45 : y488.length = ((l0.length : Int) : Int).toNat := (by rw [Ny488.out, List.length_take]; omega); rw [← Ny488.out] at hr45; rw [← hy45] at hcut45; have HR491 := Aside0.mk hr45; have HC491 := Aside0.mk (show y488.length ≤ co46 from by omega); clear hr45 hC45 hroom45 hi045 hsz45; have KY45 := Aside0.mk hy45; clear hy45; have KL45 := Aside0.mk (show ((l0.length : Int) : Int).toNat ≤ t485.length from by omega); replace q45 := eq_true q45) | (go_at_call 40; (with_reducible refine (quant_Valid.calls kj12 _ _ y488 t492 _ ?side1 ?side2 A40.out (Glob.below hG.toGlob (by repeat (first | (with_reducible first | exact HB.out | apply below_alloc | apply pw_below_drewN | apply below_drew1) | exact HB.out)))).mono ?_); (case side1 => repeat (first | exact (by repeat (first | (with_reducible exact HR491.out) | (with_reducible refine Kd.C_alloc ?_ _) | (with_reducible refine Kd.C_drewN ?_ _) | (with_reducible refine Kd.C_drew ?_) | exact HR491.out)) | (with_reducible refine Kd.C_alloc ?_ _) | (with_reducible refine Kd.C_drewN ?_ _) | (with_reducible refine Kd.C_drew ?_))); (case side2 => exact HC491.out); rintro e w47 ⟨rfl, hb⟩; have n0_ := Aside0.mk (Kd.R_below (by (with_reducible repeat (first | apply Kd.R_alloc | apply Kd.R_drewN | apply Kd.R_drew)); exact HO_5.out) hb); have n1_ := Aside0.mk (Kd.R_below (by (with_reducible repeat (first | apply Kd.R_alloc | apply Kd.R_drewN | apply Kd.R_drew)); exact HO487.out) hb); have n2_ := Aside0.mk (Kd.C_below (by repeat (first | (with_reducible exact HR464.out) | (with_reducible refine Kd.C_alloc ?_ _) | (with_reducible refine Kd.C_drewN ?_ _) | (with_reducible refine Kd.C_drew ?_) | exact HR464.out)) hb); have n3_ := Aside0.mk (Kd.C_below (by repeat (first | (with_reducible exact HR491.out) | (with_reducible refine Kd.C_alloc ?_ _) | (with_reducible refine Kd.C_drewN ?_ _) | (with_reducible refine Kd.C_drew ?_) | exact HR491.out)) hb); have n4_ := Aside0.mk (below_step (by repeat (first | (with_reducible first | exact HB.out | apply below_alloc | apply pw_below_drewN | apply below_drew1) | exact HB.out)) hb); clear HO_5; clear HO487; clear HR464; clear HR491; clear HB; have HO_5 := n0_; have HO487 := n1_; have HR464 := n2_; have HR491 := n3_; have HB := n4_; clear n0_ n1_ n2_ n3_ n4_; (try clear hb); (try clear hb2); (try clear hk); (try clear hi); obtain ⟨Ao48, co48, eo48⟩ := Kd.R_slice HO_5.out; subst eo48) | (go_at_call 39; (with_reducible refine (bursarlaw03_same.calls kj12 _ _ t465 _ _ l0 t493 _ ?side1 ?side2 ?side3 ?side4 A43.out).mono ?_); (case side1 => repeat (first | exact (Kd.R_reads' HO_5.out).2.2 | (with_reducible refine Kd.C_alloc ?_ _) | (with_reducible refine Kd.C_drewN ?_ _) | (with_reducible refine Kd.C_drew ?_))); (case side2 => exact (Kd.R_reads' HO_5.out).2.1); (case side3 => repeat (first | exact (Kd.C_below HR0.out HB.out) | (with_reducible refine Kd.C_alloc ?_ _) | (with_reducible refine Kd.C_drewN ?_ _) | (with_reducible refine Kd.C_drew ?_))); (case side4 => exact HC0.out); rintro e w' ⟨rfl, ⟨nd, rfl⟩⟩; (try first | exact ⟨rfl, _, World.drewN_drewN _ _ _⟩ | exact ⟨rfl, _, Eq.trans (World.drewN_drewN _ _ _) (congrArg (World.drewN _) (Nat.add_assoc _ _ _))⟩))))
            go_meet
            case rel => exact ⟨_, (!t493), (by first | rfl | (simp; done) | (simp [*]; done) | (simp; rw [Bool.eq_iff_iff]; simp; done) | (rw [Bool.eq_iff_iff]; simp; done)), H', ⟨by have := HJ12.out; first | omega | exact Nat.le_refl _⟩, ⟨by (with_reducible repeat (first | apply Kd.R_alloc | apply Kd.R_drewN | apply Kd.R_drew)); exact Kd.R_mono HO_5.out (fun _ hk => trivial)⟩, ⟨by repeat (first | (with_reducible exact HR464.out) | (with_reducible refine Kd.C_alloc ?_ _) | (with_reducible refine Kd.C_drewN ?_ _) | (with_reducible refine Kd.C_drew ?_) | exact HR464.out)⟩, ⟨by repeat (first | (with_reducible first | exact HB.out | apply below_alloc | apply pw_below_drewN | apply below_drew1) | exact HB.out)⟩⟩
           ·rw [if_neg c42] at H
            have c42b0 : (t466 == 0) = false := beq_eq_false_iff_ne.mpr c42
            have c42b1 : (t466 != 0) = true := bne_iff_ne.mpr c42
            have H' := Aside0.mk H
            clear H
            go_wp2_with (first | (go_at_call 29; (with_reducible refine (bursarlaw03_behind.calls _ _ l0 t485 _ ?side1 ?side2 A37.out (GlobM.below hG (by repeat (first | (with_reducible first | exact HB.out | apply below_alloc | apply pw_below_drewN | apply below_drew1) | exact HB.out)))).mono ?_); (case side1 => repeat (first | exact (Kd.C_below HR0.out HB.out) | (with_reducible refine Kd.C_alloc ?_ _) | (with_reducible refine Kd.C_drewN ?_ _) | (with_reducible refine Kd.C_drew ?_))); (case side2 => exact HC0.out); rintro e w49 ⟨v486, rfl, ho0, hb⟩; have n0_ := Aside0.mk (Kd.R_elder' (by (with_reducible repeat (first | apply Kd.R_alloc | apply Kd.R_drewN | apply Kd.R_drew)); exact HO_5.out) (Kd.R_base ho0) hb); have n1_ := Aside0.mk (Kd.R_lower (Kd.R_new' ho0 (Kd.R_lt (by (with_reducible repeat (first | apply Kd.R_alloc | apply Kd.R_drewN | apply Kd.R_drew)); exact HO_5.out))) (below_size (by repeat (first | (with_reducible first | exact HB.out | apply below_alloc | apply pw_below_drewN | apply below_drew1) | exact HB.out)))); have n2_ := Aside0.mk (Kd.C_below (by repeat (first | (with_reducible exact HR464.out) | (with_reducible refine Kd.C_alloc ?_ _) | (with_reducible refine Kd.C_drewN ?_ _) | (with_reducible refine Kd.C_drew ?_) | exact HR464.out)) hb); have n3_ := Aside0.mk (below_step (by repeat (first | (with_reducible first | exact HB.out | apply below_alloc | apply pw_below_drewN | apply below_drew1) | exact HB.out)) hb); clear HO_5; clear HR464; clear HB; have HO_5 := n0_; have HO487 := n1_; have HR464 := n2_; have HB := n3_; clear n0_ n1_ n2_ n3_; (try clear hb); (try clear hb2); (try clear hk); (try clear hi); (try clear ho0); obtain ⟨Ao51, co51, eo51⟩ := Kd.R_slice HO487.out; subst eo51; have q50 : ((l0.length : Int) : Int) ≤ ((t485.length : Int) : Int) := of_decide_eq_true (by first | (with_reducible assumption) | assumption); obtain ⟨i050, hi050, _, hsz50, _⟩ := info_parts info57; have hroom50 : t485.length ≤ co51 := (Kd.R_reads' HO487.out).2.1; have hC50 : Kd.C k57 _ Ao51 t485.length t485 := (Kd.R_reads' HO487.out).2.2; (try clear hcut45); have hcut50 := cut_to (P := Tryz.prog) 46 57 .i64 Tryz.underlying46 hi050 Ao51 t485.length co51 (l0.length : Int) (of_decide_eq_true (by first | (with_reducible assumption) | assumption)) q50 hroom50; have hr50 := Kd.C_take (m := ((l0.length : Int) : Int).toNat) hC50 (by omega); have hy50 : y488.length = ((l0.length : Int) : Int).toNat := (by rw [Ny488.out, List.length_take]; omega); rw [← Ny488.out] at hr50; rw [← hy50] at hcut50; have HR491 := Aside0.mk hr50; have HC491 := Aside0.mk (show y488.length ≤ co51 from by omega); clear hr50 hC50 hroom50 hi050 hsz50; have KY50 := Aside0.mk hy50; clear hy50; have KL50 := Aside0.mk (show ((l0.length : Int) : Int).toNat ≤ t485.length from by omega); replace q50 := eq_true q50) | (go_at_call 40; (with_reducible refine (quant_Valid.calls kj12 _ _ y488 t492 _ ?side1 ?side2 A40.out (Glob.below hG.toGlob (by repeat (first | (with_reducible first | exact HB.out | apply below_alloc | apply pw_below_drewN | apply below_drew1) | exact HB.out)))).mono ?_); (case side1 => repeat (first | exact (by repeat (first | (with_reducible exact HR491.out) | (with_reducible refine Kd.C_alloc ?_ _) | (with_reducible refine Kd.C_drewN ?_ _) | (with_reducible refine Kd.C_drew ?_) | exact HR491.out)) | (with_reducible refine Kd.C_alloc ?_ _) | (with_reducible refine Kd.C_drewN ?_ _) | (with_reducible refine Kd.C_drew ?_))); (case side2 => exact HC491.out); rintro e w52 ⟨rfl, hb⟩; have n0_ := Aside0.mk (Kd.R_below (by (with_reducible repeat (first | apply Kd.R_alloc | apply Kd.R_drewN | apply Kd.R_drew)); exact HO_5.out) hb); have n1_ := Aside0.mk (Kd.R_below (by (with_reducible repeat (first | apply Kd.R_alloc | apply Kd.R_drewN | apply Kd.R_drew)); exact HO487.out) hb); have n2_ := Aside0.mk (Kd.C_below (by repeat (first | (with_reducible exact HR464.out) | (with_reducible refine Kd.C_alloc ?_ _) | (with_reducible refine Kd.C_drewN ?_ _) | (with_reducible refine Kd.C_drew ?_) | exact HR464.out)) hb); have n3_ := Aside0.mk (Kd.C_below (by repeat (first | (with_reducible exact HR491.out) | (with_reducible refine Kd.C_alloc ?_ _) | (with_reducible refine Kd.C_drewN ?_ _) | (with_reducible refine Kd.C_drew ?_) | exact HR491.out)) hb); have n4_ := Aside0.mk (below_step (by repeat (first | (with_reducible first | exact HB.out | apply below_alloc | apply pw_below_drewN | apply below_drew1) | exact HB.out)) hb); clear HO_5; clear HO487; clear HR464; clear HR491; clear HB; have HO_5 := n0_; have HO487 := n1_; have HR464 := n2_; have HR491 := n3_; have HB := n4_; clear n0_ n1_ n2_ n3_ n4_; (try clear hb); (try clear hb2); (try clear hk); (try clear hi)))
            repeat (go_quiet (first | (go_at_call 29; (with_reducible refine (bursarlaw03_behind.calls _ _ l0 t485 _ ?side1 ?side2 A37.out (GlobM.below hG (by repeat (first | (with_reducible first | exact HB.out | apply below_alloc | apply pw_below_drewN | apply below_drew1) | exact HB.out)))).mono ?_); (case side1 => repeat (first | exact (Kd.C_below HR0.out HB.out) | (with_reducible refine Kd.C_alloc ?_ _) | (with_reducible refine Kd.C_drewN ?_ _) | (with_reducible refine Kd.C_drew ?_))); (case side2 => exact HC0.out); rintro e w49 ⟨v486, rfl, ho0, hb⟩; have n0_ := Aside0.mk (Kd.R_elder' (by (with_reducible repeat (first | apply Kd.R_alloc | apply Kd.R_drewN | apply Kd.R_drew)); exact HO_5.out) (Kd.R_base ho0) hb); have n1_ := Aside0.mk (Kd.R_lower (Kd.R_new' ho0 (Kd.R_lt (by (with_reducible repeat (first | apply Kd.R_alloc | apply Kd.R_drewN | apply Kd.R_drew)); exact HO_5.out))) (below_size (by repeat (first | (with_reducible first | exact HB.out | apply below_alloc | apply pw_below_drewN | apply below_drew1) | exact HB.out)))); have n2_ := Aside0.mk (Kd.C_below (by repeat (first | (with_reducible exact HR464.out) | (with_reducible refine Kd.C_alloc ?_ _) | (with_reducible refine Kd.C_drewN ?_ _) | (with_reducible refine Kd.C_drew ?_) | exact HR464.out)) hb); have n3_ := Aside0.mk (below_step (by repeat (first | (with_reducible first | exact HB.out | apply below_alloc | apply pw_below_drewN | apply below_drew1) | exact HB.out)) hb); clear HO_5; clear HR464; clear HB; have HO_5 := n0_; have HO487 := n1_; have HR464 := n2_; have HB := n3_; clear n0_ n1_ n2_ n3_; (try clear hb); (try clear hb2); (try clear hk); (try clear hi); (try clear ho0); obtain ⟨Ao51, co51, eo51⟩ := Kd.R_slice HO487.out; subst eo51; have q50 : ((l0.length : Int) : Int) ≤ ((t485.length : Int) : Int) := of_decide_eq_true (by first | (with_reducible assumption) | assumption); obtain ⟨i050, hi050, _, hsz50, _⟩ := info_parts info57; have hroom50 : t485.length ≤ co51 := (Kd.R_reads' HO487.out).2.1; have hC50 : Kd.C k57 _ Ao51 t485.length t485 := (Kd.R_reads' HO487.out).2.2; (try clear hcut45); have hcut50 := cut_to (P := Tryz.prog) 46 57 .i64 Tryz.underlying46 hi050 Ao51 t485.length co51 (l0.length : Int) (of_decide_eq_true (by first | (with_reducible assumption) | assumption)) q50 hroom50; have hr50 := Kd.C_take (m := ((l0.length : Int) : Int).toNat) hC50 (by omega); have hy50 : y488.length = ((l0.length : Int) : Int).toNat := (by rw [Ny488.out, List.length_take]; omega); rw [← Ny488.out] at hr50; rw [← hy50] at hcut50; have HR491 := Aside0.mk hr50; have HC491 := Aside0.mk (show y488.length ≤ co51 from by omega); clear hr50 hC50 hroom50 hi050 hsz50; have KY50 := Aside0.mk hy50; clear hy50; have KL50 := Aside0.mk (show ((l0.length : Int) : Int).toNat ≤ t485.length from by omega); replace q50 := eq_true q50) | (go_at_call 40; (with_reducible refine (quant_Valid.calls kj12 _ _ y488 t492 _ ?side1 ?side2 A40.out (Glob.below hG.toGlob (by repeat (first | (with_reducible first | exact HB.out | apply below_alloc | apply pw_below_drewN | apply below_drew1) | exact HB.out)))).mono ?_); (case side1 => repeat (first | exact (by repeat (first | (with_reducible exact HR491.out) | (with_reducible refine Kd.C_alloc ?_ _) | (with_reducible refine Kd.C_drewN ?_ _) | (with_reducible refine Kd.C_drew ?_) | exact HR491.out)) | (with_reducible refine Kd.C_alloc ?_ _) | (with_reducible refine Kd.C_drewN ?_ _) | (with_reducible refine Kd.C_drew ?_))); (case side2 => exact HC491.out); rintro e w52 ⟨rfl, hb⟩; have n0_ := Aside0.mk (Kd.R_below (by (with_reducible repeat (first | apply Kd.R_alloc | apply Kd.R_drewN | apply Kd.R_drew)); exact HO_5.out) hb); have n1_ := Aside0.mk (Kd.R_below (by (with_reducible repeat (first | apply Kd.R_alloc | apply Kd.R_drewN | apply Kd.R_drew)); exact HO487.out) hb); have n2_ := Aside0.mk (Kd.C_below (by repeat (first | (with_reducible exact HR464.out) | (with_reducible refine Kd.C_alloc ?_ _) | (with_reducible refine Kd.C_drewN ?_ _) | (with_reducible refine Kd.C_drew ?_) | exact HR464.out)) hb); have n3_ := Aside0.mk (Kd.C_below (by repeat (first | (with_reducible exact HR491.out) | (with_reducible refine Kd.C_alloc ?_ _) | (with_reducible refine Kd.C_drewN ?_ _) | (with_reducible refine Kd.C_drew ?_) | exact HR491.out)) hb); have n4_ := Aside0.mk (below_step (by repeat (first | (with_reducible first | exact HB.out | apply below_alloc | apply pw_below_drewN | apply below_drew1) | exact HB.out)) hb); clear HO_5; clear HO487; clear HR464; clear HR491; clear HB; have HO_5 := n0_; have HO487 := n1_; have HR464 := n2_; have HR491 := n3_; have HB := n4_; clear n0_ n1_ n2_ n3_ n4_; (try clear hb); (try clear hb2); (try clear hk); (try clear hi))); try go_wp2_with (first | (go_at_call 29; (with_reducible refine (bursarlaw03_behind.calls _ _ l0 t485 _ ?side1 ?side2 A37.out (GlobM.below hG (by repeat (first | (with_reducible first | exact HB.out | apply below_alloc | apply pw_below_drewN | apply below_drew1) | exact HB.out)))).mono ?_); (case side1 => repeat (first | exact (Kd.C_below HR0.out HB.out) | (with_reducible refine Kd.C_alloc ?_ _) | (with_reducible refine Kd.C_drewN ?_ _) | (with_reducible refine Kd.C_drew ?_))); (case side2 => exact HC0.out); rintro e w49 ⟨v486, rfl, ho0, hb⟩; have n0_ := Aside0.mk (Kd.R_elder' (by (with_reducible repeat (first | apply Kd.R_alloc | apply Kd.R_drewN | apply Kd.R_drew)); exact HO_5.out) (Kd.R_base ho0) hb); have n1_ := Aside0.mk (Kd.R_lower (Kd.R_new' ho0 (Kd.R_lt (by (with_reducible repeat (first | apply Kd.R_alloc | apply Kd.R_drewN | apply Kd.R_drew)); exact HO_5.out))) (below_size (by repeat (first | (with_reducible first | exact HB.out | apply below_alloc | apply pw_below_drewN | apply below_drew1) | exact HB.out)))); have n2_ := Aside0.mk (Kd.C_below (by repeat (first | (with_reducible exact HR464.out) | (with_reducible refine Kd.C_alloc ?_ _) | (with_reducible refine Kd.C_drewN ?_ _) | (with_reducible refine Kd.C_drew ?_) | exact HR464.out)) hb); have n3_ := Aside0.mk (below_step (by repeat (first | (with_reducible first | exact HB.out | apply below_alloc | apply pw_below_drewN | apply below_drew1) | exact HB.out)) hb); clear HO_5; clear HR464; clear HB; have HO_5 := n0_; have HO487 := n1_; have HR464 := n2_; have HB := n3_; clear n0_ n1_ n2_ n3_; (try clear hb); (try clear hb2); (try clear hk); (try clear hi); (try clear ho0); obtain ⟨Ao51, co51, eo51⟩ := Kd.R_slice HO487.out; subst eo51; have q50 : ((l0.length : Int) : Int) ≤ ((t485.length : Int) : Int) := of_decide_eq_true (by first | (with_reducible assumption) | assumption); obtain ⟨i050, hi050, _, hsz50, _⟩ := info_parts info57; have hroom50 : t485.length ≤ co51 := (Kd.R_reads' HO487.out).2.1; have hC50 : Kd.C k57 _ Ao51 t485.length t485 := (Kd.R_reads' HO487.out).2.2; (try clear hcut45); have hcut50 := cut_to (P := Tryz.prog) 46 57 .i64 Tryz.underlying46 hi050 Ao51 t485.length co51 (l0.length : Int) (of_decide_eq_true (by first | (with_reducible assumption) | assumption)) q50 hroom50; have hr50 := Kd.C_take (m := ((l0.length : Int) : Int).toNat) hC50 (by omega); have hy50 : y488.length = ((l0.length : Int) : Int).toNat := (by rw [Ny488.out, List.length_take]; omega); rw [← Ny488.out] at hr50; rw [← hy50] at hcut50; have HR491 := Aside0.mk hr50; have HC491 := Aside0.mk (show y488.length ≤ co51 from by omega); clear hr50 hC50 hroom50 hi050 hsz50; have KY50 := Aside0.mk hy50; clear hy50; have KL50 := Aside0.mk (show ((l0.length : Int) : Int).toNat ≤ t485.length from by omega); replace q50 := eq_true q50) | (go_at_call 40; (with_reducible refine (quant_Valid.calls kj12 _ _ y488 t492 _ ?side1 ?side2 A40.out (Glob.below hG.toGlob (by repeat (first | (with_reducible first | exact HB.out | apply below_alloc | apply pw_below_drewN | apply below_drew1) | exact HB.out)))).mono ?_); (case side1 => repeat (first | exact (by repeat (first | (with_reducible exact HR491.out) | (with_reducible refine Kd.C_alloc ?_ _) | (with_reducible refine Kd.C_drewN ?_ _) | (with_reducible refine Kd.C_drew ?_) | exact HR491.out)) | (with_reducible refine Kd.C_alloc ?_ _) | (with_reducible refine Kd.C_drewN ?_ _) | (with_reducible refine Kd.C_drew ?_))); (case side2 => exact HC491.out); rintro e w52 ⟨rfl, hb⟩; have n0_ := Aside0.mk (Kd.R_below (by (with_reducible repeat (first | apply Kd.R_alloc | apply Kd.R_drewN | apply Kd.R_drew)); exact HO_5.out) hb); have n1_ := Aside0.mk (Kd.R_below (by (with_reducible repeat (first | apply Kd.R_alloc | apply Kd.R_drewN | apply Kd.R_drew)); exact HO487.out) hb); have n2_ := Aside0.mk (Kd.C_below (by repeat (first | (with_reducible exact HR464.out) | (with_reducible refine Kd.C_alloc ?_ _) | (with_reducible refine Kd.C_drewN ?_ _) | (with_reducible refine Kd.C_drew ?_) | exact HR464.out)) hb); have n3_ := Aside0.mk (Kd.C_below (by repeat (first | (with_reducible exact HR491.out) | (with_reducible refine Kd.C_alloc ?_ _) | (with_reducible refine Kd.C_drewN ?_ _) | (with_reducible refine Kd.C_drew ?_) | exact HR491.out)) hb); have n4_ := Aside0.mk (below_step (by repeat (first | (with_reducible first | exact HB.out | apply below_alloc | apply pw_below_drewN | apply below_drew1) | exact HB.out)) hb); clear HO_5; clear HO487; clear HR464; clear HR491; clear HB; have HO_5 := n0_; have HO487 := n1_; have HR464 := n2_; have HR491 := n3_; have HB := n4_; clear n0_ n1_ n2_ n3_ n4_; (try clear hb); (try clear hb2); (try clear hk); (try clear hi))))
            go_meet
            case rel => exact ⟨_, (true), (by first | rfl | (simp; done) | (simp [*]; done) | (simp; rw [Bool.eq_iff_iff]; simp; done) | (rw [Bool.eq_iff_iff]; simp; done)), H', ⟨by have := HJ12.out; first | omega | exact Nat.le_refl _⟩, ⟨by (with_reducible repeat (first | apply Kd.R_alloc | apply Kd.R_drewN | apply Kd.R_drew)); exact Kd.R_mono HO_5.out (fun _ hk => trivial)⟩, ⟨by repeat (first | (with_reducible exact HR464.out) | (with_reducible refine Kd.C_alloc ?_ _) | (with_reducible refine Kd.C_drewN ?_ _) | (with_reducible refine Kd.C_drew ?_) | exact HR464.out)⟩, ⟨by repeat (first | (with_reducible first | exact HB.out | apply below_alloc | apply pw_below_drewN | apply below_drew1) | exact HB.out)⟩⟩
          ·rw [if_neg c41] at H
           have c41b0 : (t492 == 0) = false := beq_eq_false_iff_ne.mpr c41
           have c41b1 : (t492 != 0) = true := bne_iff_ne.mpr c41
           (first | rw [c41b0] | (simp only [i64_w, i32_w]; rw [c41b0]) | skip)
           have H' := Aside0.mk H
           clear H
           go_wp2_with (first | (go_at_call 29; (with_reducible refine (bursarlaw03_behind.calls _ _ l0 t485 _ ?side1 ?side2 A37.out (GlobM.below hG (by repeat (first | (with_reducible first | exact HB.out | apply below_alloc | apply pw_below_drewN | apply below_drew1) | exact HB.out)))).mono ?_); (case side1 => repeat (first | exact (Kd.C_below HR0.out HB.out) | (with_reducible refine Kd.C_alloc ?_ _) | (with_reducible refine Kd.C_drewN ?_ _) | (with_reducible refine Kd.C_drew ?_))); (case side2 => exact HC0.out); rintro e w53 ⟨v486, rfl, ho0, hb⟩; have n0_ := Aside0.mk (Kd.R_elder' (by (with_reducible repeat (first | apply Kd.R_alloc | apply Kd.R_drewN | apply Kd.R_drew)); exact HO_5.out) (Kd.R_base ho0) hb); have n1_ := Aside0.mk (Kd.R_lower (Kd.R_new' ho0 (Kd.R_lt (by (with_reducible repeat (first | apply Kd.R_alloc | apply Kd.R_drewN | apply Kd.R_drew)); exact HO_5.out))) (below_size (by repeat (first | (with_reducible first | exact HB.out | apply below_alloc | apply pw_below_drewN | apply below_drew1) | exact HB.out)))); have n2_ := Aside0.mk (Kd.C_below (by repeat (first | (with_reducible exact HR464.out) | (with_reducible refine Kd.C_alloc ?_ _) | (with_reducible refine Kd.C_drewN ?_ _) | (with_reducible refine Kd.C_drew ?_) | exact HR464.out)) hb); have n3_ := Aside0.mk (below_step (by repeat (first | (with_reducible first | exact HB.out | apply below_alloc | apply pw_below_drewN | apply below_drew1) | exact HB.out)) hb); clear HO_5; clear HR464; clear HB; have HO_5 := n0_; have HO487 := n1_; have HR464 := n2_; have HB := n3_; clear n0_ n1_ n2_ n3_; (try clear hb); (try clear hb2); (try clear hk); (try clear hi); (try clear ho0); obtain ⟨Ao55, co55, eo55⟩ := Kd.R_slice HO487.out; subst eo55; have q54 : ((l0.length : Int) : Int) ≤ ((t485.length : Int) : Int) := of_decide_eq_true (by first | (with_reducible assumption) | assumption); obtain ⟨i054, hi054, _, hsz54, _⟩ := info_parts info57; have hroom54 : t485.length ≤ co55 := (Kd.R_reads' HO487.out).2.1; have hC54 : Kd.C k57 _ Ao55 t485.length t485 := (Kd.R_reads' HO487.out).2.2; (try clear hcut45); (try clear hcut50); have hcut54 := cut_to (P := Tryz.prog) 46 57 .i64 Tryz.underlying46 hi054 Ao55 t485.length co55 (l0.length : Int) (of_decide_eq_true (by first | (with_reducible assumption) | assumption)) q54 hroom54; have hr54 := Kd.C_take (m := ((l0.length : Int) : Int).toNat) hC54 (by omega); have hy54 : y488.length = ((l0.length : Int) : Int).toNat := (by rw [Ny488.out, List.length_take]; omega); rw [← Ny488.out] at hr54; rw [← hy54] at hcut54; have HR491 := Aside0.mk hr54; have HC491 := Aside0.mk (show y488.length ≤ co55 from by omega); clear hr54 hC54 hroom54 hi054 hsz54; have KY54 := Aside0.mk hy54; clear hy54; have KL54 := Aside0.mk (show ((l0.length : Int) : Int).toNat ≤ t485.length from by omega); replace q54 := eq_true q54) | (go_at_call 40; (with_reducible refine (quant_Valid.calls kj12 _ _ y488 t492 _ ?side1 ?side2 A40.out (Glob.below hG.toGlob (by repeat (first | (with_reducible first | exact HB.out | apply below_alloc | apply pw_below_drewN | apply below_drew1) | exact HB.out)))).mono ?_); (case side1 => repeat (first | exact (by repeat (first | (with_reducible exact HR491.out) | (with_reducible refine Kd.C_alloc ?_ _) | (with_reducible refine Kd.C_drewN ?_ _) | (with_reducible refine Kd.C_drew ?_) | exact HR491.out)) | (with_reducible refine Kd.C_alloc ?_ _) | (with_reducible refine Kd.C_drewN ?_ _) | (with_reducible refine Kd.C_drew ?_))); (case side2 => exact HC491.out); rintro e w56 ⟨rfl, hb⟩; have n0_ := Aside0.mk (Kd.R_below (by (with_reducible repeat (first | apply Kd.R_alloc | apply Kd.R_drewN | apply Kd.R_drew)); exact HO_5.out) hb); have n1_ := Aside0.mk (Kd.R_below (by (with_reducible repeat (first | apply Kd.R_alloc | apply Kd.R_drewN | apply Kd.R_drew)); exact HO487.out) hb); have n2_ := Aside0.mk (Kd.C_below (by repeat (first | (with_reducible exact HR464.out) | (with_reducible refine Kd.C_alloc ?_ _) | (with_reducible refine Kd.C_drewN ?_ _) | (with_reducible refine Kd.C_drew ?_) | exact HR464.out)) hb); have n3_ := Aside0.mk (Kd.C_below (by repeat (first | (with_reducible exact HR491.out) | (with_reducible refine Kd.C_alloc ?_ _) | (with_reducible refine Kd.C_drewN ?_ _) | (with_reducible refine Kd.C_drew ?_) | exact HR491.out)) hb); have n4_ := Aside0.mk (below_step (by repeat (first | (with_reducible first | exact HB.out | apply below_alloc | apply pw_below_drewN | apply below_drew1) | exact HB.out)) hb); clear HO_5; clear HO487; clear HR464; clear HR491; clear HB; have HO_5 := n0_; have HO487 := n1_; have HR464 := n2_; have HR491 := n3_; have HB := n4_; clear n0_ n1_ n2_ n3_ n4_; (try clear hb); (try clear hb2); (try clear hk); (try clear hi)))
           repeat (go_quiet (first | (go_at_call 29; (with_reducible refine (bursarlaw03_behind.calls _ _ l0 t485 _ ?side1 ?side2 A37.out (GlobM.below hG (by repeat (first | (with_reducible first | exact HB.out | apply below_alloc | apply pw_below_drewN | apply below_drew1) | exact HB.out)))).mono ?_); (case side1 => repeat (first | exact (Kd.C_below HR0.out HB.out) | (with_reducible refine Kd.C_alloc ?_ _) | (with_reducible refine Kd.C_drewN ?_ _) | (with_reducible refine Kd.C_drew ?_))); (case side2 => exact HC0.out); rintro e w53 ⟨v486, rfl, ho0, hb⟩; have n0_ := Aside0.mk (Kd.R_elder' (by (with_reducible repeat (first | apply Kd.R_alloc | apply Kd.R_drewN | apply Kd.R_drew)); exact HO_5.out) (Kd.R_base ho0) hb); have n1_ := Aside0.mk (Kd.R_lower (Kd.R_new' ho0 (Kd.R_lt (by (with_reducible repeat (first | apply Kd.R_alloc | apply Kd.R_drewN | apply Kd.R_drew)); exact HO_5.out))) (below_size (by repeat (first | (with_reducible first | exact HB.out | apply below_alloc | apply pw_below_drewN | apply below_drew1) | exact HB.out)))); have n2_ := Aside0.mk (Kd.C_below (by repeat (first | (with_reducible exact HR464.out) | (with_reducible refine Kd.C_alloc ?_ _) | (with_reducible refine Kd.C_drewN ?_ _) | (with_reducible refine Kd.C_drew ?_) | exact HR464.out)) hb); have n3_ := Aside0.mk (below_step (by repeat (first | (with_reducible first | exact HB.out | apply below_alloc | apply pw_below_drewN | apply below_drew1) | exact HB.out)) hb); clear HO_5; clear HR464; clear HB; have HO_5 := n0_; have HO487 := n1_; have HR464 := n2_; have HB := n3_; clear n0_ n1_ n2_ n3_; (try clear hb); (try clear hb2); (try clear hk); (try clear hi); (try clear ho0); obtain ⟨Ao55, co55, eo55⟩ := Kd.R_slice HO487.out; subst eo55; have q54 : ((l0.length : Int) : Int) ≤ ((t485.length : Int) : Int) := of_decide_eq_true (by first | (with_reducible assumption) | assumption); obtain ⟨i054, hi054, _, hsz54, _⟩ := info_parts info57; have hroom54 : t485.length ≤ co55 := (Kd.R_reads' HO487.out).2.1; have hC54 : Kd.C k57 _ Ao55 t485.length t485 := (Kd.R_reads' HO487.out).2.2; (try clear hcut45); (try clear hcut50); have hcut54 := cut_to (P := Tryz.prog) 46 57 .i64 Tryz.underlying46 hi054 Ao55 t485.length co55 (l0.length : Int) (of_decide_eq_true (by first | (with_reducible assumption) | assumption)) q54 hroom54; have hr54 := Kd.C_take (m := ((l0.length : Int) : Int).toNat) hC54 (by omega); have hy54 : y488.length = ((l0.length : Int) : Int).toNat := (by rw [Ny488.out, List.length_take]; omega); rw [← Ny488.out] at hr54; rw [← hy54] at hcut54; have HR491 := Aside0.mk hr54; have HC491 := Aside0.mk (show y488.length ≤ co55 from by omega); clear hr54 hC54 hroom54 hi054 hsz54; have KY54 := Aside0.mk hy54; clear hy54; have KL54 := Aside0.mk (show ((l0.length : Int) : Int).toNat ≤ t485.length from by omega); replace q54 := eq_true q54) | (go_at_call 40; (with_reducible refine (quant_Valid.calls kj12 _ _ y488 t492 _ ?side1 ?side2 A40.out (Glob.below hG.toGlob (by repeat (first | (with_reducible first | exact HB.out | apply below_alloc | apply pw_below_drewN | apply below_drew1) | exact HB.out)))).mono ?_); (case side1 => repeat (first | exact (by repeat (first | (with_reducible exact HR491.out) | (with_reducible refine Kd.C_alloc ?_ _) | (with_reducible refine Kd.C_drewN ?_ _) | (with_reducible refine Kd.C_drew ?_) | exact HR491.out)) | (with_reducible refine Kd.C_alloc ?_ _) | (with_reducible refine Kd.C_drewN ?_ _) | (with_reducible refine Kd.C_drew ?_))); (case side2 => exact HC491.out); rintro e w56 ⟨rfl, hb⟩; have n0_ := Aside0.mk (Kd.R_below (by (with_reducible repeat (first | apply Kd.R_alloc | apply Kd.R_drewN | apply Kd.R_drew)); exact HO_5.out) hb); have n1_ := Aside0.mk (Kd.R_below (by (with_reducible repeat (first | apply Kd.R_alloc | apply Kd.R_drewN | apply Kd.R_drew)); exact HO487.out) hb); have n2_ := Aside0.mk (Kd.C_below (by repeat (first | (with_reducible exact HR464.out) | (with_reducible refine Kd.C_alloc ?_ _) | (with_reducible refine Kd.C_drewN ?_ _) | (with_reducible refine Kd.C_drew ?_) | exact HR464.out)) hb); have n3_ := Aside0.mk (Kd.C_below (by repeat (first | (with_reducible exact HR491.out) | (with_reducible refine Kd.C_alloc ?_ _) | (with_reducible refine Kd.C_drewN ?_ _) | (with_reducible refine Kd.C_drew ?_) | exact HR491.out)) hb); have n4_ := Aside0.mk (below_step (by repeat (first | (with_reducible first | exact HB.out | apply below_alloc | apply pw_below_drewN | apply below_drew1) | exact HB.out)) hb); clear HO_5; clear HO487; clear HR464; clear HR491; clear HB; have HO_5 := n0_; have HO487 := n1_; have HR464 := n2_; have HR491 := n3_; have HB := n4_; clear n0_ n1_ n2_ n3_ n4_; (try clear hb); (try clear hb2); (try clear hk); (try clear hi))); try go_wp2_with (first | (go_at_call 29; (with_reducible refine (bursarlaw03_behind.calls _ _ l0 t485 _ ?side1 ?side2 A37.out (GlobM.below hG (by repeat (first | (with_reducible first | exact HB.out | apply below_alloc | apply pw_below_drewN | apply below_drew1) | exact HB.out)))).mono ?_); (case side1 => repeat (first | exact (Kd.C_below HR0.out HB.out) | (with_reducible refine Kd.C_alloc ?_ _) | (with_reducible refine Kd.C_drewN ?_ _) | (with_reducible refine Kd.C_drew ?_))); (case side2 => exact HC0.out); rintro e w53 ⟨v486, rfl, ho0, hb⟩; have n0_ := Aside0.mk (Kd.R_elder' (by (with_reducible repeat (first | apply Kd.R_alloc | apply Kd.R_drewN | apply Kd.R_drew)); exact HO_5.out) (Kd.R_base ho0) hb); have n1_ := Aside0.mk (Kd.R_lower (Kd.R_new' ho0 (Kd.R_lt (by (with_reducible repeat (first | apply Kd.R_alloc | apply Kd.R_drewN | apply Kd.R_drew)); exact HO_5.out))) (below_size (by repeat (first | (with_reducible first | exact HB.out | apply below_alloc | apply pw_below_drewN | apply below_drew1) | exact HB.out)))); have n2_ := Aside0.mk (Kd.C_below (by repeat (first | (with_reducible exact HR464.out) | (with_reducible refine Kd.C_alloc ?_ _) | (with_reducible refine Kd.C_drewN ?_ _) | (with_reducible refine Kd.C_drew ?_) | exact HR464.out)) hb); have n3_ := Aside0.mk (below_step (by repeat (first | (with_reducible first | exact HB.out | apply below_alloc | apply pw_below_drewN | apply below_drew1) | exact HB.out)) hb); clear HO_5; clear HR464; clear HB; have HO_5 := n0_; have HO487 := n1_; have HR464 := n2_; have HB := n3_; clear n0_ n1_ n2_ n3_; (try clear hb); (try clear hb2); (try clear hk); (try clear hi); (try clear ho0); obtain ⟨Ao55, co55, eo55⟩ := Kd.R_slice HO487.out; subst eo55; have q54 : ((l0.length : Int) : Int) ≤ ((t485.length : Int) : Int) := of_decide_eq_true (by first | (with_reducible assumption) | assumption); obtain ⟨i054, hi054, _, hsz54, _⟩ := info_parts info57; have hroom54 : t485.length ≤ co55 := (Kd.R_reads' HO487.out).2.1; have hC54 : Kd.C k57 _ Ao55 t485.length t485 := (Kd.R_reads' HO487.out).2.2; (try clear hcut45); (try clear hcut50); have hcut54 := cut_to (P := Tryz.prog) 46 57 .i64 Tryz.underlying46 hi054 Ao55 t485.length co55 (l0.length : Int) (of_decide_eq_true (by first | (with_reducible assumption) | assumption)) q54 hroom54; have hr54 := Kd.C_take (m := ((l0.length : Int) : Int).toNat) hC54 (by omega); have hy54 : y488.length = ((l0.length : Int) : Int).toNat := (by rw [Ny488.out, List.length_take]; omega); rw [← Ny488.out] at hr54; rw [← hy54] at hcut54; have HR491 := Aside0.mk hr54; have HC491 := Aside0.mk (show y488.length ≤ co55 from by omega); clear hr54 hC54 hroom54 hi054 hsz54; have KY54 := Aside0.mk hy54; clear hy54; have KL54 := Aside0.mk (show ((l0.length : Int) : Int).toNat ≤ t485.length from by omega); replace q54 := eq_true q54) | (go_at_call 40; (with_reducible refine (quant_Valid.calls kj12 _ _ y488 t492 _ ?side1 ?side2 A40.out (Glob.below hG.toGlob (by repeat (first | (with_reducible first | exact HB.out | apply below_alloc | apply pw_below_drewN | apply below_drew1) | exact HB.out)))).mono ?_); (case side1 => repeat (first | exact (by repeat (first | (with_reducible exact HR491.out) | (with_reducible refine Kd.C_alloc ?_ _) | (with_reducible refine Kd.C_drewN ?_ _) | (with_reducible refine Kd.C_drew ?_) | exact HR491.out)) | (with_reducible refine Kd.C_alloc ?_ _) | (with_reducible refine Kd.C_drewN ?_ _) | (with_reducible refine Kd.C_drew ?_))); (case side2 => exact HC491.out); rintro e w56 ⟨rfl, hb⟩; have n0_ := Aside0.mk (Kd.R_below (by (with_reducible repeat (first | apply Kd.R_alloc | apply Kd.R_drewN | apply Kd.R_drew)); exact HO_5.out) hb); have n1_ := Aside0.mk (Kd.R_below (by (with_reducible repeat (first | apply Kd.R_alloc | apply Kd.R_drewN | apply Kd.R_drew)); exact HO487.out) hb); have n2_ := Aside0.mk (Kd.C_below (by repeat (first | (with_reducible exact HR464.out) | (with_reducible refine Kd.C_alloc ?_ _) | (with_reducible refine Kd.C_drewN ?_ _) | (with_reducible refine Kd.C_drew ?_) | exact HR464.out)) hb); have n3_ := Aside0.mk (Kd.C_below (by repeat (first | (with_reducible exact HR491.out) | (with_reducible refine Kd.C_alloc ?_ _) | (with_reducible refine Kd.C_drewN ?_ _) | (with_reducible refine Kd.C_drew ?_) | exact HR491.out)) hb); have n4_ := Aside0.mk (below_step (by repeat (first | (with_reducible first | exact HB.out | apply below_alloc | apply pw_below_drewN | apply below_drew1) | exact HB.out)) hb); clear HO_5; clear HO487; clear HR464; clear HR491; clear HB; have HO_5 := n0_; have HO487 := n1_; have HR464 := n2_; have HR491 := n3_; have HB := n4_; clear n0_ n1_ n2_ n3_ n4_; (try clear hb); (try clear hb2); (try clear hk); (try clear hi))))
           go_meet
           case rel => exact ⟨_, (false), (by first | rfl | (simp; done) | (simp [*]; done) | (simp; rw [Bool.eq_iff_iff]; simp; done) | (rw [Bool.eq_iff_iff]; simp; done)), H', ⟨by have := HJ12.out; first | omega | exact Nat.le_refl _⟩, ⟨by (with_reducible repeat (first | apply Kd.R_alloc | apply Kd.R_drewN | apply Kd.R_drew)); exact Kd.R_mono HO_5.out (fun _ hk => trivial)⟩, ⟨by repeat (first | (with_reducible exact HR464.out) | (with_reducible refine Kd.C_alloc ?_ _) | (with_reducible refine Kd.C_drewN ?_ _) | (with_reducible refine Kd.C_drew ?_) | exact HR464.out)⟩, ⟨by repeat (first | (with_reducible first | exact HB.out | apply below_alloc | apply pw_below_drewN | apply below_drew1) | exact HB.out)⟩⟩
         ·rw [if_neg c39] at H
          exact absurd H (by simp)
        ·rw [if_neg c38] at H
         exact absurd H (by simp)
       case rest =>
        clear HC36
        try clear c1
        try clear q1
        try clear c2
        try clear p2
        try clear c3
        try clear c4
        try clear q4
        try clear q5
        try clear c6
        try clear c6b0
        try clear c6b1
        try clear c7
        try clear c7b0
        try clear c7b1
        try clear c12
        try clear q16
        try clear c25
        try clear c25b0
        try clear c25b1
        try clear c26
        try clear c26b0
        try clear c26b1
        try clear c28
        try clear c35
        try clear c38
        try clear c38b0
        try clear c38b1
        try clear c39
        try clear c39b0
        try clear c39b1
        try clear c41
        try clear c41b0
        try clear c41b1
        try clear c42
        try clear c42b0
        try clear c42b1
        try clear q45
        try clear q50
        try clear q54
        try clear p2
        try clear q1
        try clear q16
        try clear q45
        try clear q50
        try clear q54
        obtain ⟨kq, x80_35, rfl, HA, HJ35, HO_5, HR464, HB⟩ := hcut
        cases kq with
        | zero => exact absurd HA.out (by simp [bursarlaw03_QuantOrders.j1])
        | succ kj35 =>
         have H := HA.out
         clear HA
         simp only [bursarlaw03_QuantOrders.j1] at H
         by_cases c57 : x80_35 = true
         ·subst c57
          have H1 : (some false) = some r := by rw [if_pos rfl] at H; exact H
          clear H
          have H := H1
          clear H1
          obtain rfl := Option.some.inj H
          go_wp2
          repeat (go_quiet (fail); try go_wp2)
          go_ret
          exact ⟨by first | rfl | (simp [errW_none, errW_some] <;> rfl) | (simp [*, errW_none, errW_some] <;> rfl), by repeat (first | (with_reducible first | exact HB.out | apply below_alloc | apply pw_below_drewN | apply below_drew1) | exact HB.out)⟩
         ·replace c57 := Bool.eq_false_iff.mpr c57
          subst c57
          have H1 : (if t466 = 0 then ((bursarlaw03_behind.f t465).bind fun t494 => (if 0 ≤ (t465.length : Int) then (if (t465.length : Int) ≤ (t494.length : Int) then ((quant_Normal.f kj35 (t494.take ((t465.length : Int) : Int).toNat)).bind fun bt501 => ((bursarlaw03_behind.f t465).bind fun t505 => (if (t465.length : Int) ≤ (t505.length : Int) then ((quant_Valid.f kj35 (t505.take ((t465.length : Int) : Int).toNat)).bind fun t512 => (if t512 = 0 then (if bt501.2 = 0 then ((bursarlaw03_same.f kj35 t465 bt501.1).bind fun t513 => (bursarlaw03_QuantOrders.j2 kj35 l0 t465 (!t513))) else (bursarlaw03_QuantOrders.j2 kj35 l0 t465 true)) else (bursarlaw03_QuantOrders.j2 kj35 l0 t465 true))) else (none)))) else (none)) else (none))) else (if (t465.length : Int) = 0 then (if t466 = 31 then (some true) else (if t466 = 7 then (some true) else (some (t466 == 23)))) else (some false))) = some r := by rw [if_neg (show ¬ (false = true) by decide)] at H; exact H
          clear H
          have H := H1
          clear H1
          by_cases c58 : t466 = 0
          ·rw [if_pos c58] at H
           have c58b0 : (t466 == 0) = true := beq_iff_eq.mpr c58
           have c58b1 : (t466 != 0) = false := bne_eq_false_iff_eq.mpr c58
           clear c58
           replace H := Option.bind_eq_some_iff.mp H
           obtain ⟨t494, A590, H⟩ := H
           replace H : (if 0 ≤ (t465.length : Int) then (if (t465.length : Int) ≤ (t494.length : Int) then ((quant_Normal.f kj35 (t494.take ((t465.length : Int) : Int).toNat)).bind fun bt501 => ((bursarlaw03_behind.f t465).bind fun t505 => (if (t465.length : Int) ≤ (t505.length : Int) then ((quant_Valid.f kj35 (t505.take ((t465.length : Int) : Int).toNat)).bind fun t512 => (if t512 = 0 then (if bt501.2 = 0 then ((bursarlaw03_same.f kj35 t465 bt501.1).bind fun t513 => (bursarlaw03_QuantOrders.j2 kj35 l0 t465 (!t513))) else (bursarlaw03_QuantOrders.j2 kj35 l0 t465 true)) else (bursarlaw03_QuantOrders.j2 kj35 l0 t465 true))) else (none)))) else (none)) else (none)) = some r := H
           have A59 := Aside0.mk A590
           clear A590
           by_cases c60 : 0 ≤ (t465.length : Int)
           ·rw [if_pos c60] at H
            have c60b0 := eq_true c60
            have c60b1 : decide (0 ≤ (t465.length : Int)) = true := decide_eq_true c60
            clear c60
            by_cases c61 : (t465.length : Int) ≤ (t494.length : Int)
            ·rw [if_pos c61] at H
             have c61b0 := eq_true c61
             have c61b1 : decide ((t465.length : Int) ≤ (t494.length : Int)) = true := decide_eq_true c61
             clear c61
             obtain ⟨y497, hy497⟩ : ∃ y_ : List (S57), y_ = (t494.take ((t465.length : Int) : Int).toNat) := ⟨_, rfl⟩
             replace H : ((quant_Normal.f kj35 y497).bind fun bt501 => ((bursarlaw03_behind.f t465).bind fun t505 => (if (t465.length : Int) ≤ (t505.length : Int) then ((quant_Valid.f kj35 (t505.take ((t465.length : Int) : Int).toNat)).bind fun t512 => (if t512 = 0 then (if bt501.2 = 0 then ((bursarlaw03_same.f kj35 t465 bt501.1).bind fun t513 => (bursarlaw03_QuantOrders.j2 kj35 l0 t465 (!t513))) else (bursarlaw03_QuantOrders.j2 kj35 l0 t465 true)) else (bursarlaw03_QuantOrders.j2 kj35 l0 t465 true))) else (none)))) = some r := by first | (rw [hy497]; with_reducible exact H) | (have H2_ := (Option.bind_some _ _).symm.trans H; rw [hy497]; with_reducible exact H2_) | (have H2_ := (Option.bind_some _ _).symm.trans H; with_reducible exact H2_) | with_reducible exact H | (rw [hy497]; exact H) | exact H
             have Ny497 := Aside0.mk hy497
             clear hy497
             replace H := Option.bind_eq_some_iff.mp H
             obtain ⟨⟨t501, t502⟩, A620, H⟩ := H
             replace H : ((bursarlaw03_behind.f t465).bind fun t505 => (if (t465.length : Int) ≤ (t505.length : Int) then ((quant_Valid.f kj35 (t505.take ((t465.length : Int) : Int).toNat)).bind fun t512 => (if t512 = 0 then (if t502 = 0 then ((bursarlaw03_same.f kj35 t465 t501).bind fun t513 => (bursarlaw03_QuantOrders.j2 kj35 l0 t465 (!t513))) else (bursarlaw03_QuantOrders.j2 kj35 l0 t465 true)) else (bursarlaw03_QuantOrders.j2 kj35 l0 t465 true))) else (none))) = some r := H
             have A62 := Aside0.mk A620
             clear A620
             have HC63 := Aside0.mk H
             clear H
             obtain ⟨Ao64, co64, eo64⟩ := Kd.R_slice HO_5.out
             subst eo64
             go_upto_region 13 with (first | (go_at_call 29; (with_reducible refine (bursarlaw03_behind.calls _ _ t465 t494 _ ?side1 ?side2 A59.out (GlobM.below hG (by repeat (first | (with_reducible first | exact HB.out | apply below_alloc | apply pw_below_drewN | apply below_drew1) | exact HB.out)))).mono ?_); (case side1 => repeat (first | exact (Kd.R_reads' HO_5.out).2.2 | (with_reducible refine Kd.C_alloc ?_ _) | (with_reducible refine Kd.C_drewN ?_ _) | (with_reducible refine Kd.C_drew ?_))); (case side2 => exact (Kd.R_reads' HO_5.out).2.1); rintro e w65 ⟨v495, rfl, ho0, hb⟩; have n0_ := Aside0.mk (Kd.R_elder' (by (with_reducible repeat (first | apply Kd.R_alloc | apply Kd.R_drewN | apply Kd.R_drew)); exact HO_5.out) (Kd.R_base ho0) hb); have n1_ := Aside0.mk (Kd.R_lower (Kd.R_new' ho0 (Kd.R_lt (by (with_reducible repeat (first | apply Kd.R_alloc | apply Kd.R_drewN | apply Kd.R_drew)); exact HO_5.out))) (below_size (by repeat (first | (with_reducible first | exact HB.out | apply below_alloc | apply pw_below_drewN | apply below_drew1) | exact HB.out)))); have n2_ := Aside0.mk (Kd.C_below (by repeat (first | (with_reducible exact HR464.out) | (with_reducible refine Kd.C_alloc ?_ _) | (with_reducible refine Kd.C_drewN ?_ _) | (with_reducible refine Kd.C_drew ?_) | exact HR464.out)) hb); have n3_ := Aside0.mk (below_step (by repeat (first | (with_reducible first | exact HB.out | apply below_alloc | apply pw_below_drewN | apply below_drew1) | exact HB.out)) hb); clear HO_5; clear HR464; clear HB; have HO_5 := n0_; have HO496 := n1_; have HR464 := n2_; have HB := n3_; clear n0_ n1_ n2_ n3_; (try clear hb); (try clear hb2); (try clear hk); (try clear hi); (try clear ho0); obtain ⟨Ao67, co67, eo67⟩ := Kd.R_slice HO496.out; subst eo67; have q66 : ((t465.length : Int) : Int) ≤ ((t494.length : Int) : Int) := of_decide_eq_true (by first | (with_reducible assumption) | assumption); obtain ⟨i066, hi066, _, hsz66, _⟩ := info_parts info57; have hroom66 : t494.length ≤ co67 := (Kd.R_reads' HO496.out).2.1; have hC66 : Kd.C k57 _ Ao67 t494.length t494 := (Kd.R_reads' HO496.out).2.2; have hcut66 := cut_to (P := Tryz.prog) 46 57 .i64 Tryz.underlying46 hi066 Ao67 t494.length co67 (t465.length : Int) (of_decide_eq_true (by first | (with_reducible assumption) | assumption)) q66 hroom66; have hr66 := Kd.C_take (m := ((t465.length : Int) : Int).toNat) hC66 (by omega); have hy66 : y497.length = ((t465.length : Int) : Int).toNat := (by rw [Ny497.out, List.length_take]; omega); rw [← Ny497.out] at hr66; rw [← hy66] at hcut66; have HR500 := Aside0.mk hr66; have HC500 := Aside0.mk (show y497.length ≤ co67 from by omega); clear hr66 hC66 hroom66 hi066 hsz66; have KY66 := Aside0.mk hy66; clear hy66; have KL66 := Aside0.mk (show ((t465.length : Int) : Int).toNat ≤ t494.length from by omega); replace q66 := eq_true q66) | (go_at_call 36; (with_reducible refine (quant_Normal.calls kj35 _ _ y497 t501 t502 _ ?side1 ?side2 A62.out (Glob.below hG.toGlob (by repeat (first | (with_reducible first | exact HB.out | apply below_alloc | apply pw_below_drewN | apply below_drew1) | exact HB.out)))).mono ?_); (case side1 => repeat (first | exact (by repeat (first | (with_reducible exact HR500.out) | (with_reducible refine Kd.C_alloc ?_ _) | (with_reducible refine Kd.C_drewN ?_ _) | (with_reducible refine Kd.C_drew ?_) | exact HR500.out)) | (with_reducible refine Kd.C_alloc ?_ _) | (with_reducible refine Kd.C_drewN ?_ _) | (with_reducible refine Kd.C_drew ?_))); (case side2 => exact HC500.out); rintro e w68 ⟨v503, rfl, ho0, hb⟩; have n0_ := Aside0.mk (Kd.R_elder' (by (with_reducible repeat (first | apply Kd.R_alloc | apply Kd.R_drewN | apply Kd.R_drew)); exact HO_5.out) (Kd.R_base ho0) hb); have n1_ := Aside0.mk (Kd.R_elder' (by (with_reducible repeat (first | apply Kd.R_alloc | apply Kd.R_drewN | apply Kd.R_drew)); exact HO496.out) (Kd.R_base ho0) hb); have n2_ := Aside0.mk (Kd.R_lower (Kd.R_new' (Kd.R_new' ho0 (Kd.R_lt (by (with_reducible repeat (first | apply Kd.R_alloc | apply Kd.R_drewN | apply Kd.R_drew)); exact HO_5.out))) (Kd.R_lt (by (with_reducible repeat (first | apply Kd.R_alloc | apply Kd.R_drewN | apply Kd.R_drew)); exact HO496.out))) (below_size (by repeat (first | (with_reducible first | exact HB.out | apply below_alloc | apply pw_below_drewN | apply below_drew1) | exact HB.out)))); have n3_ := Aside0.mk (Kd.C_below (by repeat (first | (with_reducible exact HR464.out) | (with_reducible refine Kd.C_alloc ?_ _) | (with_reducible refine Kd.C_drewN ?_ _) | (with_reducible refine Kd.C_drew ?_) | exact HR464.out)) hb); have n4_ := Aside0.mk (Kd.C_below (by repeat (first | (with_reducible exact HR500.out) | (with_reducible refine Kd.C_alloc ?_ _) | (with_reducible refine Kd.C_drewN ?_ _) | (with_reducible refine Kd.C_drew ?_) | exact HR500.out)) hb); have n5_ := Aside0.mk (below_step (by repeat (first | (with_reducible first | exact HB.out | apply below_alloc | apply pw_below_drewN | apply below_drew1) | exact HB.out)) hb); clear HO_5; clear HO496; clear HR464; clear HR500; clear HB; have HO_5 := n0_; have HO496 := n1_; have HO504 := n2_; have HR464 := n3_; have HR500 := n4_; have HB := n5_; clear n0_ n1_ n2_ n3_ n4_ n5_; (try clear hb); (try clear hb2); (try clear hk); (try clear hi); (try clear ho0)))
             repeat (go_quiet (first | (go_at_call 29; (with_reducible refine (bursarlaw03_behind.calls _ _ t465 t494 _ ?side1 ?side2 A59.out (GlobM.below hG (by repeat (first | (with_reducible first | exact HB.out | apply below_alloc | apply pw_below_drewN | apply below_drew1) | exact HB.out)))).mono ?_); (case side1 => repeat (first | exact (Kd.R_reads' HO_5.out).2.2 | (with_reducible refine Kd.C_alloc ?_ _) | (with_reducible refine Kd.C_drewN ?_ _) | (with_reducible refine Kd.C_drew ?_))); (case side2 => exact (Kd.R_reads' HO_5.out).2.1); rintro e w65 ⟨v495, rfl, ho0, hb⟩; have n0_ := Aside0.mk (Kd.R_elder' (by (with_reducible repeat (first | apply Kd.R_alloc | apply Kd.R_drewN | apply Kd.R_drew)); exact HO_5.out) (Kd.R_base ho0) hb); have n1_ := Aside0.mk (Kd.R_lower (Kd.R_new' ho0 (Kd.R_lt (by (with_reducible repeat (first | apply Kd.R_alloc | apply Kd.R_drewN | apply Kd.R_drew)); exact HO_5.out))) (below_size (by repeat (first | (with_reducible first | exact HB.out | apply below_alloc | apply pw_below_drewN | apply below_drew1) | exact HB.out)))); have n2_ := Aside0.mk (Kd.C_below (by repeat (first | (with_reducible exact HR464.out) | (with_reducible refine Kd.C_alloc ?_ _) | (with_reducible refine Kd.C_drewN ?_ _) | (with_reducible refine Kd.C_drew ?_) | exact HR464.out)) hb); have n3_ := Aside0.mk (below_step (by repeat (first | (with_reducible first | exact HB.out | apply below_alloc | apply pw_below_drewN | apply below_drew1) | exact HB.out)) hb); clear HO_5; clear HR464; clear HB; have HO_5 := n0_; have HO496 := n1_; have HR464 := n2_; have HB := n3_; clear n0_ n1_ n2_ n3_; (try clear hb); (try clear hb2); (try clear hk); (try clear hi); (try clear ho0); obtain ⟨Ao67, co67, eo67⟩ := Kd.R_slice HO496.out; subst eo67; have q66 : ((t465.length : Int) : Int) ≤ ((t494.length : Int) : Int) := of_decide_eq_true (by first | (with_reducible assumption) | assumption); obtain ⟨i066, hi066, _, hsz66, _⟩ := info_parts info57; have hroom66 : t494.length ≤ co67 := (Kd.R_reads' HO496.out).2.1; have hC66 : Kd.C k57 _ Ao67 t494.length t494 := (Kd.R_reads' HO496.out).2.2; have hcut66 := cut_to (P := Tryz.prog) 46 57 .i64 Tryz.underlying46 hi066 Ao67 t494.length co67 (t465.length : Int) (of_decide_eq_true (by first | (with_reducible assumption) | assumption)) q66 hroom66; have hr66 := Kd.C_take (m := ((t465.length : Int) : Int).toNat) hC66 (by omega); have hy66 : y497.length = ((t465.length : Int) : Int).toNat := (by rw [Ny497.out, List.length_take]; omega); rw [← Ny497.out] at hr66; rw [← hy66] at hcut66; have HR500 := Aside0.mk hr66; have HC500 := Aside0.mk (show y497.length ≤ co67 from by omega); clear hr66 hC66 hroom66 hi066 hsz66; have KY66 := Aside0.mk hy66; clear hy66; have KL66 := Aside0.mk (show ((t465.length : Int) : Int).toNat ≤ t494.length from by omega); replace q66 := eq_true q66) | (go_at_call 36; (with_reducible refine (quant_Normal.calls kj35 _ _ y497 t501 t502 _ ?side1 ?side2 A62.out (Glob.below hG.toGlob (by repeat (first | (with_reducible first | exact HB.out | apply below_alloc | apply pw_below_drewN | apply below_drew1) | exact HB.out)))).mono ?_); (case side1 => repeat (first | exact (by repeat (first | (with_reducible exact HR500.out) | (with_reducible refine Kd.C_alloc ?_ _) | (with_reducible refine Kd.C_drewN ?_ _) | (with_reducible refine Kd.C_drew ?_) | exact HR500.out)) | (with_reducible refine Kd.C_alloc ?_ _) | (with_reducible refine Kd.C_drewN ?_ _) | (with_reducible refine Kd.C_drew ?_))); (case side2 => exact HC500.out); rintro e w68 ⟨v503, rfl, ho0, hb⟩; have n0_ := Aside0.mk (Kd.R_elder' (by (with_reducible repeat (first | apply Kd.R_alloc | apply Kd.R_drewN | apply Kd.R_drew)); exact HO_5.out) (Kd.R_base ho0) hb); have n1_ := Aside0.mk (Kd.R_elder' (by (with_reducible repeat (first | apply Kd.R_alloc | apply Kd.R_drewN | apply Kd.R_drew)); exact HO496.out) (Kd.R_base ho0) hb); have n2_ := Aside0.mk (Kd.R_lower (Kd.R_new' (Kd.R_new' ho0 (Kd.R_lt (by (with_reducible repeat (first | apply Kd.R_alloc | apply Kd.R_drewN | apply Kd.R_drew)); exact HO_5.out))) (Kd.R_lt (by (with_reducible repeat (first | apply Kd.R_alloc | apply Kd.R_drewN | apply Kd.R_drew)); exact HO496.out))) (below_size (by repeat (first | (with_reducible first | exact HB.out | apply below_alloc | apply pw_below_drewN | apply below_drew1) | exact HB.out)))); have n3_ := Aside0.mk (Kd.C_below (by repeat (first | (with_reducible exact HR464.out) | (with_reducible refine Kd.C_alloc ?_ _) | (with_reducible refine Kd.C_drewN ?_ _) | (with_reducible refine Kd.C_drew ?_) | exact HR464.out)) hb); have n4_ := Aside0.mk (Kd.C_below (by repeat (first | (with_reducible exact HR500.out) | (with_reducible refine Kd.C_alloc ?_ _) | (with_reducible refine Kd.C_drewN ?_ _) | (with_reducible refine Kd.C_drew ?_) | exact HR500.out)) hb); have n5_ := Aside0.mk (below_step (by repeat (first | (with_reducible first | exact HB.out | apply below_alloc | apply pw_below_drewN | apply below_drew1) | exact HB.out)) hb); clear HO_5; clear HO496; clear HR464; clear HR500; clear HB; have HO_5 := n0_; have HO496 := n1_; have HO504 := n2_; have HR464 := n3_; have HR500 := n4_; have HB := n5_; clear n0_ n1_ n2_ n3_ n4_ n5_; (try clear hb); (try clear hb2); (try clear hk); (try clear hi); (try clear ho0))); go_upto_region 13 with (first | (go_at_call 29; (with_reducible refine (bursarlaw03_behind.calls _ _ t465 t494 _ ?side1 ?side2 A59.out (GlobM.below hG (by repeat (first | (with_reducible first | exact HB.out | apply below_alloc | apply pw_below_drewN | apply below_drew1) | exact HB.out)))).mono ?_); (case side1 => repeat (first | exact (Kd.R_reads' HO_5.out).2.2 | (with_reducible refine Kd.C_alloc ?_ _) | (with_reducible refine Kd.C_drewN ?_ _) | (with_reducible refine Kd.C_drew ?_))); (case side2 => exact (Kd.R_reads' HO_5.out).2.1); rintro e w65 ⟨v495, rfl, ho0, hb⟩; have n0_ := Aside0.mk (Kd.R_elder' (by (with_reducible repeat (first | apply Kd.R_alloc | apply Kd.R_drewN | apply Kd.R_drew)); exact HO_5.out) (Kd.R_base ho0) hb); have n1_ := Aside0.mk (Kd.R_lower (Kd.R_new' ho0 (Kd.R_lt (by (with_reducible repeat (first | apply Kd.R_alloc | apply Kd.R_drewN | apply Kd.R_drew)); exact HO_5.out))) (below_size (by repeat (first | (with_reducible first | exact HB.out | apply below_alloc | apply pw_below_drewN | apply below_drew1) | exact HB.out)))); have n2_ := Aside0.mk (Kd.C_below (by repeat (first | (with_reducible exact HR464.out) | (with_reducible refine Kd.C_alloc ?_ _) | (with_reducible refine Kd.C_drewN ?_ _) | (with_reducible refine Kd.C_drew ?_) | exact HR464.out)) hb); have n3_ := Aside0.mk (below_step (by repeat (first | (with_reducible first | exact HB.out | apply below_alloc | apply pw_below_drewN | apply below_drew1) | exact HB.out)) hb); clear HO_5; clear HR464; clear HB; have HO_5 := n0_; have HO496 := n1_; have HR464 := n2_; have HB := n3_; clear n0_ n1_ n2_ n3_; (try clear hb); (try clear hb2); (try clear hk); (try clear hi); (try clear ho0); obtain ⟨Ao67, co67, eo67⟩ := Kd.R_slice HO496.out; subst eo67; have q66 : ((t465.length : Int) : Int) ≤ ((t494.length : Int) : Int) := of_decide_eq_true (by first | (with_reducible assumption) | assumption); obtain ⟨i066, hi066, _, hsz66, _⟩ := info_parts info57; have hroom66 : t494.length ≤ co67 := (Kd.R_reads' HO496.out).2.1; have hC66 : Kd.C k57 _ Ao67 t494.length t494 := (Kd.R_reads' HO496.out).2.2; have hcut66 := cut_to (P := Tryz.prog) 46 57 .i64 Tryz.underlying46 hi066 Ao67 t494.length co67 (t465.length : Int) (of_decide_eq_true (by first | (with_reducible assumption) | assumption)) q66 hroom66; have hr66 := Kd.C_take (m := ((t465.length : Int) : Int).toNat) hC66 (by omega); have hy66 : y497.length = ((t465.length : Int) : Int).toNat := (by rw [Ny497.out, List.length_take]; omega); rw [← Ny497.out] at hr66; rw [← hy66] at hcut66; have HR500 := Aside0.mk hr66; have HC500 := Aside0.mk (show y497.length ≤ co67 from by omega); clear hr66 hC66 hroom66 hi066 hsz66; have KY66 := Aside0.mk hy66; clear hy66; have KL66 := Aside0.mk (show ((t465.length : Int) : Int).toNat ≤ t494.length from by omega); replace q66 := eq_true q66) | (go_at_call 36; (with_reducible refine (quant_Normal.calls kj35 _ _ y497 t501 t502 _ ?side1 ?side2 A62.out (Glob.below hG.toGlob (by repeat (first | (with_reducible first | exact HB.out | apply below_alloc | apply pw_below_drewN | apply below_drew1) | exact HB.out)))).mono ?_); (case side1 => repeat (first | exact (by repeat (first | (with_reducible exact HR500.out) | (with_reducible refine Kd.C_alloc ?_ _) | (with_reducible refine Kd.C_drewN ?_ _) | (with_reducible refine Kd.C_drew ?_) | exact HR500.out)) | (with_reducible refine Kd.C_alloc ?_ _) | (with_reducible refine Kd.C_drewN ?_ _) | (with_reducible refine Kd.C_drew ?_))); (case side2 => exact HC500.out); rintro e w68 ⟨v503, rfl, ho0, hb⟩; have n0_ := Aside0.mk (Kd.R_elder' (by (with_reducible repeat (first | apply Kd.R_alloc | apply Kd.R_drewN | apply Kd.R_drew)); exact HO_5.out) (Kd.R_base ho0) hb); have n1_ := Aside0.mk (Kd.R_elder' (by (with_reducible repeat (first | apply Kd.R_alloc | apply Kd.R_drewN | apply Kd.R_drew)); exact HO496.out) (Kd.R_base ho0) hb); have n2_ := Aside0.mk (Kd.R_lower (Kd.R_new' (Kd.R_new' ho0 (Kd.R_lt (by (with_reducible repeat (first | apply Kd.R_alloc | apply Kd.R_drewN | apply Kd.R_drew)); exact HO_5.out))) (Kd.R_lt (by (with_reducible repeat (first | apply Kd.R_alloc | apply Kd.R_drewN | apply Kd.R_drew)); exact HO496.out))) (below_size (by repeat (first | (with_reducible first | exact HB.out | apply below_alloc | apply pw_below_drewN | apply below_drew1) | exact HB.out)))); have n3_ := Aside0.mk (Kd.C_below (by repeat (first | (with_reducible exact HR464.out) | (with_reducible refine Kd.C_alloc ?_ _) | (with_reducible refine Kd.C_drewN ?_ _) | (with_reducible refine Kd.C_drew ?_) | exact HR464.out)) hb); have n4_ := Aside0.mk (Kd.C_below (by repeat (first | (with_reducible exact HR500.out) | (with_reducible refine Kd.C_alloc ?_ _) | (with_reducible refine Kd.C_drewN ?_ _) | (with_reducible refine Kd.C_drew ?_) | exact HR500.out)) hb); have n5_ := Aside0.mk (below_step (by repeat (first | (with_reducible first | exact HB.out | apply below_alloc | apply pw_below_drewN | apply below_drew1) | exact HB.out)) hb); clear HO_5; clear HO496; clear HR464; clear HR500; clear HB; have HO_5 := n0_; have HO496 := n1_; have HO504 := n2_; have HR464 := n3_; have HR500 := n4_; have HB := n5_; clear n0_ n1_ n2_ n3_ n4_ n5_; (try clear hb); (try clear hb2); (try clear hk); (try clear hi); (try clear ho0))))
             (try simp only [Act.put, List.setIfInBounds_toArray, List.set_cons_zero, List.set_cons_succ])
             go_cut [123] (fun v123 wc => ∃ (kq : Nat) (x123_62 : Bool), v123 = .bool x123_62 ∧ Aside0 (bursarlaw03_QuantOrders.j2 kq l0 t465 x123_62 = some r) ∧ Aside0 (kq ≤ kj35) ∧ Aside0 (Kd.R k57 57 wc w.heap.size (fun _ => True) (.slice Ao64 t465.length co64) t465) ∧ Aside0 (Kd.C k57 wc Ao17 y461.length y461) ∧ Aside0 (Kd.C k57 wc Ao67 y497.length y497) ∧ Aside0 (Below w.heap.size w wc))
             case first =>
              have H := HC63.out
              clear HC63
              replace H := Option.bind_eq_some_iff.mp H
              obtain ⟨t505, A690, H⟩ := H
              replace H : (if (t465.length : Int) ≤ (t505.length : Int) then ((quant_Valid.f kj35 (t505.take ((t465.length : Int) : Int).toNat)).bind fun t512 => (if t512 = 0 then (if t502 = 0 then ((bursarlaw03_same.f kj35 t465 t501).bind fun t513 => (bursarlaw03_QuantOrders.j2 kj35 l0 t465 (!t513))) else (bursarlaw03_QuantOrders.j2 kj35 l0 t465 true)) else (bursarlaw03_QuantOrders.j2 kj35 l0 t465 true))) else (none)) = some r := H
              have A69 := Aside0.mk A690
              clear A690
              have c70b0 := eq_true (of_decide_eq_true (by first | (with_reducible assumption) | assumption) : 0 ≤ (t465.length : Int))
              by_cases c71 : (t465.length : Int) ≤ (t505.length : Int)
              ·rw [if_pos c71] at H
               have c71b0 := eq_true c71
               have c71b1 : decide ((t465.length : Int) ≤ (t505.length : Int)) = true := decide_eq_true c71
               clear c71
               obtain ⟨y508, hy508⟩ : ∃ y_ : List (S57), y_ = (t505.take ((t465.length : Int) : Int).toNat) := ⟨_, rfl⟩
               replace H : ((quant_Valid.f kj35 y508).bind fun t512 => (if t512 = 0 then (if t502 = 0 then ((bursarlaw03_same.f kj35 t465 t501).bind fun t513 => (bursarlaw03_QuantOrders.j2 kj35 l0 t465 (!t513))) else (bursarlaw03_QuantOrders.j2 kj35 l0 t465 true)) else (bursarlaw03_QuantOrders.j2 kj35 l0 t465 true))) = some r := by first | (rw [hy508]; with_reducible exact H) | (have H2_ := (Option.bind_some _ _).symm.trans H; rw [hy508]; with_reducible exact H2_) | (have H2_ := (Option.bind_some _ _).symm.trans H; with_reducible exact H2_) | with_reducible exact H | (rw [hy508]; exact H) | exact H
               have Ny508 := Aside0.mk hy508
               clear hy508
               replace H := Option.bind_eq_some_iff.mp H
               obtain ⟨t512, A720, H⟩ := H
               replace H : (if t512 = 0 then (if t502 = 0 then ((bursarlaw03_same.f kj35 t465 t501).bind fun t513 => (bursarlaw03_QuantOrders.j2 kj35 l0 t465 (!t513))) else (bursarlaw03_QuantOrders.j2 kj35 l0 t465 true)) else (bursarlaw03_QuantOrders.j2 kj35 l0 t465 true)) = some r := H
               have A72 := Aside0.mk A720
               clear A720
               by_cases c73 : t512 = 0
               ·rw [if_pos c73] at H
                have c73b0 : (t512 == 0) = true := beq_iff_eq.mpr c73
                have c73b1 : (t512 != 0) = false := bne_eq_false_iff_eq.mpr c73
                clear c73
                (first | rw [c73b0] | (simp only [i64_w, i32_w]; rw [c73b0]) | skip)
                by_cases c74 : t502 = 0
                ·rw [if_pos c74] at H
                 have c74b0 : (t502 == 0) = true := beq_iff_eq.mpr c74
                 have c74b1 : (t502 != 0) = false := bne_eq_false_iff_eq.mpr c74
                 clear c74
                 replace H := Option.bind_eq_some_iff.mp H
                 obtain ⟨t513, A750, H⟩ := H
                 replace H : (bursarlaw03_QuantOrders.j2 kj35 l0 t465 (!t513)) = some r := H
                 have A75 := Aside0.mk A750
                 clear A750
                 have H' := Aside0.mk H
                 clear H
                 go_wp2_with (first | (go_at_call 29; (with_reducible refine (bursarlaw03_behind.calls _ _ t465 t505 _ ?side1 ?side2 A69.out (GlobM.below hG (by repeat (first | (with_reducible first | exact HB.out | apply below_alloc | apply pw_below_drewN | apply below_drew1) | exact HB.out)))).mono ?_); (case side1 => repeat (first | exact (Kd.R_reads' HO_5.out).2.2 | (with_reducible refine Kd.C_alloc ?_ _) | (with_reducible refine Kd.C_drewN ?_ _) | (with_reducible refine Kd.C_drew ?_))); (case side2 => exact (Kd.R_reads' HO_5.out).2.1); rintro e w76 ⟨v506, rfl, ho0, hb⟩; have n0_ := Aside0.mk (Kd.R_elder' (by (with_reducible repeat (first | apply Kd.R_alloc | apply Kd.R_drewN | apply Kd.R_drew)); exact HO_5.out) (Kd.R_base ho0) hb); have n1_ := Aside0.mk (Kd.R_elder' (by (with_reducible repeat (first | apply Kd.R_alloc | apply Kd.R_drewN | apply Kd.R_drew)); exact HO496.out) (Kd.R_base ho0) hb); have n2_ := Aside0.mk (Kd.R_elder' (by (with_reducible repeat (first | apply Kd.R_alloc | apply Kd.R_drewN | apply Kd.R_drew)); exact HO504.out) (Kd.R_base ho0) hb); have n3_ := Aside0.mk (Kd.R_lower (Kd.R_new' (Kd.R_new' (Kd.R_new' ho0 (Kd.R_lt (by (with_reducible repeat (first | apply Kd.R_alloc | apply Kd.R_drewN | apply Kd.R_drew)); exact HO_5.out))) (Kd.R_lt (by (with_reducible repeat (first | apply Kd.R_alloc | apply Kd.R_drewN | apply Kd.R_drew)); exact HO496.out))) (Kd.R_lt (by (with_reducible repeat (first | apply Kd.R_alloc | apply Kd.R_drewN | apply Kd.R_drew)); exact HO504.out))) (below_size (by repeat (first | (with_reducible first | exact HB.out | apply below_alloc | apply pw_below_drewN | apply below_drew1) | exact HB.out)))); have n4_ := Aside0.mk (Kd.C_below (by repeat (first | (with_reducible exact HR464.out) | (with_reducible refine Kd.C_alloc ?_ _) | (with_reducible refine Kd.C_drewN ?_ _) | (with_reducible refine Kd.C_drew ?_) | exact HR464.out)) hb); have n5_ := Aside0.mk (Kd.C_below (by repeat (first | (with_reducible exact HR500.out) | (with_reducible refine Kd.C_alloc ?_ _) | (with_reducible refine Kd.C_drewN ?_ _) | (with_reducible refine Kd.C_drew ?_) | exact HR500.out)) hb); have n6_ := Aside0.mk (below_step (by repeat (first | (with_reducible first | exact HB.out | apply below_alloc | apply pw_below_drewN | apply below_drew1) | exact HB.out)) hb); clear HO_5; clear HO496; clear HO504; clear HR464; clear HR500; clear HB; have HO_5 := n0_; have HO496 := n1_; have HO504 := n2_; have HO507 := n3_; have HR464 := n4_; have HR500 := n5_; have HB := n6_; clear n0_ n1_ n2_ n3_ n4_ n5_ n6_; (try clear hb); (try clear hb2); (try clear hk); (try clear hi); (try clear ho0); obtain ⟨Ao78, co78, eo78⟩ := Kd.R_slice HO507.out; subst eo78; have q77 : ((t465.length : Int) : Int) ≤ ((t505.length : Int) : Int) := of_decide_eq_true (by first | (with_reducible assumption) | assumption); obtain ⟨i077, hi077, _, hsz77, _⟩ := info_parts info57; have hroom77 : t505.length ≤ co78 := (Kd.R_reads' HO507.out).2.1; have hC77 : Kd.C k57 _ Ao78 t505.length t505 := (Kd.R_reads' HO507.out).2.2; have hcut77 := cut_to (P := Tryz.prog) 46 57 .i64 Tryz.underlying46 hi077 Ao78 t505.length co78 (t465.length : Int) (of_decide_eq_true (by first | (with_reducible assumption) | assumption)) q77 hroom77; have hr77 := Kd.C_take (m := ((t465.length : Int) : Int).toNat) hC77 (by omega); have hy77 : y508.length = ((t465.length : Int) : Int).toNat := (by rw [Ny508.out, List.length_take]; omega); rw [← Ny508.out] at hr77; rw [← hy77] at hcut77; have HR511 := Aside0.mk hr77; have HC511 := Aside0.mk (show y508.length ≤ co78 from by omega); clear hr77 hC77 hroom77 hi077 hsz77; have KY77 := Aside0.mk hy77; clear hy77; have KL77 := Aside0.mk (show ((t465.length : Int) : Int).toNat ≤ t505.length from by omega); replace q77 := eq_true q77) | (go_at_call 40; (with_reducible refine (quant_Valid.calls kj35 _ _ y508 t512 _ ?side1 ?side2 A72.out (Glob.below hG.toGlob (by repeat (first | (with_reducible first | exact HB.out | apply below_alloc | apply pw_below_drewN | apply below_drew1) | exact HB.out)))).mono ?_); (case side1 => repeat (first | exact (by repeat (first | (with_reducible exact HR511.out) | (with_reducible refine Kd.C_alloc ?_ _) | (with_reducible refine Kd.C_drewN ?_ _) | (with_reducible refine Kd.C_drew ?_) | exact HR511.out)) | (with_reducible refine Kd.C_alloc ?_ _) | (with_reducible refine Kd.C_drewN ?_ _) | (with_reducible refine Kd.C_drew ?_))); (case side2 => exact HC511.out); rintro e w79 ⟨rfl, hb⟩; have n0_ := Aside0.mk (Kd.R_below (by (with_reducible repeat (first | apply Kd.R_alloc | apply Kd.R_drewN | apply Kd.R_drew)); exact HO_5.out) hb); have n1_ := Aside0.mk (Kd.R_below (by (with_reducible repeat (first | apply Kd.R_alloc | apply Kd.R_drewN | apply Kd.R_drew)); exact HO496.out) hb); have n2_ := Aside0.mk (Kd.R_below (by (with_reducible repeat (first | apply Kd.R_alloc | apply Kd.R_drewN | apply Kd.R_drew)); exact HO504.out) hb); have n3_ := Aside0.mk (Kd.R_below (by (with_reducible repeat (first | apply Kd.R_alloc | apply Kd.R_drewN | apply Kd.R_drew)); exact HO507.out) hb); have n4_ := Aside0.mk (Kd.C_below (by repeat (first | (with_reducible exact HR464.out) | (with_reducible refine Kd.C_alloc ?_ _) | (with_reducible refine Kd.C_drewN ?_ _) | (with_reducible refine Kd.C_drew ?_) | exact HR464.out)) hb); have n5_ := Aside0.mk (Kd.C_below (by repeat (first | (with_reducible exact HR500.out) | (with_reducible refine Kd.C_alloc ?_ _) | (with_reducible refine Kd.C_drewN ?_ _) | (with_reducible refine Kd.C_drew ?_) | exact HR500.out)) hb); have n6_ := Aside0.mk (Kd.C_below (by repeat (first | (with_reducible exact HR511.out) | (with_reducible refine Kd.C_alloc ?_ _) | (with_reducible refine Kd.C_drewN ?_ _) | (with_reducible refine Kd.C_drew ?_) | exact HR511.out)) hb); have n7_ := Aside0.mk (below_step (by repeat (first | (with_reducible first | exact HB.out | apply below_alloc | apply pw_below_drewN | apply below_drew1) | exact HB.out)) hb); clear HO_5; clear HO496; clear HO504; clear HO507; clear HR464; clear HR500; clear HR511; clear HB; have HO_5 := n0_; have HO496 := n1_; have HO504 := n2_; have HO507 := n3_; have HR464 := n4_; have HR500 := n5_; have HR511 := n6_; have HB := n7_; clear n0_ n1_ n2_ n3_ n4_ n5_ n6_ n7_; (try clear hb); (try clear hb2); (try clear hk); (try clear hi); obtain ⟨Ao80, co80, eo80⟩ := Kd.R_slice HO504.out; subst eo80) | (go_at_call 39; (with_reducible refine (bursarlaw03_same.calls kj35 _ _ t465 _ _ t501 t513 _ ?side1 ?side2 ?side3 ?side4 A75.out).mono ?_); (case side1 => repeat (first | exact (Kd.R_reads' HO_5.out).2.2 | (with_reducible refine Kd.C_alloc ?_ _) | (with_reducible refine Kd.C_drewN ?_ _) | (with_reducible refine Kd.C_drew ?_))); (case side2 => exact (Kd.R_reads' HO_5.out).2.1); (case side3 => repeat (first | exact (Kd.R_reads' HO504.out).2.2 | (with_reducible refine Kd.C_alloc ?_ _) | (with_reducible refine Kd.C_drewN ?_ _) | (with_reducible refine Kd.C_drew ?_))); (case side4 => exact (Kd.R_reads' HO504.out).2.1); rintro e w' ⟨rfl, ⟨nd, rfl⟩⟩; (try first | exact ⟨rfl, _, World.drewN_drewN _ _ _⟩ | exact ⟨rfl, _, Eq.trans (World.drewN_drewN _ _ _) (congrArg (World.drewN _) (Nat.add_assoc _ _ _))⟩)))
                 repeat (go_quiet (first | (go_at_call 29; (with_reducible refine (bursarlaw03_behind.calls _ _ t465 t505 _ ?side1 ?side2 A69.out (GlobM.below hG (by repeat (first | (with_reducible first | exact HB.out | apply below_alloc | apply pw_below_drewN | apply below_drew1) | exact HB.out)))).mono ?_); (case side1 => repeat (first | exact (Kd.R_reads' HO_5.out).2.2 | (with_reducible refine Kd.C_alloc ?_ _) | (with_reducible refine Kd.C_drewN ?_ _) | (with_reducible refine Kd.C_drew ?_))); (case side2 => exact (Kd.R_reads' HO_5.out).2.1); rintro e w76 ⟨v506, rfl, ho0, hb⟩; have n0_ := Aside0.mk (Kd.R_elder' (by (with_reducible repeat (first | apply Kd.R_alloc | apply Kd.R_drewN | apply Kd.R_drew)); exact HO_5.out) (Kd.R_base ho0) hb); have n1_ := Aside0.mk (Kd.R_elder' (by (with_reducible repeat (first | apply Kd.R_alloc | apply Kd.R_drewN | apply Kd.R_drew)); exact HO496.out) (Kd.R_base ho0) hb); have n2_ := Aside0.mk (Kd.R_elder' (by (with_reducible repeat (first | apply Kd.R_alloc | apply Kd.R_drewN | apply Kd.R_drew)); exact HO504.out) (Kd.R_base ho0) hb); have n3_ := Aside0.mk (Kd.R_lower (Kd.R_new' (Kd.R_new' (Kd.R_new' ho0 (Kd.R_lt (by (with_reducible repeat (first | apply Kd.R_alloc | apply Kd.R_drewN | apply Kd.R_drew)); exact HO_5.out))) (Kd.R_lt (by (with_reducible repeat (first | apply Kd.R_alloc | apply Kd.R_drewN | apply Kd.R_drew)); exact HO496.out))) (Kd.R_lt (by (with_reducible repeat (first | apply Kd.R_alloc | apply Kd.R_drewN | apply Kd.R_drew)); exact HO504.out))) (below_size (by repeat (first | (with_reducible first | exact HB.out | apply below_alloc | apply pw_below_drewN | apply below_drew1) | exact HB.out)))); have n4_ := Aside0.mk (Kd.C_below (by repeat (first | (with_reducible exact HR464.out) | (with_reducible refine Kd.C_alloc ?_ _) | (with_reducible refine Kd.C_drewN ?_ _) | (with_reducible refine Kd.C_drew ?_) | exact HR464.out)) hb); have n5_ := Aside0.mk (Kd.C_below (by repeat (first | (with_reducible exact HR500.out) | (with_reducible refine Kd.C_alloc ?_ _) | (with_reducible refine Kd.C_drewN ?_ _) | (with_reducible refine Kd.C_drew ?_) | exact HR500.out)) hb); have n6_ := Aside0.mk (below_step (by repeat (first | (with_reducible first | exact HB.out | apply below_alloc | apply pw_below_drewN | apply below_drew1) | exact HB.out)) hb); clear HO_5; clear HO496; clear HO504; clear HR464; clear HR500; clear HB; have HO_5 := n0_; have HO496 := n1_; have HO504 := n2_; have HO507 := n3_; have HR464 := n4_; have HR500 := n5_; have HB := n6_; clear n0_ n1_ n2_ n3_ n4_ n5_ n6_; (try clear hb); (try clear hb2); (try clear hk); (try clear hi); (try clear ho0); obtain ⟨Ao78, co78, eo78⟩ := Kd.R_slice HO507.out; subst eo78; have q77 : ((t465.length : Int) : Int) ≤ ((t505.length : Int) : Int) := of_decide_eq_true (by first | (with_reducible assumption) | assumption); obtain ⟨i077, hi077, _, hsz77, _⟩ := info_parts info57; have hroom77 : t505.length ≤ co78 := (Kd.R_reads' HO507.out).2.1; have hC77 : Kd.C k57 _ Ao78 t505.length t505 := (Kd.R_reads' HO507.out).2.2; have hcut77 := cut_to (P := Tryz.prog) 46 57 .i64 Tryz.underlying46 hi077 Ao78 t505.length co78 (t465.length : Int) (of_decide_eq_true (by first | (with_reducible assumption) | assumption)) q77 hroom77; have hr77 := Kd.C_take (m := ((t465.length : Int) : Int).toNat) hC77 (by omega); have hy77 : y508.length = ((t465.length : Int) : Int).toNat := (by rw [Ny508.out, List.length_take]; omega); rw [← Ny508.out] at hr77; rw [← hy77] at hcut77; have HR511 := Aside0.mk hr77; have HC511 := Aside0.mk (show y508.length ≤ co78 from by omega); clear hr77 hC77 hroom77 hi077 hsz77; have KY77 := Aside0.mk hy77; clear hy77; have KL77 := Aside0.mk (show ((t465.length : Int) : Int).toNat ≤ t505.length from by omega); replace q77 := eq_true q77) | (go_at_call 40; (with_reducible refine (quant_Valid.calls kj35 _ _ y508 t512 _ ?side1 ?side2 A72.out (Glob.below hG.toGlob (by repeat (first | (with_reducible first | exact HB.out | apply below_alloc | apply pw_below_drewN | apply below_drew1) | exact HB.out)))).mono ?_); (case side1 => repeat (first | exact (by repeat (first | (with_reducible exact HR511.out) | (with_reducible refine Kd.C_alloc ?_ _) | (with_reducible refine Kd.C_drewN ?_ _) | (with_reducible refine Kd.C_drew ?_) | exact HR511.out)) | (with_reducible refine Kd.C_alloc ?_ _) | (with_reducible refine Kd.C_drewN ?_ _) | (with_reducible refine Kd.C_drew ?_))); (case side2 => exact HC511.out); rintro e w79 ⟨rfl, hb⟩; have n0_ := Aside0.mk (Kd.R_below (by (with_reducible repeat (first | apply Kd.R_alloc | apply Kd.R_drewN | apply Kd.R_drew)); exact HO_5.out) hb); have n1_ := Aside0.mk (Kd.R_below (by (with_reducible repeat (first | apply Kd.R_alloc | apply Kd.R_drewN | apply Kd.R_drew)); exact HO496.out) hb); have n2_ := Aside0.mk (Kd.R_below (by (with_reducible repeat (first | apply Kd.R_alloc | apply Kd.R_drewN | apply Kd.R_drew)); exact HO504.out) hb); have n3_ := Aside0.mk (Kd.R_below (by (with_reducible repeat (first | apply Kd.R_alloc | apply Kd.R_drewN | apply Kd.R_drew)); exact HO507.out) hb); have n4_ := Aside0.mk (Kd.C_below (by repeat (first | (with_reducible exact HR464.out) | (with_reducible refine Kd.C_alloc ?_ _) | (with_reducible refine Kd.C_drewN ?_ _) | (with_reducible refine Kd.C_drew ?_) | exact HR464.out)) hb); have n5_ := Aside0.mk (Kd.C_below (by repeat (first | (with_reducible exact HR500.out) | (with_reducible refine Kd.C_alloc ?_ _) | (with_reducible refine Kd.C_drewN ?_ _) | (with_reducible refine Kd.C_drew ?_) | exact HR500.out)) hb); have n6_ := Aside0.mk (Kd.C_below (by repeat (first | (with_reducible exact HR511.out) | (with_reducible refine Kd.C_alloc ?_ _) | (with_reducible refine Kd.C_drewN ?_ _) | (with_reducible refine Kd.C_drew ?_) | exact HR511.out)) hb); have n7_ := Aside0.mk (below_step (by repeat (first | (with_reducible first | exact HB.out | apply below_alloc | apply pw_below_drewN | apply below_drew1) | exact HB.out)) hb); clear HO_5; clear HO496; clear HO504; clear HO507; clear HR464; clear HR500; clear HR511; clear HB; have HO_5 := n0_; have HO496 := n1_; have HO504 := n2_; have HO507 := n3_; have HR464 := n4_; have HR500 := n5_; have HR511 := n6_; have HB := n7_; clear n0_ n1_ n2_ n3_ n4_ n5_ n6_ n7_; (try clear hb); (try clear hb2); (try clear hk); (try clear hi); obtain ⟨Ao80, co80, eo80⟩ := Kd.R_slice HO504.out; subst eo80) | (go_at_call 39; (with_reducible refine (bursarlaw03_same.calls kj35 _ _ t465 _ _ t501 t513 _ ?side1 ?side2 ?side3 ?side4 A75.out).mono ?_); (case side1 => repeat (first | exact (Kd.R_reads' HO_5.out).2.2 | (with_reducible refine Kd.C_alloc ?_ _) | (with_reducible refine Kd.C_drewN ?_ _) | (with_reducible refine Kd.C_drew ?_))); (case side2 => exact (Kd.R_reads' HO_5.out).2.1); (case side3 => repeat (first | exact (Kd.R_reads' HO504.out).2.2 | (with_reducible refine Kd.C_alloc ?_ _) | (with_reducible refine Kd.C_drewN ?_ _) | (with_reducible refine Kd.C_drew ?_))); (case side4 => exact (Kd.R_reads' HO504.out).2.1); rintro e w' ⟨rfl, ⟨nd, rfl⟩⟩; (try first | exact ⟨rfl, _, World.drewN_drewN _ _ _⟩ | exact ⟨rfl, _, Eq.trans (World.drewN_drewN _ _ _) (congrArg (World.drewN _) (Nat.add_assoc _ _ _))⟩))); try go_wp2_with (first | (go_at_call 29; (with_reducible refine (bursarlaw03_behind.calls _ _ t465 t505 _ ?side1 ?side2 A69.out (GlobM.below hG (by repeat (first | (with_reducible first | exact HB.out | apply below_alloc | apply pw_below_drewN | apply below_drew1) | exact HB.out)))).mono ?_); (case side1 => repeat (first | exact (Kd.R_reads' HO_5.out).2.2 | (with_reducible refine Kd.C_alloc ?_ _) | (with_reducible refine Kd.C_drewN ?_ _) | (with_reducible refine Kd.C_drew ?_))); (case side2 => exact (Kd.R_reads' HO_5.out).2.1); rintro e w76 ⟨v506, rfl, ho0, hb⟩; have n0_ := Aside0.mk (Kd.R_elder' (by (with_reducible repeat (first | apply Kd.R_alloc | apply Kd.R_drewN | apply Kd.R_drew)); exact HO_5.out) (Kd.R_base ho0) hb); have n1_ := Aside0.mk (Kd.R_elder' (by (with_reducible repeat (first | apply Kd.R_alloc | apply Kd.R_drewN | apply Kd.R_drew)); exact HO496.out) (Kd.R_base ho0) hb); have n2_ := Aside0.mk (Kd.R_elder' (by (with_reducible repeat (first | apply Kd.R_alloc | apply Kd.R_drewN | apply Kd.R_drew)); exact HO504.out) (Kd.R_base ho0) hb); have n3_ := Aside0.mk (Kd.R_lower (Kd.R_new' (Kd.R_new' (Kd.R_new' ho0 (Kd.R_lt (by (with_reducible repeat (first | apply Kd.R_alloc | apply Kd.R_drewN | apply Kd.R_drew)); exact HO_5.out))) (Kd.R_lt (by (with_reducible repeat (first | apply Kd.R_alloc | apply Kd.R_drewN | apply Kd.R_drew)); exact HO496.out))) (Kd.R_lt (by (with_reducible repeat (first | apply Kd.R_alloc | apply Kd.R_drewN | apply Kd.R_drew)); exact HO504.out))) (below_size (by repeat (first | (with_reducible first | exact HB.out | apply below_alloc | apply pw_below_drewN | apply below_drew1) | exact HB.out)))); have n4_ := Aside0.mk (Kd.C_below (by repeat (first | (with_reducible exact HR464.out) | (with_reducible refine Kd.C_alloc ?_ _) | (with_reducible refine Kd.C_drewN ?_ _) | (with_reducible refine Kd.C_drew ?_) | exact HR464.out)) hb); have n5_ := Aside0.mk (Kd.C_below (by repeat (first | (with_reducible exact HR500.out) | (with_reducible refine Kd.C_alloc ?_ _) | (with_reducible refine Kd.C_drewN ?_ _) | (with_reducible refine Kd.C_drew ?_) | exact HR500.out)) hb); have n6_ := Aside0.mk (below_step (by repeat (first | (with_reducible first | exact HB.out | apply below_alloc | apply pw_below_drewN | apply below_drew1) | exact HB.out)) hb); clear HO_5; clear HO496; clear HO504; clear HR464; clear HR500; clear HB; have HO_5 := n0_; have HO496 := n1_; have HO504 := n2_; have HO507 := n3_; have HR464 := n4_; have HR500 := n5_; have HB := n6_; clear n0_ n1_ n2_ n3_ n4_ n5_ n6_; (try clear hb); (try clear hb2); (try clear hk); (try clear hi); (try clear ho0); obtain ⟨Ao78, co78, eo78⟩ := Kd.R_slice HO507.out; subst eo78; have q77 : ((t465.length : Int) : Int) ≤ ((t505.length : Int) : Int) := of_decide_eq_true (by first | (with_reducible assumption) | assumption); obtain ⟨i077, hi077, _, hsz77, _⟩ := info_parts info57; have hroom77 : t505.length ≤ co78 := (Kd.R_reads' HO507.out).2.1; have hC77 : Kd.C k57 _ Ao78 t505.length t505 := (Kd.R_reads' HO507.out).2.2; have hcut77 := cut_to (P := Tryz.prog) 46 57 .i64 Tryz.underlying46 hi077 Ao78 t505.length co78 (t465.length : Int) (of_decide_eq_true (by first | (with_reducible assumption) | assumption)) q77 hroom77; have hr77 := Kd.C_take (m := ((t465.length : Int) : Int).toNat) hC77 (by omega); have hy77 : y508.length = ((t465.length : Int) : Int).toNat := (by rw [Ny508.out, List.length_take]; omega); rw [← Ny508.out] at hr77; rw [← hy77] at hcut77; have HR511 := Aside0.mk hr77; have HC511 := Aside0.mk (show y508.length ≤ co78 from by omega); clear hr77 hC77 hroom77 hi077 hsz77; have KY77 := Aside0.mk hy77; clear hy77; have KL77 := Aside0.mk (show ((t465.length : Int) : Int).toNat ≤ t505.length from by omega); replace q77 := eq_true q77) | (go_at_call 40; (with_reducible refine (quant_Valid.calls kj35 _ _ y508 t512 _ ?side1 ?side2 A72.out (Glob.below hG.toGlob (by repeat (first | (with_reducible first | exact HB.out | apply below_alloc | apply pw_below_drewN | apply below_drew1) | exact HB.out)))).mono ?_); (case side1 => repeat (first | exact (by repeat (first | (with_reducible exact HR511.out) | (with_reducible refine Kd.C_alloc ?_ _) | (with_reducible refine Kd.C_drewN ?_ _) | (with_reducible refine Kd.C_drew ?_) | exact HR511.out)) | (with_reducible refine Kd.C_alloc ?_ _) | (with_reducible refine Kd.C_drewN ?_ _) | (with_reducible refine Kd.C_drew ?_))); (case side2 => exact HC511.out); rintro e w79 ⟨rfl, hb⟩; have n0_ := Aside0.mk (Kd.R_below (by (with_reducible repeat (first | apply Kd.R_alloc | apply Kd.R_drewN | apply Kd.R_drew)); exact HO_5.out) hb); have n1_ := Aside0.mk (Kd.R_below (by (with_reducible repeat (first | apply Kd.R_alloc | apply Kd.R_drewN | apply Kd.R_drew)); exact HO496.out) hb); have n2_ := Aside0.mk (Kd.R_below (by (with_reducible repeat (first | apply Kd.R_alloc | apply Kd.R_drewN | apply Kd.R_drew)); exact HO504.out) hb); have n3_ := Aside0.mk (Kd.R_below (by (with_reducible repeat (first | apply Kd.R_alloc | apply Kd.R_drewN | apply Kd.R_drew)); exact HO507.out) hb); have n4_ := Aside0.mk (Kd.C_below (by repeat (first | (with_reducible exact HR464.out) | (with_reducible refine Kd.C_alloc ?_ _) | (with_reducible refine Kd.C_drewN ?_ _) | (with_reducible refine Kd.C_drew ?_) | exact HR464.out)) hb); have n5_ := Aside0.mk (Kd.C_below (by repeat (first | (with_reducible exact HR500.out) | (with_reducible refine Kd.C_alloc ?_ _) | (with_reducible refine Kd.C_drewN ?_ _) | (with_reducible refine Kd.C_drew ?_) | exact HR500.out)) hb); have n6_ := Aside0.mk (Kd.C_below (by repeat (first | (with_reducible exact HR511.out) | (with_reducible refine Kd.C_alloc ?_ _) | (with_reducible refine Kd.C_drewN ?_ _) | (with_reducible refine Kd.C_drew ?_) | exact HR511.out)) hb); have n7_ := Aside0.mk (below_step (by repeat (first | (with_reducible first | exact HB.out | apply below_alloc | apply pw_below_drewN | apply below_drew1) | exact HB.out)) hb); clear HO_5; clear HO496; clear HO504; clear HO507; clear HR464; clear HR500; clear HR511; clear HB; have HO_5 := n0_; have HO496 := n1_; have HO504 := n2_; have HO507 := n3_; have HR464 := n4_; have HR500 := n5_; have HR511 := n6_; have HB := n7_; clear n0_ n1_ n2_ n3_ n4_ n5_ n6_ n7_; (try clear hb); (try clear hb2); (try clear hk); (try clear hi); obtain ⟨Ao80, co80, eo80⟩ := Kd.R_slice HO504.out; subst eo80) | (go_at_call 39; (with_reducible refine (bursarlaw03_same.calls kj35 _ _ t465 _ _ t501 t513 _ ?side1 ?side2 ?side3 ?side4 A75.out).mono ?_); (case side1 => repeat (first | exact (Kd.R_reads' HO_5.out).2.2 | (with_reducible refine Kd.C_alloc ?_ _) | (with_reducible refine Kd.C_drewN ?_ _) | (with_reducible refine Kd.C_drew ?_))); (case side2 => exact (Kd.R_reads' HO_5.out).2.1); (case side3 => repeat (first | exact (Kd.R_reads' HO504.out).2.2 | (with_reducible refine Kd.C_alloc ?_ _) | (with_reducible refine Kd.C_drewN ?_ _) | (with_reducible refine Kd.C_drew ?_))); (case side4 => exact (Kd.R_reads' HO504.out).2.1); rintro e w' ⟨rfl, ⟨nd, rfl⟩⟩; (try first | exact ⟨rfl, _, World.drewN_drewN _ _ _⟩ | exact ⟨rfl, _, Eq.trans (World.drewN_drewN _ _ _) (congrArg (World.drewN _) (Nat.add_assoc _ _ _))⟩))))
                 go_meet
                 case rel => exact ⟨_, (!t513), (by first | rfl | (simp; done) | (simp [*]; done) | (simp; rw [Bool.eq_iff_iff]; simp; done) | (rw [Bool.eq_iff_iff]; simp; done)), H', ⟨by have := HJ12.out; have := HJ35.out; first | omega | exact Nat.le_refl _⟩, ⟨by (with_reducible repeat (first | apply Kd.R_alloc | apply Kd.R_drewN | apply Kd.R_drew)); exact Kd.R_mono HO_5.out (fun _ hk => trivial)⟩, ⟨by repeat (first | (with_reducible exact HR464.out) | (with_reducible refine Kd.C_alloc ?_ _) | (with_reducible refine Kd.C_drewN ?_ _) | (with_reducible refine Kd.C_drew ?_) | exact HR464.out)⟩, ⟨by repeat (first | (with_reducible exact HR500.out) | (with_reducible refine Kd.C_alloc ?_ _) | (with_reducible refine Kd.C_drewN ?_ _) | (with_reducible refine Kd.C_drew ?_) | exact HR500.out)⟩, ⟨by repeat (first | (with_reducible first | exact HB.out | apply below_alloc | apply pw_below_drewN | apply below_drew1) | exact HB.out)⟩⟩
                ·rw [if_neg c74] at H
                 have c74b0 : (t502 == 0) = false := beq_eq_false_iff_ne.mpr c74
                 have c74b1 : (t502 != 0) = true := bne_iff_ne.mpr c74
                 have H' := Aside0.mk H
                 clear H
                 go_wp2_with (first | (go_at_call 29; (with_reducible refine (bursarlaw03_behind.calls _ _ t465 t505 _ ?side1 ?side2 A69.out (GlobM.below hG (by repeat (first | (with_reducible first | exact HB.out | apply below_alloc | apply pw_below_drewN | apply below_drew1) | exact HB.out)))).mono ?_); (case side1 => repeat (first | exact (Kd.R_reads' HO_5.out).2.2 | (with_reducible refine Kd.C_alloc ?_ _) | (with_reducible refine Kd.C_drewN ?_ _) | (with_reducible refine Kd.C_drew ?_))); (case side2 => exact (Kd.R_reads' HO_5.out).2.1); rintro e w81 ⟨v506, rfl, ho0, hb⟩; have n0_ := Aside0.mk (Kd.R_elder' (by (with_reducible repeat (first | apply Kd.R_alloc | apply Kd.R_drewN | apply Kd.R_drew)); exact HO_5.out) (Kd.R_base ho0) hb); have n1_ := Aside0.mk (Kd.R_elder' (by (with_reducible repeat (first | apply Kd.R_alloc | apply Kd.R_drewN | apply Kd.R_drew)); exact HO496.out) (Kd.R_base ho0) hb); have n2_ := Aside0.mk (Kd.R_elder' (by (with_reducible repeat (first | apply Kd.R_alloc | apply Kd.R_drewN | apply Kd.R_drew)); exact HO504.out) (Kd.R_base ho0) hb); have n3_ := Aside0.mk (Kd.R_lower (Kd.R_new' (Kd.R_new' (Kd.R_new' ho0 (Kd.R_lt (by (with_reducible repeat (first | apply Kd.R_alloc | apply Kd.R_drewN | apply Kd.R_drew)); exact HO_5.out))) (Kd.R_lt (by (with_reducible repeat (first | apply Kd.R_alloc | apply Kd.R_drewN | apply Kd.R_drew)); exact HO496.out))) (Kd.R_lt (by (with_reducible repeat (first | apply Kd.R_alloc | apply Kd.R_drewN | apply Kd.R_drew)); exact HO504.out))) (below_size (by repeat (first | (with_reducible first | exact HB.out | apply below_alloc | apply pw_below_drewN | apply below_drew1) | exact HB.out)))); have n4_ := Aside0.mk (Kd.C_below (by repeat (first | (with_reducible exact HR464.out) | (with_reducible refine Kd.C_alloc ?_ _) | (with_reducible refine Kd.C_drewN ?_ _) | (with_reducible refine Kd.C_drew ?_) | exact HR464.out)) hb); have n5_ := Aside0.mk (Kd.C_below (by repeat (first | (with_reducible exact HR500.out) | (with_reducible refine Kd.C_alloc ?_ _) | (with_reducible refine Kd.C_drewN ?_ _) | (with_reducible refine Kd.C_drew ?_) | exact HR500.out)) hb); have n6_ := Aside0.mk (below_step (by repeat (first | (with_reducible first | exact HB.out | apply below_alloc | apply pw_below_drewN | apply below_drew1) | exact HB.out)) hb); clear HO_5; clear HO496; clear HO504; clear HR464; clear HR500; clear HB; have HO_5 := n0_; have HO496 := n1_; have HO504 := n2_; have HO507 := n3_; have HR464 := n4_; have HR500 := n5_; have HB := n6_; clear n0_ n1_ n2_ n3_ n4_ n5_ n6_; (try clear hb); (try clear hb2); (try clear hk); (try clear hi); (try clear ho0); obtain ⟨Ao83, co83, eo83⟩ := Kd.R_slice HO507.out; subst eo83; have q82 : ((t465.length : Int) : Int) ≤ ((t505.length : Int) : Int) := of_decide_eq_true (by first | (with_reducible assumption) | assumption); obtain ⟨i082, hi082, _, hsz82, _⟩ := info_parts info57; have hroom82 : t505.length ≤ co83 := (Kd.R_reads' HO507.out).2.1; have hC82 : Kd.C k57 _ Ao83 t505.length t505 := (Kd.R_reads' HO507.out).2.2; (try clear hcut77); have hcut82 := cut_to (P := Tryz.prog) 46 57 .i64 Tryz.underlying46 hi082 Ao83 t505.length co83 (t465.length : Int) (of_decide_eq_true (by first | (with_reducible assumption) | assumption)) q82 hroom82; have hr82 := Kd.C_take (m := ((t465.length : Int) : Int).toNat) hC82 (by omega); have hy82 : y508.length = ((t465.length : Int) : Int).toNat := (by rw [Ny508.out, List.length_take]; omega); rw [← Ny508.out] at hr82; rw [← hy82] at hcut82; have HR511 := Aside0.mk hr82; have HC511 := Aside0.mk (show y508.length ≤ co83 from by omega); clear hr82 hC82 hroom82 hi082 hsz82; have KY82 := Aside0.mk hy82; clear hy82; have KL82 := Aside0.mk (show ((t465.length : Int) : Int).toNat ≤ t505.length from by omega); replace q82 := eq_true q82) | (go_at_call 40; (with_reducible refine (quant_Valid.calls kj35 _ _ y508 t512 _ ?side1 ?side2 A72.out (Glob.below hG.toGlob (by repeat (first | (with_reducible first | exact HB.out | apply below_alloc | apply pw_below_drewN | apply below_drew1) | exact HB.out)))).mono ?_); (case side1 => repeat (first | exact (by repeat (first | (with_reducible exact HR511.out) | (with_reducible refine Kd.C_alloc ?_ _) | (with_reducible refine Kd.C_drewN ?_ _) | (with_reducible refine Kd.C_drew ?_) | exact HR511.out)) | (with_reducible refine Kd.C_alloc ?_ _) | (with_reducible refine Kd.C_drewN ?_ _) | (with_reducible refine Kd.C_drew ?_))); (case side2 => exact HC511.out); rintro e w84 ⟨rfl, hb⟩; have n0_ := Aside0.mk (Kd.R_below (by (with_reducible repeat (first | apply Kd.R_alloc | apply Kd.R_drewN | apply Kd.R_drew)); exact HO_5.out) hb); have n1_ := Aside0.mk (Kd.R_below (by (with_reducible repeat (first | apply Kd.R_alloc | apply Kd.R_drewN | apply Kd.R_drew)); exact HO496.out) hb); have n2_ := Aside0.mk (Kd.R_below (by (with_reducible repeat (first | apply Kd.R_alloc | apply Kd.R_drewN | apply Kd.R_drew)); exact HO504.out) hb); have n3_ := Aside0.mk (Kd.R_below (by (with_reducible repeat (first | apply Kd.R_alloc | apply Kd.R_drewN | apply Kd.R_drew)); exact HO507.out) hb); have n4_ := Aside0.mk (Kd.C_below (by repeat (first | (with_reducible exact HR464.out) | (with_reducible refine Kd.C_alloc ?_ _) | (with_reducible refine Kd.C_drewN ?_ _) | (with_reducible refine Kd.C_drew ?_) | exact HR464.out)) hb); have n5_ := Aside0.mk (Kd.C_below (by repeat (first | (with_reducible exact HR500.out) | (with_reducible refine Kd.C_alloc ?_ _) | (with_reducible refine Kd.C_drewN ?_ _) | (with_reducible refine Kd.C_drew ?_) | exact HR500.out)) hb); have n6_ := Aside0.mk (Kd.C_below (by repeat (first | (with_reducible exact HR511.out) | (with_reducible refine Kd.C_alloc ?_ _) | (with_reducible refine Kd.C_drewN ?_ _) | (with_reducible refine Kd.C_drew ?_) | exact HR511.out)) hb); have n7_ := Aside0.mk (below_step (by repeat (first | (with_reducible first | exact HB.out | apply below_alloc | apply pw_below_drewN | apply below_drew1) | exact HB.out)) hb); clear HO_5; clear HO496; clear HO504; clear HO507; clear HR464; clear HR500; clear HR511; clear HB; have HO_5 := n0_; have HO496 := n1_; have HO504 := n2_; have HO507 := n3_; have HR464 := n4_; have HR500 := n5_; have HR511 := n6_; have HB := n7_; clear n0_ n1_ n2_ n3_ n4_ n5_ n6_ n7_; (try clear hb); (try clear hb2); (try clear hk); (try clear hi)))
                 repeat (go_quiet (first | (go_at_call 29; (with_reducible refine (bursarlaw03_behind.calls _ _ t465 t505 _ ?side1 ?side2 A69.out (GlobM.below hG (by repeat (first | (with_reducible first | exact HB.out | apply below_alloc | apply pw_below_drewN | apply below_drew1) | exact HB.out)))).mono ?_); (case side1 => repeat (first | exact (Kd.R_reads' HO_5.out).2.2 | (with_reducible refine Kd.C_alloc ?_ _) | (with_reducible refine Kd.C_drewN ?_ _) | (with_reducible refine Kd.C_drew ?_))); (case side2 => exact (Kd.R_reads' HO_5.out).2.1); rintro e w81 ⟨v506, rfl, ho0, hb⟩; have n0_ := Aside0.mk (Kd.R_elder' (by (with_reducible repeat (first | apply Kd.R_alloc | apply Kd.R_drewN | apply Kd.R_drew)); exact HO_5.out) (Kd.R_base ho0) hb); have n1_ := Aside0.mk (Kd.R_elder' (by (with_reducible repeat (first | apply Kd.R_alloc | apply Kd.R_drewN | apply Kd.R_drew)); exact HO496.out) (Kd.R_base ho0) hb); have n2_ := Aside0.mk (Kd.R_elder' (by (with_reducible repeat (first | apply Kd.R_alloc | apply Kd.R_drewN | apply Kd.R_drew)); exact HO504.out) (Kd.R_base ho0) hb); have n3_ := Aside0.mk (Kd.R_lower (Kd.R_new' (Kd.R_new' (Kd.R_new' ho0 (Kd.R_lt (by (with_reducible repeat (first | apply Kd.R_alloc | apply Kd.R_drewN | apply Kd.R_drew)); exact HO_5.out))) (Kd.R_lt (by (with_reducible repeat (first | apply Kd.R_alloc | apply Kd.R_drewN | apply Kd.R_drew)); exact HO496.out))) (Kd.R_lt (by (with_reducible repeat (first | apply Kd.R_alloc | apply Kd.R_drewN | apply Kd.R_drew)); exact HO504.out))) (below_size (by repeat (first | (with_reducible first | exact HB.out | apply below_alloc | apply pw_below_drewN | apply below_drew1) | exact HB.out)))); have n4_ := Aside0.mk (Kd.C_below (by repeat (first | (with_reducible exact HR464.out) | (with_reducible refine Kd.C_alloc ?_ _) | (with_reducible refine Kd.C_drewN ?_ _) | (with_reducible refine Kd.C_drew ?_) | exact HR464.out)) hb); have n5_ := Aside0.mk (Kd.C_below (by repeat (first | (with_reducible exact HR500.out) | (with_reducible refine Kd.C_alloc ?_ _) | (with_reducible refine Kd.C_drewN ?_ _) | (with_reducible refine Kd.C_drew ?_) | exact HR500.out)) hb); have n6_ := Aside0.mk (below_step (by repeat (first | (with_reducible first | exact HB.out | apply below_alloc | apply pw_below_drewN | apply below_drew1) | exact HB.out)) hb); clear HO_5; clear HO496; clear HO504; clear HR464; clear HR500; clear HB; have HO_5 := n0_; have HO496 := n1_; have HO504 := n2_; have HO507 := n3_; have HR464 := n4_; have HR500 := n5_; have HB := n6_; clear n0_ n1_ n2_ n3_ n4_ n5_ n6_; (try clear hb); (try clear hb2); (try clear hk); (try clear hi); (try clear ho0); obtain ⟨Ao83, co83, eo83⟩ := Kd.R_slice HO507.out; subst eo83; have q82 : ((t465.length : Int) : Int) ≤ ((t505.length : Int) : Int) := of_decide_eq_true (by first | (with_reducible assumption) | assumption); obtain ⟨i082, hi082, _, hsz82, _⟩ := info_parts info57; have hroom82 : t505.length ≤ co83 := (Kd.R_reads' HO507.out).2.1; have hC82 : Kd.C k57 _ Ao83 t505.length t505 := (Kd.R_reads' HO507.out).2.2; (try clear hcut77); have hcut82 := cut_to (P := Tryz.prog) 46 57 .i64 Tryz.underlying46 hi082 Ao83 t505.length co83 (t465.length : Int) (of_decide_eq_true (by first | (with_reducible assumption) | assumption)) q82 hroom82; have hr82 := Kd.C_take (m := ((t465.length : Int) : Int).toNat) hC82 (by omega); have hy82 : y508.length = ((t465.length : Int) : Int).toNat := (by rw [Ny508.out, List.length_take]; omega); rw [← Ny508.out] at hr82; rw [← hy82] at hcut82; have HR511 := Aside0.mk hr82; have HC511 := Aside0.mk (show y508.length ≤ co83 from by omega); clear hr82 hC82 hroom82 hi082 hsz82; have KY82 := Aside0.mk hy82; clear hy82; have KL82 := Aside0.mk (show ((t465.length : Int) : Int).toNat ≤ t505.length from by omega); replace q82 := eq_true q82) | (go_at_call 40; (with_reducible refine (quant_Valid.calls kj35 _ _ y508 t512 _ ?side1 ?side2 A72.out (Glob.below hG.toGlob (by repeat (first | (with_reducible first | exact HB.out | apply below_alloc | apply pw_below_drewN | apply below_drew1) | exact HB.out)))).mono ?_); (case side1 => repeat (first | exact (by repeat (first | (with_reducible exact HR511.out) | (with_reducible refine Kd.C_alloc ?_ _) | (with_reducible refine Kd.C_drewN ?_ _) | (with_reducible refine Kd.C_drew ?_) | exact HR511.out)) | (with_reducible refine Kd.C_alloc ?_ _) | (with_reducible refine Kd.C_drewN ?_ _) | (with_reducible refine Kd.C_drew ?_))); (case side2 => exact HC511.out); rintro e w84 ⟨rfl, hb⟩; have n0_ := Aside0.mk (Kd.R_below (by (with_reducible repeat (first | apply Kd.R_alloc | apply Kd.R_drewN | apply Kd.R_drew)); exact HO_5.out) hb); have n1_ := Aside0.mk (Kd.R_below (by (with_reducible repeat (first | apply Kd.R_alloc | apply Kd.R_drewN | apply Kd.R_drew)); exact HO496.out) hb); have n2_ := Aside0.mk (Kd.R_below (by (with_reducible repeat (first | apply Kd.R_alloc | apply Kd.R_drewN | apply Kd.R_drew)); exact HO504.out) hb); have n3_ := Aside0.mk (Kd.R_below (by (with_reducible repeat (first | apply Kd.R_alloc | apply Kd.R_drewN | apply Kd.R_drew)); exact HO507.out) hb); have n4_ := Aside0.mk (Kd.C_below (by repeat (first | (with_reducible exact HR464.out) | (with_reducible refine Kd.C_alloc ?_ _) | (with_reducible refine Kd.C_drewN ?_ _) | (with_reducible refine Kd.C_drew ?_) | exact HR464.out)) hb); have n5_ := Aside0.mk (Kd.C_below (by repeat (first | (with_reducible exact HR500.out) | (with_reducible refine Kd.C_alloc ?_ _) | (with_reducible refine Kd.C_drewN ?_ _) | (with_reducible refine Kd.C_drew ?_) | exact HR500.out)) hb); have n6_ := Aside0.mk (Kd.C_below (by repeat (first | (with_reducible exact HR511.out) | (with_reducible refine Kd.C_alloc ?_ _) | (with_reducible refine Kd.C_drewN ?_ _) | (with_reducible refine Kd.C_drew ?_) | exact HR511.out)) hb); have n7_ := Aside0.mk (below_step (by repeat (first | (with_reducible first | exact HB.out | apply below_alloc | apply pw_below_drewN | apply below_drew1) | exact HB.out)) hb); clear HO_5; clear HO496; clear HO504; clear HO507; clear HR464; clear HR500; clear HR511; clear HB; have HO_5 := n0_; have HO496 := n1_; have HO504 := n2_; have HO507 := n3_; have HR464 := n4_; have HR500 := n5_; have HR511 := n6_; have HB := n7_; clear n0_ n1_ n2_ n3_ n4_ n5_ n6_ n7_; (try clear hb); (try clear hb2); (try clear hk); (try clear hi))); try go_wp2_with (first | (go_at_call 29; (with_reducible refine (bursarlaw03_behind.calls _ _ t465 t505 _ ?side1 ?side2 A69.out (GlobM.below hG (by repeat (first | (with_reducible first | exact HB.out | apply below_alloc | apply pw_below_drewN | apply below_drew1) | exact HB.out)))).mono ?_); (case side1 => repeat (first | exact (Kd.R_reads' HO_5.out).2.2 | (with_reducible refine Kd.C_alloc ?_ _) | (with_reducible refine Kd.C_drewN ?_ _) | (with_reducible refine Kd.C_drew ?_))); (case side2 => exact (Kd.R_reads' HO_5.out).2.1); rintro e w81 ⟨v506, rfl, ho0, hb⟩; have n0_ := Aside0.mk (Kd.R_elder' (by (with_reducible repeat (first | apply Kd.R_alloc | apply Kd.R_drewN | apply Kd.R_drew)); exact HO_5.out) (Kd.R_base ho0) hb); have n1_ := Aside0.mk (Kd.R_elder' (by (with_reducible repeat (first | apply Kd.R_alloc | apply Kd.R_drewN | apply Kd.R_drew)); exact HO496.out) (Kd.R_base ho0) hb); have n2_ := Aside0.mk (Kd.R_elder' (by (with_reducible repeat (first | apply Kd.R_alloc | apply Kd.R_drewN | apply Kd.R_drew)); exact HO504.out) (Kd.R_base ho0) hb); have n3_ := Aside0.mk (Kd.R_lower (Kd.R_new' (Kd.R_new' (Kd.R_new' ho0 (Kd.R_lt (by (with_reducible repeat (first | apply Kd.R_alloc | apply Kd.R_drewN | apply Kd.R_drew)); exact HO_5.out))) (Kd.R_lt (by (with_reducible repeat (first | apply Kd.R_alloc | apply Kd.R_drewN | apply Kd.R_drew)); exact HO496.out))) (Kd.R_lt (by (with_reducible repeat (first | apply Kd.R_alloc | apply Kd.R_drewN | apply Kd.R_drew)); exact HO504.out))) (below_size (by repeat (first | (with_reducible first | exact HB.out | apply below_alloc | apply pw_below_drewN | apply below_drew1) | exact HB.out)))); have n4_ := Aside0.mk (Kd.C_below (by repeat (first | (with_reducible exact HR464.out) | (with_reducible refine Kd.C_alloc ?_ _) | (with_reducible refine Kd.C_drewN ?_ _) | (with_reducible refine Kd.C_drew ?_) | exact HR464.out)) hb); have n5_ := Aside0.mk (Kd.C_below (by repeat (first | (with_reducible exact HR500.out) | (with_reducible refine Kd.C_alloc ?_ _) | (with_reducible refine Kd.C_drewN ?_ _) | (with_reducible refine Kd.C_drew ?_) | exact HR500.out)) hb); have n6_ := Aside0.mk (below_step (by repeat (first | (with_reducible first | exact HB.out | apply below_alloc | apply pw_below_drewN | apply below_drew1) | exact HB.out)) hb); clear HO_5; clear HO496; clear HO504; clear HR464; clear HR500; clear HB; have HO_5 := n0_; have HO496 := n1_; have HO504 := n2_; have HO507 := n3_; have HR464 := n4_; have HR500 := n5_; have HB := n6_; clear n0_ n1_ n2_ n3_ n4_ n5_ n6_; (try clear hb); (try clear hb2); (try clear hk); (try clear hi); (try clear ho0); obtain ⟨Ao83, co83, eo83⟩ := Kd.R_slice HO507.out; subst eo83; have q82 : ((t465.length : Int) : Int) ≤ ((t505.length : Int) : Int) := of_decide_eq_true (by first | (with_reducible assumption) | assumption); obtain ⟨i082, hi082, _, hsz82, _⟩ := info_parts info57; have hroom82 : t505.length ≤ co83 := (Kd.R_reads' HO507.out).2.1; have hC82 : Kd.C k57 _ Ao83 t505.length t505 := (Kd.R_reads' HO507.out).2.2; (try clear hcut77); have hcut82 := cut_to (P := Tryz.prog) 46 57 .i64 Tryz.underlying46 hi082 Ao83 t505.length co83 (t465.length : Int) (of_decide_eq_true (by first | (with_reducible assumption) | assumption)) q82 hroom82; have hr82 := Kd.C_take (m := ((t465.length : Int) : Int).toNat) hC82 (by omega); have hy82 : y508.length = ((t465.length : Int) : Int).toNat := (by rw [Ny508.out, List.length_take]; omega); rw [← Ny508.out] at hr82; rw [← hy82] at hcut82; have HR511 := Aside0.mk hr82; have HC511 := Aside0.mk (show y508.length ≤ co83 from by omega); clear hr82 hC82 hroom82 hi082 hsz82; have KY82 := Aside0.mk hy82; clear hy82; have KL82 := Aside0.mk (show ((t465.length : Int) : Int).toNat ≤ t505.length from by omega); replace q82 := eq_true q82) | (go_at_call 40; (with_reducible refine (quant_Valid.calls kj35 _ _ y508 t512 _ ?side1 ?side2 A72.out (Glob.below hG.toGlob (by repeat (first | (with_reducible first | exact HB.out | apply below_alloc | apply pw_below_drewN | apply below_drew1) | exact HB.out)))).mono ?_); (case side1 => repeat (first | exact (by repeat (first | (with_reducible exact HR511.out) | (with_reducible refine Kd.C_alloc ?_ _) | (with_reducible refine Kd.C_drewN ?_ _) | (with_reducible refine Kd.C_drew ?_) | exact HR511.out)) | (with_reducible refine Kd.C_alloc ?_ _) | (with_reducible refine Kd.C_drewN ?_ _) | (with_reducible refine Kd.C_drew ?_))); (case side2 => exact HC511.out); rintro e w84 ⟨rfl, hb⟩; have n0_ := Aside0.mk (Kd.R_below (by (with_reducible repeat (first | apply Kd.R_alloc | apply Kd.R_drewN | apply Kd.R_drew)); exact HO_5.out) hb); have n1_ := Aside0.mk (Kd.R_below (by (with_reducible repeat (first | apply Kd.R_alloc | apply Kd.R_drewN | apply Kd.R_drew)); exact HO496.out) hb); have n2_ := Aside0.mk (Kd.R_below (by (with_reducible repeat (first | apply Kd.R_alloc | apply Kd.R_drewN | apply Kd.R_drew)); exact HO504.out) hb); have n3_ := Aside0.mk (Kd.R_below (by (with_reducible repeat (first | apply Kd.R_alloc | apply Kd.R_drewN | apply Kd.R_drew)); exact HO507.out) hb); have n4_ := Aside0.mk (Kd.C_below (by repeat (first | (with_reducible exact HR464.out) | (with_reducible refine Kd.C_alloc ?_ _) | (with_reducible refine Kd.C_drewN ?_ _) | (with_reducible refine Kd.C_drew ?_) | exact HR464.out)) hb); have n5_ := Aside0.mk (Kd.C_below (by repeat (first | (with_reducible exact HR500.out) | (with_reducible refine Kd.C_alloc ?_ _) | (with_reducible refine Kd.C_drewN ?_ _) | (with_reducible refine Kd.C_drew ?_) | exact HR500.out)) hb); have n6_ := Aside0.mk (Kd.C_below (by repeat (first | (with_reducible exact HR511.out) | (with_reducible refine Kd.C_alloc ?_ _) | (with_reducible refine Kd.C_drewN ?_ _) | (with_reducible refine Kd.C_drew ?_) | exact HR511.out)) hb); have n7_ := Aside0.mk (below_step (by repeat (first | (with_reducible first | exact HB.out | apply below_alloc | apply pw_below_drewN | apply below_drew1) | exact HB.out)) hb); clear HO_5; clear HO496; clear HO504; clear HO507; clear HR464; clear HR500; clear HR511; clear HB; have HO_5 := n0_; have HO496 := n1_; have HO504 := n2_; have HO507 := n3_; have HR464 := n4_; have HR500 := n5_; have HR511 := n6_; have HB := n7_; clear n0_ n1_ n2_ n3_ n4_ n5_ n6_ n7_; (try clear hb); (try clear hb2); (try clear hk); (try clear hi))))
                 go_meet
                 case rel => exact ⟨_, (true), (by first | rfl | (simp; done) | (simp [*]; done) | (simp; rw [Bool.eq_iff_iff]; simp; done) | (rw [Bool.eq_iff_iff]; simp; done)), H', ⟨by have := HJ12.out; have := HJ35.out; first | omega | exact Nat.le_refl _⟩, ⟨by (with_reducible repeat (first | apply Kd.R_alloc | apply Kd.R_drewN | apply Kd.R_drew)); exact Kd.R_mono HO_5.out (fun _ hk => trivial)⟩, ⟨by repeat (first | (with_reducible exact HR464.out) | (with_reducible refine Kd.C_alloc ?_ _) | (with_reducible refine Kd.C_drewN ?_ _) | (with_reducible refine Kd.C_drew ?_) | exact HR464.out)⟩, ⟨by repeat (first | (with_reducible exact HR500.out) | (with_reducible refine Kd.C_alloc ?_ _) | (with_reducible refine Kd.C_drewN ?_ _) | (with_reducible refine Kd.C_drew ?_) | exact HR500.out)⟩, ⟨by repeat (first | (with_reducible first | exact HB.out | apply below_alloc | apply pw_below_drewN | apply below_drew1) | exact HB.out)⟩⟩
               ·rw [if_neg c73] at H
                have c73b0 : (t512 == 0) = false := beq_eq_false_iff_ne.mpr c73
                have c73b1 : (t512 != 0) = true := bne_iff_ne.mpr c73
                (first | rw [c73b0] | (simp only [i64_w, i32_w]; rw [c73b0]) | skip)
                have H' := Aside0.mk H
                clear H
                go_wp2_with (first | (go_at_call 29; (with_reducible refine (bursarlaw03_behind.calls _ _ t465 t505 _ ?side1 ?side2 A69.out (GlobM.below hG (by repeat (first | (with_reducible first | exact HB.out | apply below_alloc | apply pw_below_drewN | apply below_drew1) | exact HB.out)))).mono ?_); (case side1 => repeat (first | exact (Kd.R_reads' HO_5.out).2.2 | (with_reducible refine Kd.C_alloc ?_ _) | (with_reducible refine Kd.C_drewN ?_ _) | (with_reducible refine Kd.C_drew ?_))); (case side2 => exact (Kd.R_reads' HO_5.out).2.1); rintro e w85 ⟨v506, rfl, ho0, hb⟩; have n0_ := Aside0.mk (Kd.R_elder' (by (with_reducible repeat (first | apply Kd.R_alloc | apply Kd.R_drewN | apply Kd.R_drew)); exact HO_5.out) (Kd.R_base ho0) hb); have n1_ := Aside0.mk (Kd.R_elder' (by (with_reducible repeat (first | apply Kd.R_alloc | apply Kd.R_drewN | apply Kd.R_drew)); exact HO496.out) (Kd.R_base ho0) hb); have n2_ := Aside0.mk (Kd.R_elder' (by (with_reducible repeat (first | apply Kd.R_alloc | apply Kd.R_drewN | apply Kd.R_drew)); exact HO504.out) (Kd.R_base ho0) hb); have n3_ := Aside0.mk (Kd.R_lower (Kd.R_new' (Kd.R_new' (Kd.R_new' ho0 (Kd.R_lt (by (with_reducible repeat (first | apply Kd.R_alloc | apply Kd.R_drewN | apply Kd.R_drew)); exact HO_5.out))) (Kd.R_lt (by (with_reducible repeat (first | apply Kd.R_alloc | apply Kd.R_drewN | apply Kd.R_drew)); exact HO496.out))) (Kd.R_lt (by (with_reducible repeat (first | apply Kd.R_alloc | apply Kd.R_drewN | apply Kd.R_drew)); exact HO504.out))) (below_size (by repeat (first | (with_reducible first | exact HB.out | apply below_alloc | apply pw_below_drewN | apply below_drew1) | exact HB.out)))); have n4_ := Aside0.mk (Kd.C_below (by repeat (first | (with_reducible exact HR464.out) | (with_reducible refine Kd.C_alloc ?_ _) | (with_reducible refine Kd.C_drewN ?_ _) | (with_reducible refine Kd.C_drew ?_) | exact HR464.out)) hb); have n5_ := Aside0.mk (Kd.C_below (by repeat (first | (with_reducible exact HR500.out) | (with_reducible refine Kd.C_alloc ?_ _) | (with_reducible refine Kd.C_drewN ?_ _) | (with_reducible refine Kd.C_drew ?_) | exact HR500.out)) hb); have n6_ := Aside0.mk (below_step (by repeat (first | (with_reducible first | exact HB.out | apply below_alloc | apply pw_below_drewN | apply below_drew1) | exact HB.out)) hb); clear HO_5; clear HO496; clear HO504; clear HR464; clear HR500; clear HB; have HO_5 := n0_; have HO496 := n1_; have HO504 := n2_; have HO507 := n3_; have HR464 := n4_; have HR500 := n5_; have HB := n6_; clear n0_ n1_ n2_ n3_ n4_ n5_ n6_; (try clear hb); (try clear hb2); (try clear hk); (try clear hi); (try clear ho0); obtain ⟨Ao87, co87, eo87⟩ := Kd.R_slice HO507.out; subst eo87; have q86 : ((t465.length : Int) : Int) ≤ ((t505.length : Int) : Int) := of_decide_eq_true (by first | (with_reducible assumption) | assumption); obtain ⟨i086, hi086, _, hsz86, _⟩ := info_parts info57; have hroom86 : t505.length ≤ co87 := (Kd.R_reads' HO507.out).2.1; have hC86 : Kd.C k57 _ Ao87 t505.length t505 := (Kd.R_reads' HO507.out).2.2; (try clear hcut77); (try clear hcut82); have hcut86 := cut_to (P := Tryz.prog) 46 57 .i64 Tryz.underlying46 hi086 Ao87 t505.length co87 (t465.length : Int) (of_decide_eq_true (by first | (with_reducible assumption) | assumption)) q86 hroom86; have hr86 := Kd.C_take (m := ((t465.length : Int) : Int).toNat) hC86 (by omega); have hy86 : y508.length = ((t465.length : Int) : Int).toNat := (by rw [Ny508.out, List.length_take]; omega); rw [← Ny508.out] at hr86; rw [← hy86] at hcut86; have HR511 := Aside0.mk hr86; have HC511 := Aside0.mk (show y508.length ≤ co87 from by omega); clear hr86 hC86 hroom86 hi086 hsz86; have KY86 := Aside0.mk hy86; clear hy86; have KL86 := Aside0.mk (show ((t465.length : Int) : Int).toNat ≤ t505.length from by omega); replace q86 := eq_true q86) | (go_at_call 40; (with_reducible refine (quant_Valid.calls kj35 _ _ y508 t512 _ ?side1 ?side2 A72.out (Glob.below hG.toGlob (by repeat (first | (with_reducible first | exact HB.out | apply below_alloc | apply pw_below_drewN | apply below_drew1) | exact HB.out)))).mono ?_); (case side1 => repeat (first | exact (by repeat (first | (with_reducible exact HR511.out) | (with_reducible refine Kd.C_alloc ?_ _) | (with_reducible refine Kd.C_drewN ?_ _) | (with_reducible refine Kd.C_drew ?_) | exact HR511.out)) | (with_reducible refine Kd.C_alloc ?_ _) | (with_reducible refine Kd.C_drewN ?_ _) | (with_reducible refine Kd.C_drew ?_))); (case side2 => exact HC511.out); rintro e w88 ⟨rfl, hb⟩; have n0_ := Aside0.mk (Kd.R_below (by (with_reducible repeat (first | apply Kd.R_alloc | apply Kd.R_drewN | apply Kd.R_drew)); exact HO_5.out) hb); have n1_ := Aside0.mk (Kd.R_below (by (with_reducible repeat (first | apply Kd.R_alloc | apply Kd.R_drewN | apply Kd.R_drew)); exact HO496.out) hb); have n2_ := Aside0.mk (Kd.R_below (by (with_reducible repeat (first | apply Kd.R_alloc | apply Kd.R_drewN | apply Kd.R_drew)); exact HO504.out) hb); have n3_ := Aside0.mk (Kd.R_below (by (with_reducible repeat (first | apply Kd.R_alloc | apply Kd.R_drewN | apply Kd.R_drew)); exact HO507.out) hb); have n4_ := Aside0.mk (Kd.C_below (by repeat (first | (with_reducible exact HR464.out) | (with_reducible refine Kd.C_alloc ?_ _) | (with_reducible refine Kd.C_drewN ?_ _) | (with_reducible refine Kd.C_drew ?_) | exact HR464.out)) hb); have n5_ := Aside0.mk (Kd.C_below (by repeat (first | (with_reducible exact HR500.out) | (with_reducible refine Kd.C_alloc ?_ _) | (with_reducible refine Kd.C_drewN ?_ _) | (with_reducible refine Kd.C_drew ?_) | exact HR500.out)) hb); have n6_ := Aside0.mk (Kd.C_below (by repeat (first | (with_reducible exact HR511.out) | (with_reducible refine Kd.C_alloc ?_ _) | (with_reducible refine Kd.C_drewN ?_ _) | (with_reducible refine Kd.C_drew ?_) | exact HR511.out)) hb); have n7_ := Aside0.mk (below_step (by repeat (first | (with_reducible first | exact HB.out | apply below_alloc | apply pw_below_drewN | apply below_drew1) | exact HB.out)) hb); clear HO_5; clear HO496; clear HO504; clear HO507; clear HR464; clear HR500; clear HR511; clear HB; have HO_5 := n0_; have HO496 := n1_; have HO504 := n2_; have HO507 := n3_; have HR464 := n4_; have HR500 := n5_; have HR511 := n6_; have HB := n7_; clear n0_ n1_ n2_ n3_ n4_ n5_ n6_ n7_; (try clear hb); (try clear hb2); (try clear hk); (try clear hi)))
                repeat (go_quiet (first | (go_at_call 29; (with_reducible refine (bursarlaw03_behind.calls _ _ t465 t505 _ ?side1 ?side2 A69.out (GlobM.below hG (by repeat (first | (with_reducible first | exact HB.out | apply below_alloc | apply pw_below_drewN | apply below_drew1) | exact HB.out)))).mono ?_); (case side1 => repeat (first | exact (Kd.R_reads' HO_5.out).2.2 | (with_reducible refine Kd.C_alloc ?_ _) | (with_reducible refine Kd.C_drewN ?_ _) | (with_reducible refine Kd.C_drew ?_))); (case side2 => exact (Kd.R_reads' HO_5.out).2.1); rintro e w85 ⟨v506, rfl, ho0, hb⟩; have n0_ := Aside0.mk (Kd.R_elder' (by (with_reducible repeat (first | apply Kd.R_alloc | apply Kd.R_drewN | apply Kd.R_drew)); exact HO_5.out) (Kd.R_base ho0) hb); have n1_ := Aside0.mk (Kd.R_elder' (by (with_reducible repeat (first | apply Kd.R_alloc | apply Kd.R_drewN | apply Kd.R_drew)); exact HO496.out) (Kd.R_base ho0) hb); have n2_ := Aside0.mk (Kd.R_elder' (by (with_reducible repeat (first | apply Kd.R_alloc | apply Kd.R_drewN | apply Kd.R_drew)); exact HO504.out) (Kd.R_base ho0) hb); have n3_ := Aside0.mk (Kd.R_lower (Kd.R_new' (Kd.R_new' (Kd.R_new' ho0 (Kd.R_lt (by (with_reducible repeat (first | apply Kd.R_alloc | apply Kd.R_drewN | apply Kd.R_drew)); exact HO_5.out))) (Kd.R_lt (by (with_reducible repeat (first | apply Kd.R_alloc | apply Kd.R_drewN | apply Kd.R_drew)); exact HO496.out))) (Kd.R_lt (by (with_reducible repeat (first | apply Kd.R_alloc | apply Kd.R_drewN | apply Kd.R_drew)); exact HO504.out))) (below_size (by repeat (first | (with_reducible first | exact HB.out | apply below_alloc | apply pw_below_drewN | apply below_drew1) | exact HB.out)))); have n4_ := Aside0.mk (Kd.C_below (by repeat (first | (with_reducible exact HR464.out) | (with_reducible refine Kd.C_alloc ?_ _) | (with_reducible refine Kd.C_drewN ?_ _) | (with_reducible refine Kd.C_drew ?_) | exact HR464.out)) hb); have n5_ := Aside0.mk (Kd.C_below (by repeat (first | (with_reducible exact HR500.out) | (with_reducible refine Kd.C_alloc ?_ _) | (with_reducible refine Kd.C_drewN ?_ _) | (with_reducible refine Kd.C_drew ?_) | exact HR500.out)) hb); have n6_ := Aside0.mk (below_step (by repeat (first | (with_reducible first | exact HB.out | apply below_alloc | apply pw_below_drewN | apply below_drew1) | exact HB.out)) hb); clear HO_5; clear HO496; clear HO504; clear HR464; clear HR500; clear HB; have HO_5 := n0_; have HO496 := n1_; have HO504 := n2_; have HO507 := n3_; have HR464 := n4_; have HR500 := n5_; have HB := n6_; clear n0_ n1_ n2_ n3_ n4_ n5_ n6_; (try clear hb); (try clear hb2); (try clear hk); (try clear hi); (try clear ho0); obtain ⟨Ao87, co87, eo87⟩ := Kd.R_slice HO507.out; subst eo87; have q86 : ((t465.length : Int) : Int) ≤ ((t505.length : Int) : Int) := of_decide_eq_true (by first | (with_reducible assumption) | assumption); obtain ⟨i086, hi086, _, hsz86, _⟩ := info_parts info57; have hroom86 : t505.length ≤ co87 := (Kd.R_reads' HO507.out).2.1; have hC86 : Kd.C k57 _ Ao87 t505.length t505 := (Kd.R_reads' HO507.out).2.2; (try clear hcut77); (try clear hcut82); have hcut86 := cut_to (P := Tryz.prog) 46 57 .i64 Tryz.underlying46 hi086 Ao87 t505.length co87 (t465.length : Int) (of_decide_eq_true (by first | (with_reducible assumption) | assumption)) q86 hroom86; have hr86 := Kd.C_take (m := ((t465.length : Int) : Int).toNat) hC86 (by omega); have hy86 : y508.length = ((t465.length : Int) : Int).toNat := (by rw [Ny508.out, List.length_take]; omega); rw [← Ny508.out] at hr86; rw [← hy86] at hcut86; have HR511 := Aside0.mk hr86; have HC511 := Aside0.mk (show y508.length ≤ co87 from by omega); clear hr86 hC86 hroom86 hi086 hsz86; have KY86 := Aside0.mk hy86; clear hy86; have KL86 := Aside0.mk (show ((t465.length : Int) : Int).toNat ≤ t505.length from by omega); replace q86 := eq_true q86) | (go_at_call 40; (with_reducible refine (quant_Valid.calls kj35 _ _ y508 t512 _ ?side1 ?side2 A72.out (Glob.below hG.toGlob (by repeat (first | (with_reducible first | exact HB.out | apply below_alloc | apply pw_below_drewN | apply below_drew1) | exact HB.out)))).mono ?_); (case side1 => repeat (first | exact (by repeat (first | (with_reducible exact HR511.out) | (with_reducible refine Kd.C_alloc ?_ _) | (with_reducible refine Kd.C_drewN ?_ _) | (with_reducible refine Kd.C_drew ?_) | exact HR511.out)) | (with_reducible refine Kd.C_alloc ?_ _) | (with_reducible refine Kd.C_drewN ?_ _) | (with_reducible refine Kd.C_drew ?_))); (case side2 => exact HC511.out); rintro e w88 ⟨rfl, hb⟩; have n0_ := Aside0.mk (Kd.R_below (by (with_reducible repeat (first | apply Kd.R_alloc | apply Kd.R_drewN | apply Kd.R_drew)); exact HO_5.out) hb); have n1_ := Aside0.mk (Kd.R_below (by (with_reducible repeat (first | apply Kd.R_alloc | apply Kd.R_drewN | apply Kd.R_drew)); exact HO496.out) hb); have n2_ := Aside0.mk (Kd.R_below (by (with_reducible repeat (first | apply Kd.R_alloc | apply Kd.R_drewN | apply Kd.R_drew)); exact HO504.out) hb); have n3_ := Aside0.mk (Kd.R_below (by (with_reducible repeat (first | apply Kd.R_alloc | apply Kd.R_drewN | apply Kd.R_drew)); exact HO507.out) hb); have n4_ := Aside0.mk (Kd.C_below (by repeat (first | (with_reducible exact HR464.out) | (with_reducible refine Kd.C_alloc ?_ _) | (with_reducible refine Kd.C_drewN ?_ _) | (with_reducible refine Kd.C_drew ?_) | exact HR464.out)) hb); have n5_ := Aside0.mk (Kd.C_below (by repeat (first | (with_reducible exact HR500.out) | (with_reducible refine Kd.C_alloc ?_ _) | (with_reducible refine Kd.C_drewN ?_ _) | (with_reducible refine Kd.C_drew ?_) | exact HR500.out)) hb); have n6_ := Aside0.mk (Kd.C_below (by repeat (first | (with_reducible exact HR511.out) | (with_reducible refine Kd.C_alloc ?_ _) | (with_reducible refine Kd.C_drewN ?_ _) | (with_reducible refine Kd.C_drew ?_) | exact HR511.out)) hb); have n7_ := Aside0.mk (below_step (by repeat (first | (with_reducible first | exact HB.out | apply below_alloc | apply pw_below_drewN | apply below_drew1) | exact HB.out)) hb); clear HO_5; clear HO496; clear HO504; clear HO507; clear HR464; clear HR500; clear HR511; clear HB; have HO_5 := n0_; have HO496 := n1_; have HO504 := n2_; have HO507 := n3_; have HR464 := n4_; have HR500 := n5_; have HR511 := n6_; have HB := n7_; clear n0_ n1_ n2_ n3_ n4_ n5_ n6_ n7_; (try clear hb); (try clear hb2); (try clear hk); (try clear hi))); try go_wp2_with (first | (go_at_call 29; (with_reducible refine (bursarlaw03_behind.calls _ _ t465 t505 _ ?side1 ?side2 A69.out (GlobM.below hG (by repeat (first | (with_reducible first | exact HB.out | apply below_alloc | apply pw_below_drewN | apply below_drew1) | exact HB.out)))).mono ?_); (case side1 => repeat (first | exact (Kd.R_reads' HO_5.out).2.2 | (with_reducible refine Kd.C_alloc ?_ _) | (with_reducible refine Kd.C_drewN ?_ _) | (with_reducible refine Kd.C_drew ?_))); (case side2 => exact (Kd.R_reads' HO_5.out).2.1); rintro e w85 ⟨v506, rfl, ho0, hb⟩; have n0_ := Aside0.mk (Kd.R_elder' (by (with_reducible repeat (first | apply Kd.R_alloc | apply Kd.R_drewN | apply Kd.R_drew)); exact HO_5.out) (Kd.R_base ho0) hb); have n1_ := Aside0.mk (Kd.R_elder' (by (with_reducible repeat (first | apply Kd.R_alloc | apply Kd.R_drewN | apply Kd.R_drew)); exact HO496.out) (Kd.R_base ho0) hb); have n2_ := Aside0.mk (Kd.R_elder' (by (with_reducible repeat (first | apply Kd.R_alloc | apply Kd.R_drewN | apply Kd.R_drew)); exact HO504.out) (Kd.R_base ho0) hb); have n3_ := Aside0.mk (Kd.R_lower (Kd.R_new' (Kd.R_new' (Kd.R_new' ho0 (Kd.R_lt (by (with_reducible repeat (first | apply Kd.R_alloc | apply Kd.R_drewN | apply Kd.R_drew)); exact HO_5.out))) (Kd.R_lt (by (with_reducible repeat (first | apply Kd.R_alloc | apply Kd.R_drewN | apply Kd.R_drew)); exact HO496.out))) (Kd.R_lt (by (with_reducible repeat (first | apply Kd.R_alloc | apply Kd.R_drewN | apply Kd.R_drew)); exact HO504.out))) (below_size (by repeat (first | (with_reducible first | exact HB.out | apply below_alloc | apply pw_below_drewN | apply below_drew1) | exact HB.out)))); have n4_ := Aside0.mk (Kd.C_below (by repeat (first | (with_reducible exact HR464.out) | (with_reducible refine Kd.C_alloc ?_ _) | (with_reducible refine Kd.C_drewN ?_ _) | (with_reducible refine Kd.C_drew ?_) | exact HR464.out)) hb); have n5_ := Aside0.mk (Kd.C_below (by repeat (first | (with_reducible exact HR500.out) | (with_reducible refine Kd.C_alloc ?_ _) | (with_reducible refine Kd.C_drewN ?_ _) | (with_reducible refine Kd.C_drew ?_) | exact HR500.out)) hb); have n6_ := Aside0.mk (below_step (by repeat (first | (with_reducible first | exact HB.out | apply below_alloc | apply pw_below_drewN | apply below_drew1) | exact HB.out)) hb); clear HO_5; clear HO496; clear HO504; clear HR464; clear HR500; clear HB; have HO_5 := n0_; have HO496 := n1_; have HO504 := n2_; have HO507 := n3_; have HR464 := n4_; have HR500 := n5_; have HB := n6_; clear n0_ n1_ n2_ n3_ n4_ n5_ n6_; (try clear hb); (try clear hb2); (try clear hk); (try clear hi); (try clear ho0); obtain ⟨Ao87, co87, eo87⟩ := Kd.R_slice HO507.out; subst eo87; have q86 : ((t465.length : Int) : Int) ≤ ((t505.length : Int) : Int) := of_decide_eq_true (by first | (with_reducible assumption) | assumption); obtain ⟨i086, hi086, _, hsz86, _⟩ := info_parts info57; have hroom86 : t505.length ≤ co87 := (Kd.R_reads' HO507.out).2.1; have hC86 : Kd.C k57 _ Ao87 t505.length t505 := (Kd.R_reads' HO507.out).2.2; (try clear hcut77); (try clear hcut82); have hcut86 := cut_to (P := Tryz.prog) 46 57 .i64 Tryz.underlying46 hi086 Ao87 t505.length co87 (t465.length : Int) (of_decide_eq_true (by first | (with_reducible assumption) | assumption)) q86 hroom86; have hr86 := Kd.C_take (m := ((t465.length : Int) : Int).toNat) hC86 (by omega); have hy86 : y508.length = ((t465.length : Int) : Int).toNat := (by rw [Ny508.out, List.length_take]; omega); rw [← Ny508.out] at hr86; rw [← hy86] at hcut86; have HR511 := Aside0.mk hr86; have HC511 := Aside0.mk (show y508.length ≤ co87 from by omega); clear hr86 hC86 hroom86 hi086 hsz86; have KY86 := Aside0.mk hy86; clear hy86; have KL86 := Aside0.mk (show ((t465.length : Int) : Int).toNat ≤ t505.length from by omega); replace q86 := eq_true q86) | (go_at_call 40; (with_reducible refine (quant_Valid.calls kj35 _ _ y508 t512 _ ?side1 ?side2 A72.out (Glob.below hG.toGlob (by repeat (first | (with_reducible first | exact HB.out | apply below_alloc | apply pw_below_drewN | apply below_drew1) | exact HB.out)))).mono ?_); (case side1 => repeat (first | exact (by repeat (first | (with_reducible exact HR511.out) | (with_reducible refine Kd.C_alloc ?_ _) | (with_reducible refine Kd.C_drewN ?_ _) | (with_reducible refine Kd.C_drew ?_) | exact HR511.out)) | (with_reducible refine Kd.C_alloc ?_ _) | (with_reducible refine Kd.C_drewN ?_ _) | (with_reducible refine Kd.C_drew ?_))); (case side2 => exact HC511.out); rintro e w88 ⟨rfl, hb⟩; have n0_ := Aside0.mk (Kd.R_below (by (with_reducible repeat (first | apply Kd.R_alloc | apply Kd.R_drewN | apply Kd.R_drew)); exact HO_5.out) hb); have n1_ := Aside0.mk (Kd.R_below (by (with_reducible repeat (first | apply Kd.R_alloc | apply Kd.R_drewN | apply Kd.R_drew)); exact HO496.out) hb); have n2_ := Aside0.mk (Kd.R_below (by (with_reducible repeat (first | apply Kd.R_alloc | apply Kd.R_drewN | apply Kd.R_drew)); exact HO504.out) hb); have n3_ := Aside0.mk (Kd.R_below (by (with_reducible repeat (first | apply Kd.R_alloc | apply Kd.R_drewN | apply Kd.R_drew)); exact HO507.out) hb); have n4_ := Aside0.mk (Kd.C_below (by repeat (first | (with_reducible exact HR464.out) | (with_reducible refine Kd.C_alloc ?_ _) | (with_reducible refine Kd.C_drewN ?_ _) | (with_reducible refine Kd.C_drew ?_) | exact HR464.out)) hb); have n5_ := Aside0.mk (Kd.C_below (by repeat (first | (with_reducible exact HR500.out) | (with_reducible refine Kd.C_alloc ?_ _) | (with_reducible refine Kd.C_drewN ?_ _) | (with_reducible refine Kd.C_drew ?_) | exact HR500.out)) hb); have n6_ := Aside0.mk (Kd.C_below (by repeat (first | (with_reducible exact HR511.out) | (with_reducible refine Kd.C_alloc ?_ _) | (with_reducible refine Kd.C_drewN ?_ _) | (with_reducible refine Kd.C_drew ?_) | exact HR511.out)) hb); have n7_ := Aside0.mk (below_step (by repeat (first | (with_reducible first | exact HB.out | apply below_alloc | apply pw_below_drewN | apply below_drew1) | exact HB.out)) hb); clear HO_5; clear HO496; clear HO504; clear HO507; clear HR464; clear HR500; clear HR511; clear HB; have HO_5 := n0_; have HO496 := n1_; have HO504 := n2_; have HO507 := n3_; have HR464 := n4_; have HR500 := n5_; have HR511 := n6_; have HB := n7_; clear n0_ n1_ n2_ n3_ n4_ n5_ n6_ n7_; (try clear hb); (try clear hb2); (try clear hk); (try clear hi))))
                go_meet
                case rel => exact ⟨_, (true), (by first | rfl | (simp; done) | (simp [*]; done) | (simp; rw [Bool.eq_iff_iff]; simp; done) | (rw [Bool.eq_iff_iff]; simp; done)), H', ⟨by have := HJ12.out; have := HJ35.out; first | omega | exact Nat.le_refl _⟩, ⟨by (with_reducible repeat (first | apply Kd.R_alloc | apply Kd.R_drewN | apply Kd.R_drew)); exact Kd.R_mono HO_5.out (fun _ hk => trivial)⟩, ⟨by repeat (first | (with_reducible exact HR464.out) | (with_reducible refine Kd.C_alloc ?_ _) | (with_reducible refine Kd.C_drewN ?_ _) | (with_reducible refine Kd.C_drew ?_) | exact HR464.out)⟩, ⟨by repeat (first | (with_reducible exact HR500.out) | (with_reducible refine Kd.C_alloc ?_ _) | (with_reducible refine Kd.C_drewN ?_ _) | (with_reducible refine Kd.C_drew ?_) | exact HR500.out)⟩, ⟨by repeat (first | (with_reducible first | exact HB.out | apply below_alloc | apply pw_below_drewN | apply below_drew1) | exact HB.out)⟩⟩
              ·rw [if_neg c71] at H
               exact absurd H (by simp)
             case rest =>
              clear HC63
              try clear c1
              try clear q1
              try clear c2
              try clear p2
              try clear c3
              try clear c4
              try clear q4
              try clear c5
              try clear q5
              try clear c6
              try clear c6b0
              try clear c6b1
              try clear q6
              try clear c7
              try clear c7b0
              try clear c7b1
              try clear q7
              try clear q8
              try clear c12
              try clear q16
              try clear c25
              try clear c25b0
              try clear c25b1
              try clear c26
              try clear c26b0
              try clear c26b1
              try clear c28
              try clear c35
              try clear c38
              try clear c38b0
              try clear c38b1
              try clear c39
              try clear c39b0
              try clear c39b1
              try clear c41
              try clear c41b0
              try clear c41b1
              try clear c42
              try clear c42b0
              try clear c42b1
              try clear q45
              try clear q50
              try clear q54
              try clear c57
              try clear c58
              try clear c58b0
              try clear c58b1
              try clear c60
              try clear c60b0
              try clear c60b1
              try clear c61
              try clear c61b0
              try clear c61b1
              try clear q66
              try clear c70
              try clear c70b0
              try clear c71
              try clear c71b0
              try clear c71b1
              try clear c73
              try clear c73b0
              try clear c73b1
              try clear c74
              try clear c74b0
              try clear c74b1
              try clear q77
              try clear q82
              try clear q86
              try clear p2
              try clear q1
              try clear q16
              try clear q4
              try clear q45
              try clear q5
              try clear q50
              try clear q54
              try clear q66
              try clear q77
              try clear q82
              try clear q86
              obtain ⟨kq, x123_62, rfl, HA, HJ62, HO_5, HR464, HR500, HB⟩ := hcut
              cases kq with
              | zero => exact absurd HA.out (by simp [bursarlaw03_QuantOrders.j2])
              | succ kj62 =>
               have H := HA.out
               clear HA
               simp only [bursarlaw03_QuantOrders.j2] at H
               by_cases c89 : x123_62 = true
               ·subst c89
                have H1 : (some false) = some r := by rw [if_pos rfl] at H; exact H
                clear H
                have H := H1
                clear H1
                obtain rfl := Option.some.inj H
                go_wp2
                repeat (go_quiet (fail); try go_wp2)
                go_ret
                exact ⟨by first | rfl | (simp [errW_none, errW_some] <;> rfl) | (simp [*, errW_none, errW_some] <;> rfl), by repeat (first | (with_reducible first | exact HB.out | apply below_alloc | apply pw_below_drewN | apply below_drew1) | exact HB.out)⟩
               ·replace c89 := Bool.eq_false_iff.mpr c89
                subst c89
                have H1 : (bursarlaw03_QuantOrders.l0 kj62 l0 t465 0) = some r := by rw [if_neg (show ¬ (false = true) by decide)] at H; exact H
                clear H
                have H := H1
                clear H1
                have H' := Aside0.mk H
                clear H
                go_wp2
                repeat (go_quiet (fail); try go_wp2)
                go_loopg [13] kj62 (fun kq v13 w' => ∃ (x13_4 : Int), v13 = .int .i64 x13_4 ∧ Aside0 (bursarlaw03_QuantOrders.l0 kq l0 t465 x13_4 = some r) ∧ Aside0 (kq ≤ kj62) ∧ Aside0 (Kd.R k57 57 w' w.heap.size (fun _ => True) (.slice Ao64 t465.length co64) t465) ∧ Aside0 (Kd.C k57 w' Ao17 y461.length y461) ∧ Aside0 (Kd.C k57 w' Ao67 y497.length y497) ∧ Aside0 (Below w.heap.size w w'))
                case atStart => exact ⟨(0), (by first | rfl | (simp; done) | (simp [*]; done) | (simp; rw [Bool.eq_iff_iff]; simp; done) | (rw [Bool.eq_iff_iff]; simp; done)), H', ⟨Nat.le_refl _⟩, ⟨by (with_reducible repeat (first | apply Kd.R_alloc | apply Kd.R_drewN | apply Kd.R_drew)); exact HO_5.out⟩, ⟨by repeat (first | (with_reducible exact HR464.out) | (with_reducible refine Kd.C_alloc ?_ _) | (with_reducible refine Kd.C_drewN ?_ _) | (with_reducible refine Kd.C_drew ?_) | exact HR464.out)⟩, ⟨by repeat (first | (with_reducible exact HR500.out) | (with_reducible refine Kd.C_alloc ?_ _) | (with_reducible refine Kd.C_drewN ?_ _) | (with_reducible refine Kd.C_drew ?_) | exact HR500.out)⟩, ⟨by repeat (first | (with_reducible first | exact HB.out | apply below_alloc | apply pw_below_drewN | apply below_drew1) | exact HB.out)⟩⟩
                case round =>
                 clear H'
                 try clear c1
                 try clear q1
                 try clear c2
                 try clear p2
                 try clear c3
                 try clear c4
                 try clear q4
                 try clear c5
                 try clear q5
                 try clear c6
                 try clear c6b0
                 try clear c6b1
                 try clear q6
                 try clear c7
                 try clear c7b0
                 try clear c7b1
                 try clear q7
                 try clear c8
                 try clear q8
                 try clear c12
                 try clear q16
                 try clear c25
                 try clear c25b0
                 try clear c25b1
                 try clear c26
                 try clear c26b0
                 try clear c26b1
                 try clear c28
                 try clear c35
                 try clear c38
                 try clear c38b0
                 try clear c38b1
                 try clear c39
                 try clear c39b0
                 try clear c39b1
                 try clear c41
                 try clear c41b0
                 try clear c41b1
                 try clear c42
                 try clear c42b0
                 try clear c42b1
                 try clear q45
                 try clear q50
                 try clear q54
                 try clear c57
                 try clear c58
                 try clear c58b0
                 try clear c58b1
                 try clear c60
                 try clear c60b0
                 try clear c60b1
                 try clear c61
                 try clear c61b0
                 try clear c61b1
                 try clear q66
                 try clear c70
                 try clear c70b0
                 try clear c71
                 try clear c71b0
                 try clear c71b1
                 try clear c73
                 try clear c73b0
                 try clear c73b1
                 try clear c74
                 try clear c74b0
                 try clear c74b1
                 try clear q77
                 try clear q82
                 try clear q86
                 try clear c89
                 try clear p2
                 try clear q1
                 try clear q16
                 try clear q4
                 try clear q45
                 try clear q5
                 try clear q50
                 try clear q54
                 try clear q6
                 try clear q66
                 try clear q7
                 try clear q77
                 try clear q8
                 try clear q82
                 try clear q86
                 obtain ⟨x13_4, rfl, HA, HK4, HO_5, HR464, HR500, HB⟩ := hrel
                 cases gk with
                 | zero => exact absurd HA.out (by simp [bursarlaw03_QuantOrders.l0])
                 | succ k4 =>
                  have H := HA.out
                  clear HA
                  simp only [bursarlaw03_QuantOrders.l0] at H
                  by_cases c90 : x13_4 < (t465.length : Int)
                  ·rw [if_pos c90] at H
                   have c90b0 : decide (x13_4 < (t465.length : Int)) = true := decide_eq_true c90
                   clear c90
                   have H' := Aside0.mk H
                   clear H
                   go_wp2
                   repeat (go_quiet (fail); try go_wp2)
                   go_loopg [14, 15, 16] k4 (fun kq v14 v15 v16 w' => ∃ (x14_5 : Int) (x15_5 : Bool) (x16_5 : Int), v14 = .int .i64 x14_5 ∧ v15 = .bool x15_5 ∧ v16 = .int .i64 x16_5 ∧ Aside0 (bursarlaw03_QuantOrders.l1 kq l0 t465 x13_4 x14_5 x15_5 x16_5 = some r) ∧ Aside0 (kq ≤ k4) ∧ Aside0 (Kd.R k57 57 w' w.heap.size (fun _ => True) (.slice Ao64 t465.length co64) t465) ∧ Aside0 (Kd.C k57 w' Ao17 y461.length y461) ∧ Aside0 (Kd.C k57 w' Ao67 y497.length y497) ∧ Aside0 (Below w.heap.size w w'))
                   case atStart => exact ⟨(0), (false), (0), (by first | rfl | (simp; done) | (simp [*]; done) | (simp; rw [Bool.eq_iff_iff]; simp; done) | (rw [Bool.eq_iff_iff]; simp; done)), (by first | rfl | (simp; done) | (simp [*]; done) | (simp; rw [Bool.eq_iff_iff]; simp; done) | (rw [Bool.eq_iff_iff]; simp; done)), (by first | rfl | (simp; done) | (simp [*]; done) | (simp; rw [Bool.eq_iff_iff]; simp; done) | (rw [Bool.eq_iff_iff]; simp; done)), H', ⟨Nat.le_refl _⟩, ⟨by (with_reducible repeat (first | apply Kd.R_alloc | apply Kd.R_drewN | apply Kd.R_drew)); exact HO_5.out⟩, ⟨by repeat (first | (with_reducible exact HR464.out) | (with_reducible refine Kd.C_alloc ?_ _) | (with_reducible refine Kd.C_drewN ?_ _) | (with_reducible refine Kd.C_drew ?_) | exact HR464.out)⟩, ⟨by repeat (first | (with_reducible exact HR500.out) | (with_reducible refine Kd.C_alloc ?_ _) | (with_reducible refine Kd.C_drewN ?_ _) | (with_reducible refine Kd.C_drew ?_) | exact HR500.out)⟩, ⟨by repeat (first | (with_reducible first | exact HB.out | apply below_alloc | apply pw_below_drewN | apply below_drew1) | exact HB.out)⟩⟩
                   case round =>
                    clear H'
                    try clear c1
                    try clear q1
                    try clear c2
                    try clear p2
                    try clear c3
                    try clear c4
                    try clear q4
                    try clear c5
                    try clear q5
                    try clear c6
                    try clear c6b0
                    try clear c6b1
                    try clear q6
                    try clear c7
                    try clear c7b0
                    try clear c7b1
                    try clear q7
                    try clear c8
                    try clear q8
                    try clear c9
                    try clear c12
                    try clear q16
                    try clear c25
                    try clear c25b0
                    try clear c25b1
                    try clear c26
                    try clear c26b0
                    try clear c26b1
                    try clear c28
                    try clear c35
                    try clear c38
                    try clear c38b0
                    try clear c38b1
                    try clear c39
                    try clear c39b0
                    try clear c39b1
                    try clear c41
                    try clear c41b0
                    try clear c41b1
                    try clear c42
                    try clear c42b0
                    try clear c42b1
                    try clear q45
                    try clear q50
                    try clear q54
                    try clear c57
                    try clear c58
                    try clear c58b0
                    try clear c58b1
                    try clear c60
                    try clear c60b0
                    try clear c60b1
                    try clear c61
                    try clear c61b0
                    try clear c61b1
                    try clear q66
                    try clear c70
                    try clear c70b0
                    try clear c71
                    try clear c71b0
                    try clear c71b1
                    try clear c73
                    try clear c73b0
                    try clear c73b1
                    try clear c74
                    try clear c74b0
                    try clear c74b1
                    try clear q77
                    try clear q82
                    try clear q86
                    try clear c89
                    try clear c90
                    try clear c90b0
                    try clear p2
                    try clear q1
                    try clear q16
                    try clear q4
                    try clear q45
                    try clear q5
                    try clear q50
                    try clear q54
                    try clear q6
                    try clear q66
                    try clear q7
                    try clear q77
                    try clear q8
                    try clear q82
                    try clear q86
                    obtain ⟨x14_5, x15_5, x16_5, rfl, rfl, rfl, HA, HK5, HO_5, HR464, HR500, HB⟩ := hrel
                    cases gk with
                    | zero => exact absurd HA.out (by simp [bursarlaw03_QuantOrders.l1])
                    | succ k5 =>
                     have H := HA.out
                     clear HA
                     simp only [bursarlaw03_QuantOrders.l1] at H
                     by_cases c91 : x16_5 < (l0.length : Int)
                     ·rw [if_pos c91] at H
                      have c91b0 : decide (x16_5 < (l0.length : Int)) = true := decide_eq_true c91
                      clear c91
                      by_cases c92 : 0 ≤ x16_5
                      ·rw [if_pos c92] at H
                       have c92b0 : decide (0 ≤ x16_5) = true := decide_eq_true c92
                       clear c92
                       by_cases c93 : 0 ≤ x13_4
                       ·rw [if_pos c93] at H
                        have c93b0 : decide (0 ≤ x13_4) = true := decide_eq_true c93
                        clear c93
                        by_cases c94 : x13_4 < (t465.length : Int)
                        ·rw [if_pos c94] at H
                         have c94b0 : decide (x13_4 < (t465.length : Int)) = true := decide_eq_true c94
                         clear c94
                         by_cases c95 : ((rd_T57 l0 x16_5).f0).toList = ((rd_T57 t465 x13_4).f0).toList
                         ·rw [if_pos c95] at H
                          have c95b0 : (((rd_T57 l0 x16_5).f0).toList == ((rd_T57 t465 x13_4).f0).toList) = true := beq_iff_eq.mpr c95
                          have c95b1 : (((rd_T57 l0 x16_5).f0).toList != ((rd_T57 t465 x13_4).f0).toList) = false := bne_eq_false_iff_eq.mpr c95
                          clear c95
                          have H' := Aside0.mk H
                          clear H
                          have p514 : 0 ≤ (x16_5 : Int) := of_decide_eq_true (by first | (with_reducible assumption) | assumption)
                          have q514 : x16_5 < (l0.length : Int) := of_decide_eq_true (by first | (with_reducible assumption) | assumption)
                          obtain ⟨ad514, e514, hx514_0, hx514_1⟩ := at_T57 HR0.out x16_5 p514 q514
                          cases e514
                          replace hx514_0 := (HB.out.cell (World.block_lt_of_cell? w _ hx514_0)).trans hx514_0
                          replace hx514_1 := (HB.out.cell (World.block_lt_of_cell? w _ hx514_1)).trans hx514_1
                          replace p514 := eq_true p514
                          replace q514 := eq_true q514
                          have p515 : 0 ≤ (x13_4 : Int) := of_decide_eq_true (by first | (with_reducible assumption) | assumption)
                          have q515 : x13_4 < (t465.length : Int) := of_decide_eq_true (by first | (with_reducible assumption) | assumption)
                          obtain ⟨ad515, e515, hx515_0, hx515_1⟩ := at_T57 (Kd.R_reads' HO_5.out).2.2 x13_4 p515 q515
                          cases e515
                          replace p515 := eq_true p515
                          replace q515 := eq_true q515
                          have p516 : 0 ≤ (x16_5 : Int) := of_decide_eq_true (by first | (with_reducible assumption) | assumption)
                          have q516 : x16_5 < (l0.length : Int) := of_decide_eq_true (by first | (with_reducible assumption) | assumption)
                          obtain ⟨ad516, e516, hx516_0, hx516_1⟩ := at_T57 HR0.out x16_5 p516 q516
                          obtain rfl : ad514 = ad516 := (by injection e516)
                          replace hx516_0 := (HB.out.cell (World.block_lt_of_cell? w _ hx516_0)).trans hx516_0
                          replace hx516_1 := (HB.out.cell (World.block_lt_of_cell? w _ hx516_1)).trans hx516_1
                          replace p516 := eq_true p516
                          replace q516 := eq_true q516
                          go_wp2
                          repeat (go_quiet (fail); try go_wp2)
                          go_roundg k5
                          case measure => have := HJ12.out; have := HJ35.out; have := HJ62.out; have := HK4.out; have := HK5.out; omega
                          case rel => exact ⟨(wrap64 (x14_5 + ((rd_T57 l0 x16_5).f1))), (true), (wrap64 (x16_5 + 1)), (by first | rfl | (simp; done) | (simp [*]; done) | (simp; rw [Bool.eq_iff_iff]; simp; done) | (rw [Bool.eq_iff_iff]; simp; done)), (by first | rfl | (simp; done) | (simp [*]; done) | (simp; rw [Bool.eq_iff_iff]; simp; done) | (rw [Bool.eq_iff_iff]; simp; done)), (by first | rfl | (simp; done) | (simp [*]; done) | (simp; rw [Bool.eq_iff_iff]; simp; done) | (rw [Bool.eq_iff_iff]; simp; done)), H', ⟨by have := HJ12.out; have := HJ35.out; have := HJ62.out; have := HK4.out; have := HK5.out; omega⟩, ⟨by (with_reducible repeat (first | apply Kd.R_alloc | apply Kd.R_drewN | apply Kd.R_drew)); exact HO_5.out⟩, ⟨by repeat (first | (with_reducible exact HR464.out) | (with_reducible refine Kd.C_alloc ?_ _) | (with_reducible refine Kd.C_drewN ?_ _) | (with_reducible refine Kd.C_drew ?_) | exact HR464.out)⟩, ⟨by repeat (first | (with_reducible exact HR500.out) | (with_reducible refine Kd.C_alloc ?_ _) | (with_reducible refine Kd.C_drewN ?_ _) | (with_reducible refine Kd.C_drew ?_) | exact HR500.out)⟩, ⟨by repeat (first | (with_reducible first | exact HB.out | apply below_alloc | apply pw_below_drewN | apply below_drew1) | exact HB.out)⟩⟩
                         ·rw [if_neg c95] at H
                          have c95b0 : (((rd_T57 l0 x16_5).f0).toList == ((rd_T57 t465 x13_4).f0).toList) = false := beq_eq_false_iff_ne.mpr c95
                          have c95b1 : (((rd_T57 l0 x16_5).f0).toList != ((rd_T57 t465 x13_4).f0).toList) = true := bne_iff_ne.mpr c95
                          have H' := Aside0.mk H
                          clear H
                          have p514 : 0 ≤ (x16_5 : Int) := of_decide_eq_true (by first | (with_reducible assumption) | assumption)
                          have q514 : x16_5 < (l0.length : Int) := of_decide_eq_true (by first | (with_reducible assumption) | assumption)
                          obtain ⟨ad514, e514, hx514_0, hx514_1⟩ := at_T57 HR0.out x16_5 p514 q514
                          cases e514
                          replace hx514_0 := (HB.out.cell (World.block_lt_of_cell? w _ hx514_0)).trans hx514_0
                          replace hx514_1 := (HB.out.cell (World.block_lt_of_cell? w _ hx514_1)).trans hx514_1
                          replace p514 := eq_true p514
                          replace q514 := eq_true q514
                          have p515 : 0 ≤ (x13_4 : Int) := of_decide_eq_true (by first | (with_reducible assumption) | assumption)
                          have q515 : x13_4 < (t465.length : Int) := of_decide_eq_true (by first | (with_reducible assumption) | assumption)
                          obtain ⟨ad515, e515, hx515_0, hx515_1⟩ := at_T57 (Kd.R_reads' HO_5.out).2.2 x13_4 p515 q515
                          cases e515
                          replace p515 := eq_true p515
                          replace q515 := eq_true q515
                          go_wp2
                          repeat (go_quiet (fail); try go_wp2)
                          go_roundg k5
                          case measure => have := HJ12.out; have := HJ35.out; have := HJ62.out; have := HK4.out; have := HK5.out; omega
                          case rel => exact ⟨(x14_5), (x15_5), (wrap64 (x16_5 + 1)), (by first | rfl | (simp; done) | (simp [*]; done) | (simp; rw [Bool.eq_iff_iff]; simp; done) | (rw [Bool.eq_iff_iff]; simp; done)), (by first | rfl | (simp; done) | (simp [*]; done) | (simp; rw [Bool.eq_iff_iff]; simp; done) | (rw [Bool.eq_iff_iff]; simp; done)), (by first | rfl | (simp; done) | (simp [*]; done) | (simp; rw [Bool.eq_iff_iff]; simp; done) | (rw [Bool.eq_iff_iff]; simp; done)), H', ⟨by have := HJ12.out; have := HJ35.out; have := HJ62.out; have := HK4.out; have := HK5.out; omega⟩, ⟨by (with_reducible repeat (first | apply Kd.R_alloc | apply Kd.R_drewN | apply Kd.R_drew)); exact HO_5.out⟩, ⟨by repeat (first | (with_reducible exact HR464.out) | (with_reducible refine Kd.C_alloc ?_ _) | (with_reducible refine Kd.C_drewN ?_ _) | (with_reducible refine Kd.C_drew ?_) | exact HR464.out)⟩, ⟨by repeat (first | (with_reducible exact HR500.out) | (with_reducible refine Kd.C_alloc ?_ _) | (with_reducible refine Kd.C_drewN ?_ _) | (with_reducible refine Kd.C_drew ?_) | exact HR500.out)⟩, ⟨by repeat (first | (with_reducible first | exact HB.out | apply below_alloc | apply pw_below_drewN | apply below_drew1) | exact HB.out)⟩⟩
                        ·rw [if_neg c94] at H
                         exact absurd H (by simp)
                       ·rw [if_neg c93] at H
                        exact absurd H (by simp)
                      ·rw [if_neg c92] at H
                       exact absurd H (by simp)
                     ·rw [if_neg c91] at H
                      have c91b0 : decide (x16_5 < (l0.length : Int)) = false := decide_eq_false c91
                      clear c91
                      by_cases c96 : x15_5 = true
                      ·subst c96
                       have H1 : (if 0 ≤ x13_4 then (if x13_4 < (t465.length : Int) then (if x14_5 = ((rd_T57 t465 x13_4).f1) then (bursarlaw03_QuantOrders.l0 k5 l0 t465 (wrap64 (x13_4 + 1))) else (some false)) else (none)) else (none)) = some r := by rw [if_pos rfl] at H; exact H
                       clear H
                       have H := H1
                       clear H1
                       by_cases c97 : 0 ≤ x13_4
                       ·rw [if_pos c97] at H
                        have c97b0 : decide (0 ≤ x13_4) = true := decide_eq_true c97
                        clear c97
                        by_cases c98 : x13_4 < (t465.length : Int)
                        ·rw [if_pos c98] at H
                         have c98b0 : decide (x13_4 < (t465.length : Int)) = true := decide_eq_true c98
                         clear c98
                         by_cases c99 : x14_5 = ((rd_T57 t465 x13_4).f1)
                         ·rw [if_pos c99] at H
                          have c99b0 : (x14_5 == ((rd_T57 t465 x13_4).f1)) = true := beq_iff_eq.mpr c99
                          have c99b1 : (x14_5 != ((rd_T57 t465 x13_4).f1)) = false := bne_eq_false_iff_eq.mpr c99
                          clear c99
                          have H' := Aside0.mk H
                          clear H
                          have p517 : 0 ≤ (x13_4 : Int) := of_decide_eq_true (by first | (with_reducible assumption) | assumption)
                          have q517 : x13_4 < (t465.length : Int) := of_decide_eq_true (by first | (with_reducible assumption) | assumption)
                          obtain ⟨ad517, e517, hx517_0, hx517_1⟩ := at_T57 (Kd.R_reads' HO_5.out).2.2 x13_4 p517 q517
                          cases e517
                          replace p517 := eq_true p517
                          replace q517 := eq_true q517
                          go_wp2
                          repeat (go_quiet (fail); try go_wp2)
                          go_roundg k5
                          case measure => have := HJ12.out; have := HJ35.out; have := HJ62.out; have := HK4.out; have := HK5.out; omega
                          case rel => exact ⟨(wrap64 (x13_4 + 1)), (by first | rfl | (simp; done) | (simp [*]; done) | (simp; rw [Bool.eq_iff_iff]; simp; done) | (rw [Bool.eq_iff_iff]; simp; done)), H', ⟨by have := HJ12.out; have := HJ35.out; have := HJ62.out; have := HK4.out; have := HK5.out; omega⟩, ⟨by (with_reducible repeat (first | apply Kd.R_alloc | apply Kd.R_drewN | apply Kd.R_drew)); exact HO_5.out⟩, ⟨by repeat (first | (with_reducible exact HR464.out) | (with_reducible refine Kd.C_alloc ?_ _) | (with_reducible refine Kd.C_drewN ?_ _) | (with_reducible refine Kd.C_drew ?_) | exact HR464.out)⟩, ⟨by repeat (first | (with_reducible exact HR500.out) | (with_reducible refine Kd.C_alloc ?_ _) | (with_reducible refine Kd.C_drewN ?_ _) | (with_reducible refine Kd.C_drew ?_) | exact HR500.out)⟩, ⟨by repeat (first | (with_reducible first | exact HB.out | apply below_alloc | apply pw_below_drewN | apply below_drew1) | exact HB.out)⟩⟩
                         ·rw [if_neg c99] at H
                          have c99b0 : (x14_5 == ((rd_T57 t465 x13_4).f1)) = false := beq_eq_false_iff_ne.mpr c99
                          have c99b1 : (x14_5 != ((rd_T57 t465 x13_4).f1)) = true := bne_iff_ne.mpr c99
                          obtain rfl := Option.some.inj H
                          have p517 : 0 ≤ (x13_4 : Int) := of_decide_eq_true (by first | (with_reducible assumption) | assumption)
                          have q517 : x13_4 < (t465.length : Int) := of_decide_eq_true (by first | (with_reducible assumption) | assumption)
                          obtain ⟨ad517, e517, hx517_0, hx517_1⟩ := at_T57 (Kd.R_reads' HO_5.out).2.2 x13_4 p517 q517
                          cases e517
                          replace p517 := eq_true p517
                          replace q517 := eq_true q517
                          go_wp2
                          repeat (go_quiet (fail); try go_wp2)
                          go_ret
                          exact ⟨by first | rfl | (simp [errW_none, errW_some] <;> rfl) | (simp [*, errW_none, errW_some] <;> rfl), by repeat (first | (with_reducible first | exact HB.out | apply below_alloc | apply pw_below_drewN | apply below_drew1) | exact HB.out)⟩
                        ·rw [if_neg c98] at H
                         exact absurd H (by simp)
                       ·rw [if_neg c97] at H
                        exact absurd H (by simp)
                      ·replace c96 := Bool.eq_false_iff.mpr c96
                       subst c96
                       have H1 : (some false) = some r := by rw [if_neg (show ¬ (false = true) by decide)] at H; exact H
                       clear H
                       have H := H1
                       clear H1
                       obtain rfl := Option.some.inj H
                       go_wp2
                       repeat (go_quiet (fail); try go_wp2)
                       go_ret
                       exact ⟨by first | rfl | (simp [errW_none, errW_some] <;> rfl) | (simp [*, errW_none, errW_some] <;> rfl), by repeat (first | (with_reducible first | exact HB.out | apply below_alloc | apply pw_below_drewN | apply below_drew1) | exact HB.out)⟩
                  ·rw [if_neg c90] at H
                   have c90b0 : decide (x13_4 < (t465.length : Int)) = false := decide_eq_false c90
                   clear c90
                   have H' := Aside0.mk H
                   clear H
                   go_wp2
                   repeat (go_quiet (fail); try go_wp2)
                   go_loopg [17] k4 (fun kq v17 w' => ∃ (x17_5 : Int), v17 = .int .i64 x17_5 ∧ Aside0 (bursarlaw03_QuantOrders.l2 kq l0 t465 x17_5 = some r) ∧ Aside0 (kq ≤ k4) ∧ Aside0 (Kd.R k57 57 w' w.heap.size (fun _ => True) (.slice Ao64 t465.length co64) t465) ∧ Aside0 (Kd.C k57 w' Ao17 y461.length y461) ∧ Aside0 (Kd.C k57 w' Ao67 y497.length y497) ∧ Aside0 (Below w.heap.size w w'))
                   case atStart => exact ⟨(0), (by first | rfl | (simp; done) | (simp [*]; done) | (simp; rw [Bool.eq_iff_iff]; simp; done) | (rw [Bool.eq_iff_iff]; simp; done)), H', ⟨Nat.le_refl _⟩, ⟨by (with_reducible repeat (first | apply Kd.R_alloc | apply Kd.R_drewN | apply Kd.R_drew)); exact HO_5.out⟩, ⟨by repeat (first | (with_reducible exact HR464.out) | (with_reducible refine Kd.C_alloc ?_ _) | (with_reducible refine Kd.C_drewN ?_ _) | (with_reducible refine Kd.C_drew ?_) | exact HR464.out)⟩, ⟨by repeat (first | (with_reducible exact HR500.out) | (with_reducible refine Kd.C_alloc ?_ _) | (with_reducible refine Kd.C_drewN ?_ _) | (with_reducible refine Kd.C_drew ?_) | exact HR500.out)⟩, ⟨by repeat (first | (with_reducible first | exact HB.out | apply below_alloc | apply pw_below_drewN | apply below_drew1) | exact HB.out)⟩⟩
                   case round =>
                    clear H'
                    try clear c1
                    try clear q1
                    try clear c2
                    try clear p2
                    try clear c3
                    try clear c4
                    try clear q4
                    try clear c5
                    try clear p5
                    try clear q5
                    try clear hx5
                    try clear c6
                    try clear c6b0
                    try clear c6b1
                    try clear p6
                    try clear q6
                    try clear c7
                    try clear c7b0
                    try clear c7b1
                    try clear q7
                    try clear c8
                    try clear q8
                    try clear c9
                    try clear c12
                    try clear q16
                    try clear c25
                    try clear c25b0
                    try clear c25b1
                    try clear c26
                    try clear c26b0
                    try clear c26b1
                    try clear c28
                    try clear c35
                    try clear c38
                    try clear c38b0
                    try clear c38b1
                    try clear c39
                    try clear c39b0
                    try clear c39b1
                    try clear c41
                    try clear c41b0
                    try clear c41b1
                    try clear c42
                    try clear c42b0
                    try clear c42b1
                    try clear q45
                    try clear q50
                    try clear p51
                    try clear q51
                    try clear hx51
                    try clear q54
                    try clear c57
                    try clear c58
                    try clear c58b0
                    try clear c58b1
                    try clear c60
                    try clear c60b0
                    try clear c60b1
                    try clear c61
                    try clear c61b0
                    try clear c61b1
                    try clear p64
                    try clear q66
                    try clear c70
                    try clear c70b0
                    try clear c71
                    try clear c71b0
                    try clear c71b1
                    try clear c73
                    try clear c73b0
                    try clear c73b1
                    try clear c74
                    try clear c74b0
                    try clear c74b1
                    try clear q77
                    try clear q82
                    try clear q86
                    try clear c89
                    try clear c90
                    try clear c90b0
                    try clear c91
                    try clear c91b0
                    try clear c92
                    try clear c92b0
                    try clear c93
                    try clear c93b0
                    try clear c94
                    try clear c94b0
                    try clear c95
                    try clear c95b0
                    try clear c95b1
                    try clear c96
                    try clear c97
                    try clear c97b0
                    try clear c98
                    try clear c98b0
                    try clear c99
                    try clear c99b0
                    try clear c99b1
                    try clear hx514_0
                    try clear hx514_1
                    try clear hx515_0
                    try clear hx515_1
                    try clear hx516_0
                    try clear hx516_1
                    try clear hx517_0
                    try clear hx517_1
                    try clear p2
                    try clear p514
                    try clear p515
                    try clear p516
                    try clear p517
                    try clear q1
                    try clear q16
                    try clear q4
                    try clear q45
                    try clear q5
                    try clear q50
                    try clear q514
                    try clear q515
                    try clear q516
                    try clear q517
                    try clear q54
                    try clear q6
                    try clear q66
                    try clear q7
                    try clear q77
                    try clear q8
                    try clear q82
                    try clear q86
                    obtain ⟨x17_5, rfl, HA, HK5, HO_5, HR464, HR500, HB⟩ := hrel
                    cases gk with
                    | zero => exact absurd HA.out (by simp [bursarlaw03_QuantOrders.l2])
                    | succ k5 =>
                     have H := HA.out
                     clear HA
                     simp only [bursarlaw03_QuantOrders.l2] at H
                     by_cases c100 : x17_5 < (l0.length : Int)
                     ·rw [if_pos c100] at H
                      have c100b0 : decide (x17_5 < (l0.length : Int)) = true := decide_eq_true c100
                      clear c100
                      by_cases c101 : 0 ≤ x17_5
                      ·rw [if_pos c101] at H
                       have c101b0 : decide (0 ≤ x17_5) = true := decide_eq_true c101
                       clear c101
                       replace H := Option.bind_eq_some_iff.mp H
                       obtain ⟨⟨t519, t520⟩, A1020, H⟩ := H
                       replace H : (if t520 = true then (bursarlaw03_QuantOrders.l2 k5 l0 t465 (wrap64 (x17_5 + 1))) else (some false)) = some r := H
                       have A102 := Aside0.mk A1020
                       clear A1020
                       by_cases c103 : t520 = true
                       ·subst c103
                        have H1 : (bursarlaw03_QuantOrders.l2 k5 l0 t465 (wrap64 (x17_5 + 1))) = some r := by rw [if_pos rfl] at H; exact H
                        clear H
                        have H := H1
                        clear H1
                        have H' := Aside0.mk H
                        clear H
                        have p518 : 0 ≤ (x17_5 : Int) := of_decide_eq_true (by first | (with_reducible assumption) | assumption)
                        have q518 : x17_5 < (l0.length : Int) := of_decide_eq_true (by first | (with_reducible assumption) | assumption)
                        obtain ⟨ad518, e518, hx518_0, hx518_1⟩ := at_T57 HR0.out x17_5 p518 q518
                        cases e518
                        replace hx518_0 := (HB.out.cell (World.block_lt_of_cell? w _ hx518_0)).trans hx518_0
                        replace hx518_1 := (HB.out.cell (World.block_lt_of_cell? w _ hx518_1)).trans hx518_1
                        replace p518 := eq_true p518
                        replace q518 := eq_true q518
                        go_wp2_with (first | (go_at_call 30; (with_reducible refine (quant_Of.calls k5 _ _ t465 ((rd_T57 l0 x17_5).f0) t519 true _ ?side1 ?side2 A102.out).mono ?_); (case side1 => repeat (first | exact (Kd.R_reads' HO_5.out).2.2 | (with_reducible refine Kd.C_alloc ?_ _) | (with_reducible refine Kd.C_drewN ?_ _) | (with_reducible refine Kd.C_drew ?_))); (case side2 => exact (Kd.R_reads' HO_5.out).2.1); rintro e w104 ⟨rfl, hb⟩; have n0_ := Aside0.mk (Kd.R_below (by (with_reducible repeat (first | apply Kd.R_alloc | apply Kd.R_drewN | apply Kd.R_drew)); exact HO_5.out) hb); have n1_ := Aside0.mk (Kd.C_below (by repeat (first | (with_reducible exact HR464.out) | (with_reducible refine Kd.C_alloc ?_ _) | (with_reducible refine Kd.C_drewN ?_ _) | (with_reducible refine Kd.C_drew ?_) | exact HR464.out)) hb); have n2_ := Aside0.mk (Kd.C_below (by repeat (first | (with_reducible exact HR500.out) | (with_reducible refine Kd.C_alloc ?_ _) | (with_reducible refine Kd.C_drewN ?_ _) | (with_reducible refine Kd.C_drew ?_) | exact HR500.out)) hb); have n3_ := Aside0.mk (below_step (by repeat (first | (with_reducible first | exact HB.out | apply below_alloc | apply pw_below_drewN | apply below_drew1) | exact HB.out)) hb); clear HO_5; clear HR464; clear HR500; clear HB; have HO_5 := n0_; have HR464 := n1_; have HR500 := n2_; have HB := n3_; clear n0_ n1_ n2_ n3_; (try clear hb); (try clear hb2); (try clear hk); (try clear hi)))
                        repeat (go_quiet (first | (go_at_call 30; (with_reducible refine (quant_Of.calls k5 _ _ t465 ((rd_T57 l0 x17_5).f0) t519 true _ ?side1 ?side2 A102.out).mono ?_); (case side1 => repeat (first | exact (Kd.R_reads' HO_5.out).2.2 | (with_reducible refine Kd.C_alloc ?_ _) | (with_reducible refine Kd.C_drewN ?_ _) | (with_reducible refine Kd.C_drew ?_))); (case side2 => exact (Kd.R_reads' HO_5.out).2.1); rintro e w104 ⟨rfl, hb⟩; have n0_ := Aside0.mk (Kd.R_below (by (with_reducible repeat (first | apply Kd.R_alloc | apply Kd.R_drewN | apply Kd.R_drew)); exact HO_5.out) hb); have n1_ := Aside0.mk (Kd.C_below (by repeat (first | (with_reducible exact HR464.out) | (with_reducible refine Kd.C_alloc ?_ _) | (with_reducible refine Kd.C_drewN ?_ _) | (with_reducible refine Kd.C_drew ?_) | exact HR464.out)) hb); have n2_ := Aside0.mk (Kd.C_below (by repeat (first | (with_reducible exact HR500.out) | (with_reducible refine Kd.C_alloc ?_ _) | (with_reducible refine Kd.C_drewN ?_ _) | (with_reducible refine Kd.C_drew ?_) | exact HR500.out)) hb); have n3_ := Aside0.mk (below_step (by repeat (first | (with_reducible first | exact HB.out | apply below_alloc | apply pw_below_drewN | apply below_drew1) | exact HB.out)) hb); clear HO_5; clear HR464; clear HR500; clear HB; have HO_5 := n0_; have HR464 := n1_; have HR500 := n2_; have HB := n3_; clear n0_ n1_ n2_ n3_; (try clear hb); (try clear hb2); (try clear hk); (try clear hi))); try go_wp2_with (first | (go_at_call 30; (with_reducible refine (quant_Of.calls k5 _ _ t465 ((rd_T57 l0 x17_5).f0) t519 true _ ?side1 ?side2 A102.out).mono ?_); (case side1 => repeat (first | exact (Kd.R_reads' HO_5.out).2.2 | (with_reducible refine Kd.C_alloc ?_ _) | (with_reducible refine Kd.C_drewN ?_ _) | (with_reducible refine Kd.C_drew ?_))); (case side2 => exact (Kd.R_reads' HO_5.out).2.1); rintro e w104 ⟨rfl, hb⟩; have n0_ := Aside0.mk (Kd.R_below (by (with_reducible repeat (first | apply Kd.R_alloc | apply Kd.R_drewN | apply Kd.R_drew)); exact HO_5.out) hb); have n1_ := Aside0.mk (Kd.C_below (by repeat (first | (with_reducible exact HR464.out) | (with_reducible refine Kd.C_alloc ?_ _) | (with_reducible refine Kd.C_drewN ?_ _) | (with_reducible refine Kd.C_drew ?_) | exact HR464.out)) hb); have n2_ := Aside0.mk (Kd.C_below (by repeat (first | (with_reducible exact HR500.out) | (with_reducible refine Kd.C_alloc ?_ _) | (with_reducible refine Kd.C_drewN ?_ _) | (with_reducible refine Kd.C_drew ?_) | exact HR500.out)) hb); have n3_ := Aside0.mk (below_step (by repeat (first | (with_reducible first | exact HB.out | apply below_alloc | apply pw_below_drewN | apply below_drew1) | exact HB.out)) hb); clear HO_5; clear HR464; clear HR500; clear HB; have HO_5 := n0_; have HR464 := n1_; have HR500 := n2_; have HB := n3_; clear n0_ n1_ n2_ n3_; (try clear hb); (try clear hb2); (try clear hk); (try clear hi))))
                        go_roundg k5
                        case measure => have := HJ12.out; have := HJ35.out; have := HJ62.out; have := HK4.out; have := HK5.out; omega
                        case rel => exact ⟨(wrap64 (x17_5 + 1)), (by first | rfl | (simp; done) | (simp [*]; done) | (simp; rw [Bool.eq_iff_iff]; simp; done) | (rw [Bool.eq_iff_iff]; simp; done)), H', ⟨by have := HJ12.out; have := HJ35.out; have := HJ62.out; have := HK4.out; have := HK5.out; omega⟩, ⟨by (with_reducible repeat (first | apply Kd.R_alloc | apply Kd.R_drewN | apply Kd.R_drew)); exact HO_5.out⟩, ⟨by repeat (first | (with_reducible exact HR464.out) | (with_reducible refine Kd.C_alloc ?_ _) | (with_reducible refine Kd.C_drewN ?_ _) | (with_reducible refine Kd.C_drew ?_) | exact HR464.out)⟩, ⟨by repeat (first | (with_reducible exact HR500.out) | (with_reducible refine Kd.C_alloc ?_ _) | (with_reducible refine Kd.C_drewN ?_ _) | (with_reducible refine Kd.C_drew ?_) | exact HR500.out)⟩, ⟨by repeat (first | (with_reducible first | exact HB.out | apply below_alloc | apply pw_below_drewN | apply below_drew1) | exact HB.out)⟩⟩
                       ·replace c103 := Bool.eq_false_iff.mpr c103
                        subst c103
                        have H1 : (some false) = some r := by rw [if_neg (show ¬ (false = true) by decide)] at H; exact H
                        clear H
                        have H := H1
                        clear H1
                        obtain rfl := Option.some.inj H
                        have p518 : 0 ≤ (x17_5 : Int) := of_decide_eq_true (by first | (with_reducible assumption) | assumption)
                        have q518 : x17_5 < (l0.length : Int) := of_decide_eq_true (by first | (with_reducible assumption) | assumption)
                        obtain ⟨ad518, e518, hx518_0, hx518_1⟩ := at_T57 HR0.out x17_5 p518 q518
                        cases e518
                        replace hx518_0 := (HB.out.cell (World.block_lt_of_cell? w _ hx518_0)).trans hx518_0
                        replace hx518_1 := (HB.out.cell (World.block_lt_of_cell? w _ hx518_1)).trans hx518_1
                        replace p518 := eq_true p518
                        replace q518 := eq_true q518
                        go_wp2_with (first | (go_at_call 30; (with_reducible refine (quant_Of.calls k5 _ _ t465 ((rd_T57 l0 x17_5).f0) t519 false _ ?side1 ?side2 A102.out).mono ?_); (case side1 => repeat (first | exact (Kd.R_reads' HO_5.out).2.2 | (with_reducible refine Kd.C_alloc ?_ _) | (with_reducible refine Kd.C_drewN ?_ _) | (with_reducible refine Kd.C_drew ?_))); (case side2 => exact (Kd.R_reads' HO_5.out).2.1); rintro e w105 ⟨rfl, hb⟩; have n0_ := Aside0.mk (Kd.R_below (by (with_reducible repeat (first | apply Kd.R_alloc | apply Kd.R_drewN | apply Kd.R_drew)); exact HO_5.out) hb); have n1_ := Aside0.mk (Kd.C_below (by repeat (first | (with_reducible exact HR464.out) | (with_reducible refine Kd.C_alloc ?_ _) | (with_reducible refine Kd.C_drewN ?_ _) | (with_reducible refine Kd.C_drew ?_) | exact HR464.out)) hb); have n2_ := Aside0.mk (Kd.C_below (by repeat (first | (with_reducible exact HR500.out) | (with_reducible refine Kd.C_alloc ?_ _) | (with_reducible refine Kd.C_drewN ?_ _) | (with_reducible refine Kd.C_drew ?_) | exact HR500.out)) hb); have n3_ := Aside0.mk (below_step (by repeat (first | (with_reducible first | exact HB.out | apply below_alloc | apply pw_below_drewN | apply below_drew1) | exact HB.out)) hb); clear HO_5; clear HR464; clear HR500; clear HB; have HO_5 := n0_; have HR464 := n1_; have HR500 := n2_; have HB := n3_; clear n0_ n1_ n2_ n3_; (try clear hb); (try clear hb2); (try clear hk); (try clear hi)))
                        repeat (go_quiet (first | (go_at_call 30; (with_reducible refine (quant_Of.calls k5 _ _ t465 ((rd_T57 l0 x17_5).f0) t519 false _ ?side1 ?side2 A102.out).mono ?_); (case side1 => repeat (first | exact (Kd.R_reads' HO_5.out).2.2 | (with_reducible refine Kd.C_alloc ?_ _) | (with_reducible refine Kd.C_drewN ?_ _) | (with_reducible refine Kd.C_drew ?_))); (case side2 => exact (Kd.R_reads' HO_5.out).2.1); rintro e w105 ⟨rfl, hb⟩; have n0_ := Aside0.mk (Kd.R_below (by (with_reducible repeat (first | apply Kd.R_alloc | apply Kd.R_drewN | apply Kd.R_drew)); exact HO_5.out) hb); have n1_ := Aside0.mk (Kd.C_below (by repeat (first | (with_reducible exact HR464.out) | (with_reducible refine Kd.C_alloc ?_ _) | (with_reducible refine Kd.C_drewN ?_ _) | (with_reducible refine Kd.C_drew ?_) | exact HR464.out)) hb); have n2_ := Aside0.mk (Kd.C_below (by repeat (first | (with_reducible exact HR500.out) | (with_reducible refine Kd.C_alloc ?_ _) | (with_reducible refine Kd.C_drewN ?_ _) | (with_reducible refine Kd.C_drew ?_) | exact HR500.out)) hb); have n3_ := Aside0.mk (below_step (by repeat (first | (with_reducible first | exact HB.out | apply below_alloc | apply pw_below_drewN | apply below_drew1) | exact HB.out)) hb); clear HO_5; clear HR464; clear HR500; clear HB; have HO_5 := n0_; have HR464 := n1_; have HR500 := n2_; have HB := n3_; clear n0_ n1_ n2_ n3_; (try clear hb); (try clear hb2); (try clear hk); (try clear hi))); try go_wp2_with (first | (go_at_call 30; (with_reducible refine (quant_Of.calls k5 _ _ t465 ((rd_T57 l0 x17_5).f0) t519 false _ ?side1 ?side2 A102.out).mono ?_); (case side1 => repeat (first | exact (Kd.R_reads' HO_5.out).2.2 | (with_reducible refine Kd.C_alloc ?_ _) | (with_reducible refine Kd.C_drewN ?_ _) | (with_reducible refine Kd.C_drew ?_))); (case side2 => exact (Kd.R_reads' HO_5.out).2.1); rintro e w105 ⟨rfl, hb⟩; have n0_ := Aside0.mk (Kd.R_below (by (with_reducible repeat (first | apply Kd.R_alloc | apply Kd.R_drewN | apply Kd.R_drew)); exact HO_5.out) hb); have n1_ := Aside0.mk (Kd.C_below (by repeat (first | (with_reducible exact HR464.out) | (with_reducible refine Kd.C_alloc ?_ _) | (with_reducible refine Kd.C_drewN ?_ _) | (with_reducible refine Kd.C_drew ?_) | exact HR464.out)) hb); have n2_ := Aside0.mk (Kd.C_below (by repeat (first | (with_reducible exact HR500.out) | (with_reducible refine Kd.C_alloc ?_ _) | (with_reducible refine Kd.C_drewN ?_ _) | (with_reducible refine Kd.C_drew ?_) | exact HR500.out)) hb); have n3_ := Aside0.mk (below_step (by repeat (first | (with_reducible first | exact HB.out | apply below_alloc | apply pw_below_drewN | apply below_drew1) | exact HB.out)) hb); clear HO_5; clear HR464; clear HR500; clear HB; have HO_5 := n0_; have HR464 := n1_; have HR500 := n2_; have HB := n3_; clear n0_ n1_ n2_ n3_; (try clear hb); (try clear hb2); (try clear hk); (try clear hi))))
                        go_ret
                        exact ⟨by first | rfl | (simp [errW_none, errW_some] <;> rfl) | (simp [*, errW_none, errW_some] <;> rfl), by repeat (first | (with_reducible first | exact HB.out | apply below_alloc | apply pw_below_drewN | apply below_drew1) | exact HB.out)⟩
                      ·rw [if_neg c101] at H
                       exact absurd H (by simp)
                     ·rw [if_neg c100] at H
                      have c100b0 : decide (x17_5 < (l0.length : Int)) = false := decide_eq_false c100
                      clear c100
                      obtain rfl := Option.some.inj H
                      go_wp2
                      repeat (go_quiet (fail); try go_wp2)
                      go_ret
                      exact ⟨by first | rfl | (simp [errW_none, errW_some] <;> rfl) | (simp [*, errW_none, errW_some] <;> rfl), by repeat (first | (with_reducible first | exact HB.out | apply below_alloc | apply pw_below_drewN | apply below_drew1) | exact HB.out)⟩
            ·rw [if_neg c61] at H
             exact absurd H (by simp)
           ·rw [if_neg c60] at H
            exact absurd H (by simp)
          ·rw [if_neg c58] at H
           have c58b0 : (t466 == 0) = false := beq_eq_false_iff_ne.mpr c58
           have c58b1 : (t466 != 0) = true := bne_iff_ne.mpr c58
           by_cases c106 : (t465.length : Int) = 0
           ·rw [if_pos c106] at H
            have c106b0 : ((t465.length : Int) == 0) = true := beq_iff_eq.mpr c106
            have c106b1 : ((t465.length : Int) != 0) = false := bne_eq_false_iff_eq.mpr c106
            clear c106
            by_cases c107 : t466 = 31
            ·rw [if_pos c107] at H
             have c107b0 : (t466 == 31) = true := beq_iff_eq.mpr c107
             have c107b1 : (t466 != 31) = false := bne_eq_false_iff_eq.mpr c107
             clear c107
             obtain rfl := Option.some.inj H
             obtain ⟨Ao108, co108, eo108⟩ := Kd.R_slice HO_5.out
             subst eo108
             go_wp2
             repeat (go_quiet (fail); try go_wp2)
             go_ret
             exact ⟨by first | rfl | (simp [errW_none, errW_some] <;> rfl) | (simp [*, errW_none, errW_some] <;> rfl), by repeat (first | (with_reducible first | exact HB.out | apply below_alloc | apply pw_below_drewN | apply below_drew1) | exact HB.out)⟩
            ·rw [if_neg c107] at H
             have c107b0 : (t466 == 31) = false := beq_eq_false_iff_ne.mpr c107
             have c107b1 : (t466 != 31) = true := bne_iff_ne.mpr c107
             by_cases c109 : t466 = 7
             ·rw [if_pos c109] at H
              have c109b0 : (t466 == 7) = true := beq_iff_eq.mpr c109
              have c109b1 : (t466 != 7) = false := bne_eq_false_iff_eq.mpr c109
              clear c109
              obtain rfl := Option.some.inj H
              obtain ⟨Ao110, co110, eo110⟩ := Kd.R_slice HO_5.out
              subst eo110
              go_wp2
              repeat (go_quiet (fail); try go_wp2)
              go_ret
              exact ⟨by first | rfl | (simp [errW_none, errW_some] <;> rfl) | (simp [*, errW_none, errW_some] <;> rfl), by repeat (first | (with_reducible first | exact HB.out | apply below_alloc | apply pw_below_drewN | apply below_drew1) | exact HB.out)⟩
             ·rw [if_neg c109] at H
              have c109b0 : (t466 == 7) = false := beq_eq_false_iff_ne.mpr c109
              have c109b1 : (t466 != 7) = true := bne_iff_ne.mpr c109
              obtain rfl := Option.some.inj H
              obtain ⟨Ao111, co111, eo111⟩ := Kd.R_slice HO_5.out
              subst eo111
              go_wp2
              repeat (go_quiet (fail); try go_wp2)
              go_ret
              exact ⟨by first | rfl | (simp [errW_none, errW_some] <;> rfl) | (simp [*, errW_none, errW_some] <;> rfl), by repeat (first | (with_reducible first | exact HB.out | apply below_alloc | apply pw_below_drewN | apply below_drew1) | exact HB.out)⟩
           ·rw [if_neg c106] at H
            have c106b0 : ((t465.length : Int) == 0) = false := beq_eq_false_iff_ne.mpr c106
            have c106b1 : ((t465.length : Int) != 0) = true := bne_iff_ne.mpr c106
            have c106b2 : ¬ (t465 = []) := fun h_ => c106 (by rw [h_]; rfl)
            obtain rfl := Option.some.inj H
            obtain ⟨Ao112, co112, eo112⟩ := Kd.R_slice HO_5.out
            subst eo112
            go_wp2
            repeat (go_quiet (fail); try go_wp2)
            go_ret
            exact ⟨by first | rfl | (simp [errW_none, errW_some] <;> rfl) | (simp [*, errW_none, errW_some] <;> rfl), by repeat (first | (with_reducible first | exact HB.out | apply below_alloc | apply pw_below_drewN | apply below_drew1) | exact HB.out)⟩
   ·rw [if_neg c7] at H
    exact absurd H (by simp)
  ·rw [if_neg c6] at H
   exact absurd H (by simp)
 ·replace c4 := Bool.eq_false_iff.mpr c4
  subst c4
  have H1 : (some false) = some r := by rw [if_neg (show ¬ (false = true) by decide)] at H; exact H
  clear H
  have H := H1
  clear H1
  obtain rfl := Option.some.inj H
  go_enter Tryz.func12, Tryz.ntmps12
  go_wp2_with (first | (go_at_call 16; (with_reducible refine (bursarlaw03_known.calls k  false _ A3.out (Glob.below hG.toGlob (by repeat (first | (with_reducible first | exact HB.out | apply below_alloc | apply pw_below_drewN | apply below_drew1) | exact HB.out)))).mono ?_); rintro e w113 ⟨rfl, hb⟩; have n0_ := Aside0.mk (below_step (by repeat (first | (with_reducible first | exact HB.out | apply below_alloc | apply pw_below_drewN | apply below_drew1) | exact HB.out)) hb); clear HB; have HB := n0_; clear n0_; (try clear hb); (try clear hb2); (try clear hk); (try clear hi)))
  repeat (go_quiet (first | (go_at_call 16; (with_reducible refine (bursarlaw03_known.calls k  false _ A3.out (Glob.below hG.toGlob (by repeat (first | (with_reducible first | exact HB.out | apply below_alloc | apply pw_below_drewN | apply below_drew1) | exact HB.out)))).mono ?_); rintro e w113 ⟨rfl, hb⟩; have n0_ := Aside0.mk (below_step (by repeat (first | (with_reducible first | exact HB.out | apply below_alloc | apply pw_below_drewN | apply below_drew1) | exact HB.out)) hb); clear HB; have HB := n0_; clear n0_; (try clear hb); (try clear hb2); (try clear hk); (try clear hi))); try go_wp2_with (first | (go_at_call 16; (with_reducible refine (bursarlaw03_known.calls k  false _ A3.out (Glob.below hG.toGlob (by repeat (first | (with_reducible first | exact HB.out | apply below_alloc | apply pw_below_drewN | apply below_drew1) | exact HB.out)))).mono ?_); rintro e w113 ⟨rfl, hb⟩; have n0_ := Aside0.mk (below_step (by repeat (first | (with_reducible first | exact HB.out | apply below_alloc | apply pw_below_drewN | apply below_drew1) | exact HB.out)) hb); clear HB; have HB := n0_; clear n0_; (try clear hb); (try clear hb2); (try clear hk); (try clear hi))))
  go_ret
  exact ⟨by first | rfl | (simp [errW_none, errW_some] <;> rfl) | (simp [*, errW_none, errW_some] <;> rfl), by repeat (first | (with_reducible first | exact HB.out | apply below_alloc | apply pw_below_drewN | apply below_drew1) | exact HB.out)⟩
end Go.Proofs.YtejgbdclhlolkaaGreatDoor.Q
namespace Go.Proofs.YtejgbdclhlolkaaGreatDoor.Q
open Go.RowKit Go.Proofs.YtejgbdclhlolkaaGreatDoorW.PrintWords Go.Proofs.YtejgbdclhlolkaaGreatDoorW.PrintLast Go.Proofs.YtejgbdclhlolkaaGreatDoorW.PrintMore
attribute [local go_sem] max2_int min2_int max_two min_two max_three min_three max_four min_four   -- for this text's walks alone
set_option linter.unusedVariables false
set_option linter.unusedSimpArgs false
def bursarref03_Of.l0 : Nat → List (S57) → ByteArray → Int → Option (Int × Bool)
  | 0, _, _, _ => none
  | k + 1, x0, x1, x6 => if x6 < (x0.length : Int) then (if 0 ≤ x6 then (if ((rd_T57 x0 x6).f0).toList = x1.toList then (some ((rd_T57 x0 x6).f1, true)) else (bursarref03_Of.l0 k x0 x1 (wrap64 (x6 + 1)))) else (none)) else (some (0, false))
def bursarref03_Of.f (k : Nat) (l0 : List (S57)) (a1 : ByteArray) : Option (Int × Bool) := bursarref03_Of.l0 k l0 a1 0
theorem bursarref03_Of.mono_l : ∀ k, (∀ y0 y1 y2, LeO (bursarref03_Of.l0 k y0 y1 y2) (bursarref03_Of.l0 (k + 1) y0 y1 y2))
  | 0 => fun _ _ _ r h => by simp [bursarref03_Of.l0] at h
  | k + 1 => by
    have ih0 := bursarref03_Of.mono_l k
    · intro y0 y1 y2
      unfold bursarref03_Of.l0
      repeat' first
      | (with_reducible exact ih0 _ _ _)
      | (with_reducible exact LeO.refl _)
      | (with_reducible exact LeO.none _)
      | (with_reducible refine LeO.ite ?_ ?_)
      | (with_reducible refine LeO.bind ?_ (fun _ => ?_))
      | exact ih0 _ _ _
      | exact LeO.none _
      | refine LeO.ite ?_ ?_
      | refine LeO.bind ?_ (fun _ => ?_)
theorem bursarref03_Of.mono : ∀ a0 a1 k, LeO (bursarref03_Of.f k a0 a1) (bursarref03_Of.f (k + 1) a0 a1) := by
  intro a0 a1 k
  have ih0 := bursarref03_Of.mono_l k
  unfold bursarref03_Of.f
  repeat' first
      | (with_reducible exact ih0 _ _ _)
      | (with_reducible exact LeO.refl _)
      | (with_reducible exact LeO.none _)
      | (with_reducible refine LeO.ite ?_ ?_)
      | (with_reducible refine LeO.bind ?_ (fun _ => ?_))
      | exact ih0 _ _ _
      | exact LeO.none _
      | refine LeO.ite ?_ ?_
      | refine LeO.bind ?_ (fun _ => ?_)
end Go.Proofs.YtejgbdclhlolkaaGreatDoor.Q
namespace Go.Proofs.YtejgbdclhlolkaaGreatDoor.Q
open Go.RowKit Go.Proofs.YtejgbdclhlolkaaGreatDoorW.PrintWords Go.Proofs.YtejgbdclhlolkaaGreatDoorW.PrintLast
attribute [local go_sem high] eqA57
set_option linter.unusedVariables false
set_option linter.unusedSimpArgs false
def bursarlaw03_untouched.f (k : Nat) (l0 l1 : List S57) : Option Bool :=
  if 4000000000 < l1.length then none else if l0.length = l1.length + 1 then ((bursarlaw03_same.f k (l0.take l1.length) l1).bind fun t => if t = true then some ((rd_T57 l0 (l1.length : Int)).f0.toList == (⟨#[109, 97, 114, 107]⟩ : ByteArray).toList && ((rd_T57 l0 (l1.length : Int)).f1 == 77)) else some false) else some false
theorem bursarlaw03_untouched.mono : ∀ a0 a1 k, LeO (bursarlaw03_untouched.f k a0 a1) (bursarlaw03_untouched.f (k + 1) a0 a1) := by
  intro a0 a1 k
  unfold bursarlaw03_untouched.f
  repeat' first
    | exact LeO.refl _
    | refine LeO.ite ?_ ?_
    | (refine LeO.bind (bursarlaw03_same.mono _ _ _) (fun _ => ?_))
end Go.Proofs.YtejgbdclhlolkaaGreatDoor.Q
namespace Go.Proofs.YtejgbdclhlolkaaGreatDoor.Q
open Go.RowKit Go.Proofs.YtejgbdclhlolkaaGreatDoorW.PrintWords Go.Proofs.YtejgbdclhlolkaaGreatDoorW.PrintLast
set_option linter.unusedVariables false
set_option linter.unusedSimpArgs false
set_option maxRecDepth 100000 in
theorem known_at : bursarlaw03_known.f 60 = some true := by decide +kernel
theorem known_ev : Ev (fun k => bursarlaw03_known.f k) true := Ev.of bursarlaw03_known.mono known_at
end Go.Proofs.YtejgbdclhlolkaaGreatDoor.Q
