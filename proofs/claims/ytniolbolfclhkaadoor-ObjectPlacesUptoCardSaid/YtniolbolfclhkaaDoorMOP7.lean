/- What the statement ObjectPlacesUptoCardSaid rests on, part 7 of 7: walks and plain laws; what of the printer's words it leans on. -/
import Derived.Test.YtniolbolfclhkaaDoorRows
import Derived.Test.YtniolbolfclhkaaDoorCards
import Derived.Test.YtniolbolfclhkaaDoorTie
import Derived.Test.YtniolbolfclhkaaDoorMOP3
import Derived.Test.YtniolbolfclhkaaDoorMOP5
import Derived.Test.YtniolbolfclhkaaDoorMOP6
import Derived.LaidSub
import Derived.Lib.LaidTab
import Derived.ChangeSame
import Derived.WalkKit
import Derived.ProofKit
import Derived.OpenShut
import Derived.ShutString
import Derived.ChangeOld
import Derived.Below
import Derived.SizedLaws
import Derived.Deep.DeepHandedRow
import Derived.LaidMore
namespace Go.Proofs.YtniolbolfclhkaaDoor.Q
open Go.RowKit Go.Proofs.YtniolbolfclhkaaDoorW.PrintWords Go.Proofs.YtniolbolfclhkaaDoorW.PrintLast Go.Proofs.YtniolbolfclhkaaDoorW.PrintMore
attribute [local go_sem] max2_int min2_int max_two min_two max_three min_three max_four min_four   -- for this text's walks alone
set_option linter.unusedVariables false
set_option linter.unusedSimpArgs false
mutual
def bursarlaw13_ObjectPlaces.j0 : Nat → Int → ByteArray → ByteArray → Int → ByteArray → ByteArray → ByteArray → ByteArray → Int → ByteArray → Int → Bool → Option (Bool)
|0,_,_,_,_,_,_,_,_,_,_,_,_ => none
|k + 1,x0,x1,x2,x3,x4,x5,x6,x16,x17,x18,x19,x63 => if x63 = true then (none) else (if x17 = 0 then ((object_Unkey.f k x16).bind fun bt260 => (if bt260.2.2.2 = 0 then (if bt260.1 = x0 then (if bt260.2.1.toList = x1.toList then (if bt260.2.2.1.toList = x2.toList then (if (x16.size : Int) > 120 then (bursarlaw13_ObjectPlaces.j1 k x0 x1 x2 x3 x4 x5 x6 x16 x18 x19 (⟨#[110,113,108,111,98]⟩ : ByteArray) true) else (if x0 < 0 then (bursarlaw13_ObjectPlaces.j1 k x0 x1 x2 x3 x4 x5 x6 x16 x18 x19 (⟨#[110,113,108,111,98]⟩ : ByteArray) true) else (bursarlaw13_ObjectPlaces.j1 k x0 x1 x2 x3 x4 x5 x6 x16 x18 x19 (⟨#[110,113,108,111,98]⟩ : ByteArray) (decide (x0 > 4))))) else (bursarlaw13_ObjectPlaces.j1 k x0 x1 x2 x3 x4 x5 x6 x16 x18 x19 (⟨#[110,113,108,111,98]⟩ : ByteArray) true)) else (bursarlaw13_ObjectPlaces.j1 k x0 x1 x2 x3 x4 x5 x6 x16 x18 x19 (⟨#[110,113,108,111,98]⟩ : ByteArray) true)) else (bursarlaw13_ObjectPlaces.j1 k x0 x1 x2 x3 x4 x5 x6 x16 x18 x19 (⟨#[110,113,108,111,98]⟩ : ByteArray) true)) else (bursarlaw13_ObjectPlaces.j1 k x0 x1 x2 x3 x4 x5 x6 x16 x18 x19 (⟨#[110,113,108,111,98]⟩ : ByteArray) true))) else (bursarlaw13_ObjectPlaces.j4 k x6))
def bursarlaw13_ObjectPlaces.j4 : Nat → ByteArray → Option (Bool)
|0,_ => none
|k + 1,x6 => (object_Unkey.f k x6).bind fun bt300 => (if bt300.2.2.2 = 0 then ((object_Key.f bt300.1 bt300.2.1 bt300.2.2.1).bind fun bt304 => (if bt304.2 = 0 then (some (bt304.1.toList == x6.toList)) else (none))) else (if bt300.2.2.2 = 2 then (if bt300.1 = 0 then (if bt300.2.1.toList = ([] : List UInt8) then (some (bt300.2.2.1.toList == ([] : List UInt8))) else (none)) else (none)) else (none)))
def bursarlaw13_ObjectPlaces.j1 : Nat → Int → ByteArray → ByteArray → Int → ByteArray → ByteArray → ByteArray → ByteArray → ByteArray → Int → ByteArray → Bool → Option (Bool)
|0,_,_,_,_,_,_,_,_,_,_,_,_ => none
|k + 1,x0,x1,x2,x3,x4,x5,x6,x16,x18,x19,x24,x102 => if x102 = true then (none) else (if 0 ≤ x0 then (if x0 ≤ (wrap64 (x0 + 1)) then (if (wrap64 (x0 + 1)) ≤ (x24.size : Int) then ((bursarlaw13_within.f x16 (([x24.extract (x0 : Int).toNat ((wrap64 (x0 + 1)) : Int).toNat] : List ByteArray))).bind fun t267 => (if t267 = true then ((bursarlaw13_within.f x16 (([x24.extract (x0 : Int).toNat ((wrap64 (x0 + 1)) : Int).toNat,x1] : List ByteArray))).bind fun t271 => (if t271 = true then ((bursarlaw13_within.f x16 (([x24.extract (x0 : Int).toNat ((wrap64 (x0 + 1)) : Int).toNat,x1,x2] : List ByteArray))).bind fun t275 => (bursarlaw13_ObjectPlaces.j2 k x0 x1 x2 x3 x4 x5 x6 x16 x18 x19 x24 (!t275))) else (bursarlaw13_ObjectPlaces.j2 k x0 x1 x2 x3 x4 x5 x6 x16 x18 x19 x24 true))) else (bursarlaw13_ObjectPlaces.j2 k x0 x1 x2 x3 x4 x5 x6 x16 x18 x19 x24 true))) else (none)) else (none)) else (none))
def bursarlaw13_ObjectPlaces.j2 : Nat → Int → ByteArray → ByteArray → Int → ByteArray → ByteArray → ByteArray → ByteArray → ByteArray → Int → ByteArray → Bool → Option (Bool)
|0,_,_,_,_,_,_,_,_,_,_,_,_ => none
|k + 1,x0,x1,x2,x3,x4,x5,x6,x16,x18,x19,x24,x129 => if x129 = true then (none) else (if x19 = 0 then (if x3 < 0 then (bursarlaw13_ObjectPlaces.j3 k x0 x1 x2 x3 x4 x5 x6 x16 x18 x19 x24 true) else (bursarlaw13_ObjectPlaces.j3 k x0 x1 x2 x3 x4 x5 x6 x16 x18 x19 x24 (decide (x3 > 4)))) else (bursarlaw13_ObjectPlaces.j3 k x0 x1 x2 x3 x4 x5 x6 x16 x18 x19 x24 false))
def bursarlaw13_ObjectPlaces.j3 : Nat → Int → ByteArray → ByteArray → Int → ByteArray → ByteArray → ByteArray → ByteArray → ByteArray → Int → ByteArray → Bool → Option (Bool)
|0,_,_,_,_,_,_,_,_,_,_,_,_ => none
|k + 1,x0,x1,x2,x3,x4,x5,x6,x16,x18,x19,x24,x139 => if x139 = true then (none) else (if x19 = 0 then (if 0 ≤ x3 then (if x3 ≤ (wrap64 (x3 + 1)) then (if (wrap64 (x3 + 1)) ≤ (x24.size : Int) then (if x0 = x3 then (if x1.toList = x4.toList then (if ((x16.toList == x18.toList) != (x2.toList == x5.toList)) = true then (none) else ((bursarlaw13_within.f x16 (([x24.extract (x3 : Int).toNat ((wrap64 (x3 + 1)) : Int).toNat] : List ByteArray))).bind fun t279 => (if (t279 != (x0 == x3)) = true then (none) else ((bursarlaw13_within.f x16 (([x24.extract (x3 : Int).toNat ((wrap64 (x3 + 1)) : Int).toNat,x4] : List ByteArray))).bind fun t283 => (if (t283 != (x1.toList == x4.toList)) = true then (none) else (bursarlaw13_ObjectPlaces.j4 k x6)))))) else (if ((x16.toList == x18.toList) != false) = true then (none) else ((bursarlaw13_within.f x16 (([x24.extract (x3 : Int).toNat ((wrap64 (x3 + 1)) : Int).toNat] : List ByteArray))).bind fun t287 => (if (t287 != (x0 == x3)) = true then (none) else ((bursarlaw13_within.f x16 (([x24.extract (x3 : Int).toNat ((wrap64 (x3 + 1)) : Int).toNat,x4] : List ByteArray))).bind fun t291 => (if (t291 != (x1.toList == x4.toList)) = true then (none) else (bursarlaw13_ObjectPlaces.j4 k x6))))))) else (if ((x16.toList == x18.toList) != false) = true then (none) else ((bursarlaw13_within.f x16 (([x24.extract (x3 : Int).toNat ((wrap64 (x3 + 1)) : Int).toNat] : List ByteArray))).bind fun t295 => (if (t295 != (x0 == x3)) = true then (none) else ((bursarlaw13_within.f x16 (([x24.extract (x3 : Int).toNat ((wrap64 (x3 + 1)) : Int).toNat,x4] : List ByteArray))).bind fun t299 => (if (t299 != false) = true then (none) else (bursarlaw13_ObjectPlaces.j4 k x6))))))) else (none)) else (none)) else (none)) else (bursarlaw13_ObjectPlaces.j4 k x6))
end
def bursarlaw13_ObjectPlaces.f (k : Nat) (a0 : Int) (a1 : ByteArray) (a2 : ByteArray) (a3 : Int) (a4 : ByteArray) (a5 : ByteArray) (a6 : ByteArray) : Option (Bool) := (bursarlaw13_fixed.f).bind fun t255 => (if t255 = true then ((object_Key.f a0 a1 a2).bind fun bt256 => ((object_Key.f a3 a4 a5).bind fun bt258 => (if bt256.2 = 0 then (if bt258.2 = 0 then (bursarlaw13_ObjectPlaces.j0 k a0 a1 a2 a3 a4 a5 a6 bt256.1 bt256.2 bt258.1 bt258.2 false) else (bursarlaw13_ObjectPlaces.j0 k a0 a1 a2 a3 a4 a5 a6 bt256.1 bt256.2 bt258.1 bt258.2 (bt258.1.toList != ([] : List UInt8)))) else (if bt256.1.toList = ([] : List UInt8) then (if bt258.2 = 0 then (bursarlaw13_ObjectPlaces.j0 k a0 a1 a2 a3 a4 a5 a6 bt256.1 bt256.2 bt258.1 bt258.2 false) else (bursarlaw13_ObjectPlaces.j0 k a0 a1 a2 a3 a4 a5 a6 bt256.1 bt256.2 bt258.1 bt258.2 (bt258.1.toList != ([] : List UInt8)))) else (bursarlaw13_ObjectPlaces.j0 k a0 a1 a2 a3 a4 a5 a6 bt256.1 bt256.2 bt258.1 bt258.2 true))))) else (none))
theorem bursarlaw13_ObjectPlaces.mono_l : ∀ k, (∀ y0 y1 y2 y3 y4 y5 y6 y7 y8 y9 y10 y11, LeO (bursarlaw13_ObjectPlaces.j0 k y0 y1 y2 y3 y4 y5 y6 y7 y8 y9 y10 y11) (bursarlaw13_ObjectPlaces.j0 (k + 1) y0 y1 y2 y3 y4 y5 y6 y7 y8 y9 y10 y11)) ∧ (∀ y0, LeO (bursarlaw13_ObjectPlaces.j4 k y0) (bursarlaw13_ObjectPlaces.j4 (k + 1) y0)) ∧ (∀ y0 y1 y2 y3 y4 y5 y6 y7 y8 y9 y10 y11, LeO (bursarlaw13_ObjectPlaces.j1 k y0 y1 y2 y3 y4 y5 y6 y7 y8 y9 y10 y11) (bursarlaw13_ObjectPlaces.j1 (k + 1) y0 y1 y2 y3 y4 y5 y6 y7 y8 y9 y10 y11)) ∧ (∀ y0 y1 y2 y3 y4 y5 y6 y7 y8 y9 y10 y11, LeO (bursarlaw13_ObjectPlaces.j2 k y0 y1 y2 y3 y4 y5 y6 y7 y8 y9 y10 y11) (bursarlaw13_ObjectPlaces.j2 (k + 1) y0 y1 y2 y3 y4 y5 y6 y7 y8 y9 y10 y11)) ∧ (∀ y0 y1 y2 y3 y4 y5 y6 y7 y8 y9 y10 y11, LeO (bursarlaw13_ObjectPlaces.j3 k y0 y1 y2 y3 y4 y5 y6 y7 y8 y9 y10 y11) (bursarlaw13_ObjectPlaces.j3 (k + 1) y0 y1 y2 y3 y4 y5 y6 y7 y8 y9 y10 y11))
|0 => ⟨fun _ _ _ _ _ _ _ _ _ _ _ _ r h => by simp [bursarlaw13_ObjectPlaces.j0] at h,fun _ r h => by simp [bursarlaw13_ObjectPlaces.j4] at h,fun _ _ _ _ _ _ _ _ _ _ _ _ r h => by simp [bursarlaw13_ObjectPlaces.j1] at h,fun _ _ _ _ _ _ _ _ _ _ _ _ r h => by simp [bursarlaw13_ObjectPlaces.j2] at h,fun _ _ _ _ _ _ _ _ _ _ _ _ r h => by simp [bursarlaw13_ObjectPlaces.j3] at h⟩
|k + 1 => by
  obtain ⟨ih0,ih1,ih2,ih3,ih4⟩:=bursarlaw13_ObjectPlaces.mono_l k
  refine ⟨?_,?_,?_,?_,?_⟩
  ·intro y0 y1 y2 y3 y4 y5 y6 y7 y8 y9 y10 y11
   unfold bursarlaw13_ObjectPlaces.j0
   repeat' first
  |(with_reducible exact ih0 _ _ _ _ _ _ _ _ _ _ _ _)
  |(with_reducible exact ih1 _)
  |(with_reducible exact ih2 _ _ _ _ _ _ _ _ _ _ _ _)
  |(with_reducible exact ih3 _ _ _ _ _ _ _ _ _ _ _ _)
  |(with_reducible exact ih4 _ _ _ _ _ _ _ _ _ _ _ _)
  |(with_reducible exact object_Unkey.mono _ _)
  |(with_reducible exact LeO.refl _)
  |(with_reducible exact LeO.none _)
  |(with_reducible refine LeO.ite ?_ ?_)
  |(with_reducible refine LeO.bind ?_ (fun _ => ?_))
  |exact ih0 _ _ _ _ _ _ _ _ _ _ _ _
  |exact ih1 _
  |exact ih2 _ _ _ _ _ _ _ _ _ _ _ _
  |exact ih3 _ _ _ _ _ _ _ _ _ _ _ _
  |exact ih4 _ _ _ _ _ _ _ _ _ _ _ _
  |exact object_Unkey.mono _ _
  |exact LeO.none _
  |refine LeO.ite ?_ ?_
  |refine LeO.bind ?_ (fun _ => ?_)
  ·intro y0
   unfold bursarlaw13_ObjectPlaces.j4
   repeat' first
  |(with_reducible exact ih0 _ _ _ _ _ _ _ _ _ _ _ _)
  |(with_reducible exact ih1 _)
  |(with_reducible exact ih2 _ _ _ _ _ _ _ _ _ _ _ _)
  |(with_reducible exact ih3 _ _ _ _ _ _ _ _ _ _ _ _)
  |(with_reducible exact ih4 _ _ _ _ _ _ _ _ _ _ _ _)
  |(with_reducible exact object_Unkey.mono _ _)
  |(with_reducible exact LeO.refl _)
  |(with_reducible exact LeO.none _)
  |(with_reducible refine LeO.ite ?_ ?_)
  |(with_reducible refine LeO.bind ?_ (fun _ => ?_))
  |exact ih0 _ _ _ _ _ _ _ _ _ _ _ _
  |exact ih1 _
  |exact ih2 _ _ _ _ _ _ _ _ _ _ _ _
  |exact ih3 _ _ _ _ _ _ _ _ _ _ _ _
  |exact ih4 _ _ _ _ _ _ _ _ _ _ _ _
  |exact object_Unkey.mono _ _
  |exact LeO.none _
  |refine LeO.ite ?_ ?_
  |refine LeO.bind ?_ (fun _ => ?_)
  ·intro y0 y1 y2 y3 y4 y5 y6 y7 y8 y9 y10 y11
   unfold bursarlaw13_ObjectPlaces.j1
   repeat' first
  |(with_reducible exact ih0 _ _ _ _ _ _ _ _ _ _ _ _)
  |(with_reducible exact ih1 _)
  |(with_reducible exact ih2 _ _ _ _ _ _ _ _ _ _ _ _)
  |(with_reducible exact ih3 _ _ _ _ _ _ _ _ _ _ _ _)
  |(with_reducible exact ih4 _ _ _ _ _ _ _ _ _ _ _ _)
  |(with_reducible exact object_Unkey.mono _ _)
  |(with_reducible exact LeO.refl _)
  |(with_reducible exact LeO.none _)
  |(with_reducible refine LeO.ite ?_ ?_)
  |(with_reducible refine LeO.bind ?_ (fun _ => ?_))
  |exact ih0 _ _ _ _ _ _ _ _ _ _ _ _
  |exact ih1 _
  |exact ih2 _ _ _ _ _ _ _ _ _ _ _ _
  |exact ih3 _ _ _ _ _ _ _ _ _ _ _ _
  |exact ih4 _ _ _ _ _ _ _ _ _ _ _ _
  |exact object_Unkey.mono _ _
  |exact LeO.none _
  |refine LeO.ite ?_ ?_
  |refine LeO.bind ?_ (fun _ => ?_)
  ·intro y0 y1 y2 y3 y4 y5 y6 y7 y8 y9 y10 y11
   unfold bursarlaw13_ObjectPlaces.j2
   repeat' first
  |(with_reducible exact ih0 _ _ _ _ _ _ _ _ _ _ _ _)
  |(with_reducible exact ih1 _)
  |(with_reducible exact ih2 _ _ _ _ _ _ _ _ _ _ _ _)
  |(with_reducible exact ih3 _ _ _ _ _ _ _ _ _ _ _ _)
  |(with_reducible exact ih4 _ _ _ _ _ _ _ _ _ _ _ _)
  |(with_reducible exact object_Unkey.mono _ _)
  |(with_reducible exact LeO.refl _)
  |(with_reducible exact LeO.none _)
  |(with_reducible refine LeO.ite ?_ ?_)
  |(with_reducible refine LeO.bind ?_ (fun _ => ?_))
  |exact ih0 _ _ _ _ _ _ _ _ _ _ _ _
  |exact ih1 _
  |exact ih2 _ _ _ _ _ _ _ _ _ _ _ _
  |exact ih3 _ _ _ _ _ _ _ _ _ _ _ _
  |exact ih4 _ _ _ _ _ _ _ _ _ _ _ _
  |exact object_Unkey.mono _ _
  |exact LeO.none _
  |refine LeO.ite ?_ ?_
  |refine LeO.bind ?_ (fun _ => ?_)
  ·intro y0 y1 y2 y3 y4 y5 y6 y7 y8 y9 y10 y11
   unfold bursarlaw13_ObjectPlaces.j3
   repeat' first
  |(with_reducible exact ih0 _ _ _ _ _ _ _ _ _ _ _ _)
  |(with_reducible exact ih1 _)
  |(with_reducible exact ih2 _ _ _ _ _ _ _ _ _ _ _ _)
  |(with_reducible exact ih3 _ _ _ _ _ _ _ _ _ _ _ _)
  |(with_reducible exact ih4 _ _ _ _ _ _ _ _ _ _ _ _)
  |(with_reducible exact object_Unkey.mono _ _)
  |(with_reducible exact LeO.refl _)
  |(with_reducible exact LeO.none _)
  |(with_reducible refine LeO.ite ?_ ?_)
  |(with_reducible refine LeO.bind ?_ (fun _ => ?_))
  |exact ih0 _ _ _ _ _ _ _ _ _ _ _ _
  |exact ih1 _
  |exact ih2 _ _ _ _ _ _ _ _ _ _ _ _
  |exact ih3 _ _ _ _ _ _ _ _ _ _ _ _
  |exact ih4 _ _ _ _ _ _ _ _ _ _ _ _
  |exact object_Unkey.mono _ _
  |exact LeO.none _
  |refine LeO.ite ?_ ?_
  |refine LeO.bind ?_ (fun _ => ?_)
theorem bursarlaw13_ObjectPlaces.mono : ∀ a0 a1 a2 a3 a4 a5 a6 k, LeO (bursarlaw13_ObjectPlaces.f k a0 a1 a2 a3 a4 a5 a6) (bursarlaw13_ObjectPlaces.f (k + 1) a0 a1 a2 a3 a4 a5 a6) := by
 intro a0 a1 a2 a3 a4 a5 a6 k
 obtain ⟨ih0,ih1,ih2,ih3,ih4⟩:=bursarlaw13_ObjectPlaces.mono_l k
 unfold bursarlaw13_ObjectPlaces.f
 repeat' first
  |(with_reducible exact ih0 _ _ _ _ _ _ _ _ _ _ _ _)
  |(with_reducible exact ih1 _)
  |(with_reducible exact ih2 _ _ _ _ _ _ _ _ _ _ _ _)
  |(with_reducible exact ih3 _ _ _ _ _ _ _ _ _ _ _ _)
  |(with_reducible exact ih4 _ _ _ _ _ _ _ _ _ _ _ _)
  |(with_reducible exact object_Unkey.mono _ _)
  |(with_reducible exact LeO.refl _)
  |(with_reducible exact LeO.none _)
  |(with_reducible refine LeO.ite ?_ ?_)
  |(with_reducible refine LeO.bind ?_ (fun _ => ?_))
  |exact ih0 _ _ _ _ _ _ _ _ _ _ _ _
  |exact ih1 _
  |exact ih2 _ _ _ _ _ _ _ _ _ _ _ _
  |exact ih3 _ _ _ _ _ _ _ _ _ _ _ _
  |exact ih4 _ _ _ _ _ _ _ _ _ _ _ _
  |exact object_Unkey.mono _ _
  |exact LeO.none _
  |refine LeO.ite ?_ ?_
  |refine LeO.bind ?_ (fun _ => ?_)
set_option maxHeartbeats 8000000 in
set_option maxRecDepth 100000 in
theorem bursarlaw13_ObjectPlaces.calls (k : Nat) (a0 : Int) (a1 : ByteArray) (a2 : ByteArray) (a3 : Int) (a4 : ByteArray) (a5 : ByteArray) (a6 : ByteArray) (r : Bool) (w : World) (h : bursarlaw13_ObjectPlaces.f k a0 a1 a2 a3 a4 a5 a6 = some r) (hG : Glob w) :
  Calls Tryd.prog 5 #[.int .i64 a0,.string a1,.string a2,.int .i64 a3,.string a4,.string a5,.string a6] w fun e w' => e = .returned (.bool r) ∧ Below w.heap.size w w':=by
 have HB:=Aside0.mk (Below.refl w.heap.size w)
 have H : ((bursarlaw13_fixed.f).bind fun t255 => (if t255 = true then ((object_Key.f a0 a1 a2).bind fun bt256 => ((object_Key.f a3 a4 a5).bind fun bt258 => (if bt256.2 = 0 then (if bt258.2 = 0 then (bursarlaw13_ObjectPlaces.j0 k a0 a1 a2 a3 a4 a5 a6 bt256.1 bt256.2 bt258.1 bt258.2 false) else (bursarlaw13_ObjectPlaces.j0 k a0 a1 a2 a3 a4 a5 a6 bt256.1 bt256.2 bt258.1 bt258.2 (bt258.1.toList != ([] : List UInt8)))) else (if bt256.1.toList = ([] : List UInt8) then (if bt258.2 = 0 then (bursarlaw13_ObjectPlaces.j0 k a0 a1 a2 a3 a4 a5 a6 bt256.1 bt256.2 bt258.1 bt258.2 false) else (bursarlaw13_ObjectPlaces.j0 k a0 a1 a2 a3 a4 a5 a6 bt256.1 bt256.2 bt258.1 bt258.2 (bt258.1.toList != ([] : List UInt8)))) else (bursarlaw13_ObjectPlaces.j0 k a0 a1 a2 a3 a4 a5 a6 bt256.1 bt256.2 bt258.1 bt258.2 true))))) else (none))) = some r:=h
 clear h
 replace H:=Option.bind_eq_some_iff.mp H
 obtain ⟨t255,A80,H⟩:=H
 replace H : (if t255 = true then ((object_Key.f a0 a1 a2).bind fun bt256 => ((object_Key.f a3 a4 a5).bind fun bt258 => (if bt256.2 = 0 then (if bt258.2 = 0 then (bursarlaw13_ObjectPlaces.j0 k a0 a1 a2 a3 a4 a5 a6 bt256.1 bt256.2 bt258.1 bt258.2 false) else (bursarlaw13_ObjectPlaces.j0 k a0 a1 a2 a3 a4 a5 a6 bt256.1 bt256.2 bt258.1 bt258.2 (bt258.1.toList != ([] : List UInt8)))) else (if bt256.1.toList = ([] : List UInt8) then (if bt258.2 = 0 then (bursarlaw13_ObjectPlaces.j0 k a0 a1 a2 a3 a4 a5 a6 bt256.1 bt256.2 bt258.1 bt258.2 false) else (bursarlaw13_ObjectPlaces.j0 k a0 a1 a2 a3 a4 a5 a6 bt256.1 bt256.2 bt258.1 bt258.2 (bt258.1.toList != ([] : List UInt8)))) else (bursarlaw13_ObjectPlaces.j0 k a0 a1 a2 a3 a4 a5 a6 bt256.1 bt256.2 bt258.1 bt258.2 true))))) else (none)) = some r:=H
 have A8:=Aside0.mk A80
 clear A80
 by_cases c9 : t255 = true
 rotate_left
 ·replace c9:=Bool.eq_false_iff.mpr c9
  subst c9
  have H1 : (none) = some r:=by rw [if_neg (show ¬ (false = true) by decide)] at H;exact H
  clear H;have H:=H1;clear H1
  exact absurd H (by simp)
 subst c9
 have H1 : ((object_Key.f a0 a1 a2).bind fun bt256 => ((object_Key.f a3 a4 a5).bind fun bt258 => (if bt256.2 = 0 then (if bt258.2 = 0 then (bursarlaw13_ObjectPlaces.j0 k a0 a1 a2 a3 a4 a5 a6 bt256.1 bt256.2 bt258.1 bt258.2 false) else (bursarlaw13_ObjectPlaces.j0 k a0 a1 a2 a3 a4 a5 a6 bt256.1 bt256.2 bt258.1 bt258.2 (bt258.1.toList != ([] : List UInt8)))) else (if bt256.1.toList = ([] : List UInt8) then (if bt258.2 = 0 then (bursarlaw13_ObjectPlaces.j0 k a0 a1 a2 a3 a4 a5 a6 bt256.1 bt256.2 bt258.1 bt258.2 false) else (bursarlaw13_ObjectPlaces.j0 k a0 a1 a2 a3 a4 a5 a6 bt256.1 bt256.2 bt258.1 bt258.2 (bt258.1.toList != ([] : List UInt8)))) else (bursarlaw13_ObjectPlaces.j0 k a0 a1 a2 a3 a4 a5 a6 bt256.1 bt256.2 bt258.1 bt258.2 true))))) = some r:=by rw [if_pos rfl] at H;exact H
 clear H;have H:=H1;clear H1
 replace H:=Option.bind_eq_some_iff.mp H
 obtain ⟨⟨t256,t257⟩,A100,H⟩:=H
 replace H : ((object_Key.f a3 a4 a5).bind fun bt258 => (if t257 = 0 then (if bt258.2 = 0 then (bursarlaw13_ObjectPlaces.j0 k a0 a1 a2 a3 a4 a5 a6 t256 t257 bt258.1 bt258.2 false) else (bursarlaw13_ObjectPlaces.j0 k a0 a1 a2 a3 a4 a5 a6 t256 t257 bt258.1 bt258.2 (bt258.1.toList != ([] : List UInt8)))) else (if t256.toList = ([] : List UInt8) then (if bt258.2 = 0 then (bursarlaw13_ObjectPlaces.j0 k a0 a1 a2 a3 a4 a5 a6 t256 t257 bt258.1 bt258.2 false) else (bursarlaw13_ObjectPlaces.j0 k a0 a1 a2 a3 a4 a5 a6 t256 t257 bt258.1 bt258.2 (bt258.1.toList != ([] : List UInt8)))) else (bursarlaw13_ObjectPlaces.j0 k a0 a1 a2 a3 a4 a5 a6 t256 t257 bt258.1 bt258.2 true)))) = some r:=H
 have A10:=Aside0.mk A100
 clear A100
 replace H:=Option.bind_eq_some_iff.mp H
 obtain ⟨⟨t258,t259⟩,A110,H⟩:=H
 replace H : (if t257 = 0 then (if t259 = 0 then (bursarlaw13_ObjectPlaces.j0 k a0 a1 a2 a3 a4 a5 a6 t256 t257 t258 t259 false) else (bursarlaw13_ObjectPlaces.j0 k a0 a1 a2 a3 a4 a5 a6 t256 t257 t258 t259 (t258.toList != ([] : List UInt8)))) else (if t256.toList = ([] : List UInt8) then (if t259 = 0 then (bursarlaw13_ObjectPlaces.j0 k a0 a1 a2 a3 a4 a5 a6 t256 t257 t258 t259 false) else (bursarlaw13_ObjectPlaces.j0 k a0 a1 a2 a3 a4 a5 a6 t256 t257 t258 t259 (t258.toList != ([] : List UInt8)))) else (bursarlaw13_ObjectPlaces.j0 k a0 a1 a2 a3 a4 a5 a6 t256 t257 t258 t259 true))) = some r:=H
 have A11:=Aside0.mk A110
 clear A110
 have HC12:=Aside0.mk H
 clear H
 go_enter Tryd.func5,Tryd.ntmps5
 go_upto_region 6 with (first|((with_reducible refine gate_callee (f:=6) rfl ?_);refine goesL_ (some 33) rfl rfl Tryd.func6 (by kernel_rfl) rfl #[] rfl (by (try simp only [List.map_toArray,List.map_cons,List.map_nil]);first|done|rfl|(simp only [List.length_drop,List.length_take];rfl)) ?_;(with_reducible refine (bursarlaw13_fixed.calls  true _ A8.out (Glob.below hG (by repeat (first|(with_reducible first|exact HB.out|apply below_alloc|apply pw_below_drewN|apply below_drew1)|exact HB.out)))).mono ?_);rintro e w13 ⟨rfl,hb⟩;refine ⟨_,rfl,?_⟩;have n0_:=Aside0.mk (below_step (by repeat (first|(with_reducible first|exact HB.out|apply below_alloc|apply pw_below_drewN|apply below_drew1)|exact HB.out)) hb);clear HB;have HB:=n0_;clear n0_;(try clear hb);(try clear hb2);(try clear hk);(try clear hi))|((with_reducible refine gate_callee (f:=11) rfl ?_);refine goesL_ (some 40) rfl rfl Tryd.func11 (by kernel_rfl) rfl #[.int .i64 a0,.string a1,.string a2] rfl (by (try simp only [List.map_toArray,List.map_cons,List.map_nil]);first|done|rfl|(simp only [List.length_drop,List.length_take];rfl)) ?_;(with_reducible refine (object_Key.calls a0 a1 a2 t256 t257 _ A10.out (Glob.below hG (by repeat (first|(with_reducible first|exact HB.out|apply below_alloc|apply pw_below_drewN|apply below_drew1)|exact HB.out)))).mono ?_);rintro e w14 ⟨rfl,hb⟩;refine ⟨_,rfl,?_⟩;have n0_:=Aside0.mk (below_step (by repeat (first|(with_reducible first|exact HB.out|apply below_alloc|apply pw_below_drewN|apply below_drew1)|exact HB.out)) hb);clear HB;have HB:=n0_;clear n0_;(try clear hb);(try clear hb2);(try clear hk);(try clear hi))|((with_reducible refine gate_callee (f:=11) rfl ?_);refine goesL_ (some 47) rfl rfl Tryd.func11 (by kernel_rfl) rfl #[.int .i64 a3,.string a4,.string a5] rfl (by (try simp only [List.map_toArray,List.map_cons,List.map_nil]);first|done|rfl|(simp only [List.length_drop,List.length_take];rfl)) ?_;(with_reducible refine (object_Key.calls a3 a4 a5 t258 t259 _ A11.out (Glob.below hG (by repeat (first|(with_reducible first|exact HB.out|apply below_alloc|apply pw_below_drewN|apply below_drew1)|exact HB.out)))).mono ?_);rintro e w15 ⟨rfl,hb⟩;refine ⟨_,rfl,?_⟩;have n0_:=Aside0.mk (below_step (by repeat (first|(with_reducible first|exact HB.out|apply below_alloc|apply pw_below_drewN|apply below_drew1)|exact HB.out)) hb);clear HB;have HB:=n0_;clear n0_;(try clear hb);(try clear hb2);(try clear hk);(try clear hi)))
 (try simp only [Act.put,List.setIfInBounds_toArray,List.set_cons_zero,List.set_cons_succ])
 go_cut [63] (fun v63 wc => ∃ (kq : Nat) (x63_11 : Bool),v63 = .bool x63_11 ∧ Aside0 (bursarlaw13_ObjectPlaces.j0 kq a0 a1 a2 a3 a4 a5 a6 t256 t257 t258 t259 x63_11 = some r) ∧ Aside0 (kq ≤ k) ∧ Aside0 (Below w.heap.size w wc))
 case first => as_aux_lemma =>
  have H:=HC12.out
  clear HC12
  by_cases c16 : t257 = 0
  ·rw [if_pos c16] at H
   have c16b0 : (t257 == 0) = true:=beq_iff_eq.mpr c16
   have c16b1 : (t257 != 0) = false:=bne_eq_false_iff_eq.mpr c16
   clear c16
   (first|rw [c16b0]|(simp only [i64_w,i32_w];rw [c16b0])|skip)
   by_cases c17 : t259 = 0
   ·rw [if_pos c17] at H
    have c17b0 : (t259 == 0) = true:=beq_iff_eq.mpr c17
    have c17b1 : (t259 != 0) = false:=bne_eq_false_iff_eq.mpr c17
    clear c17
    have H':=Aside0.mk H
    clear H
    go_wp2
    go_meet
    case rel => exact ⟨_,(false),(by first|rfl|(simp;done)|(simp [*];done)|(simp;rw [Bool.eq_iff_iff];simp;done)|(rw [Bool.eq_iff_iff];simp;done)),H',⟨by first|omega|exact Nat.le_refl _⟩,⟨by repeat (first|(with_reducible first|exact HB.out|apply below_alloc|apply pw_below_drewN|apply below_drew1)|exact HB.out)⟩⟩
   rw [if_neg c17] at H
   have c17b0 : (t259 == 0) = false:=beq_eq_false_iff_ne.mpr c17
   have c17b1 : (t259 != 0) = true:=bne_iff_ne.mpr c17
   have H':=Aside0.mk H
   clear H
   go_wp2
   go_meet
   case rel => exact ⟨_,((t258.toList != ([] : List UInt8))),(by first|rfl|(simp;done)|(simp [*];done)|(simp;rw [Bool.eq_iff_iff];simp;done)|(rw [Bool.eq_iff_iff];simp;done)),H',⟨by first|omega|exact Nat.le_refl _⟩,⟨by repeat (first|(with_reducible first|exact HB.out|apply below_alloc|apply pw_below_drewN|apply below_drew1)|exact HB.out)⟩⟩
  rw [if_neg c16] at H
  have c16b0 : (t257 == 0) = false:=beq_eq_false_iff_ne.mpr c16
  have c16b1 : (t257 != 0) = true:=bne_iff_ne.mpr c16
  (first|rw [c16b0]|(simp only [i64_w,i32_w];rw [c16b0])|skip)
  by_cases c18 : t256.toList = ([] : List UInt8)
  rotate_left
  ·rw [if_neg c18] at H
   have c18b0 : (t256.toList == ([] : List UInt8)) = false:=beq_eq_false_iff_ne.mpr c18
   have c18b1 : (t256.toList != ([] : List UInt8)) = true:=bne_iff_ne.mpr c18
   have H':=Aside0.mk H
   clear H
   go_wp2
   go_meet
   case rel => exact ⟨_,(true),(by first|rfl|(simp;done)|(simp [*];done)|(simp;rw [Bool.eq_iff_iff];simp;done)|(rw [Bool.eq_iff_iff];simp;done)),H',⟨by first|omega|exact Nat.le_refl _⟩,⟨by repeat (first|(with_reducible first|exact HB.out|apply below_alloc|apply pw_below_drewN|apply below_drew1)|exact HB.out)⟩⟩
  rw [if_pos c18] at H
  have c18b0 : (t256.toList == ([] : List UInt8)) = true:=beq_iff_eq.mpr c18
  have c18b1 : (t256.toList != ([] : List UInt8)) = false:=bne_eq_false_iff_eq.mpr c18
  clear c18
  by_cases c19 : t259 = 0
  ·rw [if_pos c19] at H
   have c19b0 : (t259 == 0) = true:=beq_iff_eq.mpr c19
   have c19b1 : (t259 != 0) = false:=bne_eq_false_iff_eq.mpr c19
   clear c19
   have H':=Aside0.mk H
   clear H
   go_wp2
   go_meet
   case rel => exact ⟨_,(false),(by first|rfl|(simp;done)|(simp [*];done)|(simp;rw [Bool.eq_iff_iff];simp;done)|(rw [Bool.eq_iff_iff];simp;done)),H',⟨by first|omega|exact Nat.le_refl _⟩,⟨by repeat (first|(with_reducible first|exact HB.out|apply below_alloc|apply pw_below_drewN|apply below_drew1)|exact HB.out)⟩⟩
  rw [if_neg c19] at H
  have c19b0 : (t259 == 0) = false:=beq_eq_false_iff_ne.mpr c19
  have c19b1 : (t259 != 0) = true:=bne_iff_ne.mpr c19
  have H':=Aside0.mk H
  clear H
  go_wp2
  go_meet
  case rel => exact ⟨_,((t258.toList != ([] : List UInt8))),(by first|rfl|(simp;done)|(simp [*];done)|(simp;rw [Bool.eq_iff_iff];simp;done)|(rw [Bool.eq_iff_iff];simp;done)),H',⟨by first|omega|exact Nat.le_refl _⟩,⟨by repeat (first|(with_reducible first|exact HB.out|apply below_alloc|apply pw_below_drewN|apply below_drew1)|exact HB.out)⟩⟩
 case rest => as_aux_lemma =>
  clear HC12;(try clear c1);(try clear p2);(try clear c5);(try clear c6);(try clear c9);(try clear c11);(try clear c16);(try clear c16b0);(try clear c16b1);(try clear c17);(try clear c17b0);(try clear c17b1);(try clear c18);(try clear c18b0);(try clear c18b1);(try clear c19);(try clear c19b0);(try clear c19b1)
  obtain ⟨kq,x63_11,rfl,HA,HJ11,HB⟩:=hcut
  cases kq with
 |zero => exact absurd HA.out (by simp [bursarlaw13_ObjectPlaces.j0])
 |succ kj11 =>
   have H:=HA.out
   clear HA
   simp only [bursarlaw13_ObjectPlaces.j0] at H
   by_cases c20 : x63_11 = true
   ·subst c20
    have H1 : (none) = some r:=by rw [if_pos rfl] at H;exact H
    clear H;have H:=H1;clear H1
    exact absurd H (by simp)
   replace c20:=Bool.eq_false_iff.mpr c20
   subst c20
   have H1 : (if t257 = 0 then ((object_Unkey.f kj11 t256).bind fun bt260 => (if bt260.2.2.2 = 0 then (if bt260.1 = a0 then (if bt260.2.1.toList = a1.toList then (if bt260.2.2.1.toList = a2.toList then (if (t256.size : Int) > 120 then (bursarlaw13_ObjectPlaces.j1 kj11 a0 a1 a2 a3 a4 a5 a6 t256 t258 t259 (⟨#[110,113,108,111,98]⟩ : ByteArray) true) else (if a0 < 0 then (bursarlaw13_ObjectPlaces.j1 kj11 a0 a1 a2 a3 a4 a5 a6 t256 t258 t259 (⟨#[110,113,108,111,98]⟩ : ByteArray) true) else (bursarlaw13_ObjectPlaces.j1 kj11 a0 a1 a2 a3 a4 a5 a6 t256 t258 t259 (⟨#[110,113,108,111,98]⟩ : ByteArray) (decide (a0 > 4))))) else (bursarlaw13_ObjectPlaces.j1 kj11 a0 a1 a2 a3 a4 a5 a6 t256 t258 t259 (⟨#[110,113,108,111,98]⟩ : ByteArray) true)) else (bursarlaw13_ObjectPlaces.j1 kj11 a0 a1 a2 a3 a4 a5 a6 t256 t258 t259 (⟨#[110,113,108,111,98]⟩ : ByteArray) true)) else (bursarlaw13_ObjectPlaces.j1 kj11 a0 a1 a2 a3 a4 a5 a6 t256 t258 t259 (⟨#[110,113,108,111,98]⟩ : ByteArray) true)) else (bursarlaw13_ObjectPlaces.j1 kj11 a0 a1 a2 a3 a4 a5 a6 t256 t258 t259 (⟨#[110,113,108,111,98]⟩ : ByteArray) true))) else (bursarlaw13_ObjectPlaces.j4 kj11 a6)) = some r:=by rw [if_neg (show ¬ (false = true) by decide)] at H;exact H
   clear H;have H:=H1;clear H1
   have HC21:=Aside0.mk H
   clear H
   go_upto_if 65 with (fail)
   go_cut [] (fun wc => ∃ (kq : Nat),Aside0 (bursarlaw13_ObjectPlaces.j4 kq a6 = some r) ∧ Aside0 (kq ≤ kj11) ∧ Aside0 (Below w.heap.size w wc))
   case first => as_aux_lemma =>
    have H:=HC21.out
    clear HC21
    by_cases c22 : t257 = 0
    rotate_left
    ·rw [if_neg c22] at H
     have c22b0 : (t257 == 0) = false:=beq_eq_false_iff_ne.mpr c22
     have c22b1 : (t257 != 0) = true:=bne_iff_ne.mpr c22
     (first|rw [c22b0]|(simp only [i64_w,i32_w];rw [c22b0])|skip)
     have H':=Aside0.mk H
     clear H
     go_wp2
     go_meet
     case rel => exact ⟨_,H',⟨by have:=HJ11.out;first|omega|exact Nat.le_refl _⟩,⟨by repeat (first|(with_reducible first|exact HB.out|apply below_alloc|apply pw_below_drewN|apply below_drew1)|exact HB.out)⟩⟩
    rw [if_pos c22] at H
    have c22b0 : (t257 == 0) = true:=beq_iff_eq.mpr c22
    have c22b1 : (t257 != 0) = false:=bne_eq_false_iff_eq.mpr c22
    clear c22
    (first|rw [c22b0]|(simp only [i64_w,i32_w];rw [c22b0])|skip)
    replace H:=Option.bind_eq_some_iff.mp H
    obtain ⟨⟨t260,t261,t262,t263⟩,A230,H⟩:=H
    replace H : (if t263 = 0 then (if t260 = a0 then (if t261.toList = a1.toList then (if t262.toList = a2.toList then (if (t256.size : Int) > 120 then (bursarlaw13_ObjectPlaces.j1 kj11 a0 a1 a2 a3 a4 a5 a6 t256 t258 t259 (⟨#[110,113,108,111,98]⟩ : ByteArray) true) else (if a0 < 0 then (bursarlaw13_ObjectPlaces.j1 kj11 a0 a1 a2 a3 a4 a5 a6 t256 t258 t259 (⟨#[110,113,108,111,98]⟩ : ByteArray) true) else (bursarlaw13_ObjectPlaces.j1 kj11 a0 a1 a2 a3 a4 a5 a6 t256 t258 t259 (⟨#[110,113,108,111,98]⟩ : ByteArray) (decide (a0 > 4))))) else (bursarlaw13_ObjectPlaces.j1 kj11 a0 a1 a2 a3 a4 a5 a6 t256 t258 t259 (⟨#[110,113,108,111,98]⟩ : ByteArray) true)) else (bursarlaw13_ObjectPlaces.j1 kj11 a0 a1 a2 a3 a4 a5 a6 t256 t258 t259 (⟨#[110,113,108,111,98]⟩ : ByteArray) true)) else (bursarlaw13_ObjectPlaces.j1 kj11 a0 a1 a2 a3 a4 a5 a6 t256 t258 t259 (⟨#[110,113,108,111,98]⟩ : ByteArray) true)) else (bursarlaw13_ObjectPlaces.j1 kj11 a0 a1 a2 a3 a4 a5 a6 t256 t258 t259 (⟨#[110,113,108,111,98]⟩ : ByteArray) true)) = some r:=H
    have A23:=Aside0.mk A230
    clear A230
    have HC24:=Aside0.mk H
    clear H
    go_upto_region 11 with (first|((with_reducible refine gate_callee (f:=13) rfl ?_);refine goesL_ (some 68) rfl rfl Tryd.func13 (by kernel_rfl) rfl #[.string t256] rfl (by (try simp only [List.map_toArray,List.map_cons,List.map_nil]);first|done|rfl|(simp only [List.length_drop,List.length_take];rfl)) ?_;(with_reducible refine (object_Unkey.calls kj11 t256 t260 t261 t262 t263 _ A23.out (Glob.below hG (by repeat (first|(with_reducible first|exact HB.out|apply below_alloc|apply pw_below_drewN|apply below_drew1)|exact HB.out)))).mono ?_);rintro e w25 ⟨rfl,hb⟩;refine ⟨_,rfl,?_⟩;have n0_:=Aside0.mk (below_step (by repeat (first|(with_reducible first|exact HB.out|apply below_alloc|apply pw_below_drewN|apply below_drew1)|exact HB.out)) hb);clear HB;have HB:=n0_;clear n0_;(try clear hb);(try clear hb2);(try clear hk);(try clear hi)))
    (try simp only [Act.put,List.setIfInBounds_toArray,List.set_cons_zero,List.set_cons_succ])
    go_cut [102] (fun v102 wc => ∃ (kq : Nat) (x102_23 : Bool),v102 = .bool x102_23 ∧ Aside0 (bursarlaw13_ObjectPlaces.j1 kq a0 a1 a2 a3 a4 a5 a6 t256 t258 t259 (⟨#[110,113,108,111,98]⟩ : ByteArray) x102_23 = some r) ∧ Aside0 (kq ≤ kj11) ∧ Aside0 (Below w.heap.size w wc))
    case first => as_aux_lemma =>
     have H:=HC24.out
     clear HC24
     by_cases c26 : t263 = 0
     rotate_left
     ·rw [if_neg c26] at H
      have c26b0 : (t263 == 0) = false:=beq_eq_false_iff_ne.mpr c26
      have c26b1 : (t263 != 0) = true:=bne_iff_ne.mpr c26
      (first|rw [c26b0]|(simp only [i64_w,i32_w];rw [c26b0])|skip)
      have H':=Aside0.mk H
      clear H
      go_wp2
      go_meet
      case rel => exact ⟨_,(true),(by first|rfl|(simp;done)|(simp [*];done)|(simp;rw [Bool.eq_iff_iff];simp;done)|(rw [Bool.eq_iff_iff];simp;done)),H',⟨by have:=HJ11.out;first|omega|exact Nat.le_refl _⟩,⟨by repeat (first|(with_reducible first|exact HB.out|apply below_alloc|apply pw_below_drewN|apply below_drew1)|exact HB.out)⟩⟩
     rw [if_pos c26] at H
     have c26b0 : (t263 == 0) = true:=beq_iff_eq.mpr c26
     have c26b1 : (t263 != 0) = false:=bne_eq_false_iff_eq.mpr c26
     clear c26
     (first|rw [c26b0]|(simp only [i64_w,i32_w];rw [c26b0])|skip)
     by_cases c27 : t260 = a0
     rotate_left
     ·rw [if_neg c27] at H
      have c27b0 : (t260 == a0) = false:=beq_eq_false_iff_ne.mpr c27
      have c27b1 : (t260 != a0) = true:=bne_iff_ne.mpr c27
      have H':=Aside0.mk H
      clear H
      go_wp2
      go_meet
      case rel => exact ⟨_,(true),(by first|rfl|(simp;done)|(simp [*];done)|(simp;rw [Bool.eq_iff_iff];simp;done)|(rw [Bool.eq_iff_iff];simp;done)),H',⟨by have:=HJ11.out;first|omega|exact Nat.le_refl _⟩,⟨by repeat (first|(with_reducible first|exact HB.out|apply below_alloc|apply pw_below_drewN|apply below_drew1)|exact HB.out)⟩⟩
     rw [if_pos c27] at H
     have c27b0 : (t260 == a0) = true:=beq_iff_eq.mpr c27
     have c27b1 : (t260 != a0) = false:=bne_eq_false_iff_eq.mpr c27
     clear c27
     by_cases c28 : t261.toList = a1.toList
     rotate_left
     ·rw [if_neg c28] at H
      have c28b0 : (t261.toList == a1.toList) = false:=beq_eq_false_iff_ne.mpr c28
      have c28b1 : (t261.toList != a1.toList) = true:=bne_iff_ne.mpr c28
      have H':=Aside0.mk H
      clear H
      go_wp2
      go_meet
      case rel => exact ⟨_,(true),(by first|rfl|(simp;done)|(simp [*];done)|(simp;rw [Bool.eq_iff_iff];simp;done)|(rw [Bool.eq_iff_iff];simp;done)),H',⟨by have:=HJ11.out;first|omega|exact Nat.le_refl _⟩,⟨by repeat (first|(with_reducible first|exact HB.out|apply below_alloc|apply pw_below_drewN|apply below_drew1)|exact HB.out)⟩⟩
     rw [if_pos c28] at H
     have c28b0 : (t261.toList == a1.toList) = true:=beq_iff_eq.mpr c28
     have c28b1 : (t261.toList != a1.toList) = false:=bne_eq_false_iff_eq.mpr c28
     clear c28
     by_cases c29 : t262.toList = a2.toList
     rotate_left
     ·rw [if_neg c29] at H
      have c29b0 : (t262.toList == a2.toList) = false:=beq_eq_false_iff_ne.mpr c29
      have c29b1 : (t262.toList != a2.toList) = true:=bne_iff_ne.mpr c29
      have H':=Aside0.mk H
      clear H
      go_wp2
      go_meet
      case rel => exact ⟨_,(true),(by first|rfl|(simp;done)|(simp [*];done)|(simp;rw [Bool.eq_iff_iff];simp;done)|(rw [Bool.eq_iff_iff];simp;done)),H',⟨by have:=HJ11.out;first|omega|exact Nat.le_refl _⟩,⟨by repeat (first|(with_reducible first|exact HB.out|apply below_alloc|apply pw_below_drewN|apply below_drew1)|exact HB.out)⟩⟩
     rw [if_pos c29] at H
     have c29b0 : (t262.toList == a2.toList) = true:=beq_iff_eq.mpr c29
     have c29b1 : (t262.toList != a2.toList) = false:=bne_eq_false_iff_eq.mpr c29
     clear c29
     by_cases c30 : (t256.size : Int) > 120
     ·rw [if_pos c30] at H
      have c30b0 : decide (120 < (t256.size : Int)) = true:=decide_eq_true c30
      have c30b1 : decide (120 < t256.size) = true:=decide_eq_true (by omega)
      clear c30
      have H':=Aside0.mk H
      clear H
      go_wp2
      go_meet
      case rel => exact ⟨_,(true),(by first|rfl|(simp;done)|(simp [*];done)|(simp;rw [Bool.eq_iff_iff];simp;done)|(rw [Bool.eq_iff_iff];simp;done)),H',⟨by have:=HJ11.out;first|omega|exact Nat.le_refl _⟩,⟨by repeat (first|(with_reducible first|exact HB.out|apply below_alloc|apply pw_below_drewN|apply below_drew1)|exact HB.out)⟩⟩
     rw [if_neg c30] at H
     have c30b0 : decide (120 < (t256.size : Int)) = false:=decide_eq_false c30
     have c30b1 : decide (120 < t256.size) = false:=decide_eq_false (by omega)
     clear c30
     by_cases c31 : a0 < 0
     ·rw [if_pos c31] at H
      have c31b0 : decide (a0 < 0) = true:=decide_eq_true c31
      clear c31
      have H':=Aside0.mk H
      clear H
      go_wp2
      go_meet
      case rel => exact ⟨_,(true),(by first|rfl|(simp;done)|(simp [*];done)|(simp;rw [Bool.eq_iff_iff];simp;done)|(rw [Bool.eq_iff_iff];simp;done)),H',⟨by have:=HJ11.out;first|omega|exact Nat.le_refl _⟩,⟨by repeat (first|(with_reducible first|exact HB.out|apply below_alloc|apply pw_below_drewN|apply below_drew1)|exact HB.out)⟩⟩
     rw [if_neg c31] at H
     have c31b0 : decide (a0 < 0) = false:=decide_eq_false c31
     clear c31
     have H':=Aside0.mk H
     clear H
     go_wp2
     go_meet
     case rel => exact ⟨_,(decide (a0 > 4)),(by first|rfl|(simp;done)|(simp [*];done)|(simp;rw [Bool.eq_iff_iff];simp;done)|(rw [Bool.eq_iff_iff];simp;done)),H',⟨by have:=HJ11.out;first|omega|exact Nat.le_refl _⟩,⟨by repeat (first|(with_reducible first|exact HB.out|apply below_alloc|apply pw_below_drewN|apply below_drew1)|exact HB.out)⟩⟩
    case rest => as_aux_lemma =>
     clear HC24;(try clear c1);(try clear c2);(try clear p2);(try clear c3);(try clear c5);(try clear c6);(try clear c9);(try clear c11);(try clear c13);(try clear c16);(try clear c16b0);(try clear c16b1);(try clear c17);(try clear c17b0);(try clear c17b1);(try clear c18);(try clear c18b0);(try clear c18b1);(try clear c19);(try clear c19b0);(try clear c19b1);(try clear c20);(try clear c22);(try clear c22b0);(try clear c22b1);(try clear c26);(try clear c26b0);(try clear c26b1);(try clear c27);(try clear c27b0);(try clear c27b1);(try clear c28);(try clear c28b0);(try clear c28b1);(try clear c29);(try clear c29b0);(try clear c29b1);(try clear c30);(try clear c30b0);(try clear c30b1);(try clear c31);(try clear c31b0);(try clear p2)
     obtain ⟨kq,x102_23,rfl,HA,HJ23,HB⟩:=hcut
     cases kq with
    |zero => exact absurd HA.out (by simp [bursarlaw13_ObjectPlaces.j1])
    |succ kj23 =>
      have H:=HA.out
      clear HA
      simp only [bursarlaw13_ObjectPlaces.j1] at H
      by_cases c32 : x102_23 = true
      ·subst c32
       have H1 : (none) = some r:=by rw [if_pos rfl] at H;exact H
       clear H;have H:=H1;clear H1
       exact absurd H (by simp)
      replace c32:=Bool.eq_false_iff.mpr c32
      subst c32
      have H1 : (if 0 ≤ a0 then (if a0 ≤ (wrap64 (a0 + 1)) then (if (wrap64 (a0 + 1)) ≤ ((⟨#[110,113,108,111,98]⟩ : ByteArray).size : Int) then ((bursarlaw13_within.f t256 (([(⟨#[110,113,108,111,98]⟩ : ByteArray).extract (a0 : Int).toNat ((wrap64 (a0 + 1)) : Int).toNat] : List ByteArray))).bind fun t267 => (if t267 = true then ((bursarlaw13_within.f t256 (([(⟨#[110,113,108,111,98]⟩ : ByteArray).extract (a0 : Int).toNat ((wrap64 (a0 + 1)) : Int).toNat,a1] : List ByteArray))).bind fun t271 => (if t271 = true then ((bursarlaw13_within.f t256 (([(⟨#[110,113,108,111,98]⟩ : ByteArray).extract (a0 : Int).toNat ((wrap64 (a0 + 1)) : Int).toNat,a1,a2] : List ByteArray))).bind fun t275 => (bursarlaw13_ObjectPlaces.j2 kj23 a0 a1 a2 a3 a4 a5 a6 t256 t258 t259 (⟨#[110,113,108,111,98]⟩ : ByteArray) (!t275))) else (bursarlaw13_ObjectPlaces.j2 kj23 a0 a1 a2 a3 a4 a5 a6 t256 t258 t259 (⟨#[110,113,108,111,98]⟩ : ByteArray) true))) else (bursarlaw13_ObjectPlaces.j2 kj23 a0 a1 a2 a3 a4 a5 a6 t256 t258 t259 (⟨#[110,113,108,111,98]⟩ : ByteArray) true))) else (none)) else (none)) else (none)) = some r:=by rw [if_neg (show ¬ (false = true) by decide)] at H;exact H
      clear H;have H:=H1;clear H1
      by_cases c33 : 0 ≤ a0
      rotate_left
      ·rw [if_neg c33] at H
       exact absurd H (by simp)
      rw [if_pos c33] at H
      have c33b0:=eq_true c33
      have c33b1 : decide (0 ≤ a0) = true:=decide_eq_true c33
      clear c33
      by_cases c34 : a0 ≤ (wrap64 (a0 + 1))
      rotate_left
      ·rw [if_neg c34] at H
       exact absurd H (by simp)
      rw [if_pos c34] at H
      have c34b0:=eq_true c34
      have c34b1 : decide (a0 ≤ (wrap64 (a0 + 1))) = true:=decide_eq_true c34
      by_cases c35 : (wrap64 (a0 + 1)) ≤ ((⟨#[110,113,108,111,98]⟩ : ByteArray).size : Int)
      rotate_left
      ·rw [if_neg c35] at H
       exact absurd H (by simp)
      rw [if_pos c35] at H
      have c35b0:=eq_true c35
      have c35b1 : decide ((wrap64 (a0 + 1)) ≤ ((⟨#[110,113,108,111,98]⟩ : ByteArray).size : Int)) = true:=decide_eq_true c35
      have c35b8_ : ((wrap64 (a0 + 1)) ≤ (5 : Int)) = True:=eq_true (of_eq_true c35b0)
      have c35b9_ : decide ((wrap64 (a0 + 1)) ≤ (5 : Int)) = true:=decide_eq_true (of_eq_true c35b0)
      have HC36:=Aside0.mk H
      clear H
      go_upto_region 14 with (fail)
      go_cut [129] (fun v129 wc => ∃ (kq : Nat) (x129_35 : Bool),v129 = .bool x129_35 ∧ Aside0 (bursarlaw13_ObjectPlaces.j2 kq a0 a1 a2 a3 a4 a5 a6 t256 t258 t259 (⟨#[110,113,108,111,98]⟩ : ByteArray) x129_35 = some r) ∧ Aside0 (kq ≤ kj23) ∧ Aside0 (Below w.heap.size w wc))
      case first => as_aux_lemma =>
       have H:=HC36.out
       clear HC36
       obtain ⟨y264,hy264⟩ : ∃ y_ : List ByteArray,y_ = (([(⟨#[110,113,108,111,98]⟩ : ByteArray).extract (a0 : Int).toNat ((wrap64 (a0 + 1)) : Int).toNat] : List ByteArray)):=⟨_,rfl⟩
       replace H : ((bursarlaw13_within.f t256 y264).bind fun t267 => (if t267 = true then ((bursarlaw13_within.f t256 (([(⟨#[110,113,108,111,98]⟩ : ByteArray).extract (a0 : Int).toNat ((wrap64 (a0 + 1)) : Int).toNat,a1] : List ByteArray))).bind fun t271 => (if t271 = true then ((bursarlaw13_within.f t256 (([(⟨#[110,113,108,111,98]⟩ : ByteArray).extract (a0 : Int).toNat ((wrap64 (a0 + 1)) : Int).toNat,a1,a2] : List ByteArray))).bind fun t275 => (bursarlaw13_ObjectPlaces.j2 kj23 a0 a1 a2 a3 a4 a5 a6 t256 t258 t259 (⟨#[110,113,108,111,98]⟩ : ByteArray) (!t275))) else (bursarlaw13_ObjectPlaces.j2 kj23 a0 a1 a2 a3 a4 a5 a6 t256 t258 t259 (⟨#[110,113,108,111,98]⟩ : ByteArray) true))) else (bursarlaw13_ObjectPlaces.j2 kj23 a0 a1 a2 a3 a4 a5 a6 t256 t258 t259 (⟨#[110,113,108,111,98]⟩ : ByteArray) true))) = some r:=by first|(rw [hy264];with_reducible exact H)|(have H2_:=(Option.bind_some _ _).symm.trans H;rw [hy264];with_reducible exact H2_)|(have H2_:=(Option.bind_some _ _).symm.trans H;with_reducible exact H2_)|with_reducible exact H|(rw [hy264];exact H)|exact H
       have Ny264:=Aside0.mk hy264
       clear hy264
       replace H:=Option.bind_eq_some_iff.mp H
       obtain ⟨t267,A370,H⟩:=H
       replace H : (if t267 = true then ((bursarlaw13_within.f t256 (([(⟨#[110,113,108,111,98]⟩ : ByteArray).extract (a0 : Int).toNat ((wrap64 (a0 + 1)) : Int).toNat,a1] : List ByteArray))).bind fun t271 => (if t271 = true then ((bursarlaw13_within.f t256 (([(⟨#[110,113,108,111,98]⟩ : ByteArray).extract (a0 : Int).toNat ((wrap64 (a0 + 1)) : Int).toNat,a1,a2] : List ByteArray))).bind fun t275 => (bursarlaw13_ObjectPlaces.j2 kj23 a0 a1 a2 a3 a4 a5 a6 t256 t258 t259 (⟨#[110,113,108,111,98]⟩ : ByteArray) (!t275))) else (bursarlaw13_ObjectPlaces.j2 kj23 a0 a1 a2 a3 a4 a5 a6 t256 t258 t259 (⟨#[110,113,108,111,98]⟩ : ByteArray) true))) else (bursarlaw13_ObjectPlaces.j2 kj23 a0 a1 a2 a3 a4 a5 a6 t256 t258 t259 (⟨#[110,113,108,111,98]⟩ : ByteArray) true)) = some r:=H
       have A37:=Aside0.mk A370
       clear A370
       by_cases c38 : t267 = true
       rotate_left
       ·replace c38:=Bool.eq_false_iff.mpr c38
        subst c38
        have H1 : (bursarlaw13_ObjectPlaces.j2 kj23 a0 a1 a2 a3 a4 a5 a6 t256 t258 t259 (⟨#[110,113,108,111,98]⟩ : ByteArray) true) = some r:=by rw [if_neg (show ¬ (false = true) by decide)] at H;exact H
        clear H;have H:=H1;clear H1
        have H':=Aside0.mk H
        clear H
        go_wp2_with (first|((with_reducible refine gate_dst (N:=110) rfl ?_);(try (refine gate_guard (by rfl) ?_;dsimp only));refine Kd.R_lit Kd.string _ 9 ?hg (N:=110) ?hd (xs:=([(⟨#[110,113,108,111,98]⟩ : ByteArray).extract (a0 : Int).toNat ((wrap64 (a0 + 1)) : Int).toNat] : List ByteArray)) (inner:=[.string ((⟨#[110,113,108,111,98]⟩ : ByteArray).extract (a0 : Int).toNat ((wrap64 (a0 + 1)) : Int).toNat)]) (ok:=fun _ => True) (okp:=fun _ => True) ?hr ?hp (fun _ hk => hk) trivial (Below.refl _ _) (Nat.le_refl _) (by simp) ?_;(case hd => rfl);(case hg => rfl);(case hr => first|(go_simp;done)|(go_simp;rfl));(case hp => exact (Reps.one (show Kd.M Kd.string _ _ _ ((⟨#[110,113,108,111,98]⟩ : ByteArray).extract (a0 : Int).toNat ((wrap64 (a0 + 1)) : Int).toNat) [.string ((⟨#[110,113,108,111,98]⟩ : ByteArray).extract (a0 : Int).toNat ((wrap64 (a0 + 1)) : Int).toNat)] from rfl) (Reps.none _ _)));intro v265 w62 ho63 hb hg_ hnew_;clear hg_ hnew_;(first|rw [← Ny264.out] at ho63|(simp only [Int.reduceToNat] at ho63;rw [← Ny264.out] at ho63));have n0_:=Aside0.mk (Kd.R_lower ho63 (below_size (by repeat (first|(with_reducible first|exact HB.out|apply below_alloc|apply pw_below_drewN|apply below_drew1)|exact HB.out))));have n1_:=Aside0.mk (below_step (by repeat (first|(with_reducible first|exact HB.out|apply below_alloc|apply pw_below_drewN|apply below_drew1)|exact HB.out)) hb);clear HB;have HO266:=n0_;have HB:=n1_;clear n0_ n1_;clear hb ho63;obtain ⟨Ao64,co64,eo64⟩:=Kd.R_slice HO266.out;subst eo64)|((with_reducible refine gate_callee (f:=15) rfl ?_);refine goesL_ (some 111) rfl rfl Tryd.func15 (by kernel_rfl) rfl #[.string t256,.slice Ao64 y264.length co64] rfl (by (try simp only [List.map_toArray,List.map_cons,List.map_nil]);first|done|rfl|(simp only [List.length_drop,List.length_take];rfl)) ?_;(with_reducible refine (bursarlaw13_within.calls t256 _ _ y264 false _ ?side1 ?side2 A37.out (Glob.below hG (by repeat (first|(with_reducible first|exact HB.out|apply below_alloc|apply pw_below_drewN|apply below_drew1)|exact HB.out)))).mono ?_);(case side1 => repeat (first|exact (Kd.R_reads' HO266.out).2.2|(with_reducible refine Kd.C_alloc ?_ _)|(with_reducible refine Kd.C_drewN ?_ _)|(with_reducible refine Kd.C_drew ?_)));(case side2 => exact (Kd.R_reads' HO266.out).2.1);rintro e w65 ⟨rfl,hb⟩;refine ⟨_,rfl,?_⟩;have n0_:=Aside0.mk (Kd.R_below (by (with_reducible repeat (first|apply Kd.R_alloc|apply Kd.R_drewN|apply Kd.R_drew));exact HO266.out) hb);have n1_:=Aside0.mk (below_step (by repeat (first|(with_reducible first|exact HB.out|apply below_alloc|apply pw_below_drewN|apply below_drew1)|exact HB.out)) hb);clear HO266;clear HB;have HO266:=n0_;have HB:=n1_;clear n0_ n1_;(try clear hb);(try clear hb2);(try clear hk);(try clear hi)))
        go_meet
        case rel => exact ⟨_,(true),(by first|rfl|(simp;done)|(simp [*];done)|(simp;rw [Bool.eq_iff_iff];simp;done)|(rw [Bool.eq_iff_iff];simp;done)),H',⟨by have:=HJ11.out;have:=HJ23.out;first|omega|exact Nat.le_refl _⟩,⟨by repeat (first|(with_reducible first|exact HB.out|apply below_alloc|apply pw_below_drewN|apply below_drew1)|exact HB.out)⟩⟩
       subst c38
       have H1 : ((bursarlaw13_within.f t256 (([(⟨#[110,113,108,111,98]⟩ : ByteArray).extract (a0 : Int).toNat ((wrap64 (a0 + 1)) : Int).toNat,a1] : List ByteArray))).bind fun t271 => (if t271 = true then ((bursarlaw13_within.f t256 (([(⟨#[110,113,108,111,98]⟩ : ByteArray).extract (a0 : Int).toNat ((wrap64 (a0 + 1)) : Int).toNat,a1,a2] : List ByteArray))).bind fun t275 => (bursarlaw13_ObjectPlaces.j2 kj23 a0 a1 a2 a3 a4 a5 a6 t256 t258 t259 (⟨#[110,113,108,111,98]⟩ : ByteArray) (!t275))) else (bursarlaw13_ObjectPlaces.j2 kj23 a0 a1 a2 a3 a4 a5 a6 t256 t258 t259 (⟨#[110,113,108,111,98]⟩ : ByteArray) true))) = some r:=by rw [if_pos rfl] at H;exact H
       clear H;have H:=H1;clear H1
       obtain ⟨y268,hy268⟩ : ∃ y_ : List ByteArray,y_ = (([(⟨#[110,113,108,111,98]⟩ : ByteArray).extract (a0 : Int).toNat ((wrap64 (a0 + 1)) : Int).toNat,a1] : List ByteArray)):=⟨_,rfl⟩
       replace H : ((bursarlaw13_within.f t256 y268).bind fun t271 => (if t271 = true then ((bursarlaw13_within.f t256 (([(⟨#[110,113,108,111,98]⟩ : ByteArray).extract (a0 : Int).toNat ((wrap64 (a0 + 1)) : Int).toNat,a1,a2] : List ByteArray))).bind fun t275 => (bursarlaw13_ObjectPlaces.j2 kj23 a0 a1 a2 a3 a4 a5 a6 t256 t258 t259 (⟨#[110,113,108,111,98]⟩ : ByteArray) (!t275))) else (bursarlaw13_ObjectPlaces.j2 kj23 a0 a1 a2 a3 a4 a5 a6 t256 t258 t259 (⟨#[110,113,108,111,98]⟩ : ByteArray) true))) = some r:=by first|(rw [hy268];with_reducible exact H)|(have H2_:=(Option.bind_some _ _).symm.trans H;rw [hy268];with_reducible exact H2_)|(have H2_:=(Option.bind_some _ _).symm.trans H;with_reducible exact H2_)|with_reducible exact H|(rw [hy268];exact H)|exact H
       have Ny268:=Aside0.mk hy268
       clear hy268
       replace H:=Option.bind_eq_some_iff.mp H
       obtain ⟨t271,A390,H⟩:=H
       replace H : (if t271 = true then ((bursarlaw13_within.f t256 (([(⟨#[110,113,108,111,98]⟩ : ByteArray).extract (a0 : Int).toNat ((wrap64 (a0 + 1)) : Int).toNat,a1,a2] : List ByteArray))).bind fun t275 => (bursarlaw13_ObjectPlaces.j2 kj23 a0 a1 a2 a3 a4 a5 a6 t256 t258 t259 (⟨#[110,113,108,111,98]⟩ : ByteArray) (!t275))) else (bursarlaw13_ObjectPlaces.j2 kj23 a0 a1 a2 a3 a4 a5 a6 t256 t258 t259 (⟨#[110,113,108,111,98]⟩ : ByteArray) true)) = some r:=H
       have A39:=Aside0.mk A390
       clear A390
       by_cases c40 : t271 = true
       rotate_left
       ·replace c40:=Bool.eq_false_iff.mpr c40
        subst c40
        have H1 : (bursarlaw13_ObjectPlaces.j2 kj23 a0 a1 a2 a3 a4 a5 a6 t256 t258 t259 (⟨#[110,113,108,111,98]⟩ : ByteArray) true) = some r:=by rw [if_neg (show ¬ (false = true) by decide)] at H;exact H
        clear H;have H:=H1;clear H1
        have H':=Aside0.mk H
        clear H
        go_wp2_with (first|((with_reducible refine gate_dst (N:=110) rfl ?_);(try (refine gate_guard (by rfl) ?_;dsimp only));refine Kd.R_lit Kd.string _ 9 ?hg (N:=110) ?hd (xs:=([(⟨#[110,113,108,111,98]⟩ : ByteArray).extract (a0 : Int).toNat ((wrap64 (a0 + 1)) : Int).toNat] : List ByteArray)) (inner:=[.string ((⟨#[110,113,108,111,98]⟩ : ByteArray).extract (a0 : Int).toNat ((wrap64 (a0 + 1)) : Int).toNat)]) (ok:=fun _ => True) (okp:=fun _ => True) ?hr ?hp (fun _ hk => hk) trivial (Below.refl _ _) (Nat.le_refl _) (by simp) ?_;(case hd => rfl);(case hg => rfl);(case hr => first|(go_simp;done)|(go_simp;rfl));(case hp => exact (Reps.one (show Kd.M Kd.string _ _ _ ((⟨#[110,113,108,111,98]⟩ : ByteArray).extract (a0 : Int).toNat ((wrap64 (a0 + 1)) : Int).toNat) [.string ((⟨#[110,113,108,111,98]⟩ : ByteArray).extract (a0 : Int).toNat ((wrap64 (a0 + 1)) : Int).toNat)] from rfl) (Reps.none _ _)));intro v265 w54 ho55 hb hg_ hnew_;clear hg_ hnew_;(first|rw [← Ny264.out] at ho55|(simp only [Int.reduceToNat] at ho55;rw [← Ny264.out] at ho55));have n0_:=Aside0.mk (Kd.R_lower ho55 (below_size (by repeat (first|(with_reducible first|exact HB.out|apply below_alloc|apply pw_below_drewN|apply below_drew1)|exact HB.out))));have n1_:=Aside0.mk (below_step (by repeat (first|(with_reducible first|exact HB.out|apply below_alloc|apply pw_below_drewN|apply below_drew1)|exact HB.out)) hb);clear HB;have HO266:=n0_;have HB:=n1_;clear n0_ n1_;clear hb ho55;obtain ⟨Ao56,co56,eo56⟩:=Kd.R_slice HO266.out;subst eo56)|((with_reducible refine gate_callee (f:=15) rfl ?_);refine goesL_ (some 111) rfl rfl Tryd.func15 (by kernel_rfl) rfl #[.string t256,.slice Ao56 y264.length co56] rfl (by (try simp only [List.map_toArray,List.map_cons,List.map_nil]);first|done|rfl|(simp only [List.length_drop,List.length_take];rfl)) ?_;(with_reducible refine (bursarlaw13_within.calls t256 _ _ y264 true _ ?side1 ?side2 A37.out (Glob.below hG (by repeat (first|(with_reducible first|exact HB.out|apply below_alloc|apply pw_below_drewN|apply below_drew1)|exact HB.out)))).mono ?_);(case side1 => repeat (first|exact (Kd.R_reads' HO266.out).2.2|(with_reducible refine Kd.C_alloc ?_ _)|(with_reducible refine Kd.C_drewN ?_ _)|(with_reducible refine Kd.C_drew ?_)));(case side2 => exact (Kd.R_reads' HO266.out).2.1);rintro e w57 ⟨rfl,hb⟩;refine ⟨_,rfl,?_⟩;have n0_:=Aside0.mk (Kd.R_below (by (with_reducible repeat (first|apply Kd.R_alloc|apply Kd.R_drewN|apply Kd.R_drew));exact HO266.out) hb);have n1_:=Aside0.mk (below_step (by repeat (first|(with_reducible first|exact HB.out|apply below_alloc|apply pw_below_drewN|apply below_drew1)|exact HB.out)) hb);clear HO266;clear HB;have HO266:=n0_;have HB:=n1_;clear n0_ n1_;(try clear hb);(try clear hb2);(try clear hk);(try clear hi))|((with_reducible refine gate_dst (N:=117) rfl ?_);(try (refine gate_guard (by rfl) ?_;dsimp only));refine Kd.R_lit Kd.string _ 9 ?hg (N:=117) ?hd (xs:=([(⟨#[110,113,108,111,98]⟩ : ByteArray).extract (a0 : Int).toNat ((wrap64 (a0 + 1)) : Int).toNat,a1] : List ByteArray)) (inner:=[.string ((⟨#[110,113,108,111,98]⟩ : ByteArray).extract (a0 : Int).toNat ((wrap64 (a0 + 1)) : Int).toNat),.string a1]) (ok:=fun _ => True) (okp:=fun _ => True) ?hr ?hp (fun _ hk => hk) trivial (Below.refl _ _) (Nat.le_refl _) (by simp) ?_;(case hd => rfl);(case hg => rfl);(case hr => first|(go_simp;done)|(go_simp;rfl));(case hp => exact (Reps.one (show Kd.M Kd.string _ _ _ ((⟨#[110,113,108,111,98]⟩ : ByteArray).extract (a0 : Int).toNat ((wrap64 (a0 + 1)) : Int).toNat) [.string ((⟨#[110,113,108,111,98]⟩ : ByteArray).extract (a0 : Int).toNat ((wrap64 (a0 + 1)) : Int).toNat)] from rfl) (Reps.one (show Kd.M Kd.string _ _ _ a1 [.string a1] from rfl) (Reps.none _ _))));intro v269 w58 ho59 hb hg_ hnew_;clear hg_ hnew_;(first|rw [← Ny268.out] at ho59|(simp only [Int.reduceToNat] at ho59;rw [← Ny268.out] at ho59));have n0_:=Aside0.mk (Kd.R_elder' (by (with_reducible repeat (first|apply Kd.R_alloc|apply Kd.R_drewN|apply Kd.R_drew));exact HO266.out) (Kd.R_base ho59) hb);have n1_:=Aside0.mk (Kd.R_lower (Kd.R_new' ho59 (Kd.R_lt (by (with_reducible repeat (first|apply Kd.R_alloc|apply Kd.R_drewN|apply Kd.R_drew));exact HO266.out))) (below_size (by repeat (first|(with_reducible first|exact HB.out|apply below_alloc|apply pw_below_drewN|apply below_drew1)|exact HB.out))));have n2_:=Aside0.mk (below_step (by repeat (first|(with_reducible first|exact HB.out|apply below_alloc|apply pw_below_drewN|apply below_drew1)|exact HB.out)) hb);clear HO266;clear HB;have HO266:=n0_;have HO270:=n1_;have HB:=n2_;clear n0_ n1_ n2_;clear hb ho59;obtain ⟨Ao60,co60,eo60⟩:=Kd.R_slice HO270.out;subst eo60)|(go_at_call 15;(with_reducible refine (bursarlaw13_within.calls t256 _ _ y268 false _ ?side1 ?side2 A39.out (Glob.below hG (by repeat (first|(with_reducible first|exact HB.out|apply below_alloc|apply pw_below_drewN|apply below_drew1)|exact HB.out)))).mono ?_);(case side1 => repeat (first|exact (Kd.R_reads' HO270.out).2.2|(with_reducible refine Kd.C_alloc ?_ _)|(with_reducible refine Kd.C_drewN ?_ _)|(with_reducible refine Kd.C_drew ?_)));(case side2 => exact (Kd.R_reads' HO270.out).2.1);rintro e w61 ⟨rfl,hb⟩;have n0_:=Aside0.mk (Kd.R_below (by (with_reducible repeat (first|apply Kd.R_alloc|apply Kd.R_drewN|apply Kd.R_drew));exact HO266.out) hb);have n1_:=Aside0.mk (Kd.R_below (by (with_reducible repeat (first|apply Kd.R_alloc|apply Kd.R_drewN|apply Kd.R_drew));exact HO270.out) hb);have n2_:=Aside0.mk (below_step (by repeat (first|(with_reducible first|exact HB.out|apply below_alloc|apply pw_below_drewN|apply below_drew1)|exact HB.out)) hb);clear HO266;clear HO270;clear HB;have HO266:=n0_;have HO270:=n1_;have HB:=n2_;clear n0_ n1_ n2_;(try clear hb);(try clear hb2);(try clear hk);(try clear hi)))
        go_meet
        case rel => exact ⟨_,(true),(by first|rfl|(simp;done)|(simp [*];done)|(simp;rw [Bool.eq_iff_iff];simp;done)|(rw [Bool.eq_iff_iff];simp;done)),H',⟨by have:=HJ11.out;have:=HJ23.out;first|omega|exact Nat.le_refl _⟩,⟨by repeat (first|(with_reducible first|exact HB.out|apply below_alloc|apply pw_below_drewN|apply below_drew1)|exact HB.out)⟩⟩
       subst c40
       have H1 : ((bursarlaw13_within.f t256 (([(⟨#[110,113,108,111,98]⟩ : ByteArray).extract (a0 : Int).toNat ((wrap64 (a0 + 1)) : Int).toNat,a1,a2] : List ByteArray))).bind fun t275 => (bursarlaw13_ObjectPlaces.j2 kj23 a0 a1 a2 a3 a4 a5 a6 t256 t258 t259 (⟨#[110,113,108,111,98]⟩ : ByteArray) (!t275))) = some r:=by rw [if_pos rfl] at H;exact H
       clear H;have H:=H1;clear H1
       obtain ⟨y272,hy272⟩ : ∃ y_ : List ByteArray,y_ = (([(⟨#[110,113,108,111,98]⟩ : ByteArray).extract (a0 : Int).toNat ((wrap64 (a0 + 1)) : Int).toNat,a1,a2] : List ByteArray)):=⟨_,rfl⟩
       replace H : ((bursarlaw13_within.f t256 y272).bind fun t275 => (bursarlaw13_ObjectPlaces.j2 kj23 a0 a1 a2 a3 a4 a5 a6 t256 t258 t259 (⟨#[110,113,108,111,98]⟩ : ByteArray) (!t275))) = some r:=by first|(rw [hy272];with_reducible exact H)|(have H2_:=(Option.bind_some _ _).symm.trans H;rw [hy272];with_reducible exact H2_)|(have H2_:=(Option.bind_some _ _).symm.trans H;with_reducible exact H2_)|with_reducible exact H|(rw [hy272];exact H)|exact H
       have Ny272:=Aside0.mk hy272
       clear hy272
       replace H:=Option.bind_eq_some_iff.mp H
       obtain ⟨t275,A410,H⟩:=H
       replace H : (bursarlaw13_ObjectPlaces.j2 kj23 a0 a1 a2 a3 a4 a5 a6 t256 t258 t259 (⟨#[110,113,108,111,98]⟩ : ByteArray) (!t275)) = some r:=H
       have A41:=Aside0.mk A410
       clear A410
       have H':=Aside0.mk H
       clear H
       go_wp2_with (first|((with_reducible refine gate_dst (N:=110) rfl ?_);(try (refine gate_guard (by rfl) ?_;dsimp only));refine Kd.R_lit Kd.string _ 9 ?hg (N:=110) ?hd (xs:=([(⟨#[110,113,108,111,98]⟩ : ByteArray).extract (a0 : Int).toNat ((wrap64 (a0 + 1)) : Int).toNat] : List ByteArray)) (inner:=[.string ((⟨#[110,113,108,111,98]⟩ : ByteArray).extract (a0 : Int).toNat ((wrap64 (a0 + 1)) : Int).toNat)]) (ok:=fun _ => True) (okp:=fun _ => True) ?hr ?hp (fun _ hk => hk) trivial (Below.refl _ _) (Nat.le_refl _) (by simp) ?_;(case hd => rfl);(case hg => rfl);(case hr => first|(go_simp;done)|(go_simp;rfl));(case hp => exact (Reps.one (show Kd.M Kd.string _ _ _ ((⟨#[110,113,108,111,98]⟩ : ByteArray).extract (a0 : Int).toNat ((wrap64 (a0 + 1)) : Int).toNat) [.string ((⟨#[110,113,108,111,98]⟩ : ByteArray).extract (a0 : Int).toNat ((wrap64 (a0 + 1)) : Int).toNat)] from rfl) (Reps.none _ _)));intro v265 w42 ho43 hb hg_ hnew_;clear hg_ hnew_;(first|rw [← Ny264.out] at ho43|(simp only [Int.reduceToNat] at ho43;rw [← Ny264.out] at ho43));have n0_:=Aside0.mk (Kd.R_lower ho43 (below_size (by repeat (first|(with_reducible first|exact HB.out|apply below_alloc|apply pw_below_drewN|apply below_drew1)|exact HB.out))));have n1_:=Aside0.mk (below_step (by repeat (first|(with_reducible first|exact HB.out|apply below_alloc|apply pw_below_drewN|apply below_drew1)|exact HB.out)) hb);clear HB;have HO266:=n0_;have HB:=n1_;clear n0_ n1_;clear hb ho43;obtain ⟨Ao44,co44,eo44⟩:=Kd.R_slice HO266.out;subst eo44)|((with_reducible refine gate_callee (f:=15) rfl ?_);refine goesL_ (some 111) rfl rfl Tryd.func15 (by kernel_rfl) rfl #[.string t256,.slice Ao44 y264.length co44] rfl (by (try simp only [List.map_toArray,List.map_cons,List.map_nil]);first|done|rfl|(simp only [List.length_drop,List.length_take];rfl)) ?_;(with_reducible refine (bursarlaw13_within.calls t256 _ _ y264 true _ ?side1 ?side2 A37.out (Glob.below hG (by repeat (first|(with_reducible first|exact HB.out|apply below_alloc|apply pw_below_drewN|apply below_drew1)|exact HB.out)))).mono ?_);(case side1 => repeat (first|exact (Kd.R_reads' HO266.out).2.2|(with_reducible refine Kd.C_alloc ?_ _)|(with_reducible refine Kd.C_drewN ?_ _)|(with_reducible refine Kd.C_drew ?_)));(case side2 => exact (Kd.R_reads' HO266.out).2.1);rintro e w45 ⟨rfl,hb⟩;refine ⟨_,rfl,?_⟩;have n0_:=Aside0.mk (Kd.R_below (by (with_reducible repeat (first|apply Kd.R_alloc|apply Kd.R_drewN|apply Kd.R_drew));exact HO266.out) hb);have n1_:=Aside0.mk (below_step (by repeat (first|(with_reducible first|exact HB.out|apply below_alloc|apply pw_below_drewN|apply below_drew1)|exact HB.out)) hb);clear HO266;clear HB;have HO266:=n0_;have HB:=n1_;clear n0_ n1_;(try clear hb);(try clear hb2);(try clear hk);(try clear hi))|((with_reducible refine gate_dst (N:=117) rfl ?_);(try (refine gate_guard (by rfl) ?_;dsimp only));refine Kd.R_lit Kd.string _ 9 ?hg (N:=117) ?hd (xs:=([(⟨#[110,113,108,111,98]⟩ : ByteArray).extract (a0 : Int).toNat ((wrap64 (a0 + 1)) : Int).toNat,a1] : List ByteArray)) (inner:=[.string ((⟨#[110,113,108,111,98]⟩ : ByteArray).extract (a0 : Int).toNat ((wrap64 (a0 + 1)) : Int).toNat),.string a1]) (ok:=fun _ => True) (okp:=fun _ => True) ?hr ?hp (fun _ hk => hk) trivial (Below.refl _ _) (Nat.le_refl _) (by simp) ?_;(case hd => rfl);(case hg => rfl);(case hr => first|(go_simp;done)|(go_simp;rfl));(case hp => exact (Reps.one (show Kd.M Kd.string _ _ _ ((⟨#[110,113,108,111,98]⟩ : ByteArray).extract (a0 : Int).toNat ((wrap64 (a0 + 1)) : Int).toNat) [.string ((⟨#[110,113,108,111,98]⟩ : ByteArray).extract (a0 : Int).toNat ((wrap64 (a0 + 1)) : Int).toNat)] from rfl) (Reps.one (show Kd.M Kd.string _ _ _ a1 [.string a1] from rfl) (Reps.none _ _))));intro v269 w46 ho47 hb hg_ hnew_;clear hg_ hnew_;(first|rw [← Ny268.out] at ho47|(simp only [Int.reduceToNat] at ho47;rw [← Ny268.out] at ho47));have n0_:=Aside0.mk (Kd.R_elder' (by (with_reducible repeat (first|apply Kd.R_alloc|apply Kd.R_drewN|apply Kd.R_drew));exact HO266.out) (Kd.R_base ho47) hb);have n1_:=Aside0.mk (Kd.R_lower (Kd.R_new' ho47 (Kd.R_lt (by (with_reducible repeat (first|apply Kd.R_alloc|apply Kd.R_drewN|apply Kd.R_drew));exact HO266.out))) (below_size (by repeat (first|(with_reducible first|exact HB.out|apply below_alloc|apply pw_below_drewN|apply below_drew1)|exact HB.out))));have n2_:=Aside0.mk (below_step (by repeat (first|(with_reducible first|exact HB.out|apply below_alloc|apply pw_below_drewN|apply below_drew1)|exact HB.out)) hb);clear HO266;clear HB;have HO266:=n0_;have HO270:=n1_;have HB:=n2_;clear n0_ n1_ n2_;clear hb ho47;obtain ⟨Ao48,co48,eo48⟩:=Kd.R_slice HO270.out;subst eo48)|(go_at_call 15;(with_reducible refine (bursarlaw13_within.calls t256 _ _ y268 true _ ?side1 ?side2 A39.out (Glob.below hG (by repeat (first|(with_reducible first|exact HB.out|apply below_alloc|apply pw_below_drewN|apply below_drew1)|exact HB.out)))).mono ?_);(case side1 => repeat (first|exact (Kd.R_reads' HO270.out).2.2|(with_reducible refine Kd.C_alloc ?_ _)|(with_reducible refine Kd.C_drewN ?_ _)|(with_reducible refine Kd.C_drew ?_)));(case side2 => exact (Kd.R_reads' HO270.out).2.1);rintro e w49 ⟨rfl,hb⟩;have n0_:=Aside0.mk (Kd.R_below (by (with_reducible repeat (first|apply Kd.R_alloc|apply Kd.R_drewN|apply Kd.R_drew));exact HO266.out) hb);have n1_:=Aside0.mk (Kd.R_below (by (with_reducible repeat (first|apply Kd.R_alloc|apply Kd.R_drewN|apply Kd.R_drew));exact HO270.out) hb);have n2_:=Aside0.mk (below_step (by repeat (first|(with_reducible first|exact HB.out|apply below_alloc|apply pw_below_drewN|apply below_drew1)|exact HB.out)) hb);clear HO266;clear HO270;clear HB;have HO266:=n0_;have HO270:=n1_;have HB:=n2_;clear n0_ n1_ n2_;(try clear hb);(try clear hb2);(try clear hk);(try clear hi))|((with_reducible refine gate_dst (N:=126) rfl ?_);(try (refine gate_guard (by rfl) ?_;dsimp only));refine Kd.R_lit Kd.string _ 9 ?hg (N:=126) ?hd (xs:=([(⟨#[110,113,108,111,98]⟩ : ByteArray).extract (a0 : Int).toNat ((wrap64 (a0 + 1)) : Int).toNat,a1,a2] : List ByteArray)) (inner:=[.string ((⟨#[110,113,108,111,98]⟩ : ByteArray).extract (a0 : Int).toNat ((wrap64 (a0 + 1)) : Int).toNat),.string a1,.string a2]) (ok:=fun _ => True) (okp:=fun _ => True) ?hr ?hp (fun _ hk => hk) trivial (Below.refl _ _) (Nat.le_refl _) (by simp) ?_;(case hd => rfl);(case hg => rfl);(case hr => first|(go_simp;done)|(go_simp;rfl));(case hp => exact (Reps.one (show Kd.M Kd.string _ _ _ ((⟨#[110,113,108,111,98]⟩ : ByteArray).extract (a0 : Int).toNat ((wrap64 (a0 + 1)) : Int).toNat) [.string ((⟨#[110,113,108,111,98]⟩ : ByteArray).extract (a0 : Int).toNat ((wrap64 (a0 + 1)) : Int).toNat)] from rfl) (Reps.one (show Kd.M Kd.string _ _ _ a1 [.string a1] from rfl) (Reps.one (show Kd.M Kd.string _ _ _ a2 [.string a2] from rfl) (Reps.none _ _)))));intro v273 w50 ho51 hb hg_ hnew_;clear hg_ hnew_;(first|rw [← Ny272.out] at ho51|(simp only [Int.reduceToNat] at ho51;rw [← Ny272.out] at ho51));have n0_:=Aside0.mk (Kd.R_elder' (by (with_reducible repeat (first|apply Kd.R_alloc|apply Kd.R_drewN|apply Kd.R_drew));exact HO266.out) (Kd.R_base ho51) hb);have n1_:=Aside0.mk (Kd.R_elder' (by (with_reducible repeat (first|apply Kd.R_alloc|apply Kd.R_drewN|apply Kd.R_drew));exact HO270.out) (Kd.R_base ho51) hb);have n2_:=Aside0.mk (Kd.R_lower (Kd.R_new' (Kd.R_new' ho51 (Kd.R_lt (by (with_reducible repeat (first|apply Kd.R_alloc|apply Kd.R_drewN|apply Kd.R_drew));exact HO266.out))) (Kd.R_lt (by (with_reducible repeat (first|apply Kd.R_alloc|apply Kd.R_drewN|apply Kd.R_drew));exact HO270.out))) (below_size (by repeat (first|(with_reducible first|exact HB.out|apply below_alloc|apply pw_below_drewN|apply below_drew1)|exact HB.out))));have n3_:=Aside0.mk (below_step (by repeat (first|(with_reducible first|exact HB.out|apply below_alloc|apply pw_below_drewN|apply below_drew1)|exact HB.out)) hb);clear HO266;clear HO270;clear HB;have HO266:=n0_;have HO270:=n1_;have HO274:=n2_;have HB:=n3_;clear n0_ n1_ n2_ n3_;clear hb ho51;obtain ⟨Ao52,co52,eo52⟩:=Kd.R_slice HO274.out;subst eo52)|(go_at_call 15;(with_reducible refine (bursarlaw13_within.calls t256 _ _ y272 t275 _ ?side1 ?side2 A41.out (Glob.below hG (by repeat (first|(with_reducible first|exact HB.out|apply below_alloc|apply pw_below_drewN|apply below_drew1)|exact HB.out)))).mono ?_);(case side1 => repeat (first|exact (Kd.R_reads' HO274.out).2.2|(with_reducible refine Kd.C_alloc ?_ _)|(with_reducible refine Kd.C_drewN ?_ _)|(with_reducible refine Kd.C_drew ?_)));(case side2 => exact (Kd.R_reads' HO274.out).2.1);rintro e w53 ⟨rfl,hb⟩;have n0_:=Aside0.mk (Kd.R_below (by (with_reducible repeat (first|apply Kd.R_alloc|apply Kd.R_drewN|apply Kd.R_drew));exact HO266.out) hb);have n1_:=Aside0.mk (Kd.R_below (by (with_reducible repeat (first|apply Kd.R_alloc|apply Kd.R_drewN|apply Kd.R_drew));exact HO270.out) hb);have n2_:=Aside0.mk (Kd.R_below (by (with_reducible repeat (first|apply Kd.R_alloc|apply Kd.R_drewN|apply Kd.R_drew));exact HO274.out) hb);have n3_:=Aside0.mk (below_step (by repeat (first|(with_reducible first|exact HB.out|apply below_alloc|apply pw_below_drewN|apply below_drew1)|exact HB.out)) hb);clear HO266;clear HO270;clear HO274;clear HB;have HO266:=n0_;have HO270:=n1_;have HO274:=n2_;have HB:=n3_;clear n0_ n1_ n2_ n3_;(try clear hb);(try clear hb2);(try clear hk);(try clear hi)))
       go_meet
       case rel => exact ⟨_,(!t275),(by first|rfl|(simp;done)|(simp [*];done)|(simp;rw [Bool.eq_iff_iff];simp;done)|(rw [Bool.eq_iff_iff];simp;done)),H',⟨by have:=HJ11.out;have:=HJ23.out;first|omega|exact Nat.le_refl _⟩,⟨by repeat (first|(with_reducible first|exact HB.out|apply below_alloc|apply pw_below_drewN|apply below_drew1)|exact HB.out)⟩⟩
      case rest => as_aux_lemma =>
       clear HC36;(try clear c1);(try clear c2);(try clear p2);(try clear c3);(try clear c4);(try clear c5);(try clear c6);(try clear p6);(try clear c9);(try clear c11);(try clear c13);(try clear c15);(try clear c16);(try clear c16b0);(try clear c16b1);(try clear c17);(try clear c17b0);(try clear c17b1);(try clear c18);(try clear c18b0);(try clear c18b1);(try clear c19);(try clear c19b0);(try clear c19b1);(try clear c20);(try clear c22);(try clear c22b0);(try clear c22b1);(try clear c26);(try clear c26b0);(try clear c26b1);(try clear c27);(try clear c27b0);(try clear c27b1);(try clear c28);(try clear c28b0);(try clear c28b1);(try clear c29);(try clear c29b0);(try clear c29b1);(try clear c30);(try clear c30b0);(try clear c30b1);(try clear c31);(try clear c31b0);(try clear c32);(try clear c33);(try clear c33b0);(try clear c33b1);(try clear c34);(try clear c34b0);(try clear c34b1);(try clear c35);(try clear c35b0);(try clear c35b1);(try clear c38);(try clear c40);(try clear p64);(try clear p2)
       obtain ⟨kq,x129_35,rfl,HA,HJ35,HB⟩:=hcut
       cases kq with
      |zero => exact absurd HA.out (by simp [bursarlaw13_ObjectPlaces.j2])
      |succ kj35 =>
        have H:=HA.out
        clear HA
        simp only [bursarlaw13_ObjectPlaces.j2] at H
        by_cases c66 : x129_35 = true
        ·subst c66
         have H1 : (none) = some r:=by rw [if_pos rfl] at H;exact H
         clear H;have H:=H1;clear H1
         exact absurd H (by simp)
        replace c66:=Bool.eq_false_iff.mpr c66
        subst c66
        have H1 : (if t259 = 0 then (if a3 < 0 then (bursarlaw13_ObjectPlaces.j3 kj35 a0 a1 a2 a3 a4 a5 a6 t256 t258 t259 (⟨#[110,113,108,111,98]⟩ : ByteArray) true) else (bursarlaw13_ObjectPlaces.j3 kj35 a0 a1 a2 a3 a4 a5 a6 t256 t258 t259 (⟨#[110,113,108,111,98]⟩ : ByteArray) (decide (a3 > 4)))) else (bursarlaw13_ObjectPlaces.j3 kj35 a0 a1 a2 a3 a4 a5 a6 t256 t258 t259 (⟨#[110,113,108,111,98]⟩ : ByteArray) false)) = some r:=by rw [if_neg (show ¬ (false = true) by decide)] at H;exact H
        clear H;have H:=H1;clear H1
        have HC67:=Aside0.mk H
        clear H
        go_upto_region 16 with (fail)
        go_cut [139] (fun v139 wc => ∃ (kq : Nat) (x139_66 : Bool),v139 = .bool x139_66 ∧ Aside0 (bursarlaw13_ObjectPlaces.j3 kq a0 a1 a2 a3 a4 a5 a6 t256 t258 t259 (⟨#[110,113,108,111,98]⟩ : ByteArray) x139_66 = some r) ∧ Aside0 (kq ≤ kj35) ∧ Aside0 (Below w.heap.size w wc))
        case first => as_aux_lemma =>
         have H:=HC67.out
         clear HC67
         by_cases c68 : t259 = 0
         rotate_left
         ·rw [if_neg c68] at H
          have c68b0 : (t259 == 0) = false:=beq_eq_false_iff_ne.mpr c68
          have c68b1 : (t259 != 0) = true:=bne_iff_ne.mpr c68
          (first|rw [c68b0]|(simp only [i64_w,i32_w];rw [c68b0])|skip)
          have H':=Aside0.mk H
          clear H
          go_wp2
          go_meet
          case rel => exact ⟨_,(false),(by first|rfl|(simp;done)|(simp [*];done)|(simp;rw [Bool.eq_iff_iff];simp;done)|(rw [Bool.eq_iff_iff];simp;done)),H',⟨by have:=HJ11.out;have:=HJ23.out;have:=HJ35.out;first|omega|exact Nat.le_refl _⟩,⟨by repeat (first|(with_reducible first|exact HB.out|apply below_alloc|apply pw_below_drewN|apply below_drew1)|exact HB.out)⟩⟩
         rw [if_pos c68] at H
         have c68b0 : (t259 == 0) = true:=beq_iff_eq.mpr c68
         have c68b1 : (t259 != 0) = false:=bne_eq_false_iff_eq.mpr c68
         clear c68
         (first|rw [c68b0]|(simp only [i64_w,i32_w];rw [c68b0])|skip)
         by_cases c69 : a3 < 0
         ·rw [if_pos c69] at H
          have c69b0 : decide (a3 < 0) = true:=decide_eq_true c69
          clear c69
          have H':=Aside0.mk H
          clear H
          go_wp2
          go_meet
          case rel => exact ⟨_,(true),(by first|rfl|(simp;done)|(simp [*];done)|(simp;rw [Bool.eq_iff_iff];simp;done)|(rw [Bool.eq_iff_iff];simp;done)),H',⟨by have:=HJ11.out;have:=HJ23.out;have:=HJ35.out;first|omega|exact Nat.le_refl _⟩,⟨by repeat (first|(with_reducible first|exact HB.out|apply below_alloc|apply pw_below_drewN|apply below_drew1)|exact HB.out)⟩⟩
         rw [if_neg c69] at H
         have c69b0 : decide (a3 < 0) = false:=decide_eq_false c69
         clear c69
         have H':=Aside0.mk H
         clear H
         go_wp2
         go_meet
         case rel => exact ⟨_,(decide (a3 > 4)),(by first|rfl|(simp;done)|(simp [*];done)|(simp;rw [Bool.eq_iff_iff];simp;done)|(rw [Bool.eq_iff_iff];simp;done)),H',⟨by have:=HJ11.out;have:=HJ23.out;have:=HJ35.out;first|omega|exact Nat.le_refl _⟩,⟨by repeat (first|(with_reducible first|exact HB.out|apply below_alloc|apply pw_below_drewN|apply below_drew1)|exact HB.out)⟩⟩
        case rest => as_aux_lemma =>
         clear HC67;(try clear c1);(try clear c2);(try clear p2);(try clear c3);(try clear c4);(try clear c5);(try clear c6);(try clear p6);(try clear c9);(try clear c11);(try clear c13);(try clear c15);(try clear c16);(try clear c16b0);(try clear c16b1);(try clear c17);(try clear c17b0);(try clear c17b1);(try clear c18);(try clear c18b0);(try clear c18b1);(try clear c19);(try clear c19b0);(try clear c19b1);(try clear c20);(try clear c22);(try clear c22b0);(try clear c22b1);(try clear c26);(try clear c26b0);(try clear c26b1);(try clear c27);(try clear c27b0);(try clear c27b1);(try clear c28);(try clear c28b0);(try clear c28b1);(try clear c29);(try clear c29b0);(try clear c29b1);(try clear c30);(try clear c30b0);(try clear c30b1);(try clear c31);(try clear c31b0);(try clear c32);(try clear c33);(try clear c33b0);(try clear c33b1);(try clear c34);(try clear c34b0);(try clear c34b1);(try clear c35);(try clear c35b0);(try clear c35b1);(try clear c38);(try clear c40);(try clear p64);(try clear c66);(try clear c68);(try clear c68b0);(try clear c68b1);(try clear c69);(try clear c69b0);(try clear p2);(try clear p6);(try clear p64)
         obtain ⟨kq,x139_66,rfl,HA,HJ66,HB⟩:=hcut
         cases kq with
        |zero => exact absurd HA.out (by simp [bursarlaw13_ObjectPlaces.j3])
        |succ kj66 =>
          have H:=HA.out
          clear HA
          simp only [bursarlaw13_ObjectPlaces.j3] at H
          by_cases c70 : x139_66 = true
          ·subst c70
           have H1 : (none) = some r:=by rw [if_pos rfl] at H;exact H
           clear H;have H:=H1;clear H1
           exact absurd H (by simp)
          replace c70:=Bool.eq_false_iff.mpr c70
          subst c70
          have H1 : (if t259 = 0 then (if 0 ≤ a3 then (if a3 ≤ (wrap64 (a3 + 1)) then (if (wrap64 (a3 + 1)) ≤ ((⟨#[110,113,108,111,98]⟩ : ByteArray).size : Int) then (if a0 = a3 then (if a1.toList = a4.toList then (if ((t256.toList == t258.toList) != (a2.toList == a5.toList)) = true then (none) else ((bursarlaw13_within.f t256 (([(⟨#[110,113,108,111,98]⟩ : ByteArray).extract (a3 : Int).toNat ((wrap64 (a3 + 1)) : Int).toNat] : List ByteArray))).bind fun t279 => (if (t279 != (a0 == a3)) = true then (none) else ((bursarlaw13_within.f t256 (([(⟨#[110,113,108,111,98]⟩ : ByteArray).extract (a3 : Int).toNat ((wrap64 (a3 + 1)) : Int).toNat,a4] : List ByteArray))).bind fun t283 => (if (t283 != (a1.toList == a4.toList)) = true then (none) else (bursarlaw13_ObjectPlaces.j4 kj66 a6)))))) else (if ((t256.toList == t258.toList) != false) = true then (none) else ((bursarlaw13_within.f t256 (([(⟨#[110,113,108,111,98]⟩ : ByteArray).extract (a3 : Int).toNat ((wrap64 (a3 + 1)) : Int).toNat] : List ByteArray))).bind fun t287 => (if (t287 != (a0 == a3)) = true then (none) else ((bursarlaw13_within.f t256 (([(⟨#[110,113,108,111,98]⟩ : ByteArray).extract (a3 : Int).toNat ((wrap64 (a3 + 1)) : Int).toNat,a4] : List ByteArray))).bind fun t291 => (if (t291 != (a1.toList == a4.toList)) = true then (none) else (bursarlaw13_ObjectPlaces.j4 kj66 a6))))))) else (if ((t256.toList == t258.toList) != false) = true then (none) else ((bursarlaw13_within.f t256 (([(⟨#[110,113,108,111,98]⟩ : ByteArray).extract (a3 : Int).toNat ((wrap64 (a3 + 1)) : Int).toNat] : List ByteArray))).bind fun t295 => (if (t295 != (a0 == a3)) = true then (none) else ((bursarlaw13_within.f t256 (([(⟨#[110,113,108,111,98]⟩ : ByteArray).extract (a3 : Int).toNat ((wrap64 (a3 + 1)) : Int).toNat,a4] : List ByteArray))).bind fun t299 => (if (t299 != false) = true then (none) else (bursarlaw13_ObjectPlaces.j4 kj66 a6))))))) else (none)) else (none)) else (none)) else (bursarlaw13_ObjectPlaces.j4 kj66 a6)) = some r:=by rw [if_neg (show ¬ (false = true) by decide)] at H;exact H
          clear H;have H:=H1;clear H1
          by_cases c71 : t259 = 0
          rotate_left
          ·rw [if_neg c71] at H
           have c71b0 : (t259 == 0) = false:=beq_eq_false_iff_ne.mpr c71
           have c71b1 : (t259 != 0) = true:=bne_iff_ne.mpr c71
           have H':=Aside0.mk H
           clear H
           go_wp2
           go_meet
           case rel => exact ⟨_,H',⟨by have:=HJ11.out;have:=HJ23.out;have:=HJ35.out;have:=HJ66.out;first|omega|exact Nat.le_refl _⟩,⟨by repeat (first|(with_reducible first|exact HB.out|apply below_alloc|apply pw_below_drewN|apply below_drew1)|exact HB.out)⟩⟩
          rw [if_pos c71] at H
          have c71b0 : (t259 == 0) = true:=beq_iff_eq.mpr c71
          have c71b1 : (t259 != 0) = false:=bne_eq_false_iff_eq.mpr c71
          clear c71
          by_cases c72 : 0 ≤ a3
          rotate_left
          ·rw [if_neg c72] at H
           exact absurd H (by simp)
          rw [if_pos c72] at H
          have c72b0:=eq_true c72
          have c72b1 : decide (0 ≤ a3) = true:=decide_eq_true c72
          clear c72
          by_cases c73 : a3 ≤ (wrap64 (a3 + 1))
          rotate_left
          ·rw [if_neg c73] at H
           exact absurd H (by simp)
          rw [if_pos c73] at H
          have c73b0:=eq_true c73
          have c73b1 : decide (a3 ≤ (wrap64 (a3 + 1))) = true:=decide_eq_true c73
          by_cases c74 : (wrap64 (a3 + 1)) ≤ ((⟨#[110,113,108,111,98]⟩ : ByteArray).size : Int)
          rotate_left
          ·rw [if_neg c74] at H
           exact absurd H (by simp)
          rw [if_pos c74] at H
          have c74b0:=eq_true c74
          have c74b1 : decide ((wrap64 (a3 + 1)) ≤ ((⟨#[110,113,108,111,98]⟩ : ByteArray).size : Int)) = true:=decide_eq_true c74
          have c74b8_ : ((wrap64 (a3 + 1)) ≤ (5 : Int)) = True:=eq_true (of_eq_true c74b0)
          have c74b9_ : decide ((wrap64 (a3 + 1)) ≤ (5 : Int)) = true:=decide_eq_true (of_eq_true c74b0)
          by_cases c75 : a0 = a3
          rotate_left
          ·rw [if_neg c75] at H
           have c75b0 : (a0 == a3) = false:=beq_eq_false_iff_ne.mpr c75
           have c75b1 : (a0 != a3) = true:=bne_iff_ne.mpr c75
           by_cases c103 : ((t256.toList == t258.toList) != false) = true
           ·rw [if_pos c103] at H
            exact absurd H (by simp)
           rw [if_neg c103] at H
           have c103b0 : ((t256.toList == t258.toList) != false) = false:=by simpa using c103
           (try (have c103b1 : decide ((t256.toList == t258.toList) = false) = true:=by simpa using c103))
           (try (have c103b2 : ((t256.toList == t258.toList) == false) = true:=by simpa using c103))
           clear c103
           obtain ⟨y292,hy292⟩ : ∃ y_ : List ByteArray,y_ = (([(⟨#[110,113,108,111,98]⟩ : ByteArray).extract (a3 : Int).toNat ((wrap64 (a3 + 1)) : Int).toNat] : List ByteArray)):=⟨_,rfl⟩
           replace H : ((bursarlaw13_within.f t256 y292).bind fun t295 => (if (t295 != (a0 == a3)) = true then (none) else ((bursarlaw13_within.f t256 (([(⟨#[110,113,108,111,98]⟩ : ByteArray).extract (a3 : Int).toNat ((wrap64 (a3 + 1)) : Int).toNat,a4] : List ByteArray))).bind fun t299 => (if (t299 != false) = true then (none) else (bursarlaw13_ObjectPlaces.j4 kj66 a6))))) = some r:=by first|(rw [hy292];with_reducible exact H)|(have H2_:=(Option.bind_some _ _).symm.trans H;rw [hy292];with_reducible exact H2_)|(have H2_:=(Option.bind_some _ _).symm.trans H;with_reducible exact H2_)|with_reducible exact H|(rw [hy292];exact H)|exact H
           have Ny292:=Aside0.mk hy292
           clear hy292
           replace H:=Option.bind_eq_some_iff.mp H
           obtain ⟨t295,A1040,H⟩:=H
           replace H : (if (t295 != (a0 == a3)) = true then (none) else ((bursarlaw13_within.f t256 (([(⟨#[110,113,108,111,98]⟩ : ByteArray).extract (a3 : Int).toNat ((wrap64 (a3 + 1)) : Int).toNat,a4] : List ByteArray))).bind fun t299 => (if (t299 != false) = true then (none) else (bursarlaw13_ObjectPlaces.j4 kj66 a6)))) = some r:=H
           have A104:=Aside0.mk A1040
           clear A1040
           by_cases c105 : (t295 != (a0 == a3)) = true
           ·rw [if_pos c105] at H
            exact absurd H (by simp)
           rw [if_neg c105] at H
           have c105b0 : (t295 != (a0 == a3)) = false:=by simpa using c105
           (try (have c105b1 : decide (t295 = (a0 == a3)) = true:=by simpa using c105))
           (try (have c105b2 : (t295 == (a0 == a3)) = true:=by simpa using c105))
           clear c105
           have c105b9 : t295 = ((a0 == a3)):=by simpa using c105b0
           obtain ⟨y296,hy296⟩ : ∃ y_ : List ByteArray,y_ = (([(⟨#[110,113,108,111,98]⟩ : ByteArray).extract (a3 : Int).toNat ((wrap64 (a3 + 1)) : Int).toNat,a4] : List ByteArray)):=⟨_,rfl⟩
           replace H : ((bursarlaw13_within.f t256 y296).bind fun t299 => (if (t299 != false) = true then (none) else (bursarlaw13_ObjectPlaces.j4 kj66 a6))) = some r:=by first|(rw [hy296];with_reducible exact H)|(have H2_:=(Option.bind_some _ _).symm.trans H;rw [hy296];with_reducible exact H2_)|(have H2_:=(Option.bind_some _ _).symm.trans H;with_reducible exact H2_)|with_reducible exact H|(rw [hy296];exact H)|exact H
           have Ny296:=Aside0.mk hy296
           clear hy296
           replace H:=Option.bind_eq_some_iff.mp H
           obtain ⟨t299,A1060,H⟩:=H
           replace H : (if (t299 != false) = true then (none) else (bursarlaw13_ObjectPlaces.j4 kj66 a6)) = some r:=H
           have A106:=Aside0.mk A1060
           clear A1060
           by_cases c107 : (t299 != false) = true
           ·rw [if_pos c107] at H
            exact absurd H (by simp)
           rw [if_neg c107] at H
           have c107b0 : (t299 != false) = false:=by simpa using c107
           (try (have c107b1 : decide (t299 = false) = true:=by simpa using c107))
           (try (have c107b2 : (t299 == false) = true:=by simpa using c107))
           clear c107
           have c107b9 : t299 = (false):=by simpa using c107b0
           have H':=Aside0.mk H
           clear H
           go_wp2_with (first|((with_reducible refine gate_dst (N:=167) rfl ?_);(try (refine gate_guard (by rfl) ?_;dsimp only));refine Kd.R_lit Kd.string _ 9 ?hg (N:=167) ?hd (xs:=([(⟨#[110,113,108,111,98]⟩ : ByteArray).extract (a3 : Int).toNat ((wrap64 (a3 + 1)) : Int).toNat] : List ByteArray)) (inner:=[.string ((⟨#[110,113,108,111,98]⟩ : ByteArray).extract (a3 : Int).toNat ((wrap64 (a3 + 1)) : Int).toNat)]) (ok:=fun _ => True) (okp:=fun _ => True) ?hr ?hp (fun _ hk => hk) trivial (Below.refl _ _) (Nat.le_refl _) (by simp) ?_;(case hd => rfl);(case hg => rfl);(case hr => first|(go_simp;done)|(go_simp;rfl));(case hp => exact (Reps.one (show Kd.M Kd.string _ _ _ ((⟨#[110,113,108,111,98]⟩ : ByteArray).extract (a3 : Int).toNat ((wrap64 (a3 + 1)) : Int).toNat) [.string ((⟨#[110,113,108,111,98]⟩ : ByteArray).extract (a3 : Int).toNat ((wrap64 (a3 + 1)) : Int).toNat)] from rfl) (Reps.none _ _)));intro v293 w108 ho109 hb hg_ hnew_;clear hg_ hnew_;(first|rw [← Ny292.out] at ho109|(simp only [Int.reduceToNat] at ho109;rw [← Ny292.out] at ho109));have n0_:=Aside0.mk (Kd.R_lower ho109 (below_size (by repeat (first|(with_reducible first|exact HB.out|apply below_alloc|apply pw_below_drewN|apply below_drew1)|exact HB.out))));have n1_:=Aside0.mk (below_step (by repeat (first|(with_reducible first|exact HB.out|apply below_alloc|apply pw_below_drewN|apply below_drew1)|exact HB.out)) hb);clear HB;have HO294:=n0_;have HB:=n1_;clear n0_ n1_;clear hb ho109;obtain ⟨Ao110,co110,eo110⟩:=Kd.R_slice HO294.out;subst eo110)|(go_at_call 15;(with_reducible refine (bursarlaw13_within.calls t256 _ _ y292 t295 _ ?side1 ?side2 A104.out (Glob.below hG (by repeat (first|(with_reducible first|exact HB.out|apply below_alloc|apply pw_below_drewN|apply below_drew1)|exact HB.out)))).mono ?_);(case side1 => repeat (first|exact (Kd.R_reads' HO294.out).2.2|(with_reducible refine Kd.C_alloc ?_ _)|(with_reducible refine Kd.C_drewN ?_ _)|(with_reducible refine Kd.C_drew ?_)));(case side2 => exact (Kd.R_reads' HO294.out).2.1);rintro e w111 ⟨rfl,hb⟩;have n0_:=Aside0.mk (Kd.R_below (by (with_reducible repeat (first|apply Kd.R_alloc|apply Kd.R_drewN|apply Kd.R_drew));exact HO294.out) hb);have n1_:=Aside0.mk (below_step (by repeat (first|(with_reducible first|exact HB.out|apply below_alloc|apply pw_below_drewN|apply below_drew1)|exact HB.out)) hb);clear HO294;clear HB;have HO294:=n0_;have HB:=n1_;clear n0_ n1_;(try clear hb);(try clear hb2);(try clear hk);(try clear hi))|((with_reducible refine gate_dst (N:=178) rfl ?_);(try (refine gate_guard (by rfl) ?_;dsimp only));refine Kd.R_lit Kd.string _ 9 ?hg (N:=178) ?hd (xs:=([(⟨#[110,113,108,111,98]⟩ : ByteArray).extract (a3 : Int).toNat ((wrap64 (a3 + 1)) : Int).toNat,a4] : List ByteArray)) (inner:=[.string ((⟨#[110,113,108,111,98]⟩ : ByteArray).extract (a3 : Int).toNat ((wrap64 (a3 + 1)) : Int).toNat),.string a4]) (ok:=fun _ => True) (okp:=fun _ => True) ?hr ?hp (fun _ hk => hk) trivial (Below.refl _ _) (Nat.le_refl _) (by simp) ?_;(case hd => rfl);(case hg => rfl);(case hr => first|(go_simp;done)|(go_simp;rfl));(case hp => exact (Reps.one (show Kd.M Kd.string _ _ _ ((⟨#[110,113,108,111,98]⟩ : ByteArray).extract (a3 : Int).toNat ((wrap64 (a3 + 1)) : Int).toNat) [.string ((⟨#[110,113,108,111,98]⟩ : ByteArray).extract (a3 : Int).toNat ((wrap64 (a3 + 1)) : Int).toNat)] from rfl) (Reps.one (show Kd.M Kd.string _ _ _ a4 [.string a4] from rfl) (Reps.none _ _))));intro v297 w112 ho113 hb hg_ hnew_;clear hg_ hnew_;(first|rw [← Ny296.out] at ho113|(simp only [Int.reduceToNat] at ho113;rw [← Ny296.out] at ho113));have n0_:=Aside0.mk (Kd.R_elder' (by (with_reducible repeat (first|apply Kd.R_alloc|apply Kd.R_drewN|apply Kd.R_drew));exact HO294.out) (Kd.R_base ho113) hb);have n1_:=Aside0.mk (Kd.R_lower (Kd.R_new' ho113 (Kd.R_lt (by (with_reducible repeat (first|apply Kd.R_alloc|apply Kd.R_drewN|apply Kd.R_drew));exact HO294.out))) (below_size (by repeat (first|(with_reducible first|exact HB.out|apply below_alloc|apply pw_below_drewN|apply below_drew1)|exact HB.out))));have n2_:=Aside0.mk (below_step (by repeat (first|(with_reducible first|exact HB.out|apply below_alloc|apply pw_below_drewN|apply below_drew1)|exact HB.out)) hb);clear HO294;clear HB;have HO294:=n0_;have HO298:=n1_;have HB:=n2_;clear n0_ n1_ n2_;clear hb ho113;obtain ⟨Ao114,co114,eo114⟩:=Kd.R_slice HO298.out;subst eo114)|(go_at_call 15;(with_reducible refine (bursarlaw13_within.calls t256 _ _ y296 t299 _ ?side1 ?side2 A106.out (Glob.below hG (by repeat (first|(with_reducible first|exact HB.out|apply below_alloc|apply pw_below_drewN|apply below_drew1)|exact HB.out)))).mono ?_);(case side1 => repeat (first|exact (Kd.R_reads' HO298.out).2.2|(with_reducible refine Kd.C_alloc ?_ _)|(with_reducible refine Kd.C_drewN ?_ _)|(with_reducible refine Kd.C_drew ?_)));(case side2 => exact (Kd.R_reads' HO298.out).2.1);rintro e w115 ⟨rfl,hb⟩;have n0_:=Aside0.mk (Kd.R_below (by (with_reducible repeat (first|apply Kd.R_alloc|apply Kd.R_drewN|apply Kd.R_drew));exact HO294.out) hb);have n1_:=Aside0.mk (Kd.R_below (by (with_reducible repeat (first|apply Kd.R_alloc|apply Kd.R_drewN|apply Kd.R_drew));exact HO298.out) hb);have n2_:=Aside0.mk (below_step (by repeat (first|(with_reducible first|exact HB.out|apply below_alloc|apply pw_below_drewN|apply below_drew1)|exact HB.out)) hb);clear HO294;clear HO298;clear HB;have HO294:=n0_;have HO298:=n1_;have HB:=n2_;clear n0_ n1_ n2_;(try clear hb);(try clear hb2);(try clear hk);(try clear hi)))
           go_meet
           case rel => exact ⟨_,H',⟨by have:=HJ11.out;have:=HJ23.out;have:=HJ35.out;have:=HJ66.out;first|omega|exact Nat.le_refl _⟩,⟨by repeat (first|(with_reducible first|exact HB.out|apply below_alloc|apply pw_below_drewN|apply below_drew1)|exact HB.out)⟩⟩
          rw [if_pos c75] at H
          have c75b0 : (a0 == a3) = true:=beq_iff_eq.mpr c75
          have c75b1 : (a0 != a3) = false:=bne_eq_false_iff_eq.mpr c75
          clear c75
          by_cases c76 : a1.toList = a4.toList
          rotate_left
          ·rw [if_neg c76] at H
           have c76b0 : (a1.toList == a4.toList) = false:=beq_eq_false_iff_ne.mpr c76
           have c76b1 : (a1.toList != a4.toList) = true:=bne_iff_ne.mpr c76
           by_cases c90 : ((t256.toList == t258.toList) != false) = true
           ·rw [if_pos c90] at H
            exact absurd H (by simp)
           rw [if_neg c90] at H
           have c90b0 : ((t256.toList == t258.toList) != false) = false:=by simpa using c90
           (try (have c90b1 : decide ((t256.toList == t258.toList) = false) = true:=by simpa using c90))
           (try (have c90b2 : ((t256.toList == t258.toList) == false) = true:=by simpa using c90))
           clear c90
           obtain ⟨y284,hy284⟩ : ∃ y_ : List ByteArray,y_ = (([(⟨#[110,113,108,111,98]⟩ : ByteArray).extract (a3 : Int).toNat ((wrap64 (a3 + 1)) : Int).toNat] : List ByteArray)):=⟨_,rfl⟩
           replace H : ((bursarlaw13_within.f t256 y284).bind fun t287 => (if (t287 != (a0 == a3)) = true then (none) else ((bursarlaw13_within.f t256 (([(⟨#[110,113,108,111,98]⟩ : ByteArray).extract (a3 : Int).toNat ((wrap64 (a3 + 1)) : Int).toNat,a4] : List ByteArray))).bind fun t291 => (if (t291 != (a1.toList == a4.toList)) = true then (none) else (bursarlaw13_ObjectPlaces.j4 kj66 a6))))) = some r:=by first|(rw [hy284];with_reducible exact H)|(have H2_:=(Option.bind_some _ _).symm.trans H;rw [hy284];with_reducible exact H2_)|(have H2_:=(Option.bind_some _ _).symm.trans H;with_reducible exact H2_)|with_reducible exact H|(rw [hy284];exact H)|exact H
           have Ny284:=Aside0.mk hy284
           clear hy284
           replace H:=Option.bind_eq_some_iff.mp H
           obtain ⟨t287,A910,H⟩:=H
           replace H : (if (t287 != (a0 == a3)) = true then (none) else ((bursarlaw13_within.f t256 (([(⟨#[110,113,108,111,98]⟩ : ByteArray).extract (a3 : Int).toNat ((wrap64 (a3 + 1)) : Int).toNat,a4] : List ByteArray))).bind fun t291 => (if (t291 != (a1.toList == a4.toList)) = true then (none) else (bursarlaw13_ObjectPlaces.j4 kj66 a6)))) = some r:=H
           have A91:=Aside0.mk A910
           clear A910
           by_cases c92 : (t287 != (a0 == a3)) = true
           ·rw [if_pos c92] at H
            exact absurd H (by simp)
           rw [if_neg c92] at H
           have c92b0 : (t287 != (a0 == a3)) = false:=by simpa using c92
           (try (have c92b1 : decide (t287 = (a0 == a3)) = true:=by simpa using c92))
           (try (have c92b2 : (t287 == (a0 == a3)) = true:=by simpa using c92))
           clear c92
           have c92b9 : t287 = ((a0 == a3)):=by simpa using c92b0
           obtain ⟨y288,hy288⟩ : ∃ y_ : List ByteArray,y_ = (([(⟨#[110,113,108,111,98]⟩ : ByteArray).extract (a3 : Int).toNat ((wrap64 (a3 + 1)) : Int).toNat,a4] : List ByteArray)):=⟨_,rfl⟩
           replace H : ((bursarlaw13_within.f t256 y288).bind fun t291 => (if (t291 != (a1.toList == a4.toList)) = true then (none) else (bursarlaw13_ObjectPlaces.j4 kj66 a6))) = some r:=by first|(rw [hy288];with_reducible exact H)|(have H2_:=(Option.bind_some _ _).symm.trans H;rw [hy288];with_reducible exact H2_)|(have H2_:=(Option.bind_some _ _).symm.trans H;with_reducible exact H2_)|with_reducible exact H|(rw [hy288];exact H)|exact H
           have Ny288:=Aside0.mk hy288
           clear hy288
           replace H:=Option.bind_eq_some_iff.mp H
           obtain ⟨t291,A930,H⟩:=H
           replace H : (if (t291 != (a1.toList == a4.toList)) = true then (none) else (bursarlaw13_ObjectPlaces.j4 kj66 a6)) = some r:=H
           have A93:=Aside0.mk A930
           clear A930
           by_cases c94 : (t291 != (a1.toList == a4.toList)) = true
           ·rw [if_pos c94] at H
            exact absurd H (by simp)
           rw [if_neg c94] at H
           have c94b0 : (t291 != (a1.toList == a4.toList)) = false:=by simpa using c94
           (try (have c94b1 : decide (t291 = (a1.toList == a4.toList)) = true:=by simpa using c94))
           (try (have c94b2 : (t291 == (a1.toList == a4.toList)) = true:=by simpa using c94))
           clear c94
           have c94b9 : t291 = ((a1.toList == a4.toList)):=by simpa using c94b0
           have H':=Aside0.mk H
           clear H
           go_wp2_with (first|((with_reducible refine gate_dst (N:=167) rfl ?_);(try (refine gate_guard (by rfl) ?_;dsimp only));refine Kd.R_lit Kd.string _ 9 ?hg (N:=167) ?hd (xs:=([(⟨#[110,113,108,111,98]⟩ : ByteArray).extract (a3 : Int).toNat ((wrap64 (a3 + 1)) : Int).toNat] : List ByteArray)) (inner:=[.string ((⟨#[110,113,108,111,98]⟩ : ByteArray).extract (a3 : Int).toNat ((wrap64 (a3 + 1)) : Int).toNat)]) (ok:=fun _ => True) (okp:=fun _ => True) ?hr ?hp (fun _ hk => hk) trivial (Below.refl _ _) (Nat.le_refl _) (by simp) ?_;(case hd => rfl);(case hg => rfl);(case hr => first|(go_simp;done)|(go_simp;rfl));(case hp => exact (Reps.one (show Kd.M Kd.string _ _ _ ((⟨#[110,113,108,111,98]⟩ : ByteArray).extract (a3 : Int).toNat ((wrap64 (a3 + 1)) : Int).toNat) [.string ((⟨#[110,113,108,111,98]⟩ : ByteArray).extract (a3 : Int).toNat ((wrap64 (a3 + 1)) : Int).toNat)] from rfl) (Reps.none _ _)));intro v285 w95 ho96 hb hg_ hnew_;clear hg_ hnew_;(first|rw [← Ny284.out] at ho96|(simp only [Int.reduceToNat] at ho96;rw [← Ny284.out] at ho96));have n0_:=Aside0.mk (Kd.R_lower ho96 (below_size (by repeat (first|(with_reducible first|exact HB.out|apply below_alloc|apply pw_below_drewN|apply below_drew1)|exact HB.out))));have n1_:=Aside0.mk (below_step (by repeat (first|(with_reducible first|exact HB.out|apply below_alloc|apply pw_below_drewN|apply below_drew1)|exact HB.out)) hb);clear HB;have HO286:=n0_;have HB:=n1_;clear n0_ n1_;clear hb ho96;obtain ⟨Ao97,co97,eo97⟩:=Kd.R_slice HO286.out;subst eo97)|(go_at_call 15;(with_reducible refine (bursarlaw13_within.calls t256 _ _ y284 t287 _ ?side1 ?side2 A91.out (Glob.below hG (by repeat (first|(with_reducible first|exact HB.out|apply below_alloc|apply pw_below_drewN|apply below_drew1)|exact HB.out)))).mono ?_);(case side1 => repeat (first|exact (Kd.R_reads' HO286.out).2.2|(with_reducible refine Kd.C_alloc ?_ _)|(with_reducible refine Kd.C_drewN ?_ _)|(with_reducible refine Kd.C_drew ?_)));(case side2 => exact (Kd.R_reads' HO286.out).2.1);rintro e w98 ⟨rfl,hb⟩;have n0_:=Aside0.mk (Kd.R_below (by (with_reducible repeat (first|apply Kd.R_alloc|apply Kd.R_drewN|apply Kd.R_drew));exact HO286.out) hb);have n1_:=Aside0.mk (below_step (by repeat (first|(with_reducible first|exact HB.out|apply below_alloc|apply pw_below_drewN|apply below_drew1)|exact HB.out)) hb);clear HO286;clear HB;have HO286:=n0_;have HB:=n1_;clear n0_ n1_;(try clear hb);(try clear hb2);(try clear hk);(try clear hi))|((with_reducible refine gate_dst (N:=178) rfl ?_);(try (refine gate_guard (by rfl) ?_;dsimp only));refine Kd.R_lit Kd.string _ 9 ?hg (N:=178) ?hd (xs:=([(⟨#[110,113,108,111,98]⟩ : ByteArray).extract (a3 : Int).toNat ((wrap64 (a3 + 1)) : Int).toNat,a4] : List ByteArray)) (inner:=[.string ((⟨#[110,113,108,111,98]⟩ : ByteArray).extract (a3 : Int).toNat ((wrap64 (a3 + 1)) : Int).toNat),.string a4]) (ok:=fun _ => True) (okp:=fun _ => True) ?hr ?hp (fun _ hk => hk) trivial (Below.refl _ _) (Nat.le_refl _) (by simp) ?_;(case hd => rfl);(case hg => rfl);(case hr => first|(go_simp;done)|(go_simp;rfl));(case hp => exact (Reps.one (show Kd.M Kd.string _ _ _ ((⟨#[110,113,108,111,98]⟩ : ByteArray).extract (a3 : Int).toNat ((wrap64 (a3 + 1)) : Int).toNat) [.string ((⟨#[110,113,108,111,98]⟩ : ByteArray).extract (a3 : Int).toNat ((wrap64 (a3 + 1)) : Int).toNat)] from rfl) (Reps.one (show Kd.M Kd.string _ _ _ a4 [.string a4] from rfl) (Reps.none _ _))));intro v289 w99 ho100 hb hg_ hnew_;clear hg_ hnew_;(first|rw [← Ny288.out] at ho100|(simp only [Int.reduceToNat] at ho100;rw [← Ny288.out] at ho100));have n0_:=Aside0.mk (Kd.R_elder' (by (with_reducible repeat (first|apply Kd.R_alloc|apply Kd.R_drewN|apply Kd.R_drew));exact HO286.out) (Kd.R_base ho100) hb);have n1_:=Aside0.mk (Kd.R_lower (Kd.R_new' ho100 (Kd.R_lt (by (with_reducible repeat (first|apply Kd.R_alloc|apply Kd.R_drewN|apply Kd.R_drew));exact HO286.out))) (below_size (by repeat (first|(with_reducible first|exact HB.out|apply below_alloc|apply pw_below_drewN|apply below_drew1)|exact HB.out))));have n2_:=Aside0.mk (below_step (by repeat (first|(with_reducible first|exact HB.out|apply below_alloc|apply pw_below_drewN|apply below_drew1)|exact HB.out)) hb);clear HO286;clear HB;have HO286:=n0_;have HO290:=n1_;have HB:=n2_;clear n0_ n1_ n2_;clear hb ho100;obtain ⟨Ao101,co101,eo101⟩:=Kd.R_slice HO290.out;subst eo101)|(go_at_call 15;(with_reducible refine (bursarlaw13_within.calls t256 _ _ y288 t291 _ ?side1 ?side2 A93.out (Glob.below hG (by repeat (first|(with_reducible first|exact HB.out|apply below_alloc|apply pw_below_drewN|apply below_drew1)|exact HB.out)))).mono ?_);(case side1 => repeat (first|exact (Kd.R_reads' HO290.out).2.2|(with_reducible refine Kd.C_alloc ?_ _)|(with_reducible refine Kd.C_drewN ?_ _)|(with_reducible refine Kd.C_drew ?_)));(case side2 => exact (Kd.R_reads' HO290.out).2.1);rintro e w102 ⟨rfl,hb⟩;have n0_:=Aside0.mk (Kd.R_below (by (with_reducible repeat (first|apply Kd.R_alloc|apply Kd.R_drewN|apply Kd.R_drew));exact HO286.out) hb);have n1_:=Aside0.mk (Kd.R_below (by (with_reducible repeat (first|apply Kd.R_alloc|apply Kd.R_drewN|apply Kd.R_drew));exact HO290.out) hb);have n2_:=Aside0.mk (below_step (by repeat (first|(with_reducible first|exact HB.out|apply below_alloc|apply pw_below_drewN|apply below_drew1)|exact HB.out)) hb);clear HO286;clear HO290;clear HB;have HO286:=n0_;have HO290:=n1_;have HB:=n2_;clear n0_ n1_ n2_;(try clear hb);(try clear hb2);(try clear hk);(try clear hi)))
           go_meet
           case rel => exact ⟨_,H',⟨by have:=HJ11.out;have:=HJ23.out;have:=HJ35.out;have:=HJ66.out;first|omega|exact Nat.le_refl _⟩,⟨by repeat (first|(with_reducible first|exact HB.out|apply below_alloc|apply pw_below_drewN|apply below_drew1)|exact HB.out)⟩⟩
          rw [if_pos c76] at H
          have c76b0 : (a1.toList == a4.toList) = true:=beq_iff_eq.mpr c76
          have c76b1 : (a1.toList != a4.toList) = false:=bne_eq_false_iff_eq.mpr c76
          clear c76
          by_cases c77 : ((t256.toList == t258.toList) != (a2.toList == a5.toList)) = true
          ·rw [if_pos c77] at H
           exact absurd H (by simp)
          rw [if_neg c77] at H
          have c77b0 : ((t256.toList == t258.toList) != (a2.toList == a5.toList)) = false:=by simpa using c77
          (try (have c77b1 : decide ((t256.toList == t258.toList) = (a2.toList == a5.toList)) = true:=by simpa using c77))
          (try (have c77b2 : ((t256.toList == t258.toList) == (a2.toList == a5.toList)) = true:=by simpa using c77))
          clear c77
          obtain ⟨y276,hy276⟩ : ∃ y_ : List ByteArray,y_ = (([(⟨#[110,113,108,111,98]⟩ : ByteArray).extract (a3 : Int).toNat ((wrap64 (a3 + 1)) : Int).toNat] : List ByteArray)):=⟨_,rfl⟩
          replace H : ((bursarlaw13_within.f t256 y276).bind fun t279 => (if (t279 != (a0 == a3)) = true then (none) else ((bursarlaw13_within.f t256 (([(⟨#[110,113,108,111,98]⟩ : ByteArray).extract (a3 : Int).toNat ((wrap64 (a3 + 1)) : Int).toNat,a4] : List ByteArray))).bind fun t283 => (if (t283 != (a1.toList == a4.toList)) = true then (none) else (bursarlaw13_ObjectPlaces.j4 kj66 a6))))) = some r:=by first|(rw [hy276];with_reducible exact H)|(have H2_:=(Option.bind_some _ _).symm.trans H;rw [hy276];with_reducible exact H2_)|(have H2_:=(Option.bind_some _ _).symm.trans H;with_reducible exact H2_)|with_reducible exact H|(rw [hy276];exact H)|exact H
          have Ny276:=Aside0.mk hy276
          clear hy276
          replace H:=Option.bind_eq_some_iff.mp H
          obtain ⟨t279,A780,H⟩:=H
          replace H : (if (t279 != (a0 == a3)) = true then (none) else ((bursarlaw13_within.f t256 (([(⟨#[110,113,108,111,98]⟩ : ByteArray).extract (a3 : Int).toNat ((wrap64 (a3 + 1)) : Int).toNat,a4] : List ByteArray))).bind fun t283 => (if (t283 != (a1.toList == a4.toList)) = true then (none) else (bursarlaw13_ObjectPlaces.j4 kj66 a6)))) = some r:=H
          have A78:=Aside0.mk A780
          clear A780
          by_cases c79 : (t279 != (a0 == a3)) = true
          ·rw [if_pos c79] at H
           exact absurd H (by simp)
          rw [if_neg c79] at H
          have c79b0 : (t279 != (a0 == a3)) = false:=by simpa using c79
          (try (have c79b1 : decide (t279 = (a0 == a3)) = true:=by simpa using c79))
          (try (have c79b2 : (t279 == (a0 == a3)) = true:=by simpa using c79))
          clear c79
          have c79b9 : t279 = ((a0 == a3)):=by simpa using c79b0
          obtain ⟨y280,hy280⟩ : ∃ y_ : List ByteArray,y_ = (([(⟨#[110,113,108,111,98]⟩ : ByteArray).extract (a3 : Int).toNat ((wrap64 (a3 + 1)) : Int).toNat,a4] : List ByteArray)):=⟨_,rfl⟩
          replace H : ((bursarlaw13_within.f t256 y280).bind fun t283 => (if (t283 != (a1.toList == a4.toList)) = true then (none) else (bursarlaw13_ObjectPlaces.j4 kj66 a6))) = some r:=by first|(rw [hy280];with_reducible exact H)|(have H2_:=(Option.bind_some _ _).symm.trans H;rw [hy280];with_reducible exact H2_)|(have H2_:=(Option.bind_some _ _).symm.trans H;with_reducible exact H2_)|with_reducible exact H|(rw [hy280];exact H)|exact H
          have Ny280:=Aside0.mk hy280
          clear hy280
          replace H:=Option.bind_eq_some_iff.mp H
          obtain ⟨t283,A800,H⟩:=H
          replace H : (if (t283 != (a1.toList == a4.toList)) = true then (none) else (bursarlaw13_ObjectPlaces.j4 kj66 a6)) = some r:=H
          have A80:=Aside0.mk A800
          clear A800
          by_cases c81 : (t283 != (a1.toList == a4.toList)) = true
          ·rw [if_pos c81] at H
           exact absurd H (by simp)
          rw [if_neg c81] at H
          have c81b0 : (t283 != (a1.toList == a4.toList)) = false:=by simpa using c81
          (try (have c81b1 : decide (t283 = (a1.toList == a4.toList)) = true:=by simpa using c81))
          (try (have c81b2 : (t283 == (a1.toList == a4.toList)) = true:=by simpa using c81))
          clear c81
          have c81b9 : t283 = ((a1.toList == a4.toList)):=by simpa using c81b0
          have H':=Aside0.mk H
          clear H
          go_wp2_with (first|((with_reducible refine gate_dst (N:=167) rfl ?_);(try (refine gate_guard (by rfl) ?_;dsimp only));refine Kd.R_lit Kd.string _ 9 ?hg (N:=167) ?hd (xs:=([(⟨#[110,113,108,111,98]⟩ : ByteArray).extract (a3 : Int).toNat ((wrap64 (a3 + 1)) : Int).toNat] : List ByteArray)) (inner:=[.string ((⟨#[110,113,108,111,98]⟩ : ByteArray).extract (a3 : Int).toNat ((wrap64 (a3 + 1)) : Int).toNat)]) (ok:=fun _ => True) (okp:=fun _ => True) ?hr ?hp (fun _ hk => hk) trivial (Below.refl _ _) (Nat.le_refl _) (by simp) ?_;(case hd => rfl);(case hg => rfl);(case hr => first|(go_simp;done)|(go_simp;rfl));(case hp => exact (Reps.one (show Kd.M Kd.string _ _ _ ((⟨#[110,113,108,111,98]⟩ : ByteArray).extract (a3 : Int).toNat ((wrap64 (a3 + 1)) : Int).toNat) [.string ((⟨#[110,113,108,111,98]⟩ : ByteArray).extract (a3 : Int).toNat ((wrap64 (a3 + 1)) : Int).toNat)] from rfl) (Reps.none _ _)));intro v277 w82 ho83 hb hg_ hnew_;clear hg_ hnew_;(first|rw [← Ny276.out] at ho83|(simp only [Int.reduceToNat] at ho83;rw [← Ny276.out] at ho83));have n0_:=Aside0.mk (Kd.R_lower ho83 (below_size (by repeat (first|(with_reducible first|exact HB.out|apply below_alloc|apply pw_below_drewN|apply below_drew1)|exact HB.out))));have n1_:=Aside0.mk (below_step (by repeat (first|(with_reducible first|exact HB.out|apply below_alloc|apply pw_below_drewN|apply below_drew1)|exact HB.out)) hb);clear HB;have HO278:=n0_;have HB:=n1_;clear n0_ n1_;clear hb ho83;obtain ⟨Ao84,co84,eo84⟩:=Kd.R_slice HO278.out;subst eo84)|(go_at_call 15;(with_reducible refine (bursarlaw13_within.calls t256 _ _ y276 t279 _ ?side1 ?side2 A78.out (Glob.below hG (by repeat (first|(with_reducible first|exact HB.out|apply below_alloc|apply pw_below_drewN|apply below_drew1)|exact HB.out)))).mono ?_);(case side1 => repeat (first|exact (Kd.R_reads' HO278.out).2.2|(with_reducible refine Kd.C_alloc ?_ _)|(with_reducible refine Kd.C_drewN ?_ _)|(with_reducible refine Kd.C_drew ?_)));(case side2 => exact (Kd.R_reads' HO278.out).2.1);rintro e w85 ⟨rfl,hb⟩;have n0_:=Aside0.mk (Kd.R_below (by (with_reducible repeat (first|apply Kd.R_alloc|apply Kd.R_drewN|apply Kd.R_drew));exact HO278.out) hb);have n1_:=Aside0.mk (below_step (by repeat (first|(with_reducible first|exact HB.out|apply below_alloc|apply pw_below_drewN|apply below_drew1)|exact HB.out)) hb);clear HO278;clear HB;have HO278:=n0_;have HB:=n1_;clear n0_ n1_;(try clear hb);(try clear hb2);(try clear hk);(try clear hi))|((with_reducible refine gate_dst (N:=178) rfl ?_);(try (refine gate_guard (by rfl) ?_;dsimp only));refine Kd.R_lit Kd.string _ 9 ?hg (N:=178) ?hd (xs:=([(⟨#[110,113,108,111,98]⟩ : ByteArray).extract (a3 : Int).toNat ((wrap64 (a3 + 1)) : Int).toNat,a4] : List ByteArray)) (inner:=[.string ((⟨#[110,113,108,111,98]⟩ : ByteArray).extract (a3 : Int).toNat ((wrap64 (a3 + 1)) : Int).toNat),.string a4]) (ok:=fun _ => True) (okp:=fun _ => True) ?hr ?hp (fun _ hk => hk) trivial (Below.refl _ _) (Nat.le_refl _) (by simp) ?_;(case hd => rfl);(case hg => rfl);(case hr => first|(go_simp;done)|(go_simp;rfl));(case hp => exact (Reps.one (show Kd.M Kd.string _ _ _ ((⟨#[110,113,108,111,98]⟩ : ByteArray).extract (a3 : Int).toNat ((wrap64 (a3 + 1)) : Int).toNat) [.string ((⟨#[110,113,108,111,98]⟩ : ByteArray).extract (a3 : Int).toNat ((wrap64 (a3 + 1)) : Int).toNat)] from rfl) (Reps.one (show Kd.M Kd.string _ _ _ a4 [.string a4] from rfl) (Reps.none _ _))));intro v281 w86 ho87 hb hg_ hnew_;clear hg_ hnew_;(first|rw [← Ny280.out] at ho87|(simp only [Int.reduceToNat] at ho87;rw [← Ny280.out] at ho87));have n0_:=Aside0.mk (Kd.R_elder' (by (with_reducible repeat (first|apply Kd.R_alloc|apply Kd.R_drewN|apply Kd.R_drew));exact HO278.out) (Kd.R_base ho87) hb);have n1_:=Aside0.mk (Kd.R_lower (Kd.R_new' ho87 (Kd.R_lt (by (with_reducible repeat (first|apply Kd.R_alloc|apply Kd.R_drewN|apply Kd.R_drew));exact HO278.out))) (below_size (by repeat (first|(with_reducible first|exact HB.out|apply below_alloc|apply pw_below_drewN|apply below_drew1)|exact HB.out))));have n2_:=Aside0.mk (below_step (by repeat (first|(with_reducible first|exact HB.out|apply below_alloc|apply pw_below_drewN|apply below_drew1)|exact HB.out)) hb);clear HO278;clear HB;have HO278:=n0_;have HO282:=n1_;have HB:=n2_;clear n0_ n1_ n2_;clear hb ho87;obtain ⟨Ao88,co88,eo88⟩:=Kd.R_slice HO282.out;subst eo88)|(go_at_call 15;(with_reducible refine (bursarlaw13_within.calls t256 _ _ y280 t283 _ ?side1 ?side2 A80.out (Glob.below hG (by repeat (first|(with_reducible first|exact HB.out|apply below_alloc|apply pw_below_drewN|apply below_drew1)|exact HB.out)))).mono ?_);(case side1 => repeat (first|exact (Kd.R_reads' HO282.out).2.2|(with_reducible refine Kd.C_alloc ?_ _)|(with_reducible refine Kd.C_drewN ?_ _)|(with_reducible refine Kd.C_drew ?_)));(case side2 => exact (Kd.R_reads' HO282.out).2.1);rintro e w89 ⟨rfl,hb⟩;have n0_:=Aside0.mk (Kd.R_below (by (with_reducible repeat (first|apply Kd.R_alloc|apply Kd.R_drewN|apply Kd.R_drew));exact HO278.out) hb);have n1_:=Aside0.mk (Kd.R_below (by (with_reducible repeat (first|apply Kd.R_alloc|apply Kd.R_drewN|apply Kd.R_drew));exact HO282.out) hb);have n2_:=Aside0.mk (below_step (by repeat (first|(with_reducible first|exact HB.out|apply below_alloc|apply pw_below_drewN|apply below_drew1)|exact HB.out)) hb);clear HO278;clear HO282;clear HB;have HO278:=n0_;have HO282:=n1_;have HB:=n2_;clear n0_ n1_ n2_;(try clear hb);(try clear hb2);(try clear hk);(try clear hi)))
          go_meet
          case rel => exact ⟨_,H',⟨by have:=HJ11.out;have:=HJ23.out;have:=HJ35.out;have:=HJ66.out;first|omega|exact Nat.le_refl _⟩,⟨by repeat (first|(with_reducible first|exact HB.out|apply below_alloc|apply pw_below_drewN|apply below_drew1)|exact HB.out)⟩⟩
   case rest => as_aux_lemma =>
    clear HC21;(try clear c1);(try clear c2);(try clear p2);(try clear c3);(try clear c4);(try clear c5);(try clear c6);(try clear p6);(try clear c7);(try clear c8);(try clear c9);(try clear c10);(try clear c11);(try clear c13);(try clear c15);(try clear c16);(try clear c16b0);(try clear c16b1);(try clear c17);(try clear c17b0);(try clear c17b1);(try clear c18);(try clear c18b0);(try clear c18b1);(try clear c19);(try clear c19b0);(try clear c19b1);(try clear c20);(try clear c22);(try clear c22b0);(try clear c22b1);(try clear c26);(try clear c26b0);(try clear c26b1);(try clear c27);(try clear c27b0);(try clear c27b1);(try clear c28);(try clear c28b0);(try clear c28b1);(try clear c29);(try clear c29b0);(try clear c29b1);(try clear c30);(try clear c30b0);(try clear c30b1);(try clear c31);(try clear c31b0);(try clear c32);(try clear c33);(try clear c33b0);(try clear c33b1);(try clear c34);(try clear c34b0);(try clear c34b1);(try clear c35);(try clear c35b0);(try clear c35b1);(try clear c38);(try clear c40);(try clear p64);(try clear c66);(try clear c68);(try clear c68b0);(try clear c68b1);(try clear c69);(try clear c69b0);(try clear c70);(try clear c71);(try clear c71b0);(try clear c71b1);(try clear c72);(try clear c72b0);(try clear c72b1);(try clear c73);(try clear c73b0);(try clear c73b1);(try clear c74);(try clear c74b0);(try clear c74b1);(try clear c75);(try clear c75b0);(try clear c75b1);(try clear c76);(try clear c76b0);(try clear c76b1);(try clear c77);(try clear c77b0);(try clear c77b1);(try clear c77b2);(try clear c79);(try clear c79b0);(try clear c79b1);(try clear c79b2);(try clear c81);(try clear c81b0);(try clear c81b1);(try clear c81b2);(try clear c90);(try clear c90b0);(try clear c90b1);(try clear c90b2);(try clear c92);(try clear c92b0);(try clear c92b1);(try clear c92b2);(try clear c94);(try clear c94b0);(try clear c94b1);(try clear c94b2);(try clear c103);(try clear c103b0);(try clear c103b1);(try clear c103b2);(try clear c105);(try clear c105b0);(try clear c105b1);(try clear c105b2);(try clear c107);(try clear c107b0);(try clear c107b1);(try clear c107b2);(try clear p2);(try clear p6);(try clear p64)
    obtain ⟨kq,HA,HJ20,HB⟩:=hcut
    cases kq with
   |zero => exact absurd HA.out (by simp [bursarlaw13_ObjectPlaces.j4])
   |succ kj20 =>
     have H:=HA.out
     clear HA
     simp only [bursarlaw13_ObjectPlaces.j4] at H
     replace H:=Option.bind_eq_some_iff.mp H
     obtain ⟨⟨t300,t301,t302,t303⟩,A1160,H⟩:=H
     replace H : (if t303 = 0 then ((object_Key.f t300 t301 t302).bind fun bt304 => (if bt304.2 = 0 then (some (bt304.1.toList == a6.toList)) else (none))) else (if t303 = 2 then (if t300 = 0 then (if t301.toList = ([] : List UInt8) then (some (t302.toList == ([] : List UInt8))) else (none)) else (none)) else (none))) = some r:=H
     have A116:=Aside0.mk A1160
     clear A1160
     by_cases c117 : t303 = 0
     rotate_left
     ·rw [if_neg c117] at H
      have c117b0 : (t303 == 0) = false:=beq_eq_false_iff_ne.mpr c117
      have c117b1 : (t303 != 0) = true:=bne_iff_ne.mpr c117
      by_cases c122 : t303 = 2
      rotate_left
      ·rw [if_neg c122] at H
       exact absurd H (by simp)
      rw [if_pos c122] at H
      have c122b0 : (t303 == 2) = true:=beq_iff_eq.mpr c122
      have c122b1 : (t303 != 2) = false:=bne_eq_false_iff_eq.mpr c122
      clear c122
      by_cases c123 : t300 = 0
      rotate_left
      ·rw [if_neg c123] at H
       exact absurd H (by simp)
      rw [if_pos c123] at H
      have c123b0 : (t300 == 0) = true:=beq_iff_eq.mpr c123
      have c123b1 : (t300 != 0) = false:=bne_eq_false_iff_eq.mpr c123
      clear c123
      by_cases c124 : t301.toList = ([] : List UInt8)
      rotate_left
      ·rw [if_neg c124] at H
       exact absurd H (by simp)
      rw [if_pos c124] at H
      have c124b0 : (t301.toList == ([] : List UInt8)) = true:=beq_iff_eq.mpr c124
      have c124b1 : (t301.toList != ([] : List UInt8)) = false:=bne_eq_false_iff_eq.mpr c124
      clear c124
      obtain rfl:=Option.some.inj H
      go_wp2_with (first|((with_reducible refine gate_callee (f:=13) rfl ?_);refine goesL_ (some 192) rfl rfl Tryd.func13 (by kernel_rfl) rfl #[.string a6] rfl (by (try simp only [List.map_toArray,List.map_cons,List.map_nil]);first|done|rfl|(simp only [List.length_drop,List.length_take];rfl)) ?_;(with_reducible refine (object_Unkey.calls kj20 a6 t300 t301 t302 t303 _ A116.out (Glob.below hG (by repeat (first|(with_reducible first|exact HB.out|apply below_alloc|apply pw_below_drewN|apply below_drew1)|exact HB.out)))).mono ?_);rintro e w125 ⟨rfl,hb⟩;refine ⟨_,rfl,?_⟩;have n0_:=Aside0.mk (below_step (by repeat (first|(with_reducible first|exact HB.out|apply below_alloc|apply pw_below_drewN|apply below_drew1)|exact HB.out)) hb);clear HB;have HB:=n0_;clear n0_;(try clear hb);(try clear hb2);(try clear hk);(try clear hi)))
      go_ret
      exact ⟨by first|rfl|(simp [errW_none,errW_some] <;> rfl)|(simp [*,errW_none,errW_some] <;> rfl),by repeat (first|(with_reducible first|exact HB.out|apply below_alloc|apply pw_below_drewN|apply below_drew1)|exact HB.out)⟩
     rw [if_pos c117] at H
     have c117b0 : (t303 == 0) = true:=beq_iff_eq.mpr c117
     have c117b1 : (t303 != 0) = false:=bne_eq_false_iff_eq.mpr c117
     clear c117
     replace H:=Option.bind_eq_some_iff.mp H
     obtain ⟨⟨t304,t305⟩,A1180,H⟩:=H
     replace H : (if t305 = 0 then (some (t304.toList == a6.toList)) else (none)) = some r:=H
     have A118:=Aside0.mk A1180
     clear A1180
     by_cases c119 : t305 = 0
     rotate_left
     ·rw [if_neg c119] at H
      exact absurd H (by simp)
     rw [if_pos c119] at H
     have c119b0 : (t305 == 0) = true:=beq_iff_eq.mpr c119
     have c119b1 : (t305 != 0) = false:=bne_eq_false_iff_eq.mpr c119
     clear c119
     obtain rfl:=Option.some.inj H
     go_wp2_with (first|((with_reducible refine gate_callee (f:=13) rfl ?_);refine goesL_ (some 192) rfl rfl Tryd.func13 (by kernel_rfl) rfl #[.string a6] rfl (by (try simp only [List.map_toArray,List.map_cons,List.map_nil]);first|done|rfl|(simp only [List.length_drop,List.length_take];rfl)) ?_;(with_reducible refine (object_Unkey.calls kj20 a6 t300 t301 t302 t303 _ A116.out (Glob.below hG (by repeat (first|(with_reducible first|exact HB.out|apply below_alloc|apply pw_below_drewN|apply below_drew1)|exact HB.out)))).mono ?_);rintro e w120 ⟨rfl,hb⟩;refine ⟨_,rfl,?_⟩;have n0_:=Aside0.mk (below_step (by repeat (first|(with_reducible first|exact HB.out|apply below_alloc|apply pw_below_drewN|apply below_drew1)|exact HB.out)) hb);clear HB;have HB:=n0_;clear n0_;(try clear hb);(try clear hb2);(try clear hk);(try clear hi))|((with_reducible refine gate_callee (f:=11) rfl ?_);refine goesL_ (some 217) rfl rfl Tryd.func11 (by kernel_rfl) rfl #[.int .i64 t300,.string t301,.string t302] rfl (by (try simp only [List.map_toArray,List.map_cons,List.map_nil]);first|done|rfl|(simp only [List.length_drop,List.length_take];rfl)) ?_;(with_reducible refine (object_Key.calls t300 t301 t302 t304 t305 _ A118.out (Glob.below hG (by repeat (first|(with_reducible first|exact HB.out|apply below_alloc|apply pw_below_drewN|apply below_drew1)|exact HB.out)))).mono ?_);rintro e w121 ⟨rfl,hb⟩;refine ⟨_,rfl,?_⟩;have n0_:=Aside0.mk (below_step (by repeat (first|(with_reducible first|exact HB.out|apply below_alloc|apply pw_below_drewN|apply below_drew1)|exact HB.out)) hb);clear HB;have HB:=n0_;clear n0_;(try clear hb);(try clear hb2);(try clear hk);(try clear hi)))
     go_ret
     exact ⟨by first|rfl|(simp [errW_none,errW_some] <;> rfl)|(simp [*,errW_none,errW_some] <;> rfl),by repeat (first|(with_reducible first|exact HB.out|apply below_alloc|apply pw_below_drewN|apply below_drew1)|exact HB.out)⟩
end Go.Proofs.YtniolbolfclhkaaDoor.Q
namespace Go.Proofs.YtniolbolfclhkaaDoor.Q
open Go.RowKit Go.Proofs.YtniolbolfclhkaaDoorW.PrintWords Go.Proofs.YtniolbolfclhkaaDoorW.PrintLast Go.Proofs.YtniolbolfclhkaaDoorW.PrintMore
attribute [local go_sem] max2_int min2_int max_two min_two max_three min_three max_four min_four   -- for this text's walks alone
set_option linter.unusedVariables false
set_option linter.unusedSimpArgs false
mutual
def bursarref05_Make.j0 : Nat → List ByteArray → Bool → Option (ByteArray × Int)
|0,_,_ => none
|k + 1,x0,x14 => if x14 = true then (some ((⟨#[]⟩ : ByteArray),1)) else (bursarref05_Make.l0 k x0 ([] : List Int) 0)
def bursarref05_Make.l0 : Nat → List ByteArray → List Int → Int → Option (ByteArray × Int)
|0,_,_,_ => none
|k + 1,x0,x4,x5 => if x5 < (x0.length : Int) then (bursarref05_Make.l1 k x0 x4 x5 0) else (if (x4.length : Int) > 120 then (some ((⟨#[]⟩ : ByteArray),23)) else (some (strOfNums x4,0)))
def bursarref05_Make.l1 : Nat → List ByteArray → List Int → Int → Int → Option (ByteArray × Int)
|0,_,_,_,_ => none
|k + 1,x0,x4,x5,x6 => if 0 ≤ x5 then (if x5 < (x0.length : Int) then (if x6 < ((rdOf ByteArray.empty x0 x5).size : Int) then (if 0 ≤ x6 then (if x4.length < 140737488355328 then ((some (x4 ++ [bt (rdOf ByteArray.empty x0 x5) x6] : List Int)).bind fun y169 => (if (bt (rdOf ByteArray.empty x0 x5) x6) = 0 then (if y169.length < 140737488355328 then (bursarref05_Make.l1 k x0 (y169 ++ [255]) x5 (wrap64 (x6 + 1))) else (none)) else (bursarref05_Make.l1 k x0 y169 x5 (wrap64 (x6 + 1))))) else (none)) else (none)) else ((some (([0,1] : List Int) : List Int)).bind fun y176 => (if x4.length + y176.length < 140737488355328 then (bursarref05_Make.l0 k x0 (x4 ++ y176) (wrap64 (x5 + 1))) else (none)))) else (none)) else (none)
end
def bursarref05_Make.f (k : Nat) (l0 : List ByteArray) : Option (ByteArray × Int) := if (l0.length : Int) < 1 then (bursarref05_Make.j0 k l0 true) else (bursarref05_Make.j0 k l0 (decide ((l0.length : Int) > 8)))
theorem bursarref05_Make.mono_l : ∀ k, (∀ y0 y1, LeO (bursarref05_Make.j0 k y0 y1) (bursarref05_Make.j0 (k + 1) y0 y1)) ∧ (∀ y0 y1 y2, LeO (bursarref05_Make.l0 k y0 y1 y2) (bursarref05_Make.l0 (k + 1) y0 y1 y2)) ∧ (∀ y0 y1 y2 y3, LeO (bursarref05_Make.l1 k y0 y1 y2 y3) (bursarref05_Make.l1 (k + 1) y0 y1 y2 y3))
|0 => ⟨fun _ _ r h => by simp [bursarref05_Make.j0] at h,fun _ _ _ r h => by simp [bursarref05_Make.l0] at h,fun _ _ _ _ r h => by simp [bursarref05_Make.l1] at h⟩
|k + 1 => by
  obtain ⟨ih0,ih1,ih2⟩:=bursarref05_Make.mono_l k
  refine ⟨?_,?_,?_⟩
  ·intro y0 y1
   unfold bursarref05_Make.j0
   repeat' first
  |(with_reducible exact ih0 _ _)
  |(with_reducible exact ih1 _ _ _)
  |(with_reducible exact ih2 _ _ _ _)
  |(with_reducible exact LeO.refl _)
  |(with_reducible exact LeO.none _)
  |(with_reducible refine LeO.ite ?_ ?_)
  |(with_reducible refine LeO.bind ?_ (fun _ => ?_))
  |exact ih0 _ _
  |exact ih1 _ _ _
  |exact ih2 _ _ _ _
  |exact LeO.none _
  |refine LeO.ite ?_ ?_
  |refine LeO.bind ?_ (fun _ => ?_)
  ·intro y0 y1 y2
   unfold bursarref05_Make.l0
   repeat' first
  |(with_reducible exact ih0 _ _)
  |(with_reducible exact ih1 _ _ _)
  |(with_reducible exact ih2 _ _ _ _)
  |(with_reducible exact LeO.refl _)
  |(with_reducible exact LeO.none _)
  |(with_reducible refine LeO.ite ?_ ?_)
  |(with_reducible refine LeO.bind ?_ (fun _ => ?_))
  |exact ih0 _ _
  |exact ih1 _ _ _
  |exact ih2 _ _ _ _
  |exact LeO.none _
  |refine LeO.ite ?_ ?_
  |refine LeO.bind ?_ (fun _ => ?_)
  ·intro y0 y1 y2 y3
   unfold bursarref05_Make.l1
   repeat' first
  |(with_reducible exact ih0 _ _)
  |(with_reducible exact ih1 _ _ _)
  |(with_reducible exact ih2 _ _ _ _)
  |(with_reducible exact LeO.refl _)
  |(with_reducible exact LeO.none _)
  |(with_reducible refine LeO.ite ?_ ?_)
  |(with_reducible refine LeO.bind ?_ (fun _ => ?_))
  |exact ih0 _ _
  |exact ih1 _ _ _
  |exact ih2 _ _ _ _
  |exact LeO.none _
  |refine LeO.ite ?_ ?_
  |refine LeO.bind ?_ (fun _ => ?_)
theorem bursarref05_Make.mono : ∀ a0 k, LeO (bursarref05_Make.f k a0) (bursarref05_Make.f (k + 1) a0) := by
 intro a0 k
 obtain ⟨ih0,ih1,ih2⟩:=bursarref05_Make.mono_l k
 unfold bursarref05_Make.f
 repeat' first
  |(with_reducible exact ih0 _ _)
  |(with_reducible exact ih1 _ _ _)
  |(with_reducible exact ih2 _ _ _ _)
  |(with_reducible exact LeO.refl _)
  |(with_reducible exact LeO.none _)
  |(with_reducible refine LeO.ite ?_ ?_)
  |(with_reducible refine LeO.bind ?_ (fun _ => ?_))
  |exact ih0 _ _
  |exact ih1 _ _ _
  |exact ih2 _ _ _ _
  |exact LeO.none _
  |refine LeO.ite ?_ ?_
  |refine LeO.bind ?_ (fun _ => ?_)
end Go.Proofs.YtniolbolfclhkaaDoor.Q
namespace Go.Proofs.YtniolbolfclhkaaDoor.Q
open Go.RowKit Go.Proofs.YtniolbolfclhkaaDoorW.PrintWords Go.Proofs.YtniolbolfclhkaaDoorW.PrintLast Go.Proofs.YtniolbolfclhkaaDoorW.PrintMore
attribute [local go_sem] max2_int min2_int max_two min_two max_three min_three max_four min_four   -- for this text's walks alone
set_option linter.unusedVariables false
set_option linter.unusedSimpArgs false
def bursarref05_Split.l0 : Nat → ByteArray → List ByteArray → List Int → Int → Option (List ByteArray × Int)
|0,_,_,_,_ => none
|k + 1,x0,x4,x5,x6 => if x6 < (x0.size : Int) then (if 0 ≤ x6 then (if (bt x0 x6) = 0 then (if (wrap64 (x6 + 1)) < (x0.size : Int) then (if 0 ≤ (wrap64 (x6 + 1)) then (if (bt x0 (wrap64 (x6 + 1))) = 1 then (if x4.length < 8796093022208 then (bursarref05_Split.l0 k x0 (x4 ++ [strOfNums x5]) ([] : List Int) (wrap64 ((wrap64 (x6 + 1)) + 1))) else (none)) else (if x5.length < 140737488355328 then (bursarref05_Split.l0 k x0 x4 (x5 ++ [0]) (wrap64 ((wrap64 (x6 + 1)) + 1))) else (none))) else (none)) else (if x5.length < 140737488355328 then (bursarref05_Split.l0 k x0 x4 (x5 ++ [0]) (wrap64 ((wrap64 (x6 + 1)) + 1))) else (none))) else (if x5.length < 140737488355328 then (bursarref05_Split.l0 k x0 x4 (x5 ++ [bt x0 x6]) (wrap64 (x6 + 1))) else (none))) else (none)) else ((bursarref05_Make.f k x4).bind fun bt213 => (if bt213.2 = 0 then (if bt213.1.toList = x0.toList then (some (x4,0)) else (some (([] : List ByteArray),2))) else (some (([] : List ByteArray),2))))
def bursarref05_Split.f (k : Nat) (a0 : ByteArray) : Option (List ByteArray × Int) := bursarref05_Split.l0 k a0 ([] : List ByteArray) ([] : List Int) 0
theorem bursarref05_Split.mono_l : ∀ k, (∀ y0 y1 y2 y3, LeO (bursarref05_Split.l0 k y0 y1 y2 y3) (bursarref05_Split.l0 (k + 1) y0 y1 y2 y3))
|0 => fun _ _ _ _ r h => by simp [bursarref05_Split.l0] at h
|k + 1 => by
  have ih0:=bursarref05_Split.mono_l k
  ·intro y0 y1 y2 y3
   unfold bursarref05_Split.l0
   repeat' first
  |(with_reducible exact ih0 _ _ _ _)
  |(with_reducible exact bursarref05_Make.mono _ _)
  |(with_reducible exact LeO.refl _)
  |(with_reducible exact LeO.none _)
  |(with_reducible refine LeO.ite ?_ ?_)
  |(with_reducible refine LeO.bind ?_ (fun _ => ?_))
  |exact ih0 _ _ _ _
  |exact bursarref05_Make.mono _ _
  |exact LeO.none _
  |refine LeO.ite ?_ ?_
  |refine LeO.bind ?_ (fun _ => ?_)
theorem bursarref05_Split.mono : ∀ a0 k, LeO (bursarref05_Split.f k a0) (bursarref05_Split.f (k + 1) a0) := by
 intro a0 k
 have ih0:=bursarref05_Split.mono_l k
 unfold bursarref05_Split.f
 repeat' first
  |(with_reducible exact ih0 _ _ _ _)
  |(with_reducible exact bursarref05_Make.mono _ _)
  |(with_reducible exact LeO.refl _)
  |(with_reducible exact LeO.none _)
  |(with_reducible refine LeO.ite ?_ ?_)
  |(with_reducible refine LeO.bind ?_ (fun _ => ?_))
  |exact ih0 _ _ _ _
  |exact bursarref05_Make.mono _ _
  |exact LeO.none _
  |refine LeO.ite ?_ ?_
  |refine LeO.bind ?_ (fun _ => ?_)
end Go.Proofs.YtniolbolfclhkaaDoor.Q
namespace Go.Proofs.YtniolbolfclhkaaDoor.Q
open Go.RowKit Go.Proofs.YtniolbolfclhkaaDoorW.PrintWords Go.Proofs.YtniolbolfclhkaaDoorW.PrintLast Go.Proofs.YtniolbolfclhkaaDoorW.PrintMore
attribute [local go_sem] max2_int min2_int max_two min_two max_three min_three max_four min_four   -- for this text's walks alone
set_option linter.unusedVariables false
set_option linter.unusedSimpArgs false
mutual
def bursarref04_Name.j0 : Nat → ByteArray → Bool → Option (Bool)
|0,_,_ => none
|k + 1,x0,x25 => if x25 = true then (some false) else (bursarref04_Name.l0 k x0 0)
def bursarref04_Name.l0 : Nat → ByteArray → Int → Option (Bool)
|0,_,_ => none
|k + 1,x0,x3 => if x3 < (x0.size : Int) then (if 0 ≤ x3 then (if (bt x0 x3) ≥ 97 then (if ((bt x0 x3) ≤ 122) then (bursarref04_Name.l0 k x0 (wrap64 (x3 + 1))) else (if (bt x0 x3) ≥ 48 then (if ((bt x0 x3) ≤ 57) then (bursarref04_Name.l0 k x0 (wrap64 (x3 + 1))) else (if (bt x0 x3) = 45 then (bursarref04_Name.l0 k x0 (wrap64 (x3 + 1))) else (some false))) else (if (bt x0 x3) = 45 then (bursarref04_Name.l0 k x0 (wrap64 (x3 + 1))) else (some false)))) else (if (bt x0 x3) ≥ 48 then (if ((bt x0 x3) ≤ 57) then (bursarref04_Name.l0 k x0 (wrap64 (x3 + 1))) else (if (bt x0 x3) = 45 then (bursarref04_Name.l0 k x0 (wrap64 (x3 + 1))) else (some false))) else (if (bt x0 x3) = 45 then (bursarref04_Name.l0 k x0 (wrap64 (x3 + 1))) else (some false)))) else (none)) else (some true)
end
def bursarref04_Name.f (k : Nat) (a0 : ByteArray) : Option (Bool) := if (a0.size : Int) < 1 then (bursarref04_Name.j0 k a0 true) else (if (a0.size : Int) > 32 then (bursarref04_Name.j0 k a0 true) else (if 0 < (a0.size : Int) then (if (bt a0 0) = 45 then (bursarref04_Name.j0 k a0 true) else (if 0 ≤ (wrap64 ((a0.size : Int) - 1)) then (if (wrap64 ((a0.size : Int) - 1)) < (a0.size : Int) then (bursarref04_Name.j0 k a0 ((bt a0 (wrap64 ((a0.size : Int) - 1))) == 45)) else (none)) else (none))) else (none)))
theorem bursarref04_Name.mono_l : ∀ k, (∀ y0 y1, LeO (bursarref04_Name.j0 k y0 y1) (bursarref04_Name.j0 (k + 1) y0 y1)) ∧ (∀ y0 y1, LeO (bursarref04_Name.l0 k y0 y1) (bursarref04_Name.l0 (k + 1) y0 y1))
|0 => ⟨fun _ _ r h => by simp [bursarref04_Name.j0] at h,fun _ _ r h => by simp [bursarref04_Name.l0] at h⟩
|k + 1 => by
  obtain ⟨ih0,ih1⟩:=bursarref04_Name.mono_l k
  refine ⟨?_,?_⟩
  ·intro y0 y1
   unfold bursarref04_Name.j0
   repeat' first
  |(with_reducible exact ih0 _ _)
  |(with_reducible exact ih1 _ _)
  |(with_reducible exact LeO.refl _)
  |(with_reducible exact LeO.none _)
  |(with_reducible refine LeO.ite ?_ ?_)
  |(with_reducible refine LeO.bind ?_ (fun _ => ?_))
  |exact ih0 _ _
  |exact ih1 _ _
  |exact LeO.none _
  |refine LeO.ite ?_ ?_
  |refine LeO.bind ?_ (fun _ => ?_)
  ·intro y0 y1
   unfold bursarref04_Name.l0
   repeat' first
  |(with_reducible exact ih0 _ _)
  |(with_reducible exact ih1 _ _)
  |(with_reducible exact LeO.refl _)
  |(with_reducible exact LeO.none _)
  |(with_reducible refine LeO.ite ?_ ?_)
  |(with_reducible refine LeO.bind ?_ (fun _ => ?_))
  |exact ih0 _ _
  |exact ih1 _ _
  |exact LeO.none _
  |refine LeO.ite ?_ ?_
  |refine LeO.bind ?_ (fun _ => ?_)
theorem bursarref04_Name.mono : ∀ a0 k, LeO (bursarref04_Name.f k a0) (bursarref04_Name.f (k + 1) a0) := by
 intro a0 k
 obtain ⟨ih0,ih1⟩:=bursarref04_Name.mono_l k
 unfold bursarref04_Name.f
 repeat' first
  |(with_reducible exact ih0 _ _)
  |(with_reducible exact ih1 _ _)
  |(with_reducible exact LeO.refl _)
  |(with_reducible exact LeO.none _)
  |(with_reducible refine LeO.ite ?_ ?_)
  |(with_reducible refine LeO.bind ?_ (fun _ => ?_))
  |exact ih0 _ _
  |exact ih1 _ _
  |exact LeO.none _
  |refine LeO.ite ?_ ?_
  |refine LeO.bind ?_ (fun _ => ?_)
end Go.Proofs.YtniolbolfclhkaaDoor.Q
namespace Go.Proofs.YtniolbolfclhkaaDoor.Q
open Go.RowKit Go.Proofs.YtniolbolfclhkaaDoorW.PrintWords Go.Proofs.YtniolbolfclhkaaDoorW.PrintLast Go.Proofs.YtniolbolfclhkaaDoorW.PrintMore
attribute [local go_sem] max2_int min2_int max_two min_two max_three min_three max_four min_four   -- for this text's walks alone
set_option linter.unusedVariables false
set_option linter.unusedSimpArgs false
def bursarref04_pieces.l0 : Nat → ByteArray → Int → List ByteArray → Int → Int → Option (List ByteArray)
|0,_,_,_,_,_ => none
|k + 1,x0,x1,x5,x6,x7 => if x7 ≤ (x0.size : Int) then (if x7 = (x0.size : Int) then (if 0 ≤ x6 then (if x6 ≤ x7 then (if x5.length < 8796093022208 then (bursarref04_pieces.l0 k x0 x1 (x5 ++ [x0.extract (x6 : Int).toNat (x7 : Int).toNat]) (wrap64 (x7 + 1)) (wrap64 (x7 + 1))) else (none)) else (none)) else (none)) else (if 0 ≤ x7 then (if x7 < (x0.size : Int) then (if (bt x0 x7) = x1 then (if 0 ≤ x6 then (if x6 ≤ x7 then (if x5.length < 8796093022208 then (bursarref04_pieces.l0 k x0 x1 (x5 ++ [x0.extract (x6 : Int).toNat (x7 : Int).toNat]) (wrap64 (x7 + 1)) (wrap64 (x7 + 1))) else (none)) else (none)) else (none)) else (bursarref04_pieces.l0 k x0 x1 x5 x6 (wrap64 (x7 + 1)))) else (none)) else (none))) else (some x5)
def bursarref04_pieces.f (k : Nat) (a0 : ByteArray) (a1 : Int) : Option (List ByteArray) := bursarref04_pieces.l0 k a0 a1 ([] : List ByteArray) 0 0
theorem bursarref04_pieces.mono_l : ∀ k, (∀ y0 y1 y2 y3 y4, LeO (bursarref04_pieces.l0 k y0 y1 y2 y3 y4) (bursarref04_pieces.l0 (k + 1) y0 y1 y2 y3 y4))
|0 => fun _ _ _ _ _ r h => by simp [bursarref04_pieces.l0] at h
|k + 1 => by
  have ih0:=bursarref04_pieces.mono_l k
  ·intro y0 y1 y2 y3 y4
   unfold bursarref04_pieces.l0
   repeat' first
  |(with_reducible exact ih0 _ _ _ _ _)
  |(with_reducible exact LeO.refl _)
  |(with_reducible exact LeO.none _)
  |(with_reducible refine LeO.ite ?_ ?_)
  |(with_reducible refine LeO.bind ?_ (fun _ => ?_))
  |exact ih0 _ _ _ _ _
  |exact LeO.none _
  |refine LeO.ite ?_ ?_
  |refine LeO.bind ?_ (fun _ => ?_)
theorem bursarref04_pieces.mono : ∀ a0 a1 k, LeO (bursarref04_pieces.f k a0 a1) (bursarref04_pieces.f (k + 1) a0 a1) := by
 intro a0 a1 k
 have ih0:=bursarref04_pieces.mono_l k
 unfold bursarref04_pieces.f
 repeat' first
  |(with_reducible exact ih0 _ _ _ _ _)
  |(with_reducible exact LeO.refl _)
  |(with_reducible exact LeO.none _)
  |(with_reducible refine LeO.ite ?_ ?_)
  |(with_reducible refine LeO.bind ?_ (fun _ => ?_))
  |exact ih0 _ _ _ _ _
  |exact LeO.none _
  |refine LeO.ite ?_ ?_
  |refine LeO.bind ?_ (fun _ => ?_)
end Go.Proofs.YtniolbolfclhkaaDoor.Q
namespace Go.Proofs.YtniolbolfclhkaaDoor.Q
open Go.RowKit Go.Proofs.YtniolbolfclhkaaDoorW.PrintWords Go.Proofs.YtniolbolfclhkaaDoorW.PrintLast Go.Proofs.YtniolbolfclhkaaDoorW.PrintMore
attribute [local go_sem] max2_int min2_int max_two min_two max_three min_three max_four min_four   -- for this text's walks alone
set_option linter.unusedVariables false
set_option linter.unusedSimpArgs false
mutual
def bursarref04_Split.j0 : Nat → List ByteArray → Bool → Option (List ByteArray × Int)
|0,_,_ => none
|k + 1,x4,x29 => if x29 = true then (some (([] : List ByteArray),41)) else (bursarref04_Split.l0 k x4 1)
def bursarref04_Split.l0 : Nat → List ByteArray → Int → Option (List ByteArray × Int)
|0,_,_ => none
|k + 1,x4,x5 => if x5 < (x4.length : Int) then (if 0 ≤ x5 then ((bursarref04_Name.f k (rdOf ByteArray.empty x4 x5)).bind fun t159 => (if t159 = true then (bursarref04_Split.l0 k x4 (wrap64 (x5 + 1))) else (some (([] : List ByteArray),41)))) else (none)) else (if 1 ≤ (x4.length : Int) then (some ((x4.drop (1 : Int).toNat),0)) else (none))
end
def bursarref04_Split.f (k : Nat) (a0 : ByteArray) : Option (List ByteArray × Int) := if a0.toList = ([47] : List UInt8) then (some (([] : List ByteArray), 0)) else ((bursarref04_pieces.f k a0 47).bind fun t154 => (if (a0.size : Int) > 64 then (bursarref04_Split.j0 k t154 true) else (if (t154.length : Int) < 2 then (bursarref04_Split.j0 k t154 true) else (if (t154.length : Int) > 9 then (bursarref04_Split.j0 k t154 true) else (if 0 < (t154.length : Int) then (bursarref04_Split.j0 k t154 ((rdOf ByteArray.empty t154 0).toList != ([] : List UInt8))) else (none))))))
theorem bursarref04_Split.mono_l : ∀ k, (∀ y0 y1, LeO (bursarref04_Split.j0 k y0 y1) (bursarref04_Split.j0 (k + 1) y0 y1)) ∧ (∀ y0 y1, LeO (bursarref04_Split.l0 k y0 y1) (bursarref04_Split.l0 (k + 1) y0 y1))
|0 => ⟨fun _ _ r h => by simp [bursarref04_Split.j0] at h,fun _ _ r h => by simp [bursarref04_Split.l0] at h⟩
|k + 1 => by
  obtain ⟨ih0,ih1⟩:=bursarref04_Split.mono_l k
  refine ⟨?_,?_⟩
  ·intro y0 y1
   unfold bursarref04_Split.j0
   repeat' first
  |(with_reducible exact ih0 _ _)
  |(with_reducible exact ih1 _ _)
  |(with_reducible exact bursarref04_Name.mono _ _)
  |(with_reducible exact bursarref04_pieces.mono _ _ _)
  |(with_reducible exact LeO.refl _)
  |(with_reducible exact LeO.none _)
  |(with_reducible refine LeO.ite ?_ ?_)
  |(with_reducible refine LeO.bind ?_ (fun _ => ?_))
  |exact ih0 _ _
  |exact ih1 _ _
  |exact bursarref04_Name.mono _ _
  |exact bursarref04_pieces.mono _ _ _
  |exact LeO.none _
  |refine LeO.ite ?_ ?_
  |refine LeO.bind ?_ (fun _ => ?_)
  ·intro y0 y1
   unfold bursarref04_Split.l0
   repeat' first
  |(with_reducible exact ih0 _ _)
  |(with_reducible exact ih1 _ _)
  |(with_reducible exact bursarref04_Name.mono _ _)
  |(with_reducible exact bursarref04_pieces.mono _ _ _)
  |(with_reducible exact LeO.refl _)
  |(with_reducible exact LeO.none _)
  |(with_reducible refine LeO.ite ?_ ?_)
  |(with_reducible refine LeO.bind ?_ (fun _ => ?_))
  |exact ih0 _ _
  |exact ih1 _ _
  |exact bursarref04_Name.mono _ _
  |exact bursarref04_pieces.mono _ _ _
  |exact LeO.none _
  |refine LeO.ite ?_ ?_
  |refine LeO.bind ?_ (fun _ => ?_)
theorem bursarref04_Split.mono : ∀ a0 k, LeO (bursarref04_Split.f k a0) (bursarref04_Split.f (k + 1) a0) := by
 intro a0 k
 obtain ⟨ih0,ih1⟩:=bursarref04_Split.mono_l k
 unfold bursarref04_Split.f
 repeat' first
  |(with_reducible exact ih0 _ _)
  |(with_reducible exact ih1 _ _)
  |(with_reducible exact bursarref04_Name.mono _ _)
  |(with_reducible exact bursarref04_pieces.mono _ _ _)
  |(with_reducible exact LeO.refl _)
  |(with_reducible exact LeO.none _)
  |(with_reducible refine LeO.ite ?_ ?_)
  |(with_reducible refine LeO.bind ?_ (fun _ => ?_))
  |exact ih0 _ _
  |exact ih1 _ _
  |exact bursarref04_Name.mono _ _
  |exact bursarref04_pieces.mono _ _ _
  |exact LeO.none _
  |refine LeO.ite ?_ ?_
  |refine LeO.bind ?_ (fun _ => ?_)
end Go.Proofs.YtniolbolfclhkaaDoor.Q
namespace Go.Proofs.YtniolbolfclhkaaDoor.Q
open Go.RowKit Go.Proofs.YtniolbolfclhkaaDoorW.PrintWords Go.Proofs.YtniolbolfclhkaaDoorW.PrintLast Go.Proofs.YtniolbolfclhkaaDoorW.PrintMore
attribute [local go_sem] max2_int min2_int max_two min_two max_three min_three max_four min_four   -- for this text's walks alone
set_option linter.unusedVariables false
set_option linter.unusedSimpArgs false
def bursarref04_Path.f (k : Nat) (a0 : ByteArray) : Option (Int) := (bursarref04_Split.f k a0).bind fun bt163 => (some bt163.2)
theorem bursarref04_Path.mono : ∀ a0 k, LeO (bursarref04_Path.f k a0) (bursarref04_Path.f (k + 1) a0) := by
 intro a0 k
 unfold bursarref04_Path.f
 repeat' first
  |(with_reducible exact bursarref04_Split.mono _ _)
  |(with_reducible exact LeO.refl _)
  |(with_reducible exact LeO.none _)
  |(with_reducible refine LeO.ite ?_ ?_)
  |(with_reducible refine LeO.bind ?_ (fun _ => ?_))
  |exact bursarref04_Split.mono _ _
  |exact LeO.none _
  |refine LeO.ite ?_ ?_
  |refine LeO.bind ?_ (fun _ => ?_)
end Go.Proofs.YtniolbolfclhkaaDoor.Q
namespace Go.Proofs.YtniolbolfclhkaaDoor.Q
open Go.RowKit Go.Proofs.YtniolbolfclhkaaDoorW.PrintWords Go.Proofs.YtniolbolfclhkaaDoorW.PrintLast Go.Proofs.YtniolbolfclhkaaDoorW.PrintMore
attribute [local go_sem] max2_int min2_int max_two min_two max_three min_three max_four min_four   -- for this text's walks alone
set_option linter.unusedVariables false
set_option linter.unusedSimpArgs false
def bursarref13_Key.j0 : Nat → Int → ByteArray → ByteArray → Bool → Option (ByteArray × Int)
|0,_,_,_,_ => none
|k + 1,x0,x1,x2,x14 => if x14 = true then (some ((⟨#[]⟩ : ByteArray),1)) else ((bursarref04_Path.f k x1).bind fun t182 => (if t182 = 0 then (if x0 = 0 then (if x2.toList = ([] : List UInt8) then (if 0 ≤ x0 then (if x0 ≤ (wrap64 (x0 + 1)) then (if (wrap64 (x0 + 1)) ≤ 5 then ((bursarref05_Make.f k (([(⟨#[110,113,108,111,98]⟩ : ByteArray).extract (x0 : Int).toNat ((wrap64 (x0 + 1)) : Int).toNat,x1,x2] : List ByteArray))).bind fun bt186 => (some (bt186.1,bt186.2))) else (none)) else (none)) else (none)) else (some ((⟨#[]⟩ : ByteArray),40))) else ((bursarref04_Name.f k x2).bind fun t188 => (if t188 = true then (if 0 ≤ x0 then (if x0 ≤ (wrap64 (x0 + 1)) then (if (wrap64 (x0 + 1)) ≤ 5 then ((bursarref05_Make.f k (([(⟨#[110,113,108,111,98]⟩ : ByteArray).extract (x0 : Int).toNat ((wrap64 (x0 + 1)) : Int).toNat,x1,x2] : List ByteArray))).bind fun bt192 => (some (bt192.1,bt192.2))) else (none)) else (none)) else (none)) else (some ((⟨#[]⟩ : ByteArray),40))))) else (some ((⟨#[]⟩ : ByteArray),41))))
def bursarref13_Key.f (k : Nat) (a0 : Int) (a1 : ByteArray) (a2 : ByteArray) : Option (ByteArray × Int) := if a0 < 0 then (bursarref13_Key.j0 k a0 a1 a2 true) else (bursarref13_Key.j0 k a0 a1 a2 (decide (a0 > 4)))
theorem bursarref13_Key.mono_l : ∀ k, (∀ y0 y1 y2 y3, LeO (bursarref13_Key.j0 k y0 y1 y2 y3) (bursarref13_Key.j0 (k + 1) y0 y1 y2 y3))
|0 => fun _ _ _ _ r h => by simp [bursarref13_Key.j0] at h
|k + 1 => by
  have ih0:=bursarref13_Key.mono_l k
  ·intro y0 y1 y2 y3
   unfold bursarref13_Key.j0
   repeat' first
  |(with_reducible exact ih0 _ _ _ _)
  |(with_reducible exact bursarref04_Name.mono _ _)
  |(with_reducible exact bursarref04_Path.mono _ _)
  |(with_reducible exact bursarref05_Make.mono _ _)
  |(with_reducible exact LeO.refl _)
  |(with_reducible exact LeO.none _)
  |(with_reducible refine LeO.ite ?_ ?_)
  |(with_reducible refine LeO.bind ?_ (fun _ => ?_))
  |exact ih0 _ _ _ _
  |exact bursarref04_Name.mono _ _
  |exact bursarref04_Path.mono _ _
  |exact bursarref05_Make.mono _ _
  |exact LeO.none _
  |refine LeO.ite ?_ ?_
  |refine LeO.bind ?_ (fun _ => ?_)
theorem bursarref13_Key.mono : ∀ a0 a1 a2 k, LeO (bursarref13_Key.f k a0 a1 a2) (bursarref13_Key.f (k + 1) a0 a1 a2) := by
 intro a0 a1 a2 k
 have ih0:=bursarref13_Key.mono_l k
 unfold bursarref13_Key.f
 repeat' first
  |(with_reducible exact ih0 _ _ _ _)
  |(with_reducible exact bursarref04_Name.mono _ _)
  |(with_reducible exact bursarref04_Path.mono _ _)
  |(with_reducible exact bursarref05_Make.mono _ _)
  |(with_reducible exact LeO.refl _)
  |(with_reducible exact LeO.none _)
  |(with_reducible refine LeO.ite ?_ ?_)
  |(with_reducible refine LeO.bind ?_ (fun _ => ?_))
  |exact ih0 _ _ _ _
  |exact bursarref04_Name.mono _ _
  |exact bursarref04_Path.mono _ _
  |exact bursarref05_Make.mono _ _
  |exact LeO.none _
  |refine LeO.ite ?_ ?_
  |refine LeO.bind ?_ (fun _ => ?_)
end Go.Proofs.YtniolbolfclhkaaDoor.Q
namespace Go.Proofs.YtniolbolfclhkaaDoor.Q
open Go.RowKit Go.Proofs.YtniolbolfclhkaaDoorW.PrintWords Go.Proofs.YtniolbolfclhkaaDoorW.PrintLast Go.Proofs.YtniolbolfclhkaaDoorW.PrintMore
attribute [local go_sem] max2_int min2_int max_two min_two max_three min_three max_four min_four   -- for this text's walks alone
set_option linter.unusedVariables false
set_option linter.unusedSimpArgs false
mutual
def bursarref13_Unkey.j0 : Nat → ByteArray → List ByteArray → Bool → Option (Int × ByteArray × ByteArray × Int)
|0,_,_,_ => none
|k + 1,x0,x6,x22 => if x22 = true then (some (0,(⟨#[]⟩ : ByteArray),(⟨#[]⟩ : ByteArray),2)) else (bursarref13_Unkey.l0 k x0 x6 0)
def bursarref13_Unkey.l0 : Nat → ByteArray → List ByteArray → Int → Option (Int × ByteArray × ByteArray × Int)
|0,_,_,_ => none
|k + 1,x0,x6,x8 => if x8 < 5 then (if 1 < (x6.length : Int) then (if 2 < (x6.length : Int) then ((bursarref13_Key.f k x8 (rdOf ByteArray.empty x6 1) (rdOf ByteArray.empty x6 2)).bind fun bt233 => (if bt233.2 = 0 then (if bt233.1.toList = x0.toList then (some (x8,rdOf ByteArray.empty x6 1,rdOf ByteArray.empty x6 2,0)) else (bursarref13_Unkey.l0 k x0 x6 (wrap64 (x8 + 1)))) else (bursarref13_Unkey.l0 k x0 x6 (wrap64 (x8 + 1))))) else (none)) else (none)) else (some (0,(⟨#[]⟩ : ByteArray),(⟨#[]⟩ : ByteArray),2))
end
def bursarref13_Unkey.f (k : Nat) (a0 : ByteArray) : Option (Int × ByteArray × ByteArray × Int) := (bursarref05_Split.f k a0).bind fun bt227 => (if bt227.2 = 0 then (bursarref13_Unkey.j0 k a0 bt227.1 ((bt227.1.length : Int) != 3)) else (bursarref13_Unkey.j0 k a0 bt227.1 true))
theorem bursarref13_Unkey.mono_l : ∀ k, (∀ y0 y1 y2, LeO (bursarref13_Unkey.j0 k y0 y1 y2) (bursarref13_Unkey.j0 (k + 1) y0 y1 y2)) ∧ (∀ y0 y1 y2, LeO (bursarref13_Unkey.l0 k y0 y1 y2) (bursarref13_Unkey.l0 (k + 1) y0 y1 y2))
|0 => ⟨fun _ _ _ r h => by simp [bursarref13_Unkey.j0] at h,fun _ _ _ r h => by simp [bursarref13_Unkey.l0] at h⟩
|k + 1 => by
  obtain ⟨ih0,ih1⟩:=bursarref13_Unkey.mono_l k
  refine ⟨?_,?_⟩
  ·intro y0 y1 y2
   unfold bursarref13_Unkey.j0
   repeat' first
  |(with_reducible exact ih0 _ _ _)
  |(with_reducible exact ih1 _ _ _)
  |(with_reducible exact bursarref05_Split.mono _ _)
  |(with_reducible exact bursarref13_Key.mono _ _ _ _)
  |(with_reducible exact LeO.refl _)
  |(with_reducible exact LeO.none _)
  |(with_reducible refine LeO.ite ?_ ?_)
  |(with_reducible refine LeO.bind ?_ (fun _ => ?_))
  |exact ih0 _ _ _
  |exact ih1 _ _ _
  |exact bursarref05_Split.mono _ _
  |exact bursarref13_Key.mono _ _ _ _
  |exact LeO.none _
  |refine LeO.ite ?_ ?_
  |refine LeO.bind ?_ (fun _ => ?_)
  ·intro y0 y1 y2
   unfold bursarref13_Unkey.l0
   repeat' first
  |(with_reducible exact ih0 _ _ _)
  |(with_reducible exact ih1 _ _ _)
  |(with_reducible exact bursarref05_Split.mono _ _)
  |(with_reducible exact bursarref13_Key.mono _ _ _ _)
  |(with_reducible exact LeO.refl _)
  |(with_reducible exact LeO.none _)
  |(with_reducible refine LeO.ite ?_ ?_)
  |(with_reducible refine LeO.bind ?_ (fun _ => ?_))
  |exact ih0 _ _ _
  |exact ih1 _ _ _
  |exact bursarref05_Split.mono _ _
  |exact bursarref13_Key.mono _ _ _ _
  |exact LeO.none _
  |refine LeO.ite ?_ ?_
  |refine LeO.bind ?_ (fun _ => ?_)
theorem bursarref13_Unkey.mono : ∀ a0 k, LeO (bursarref13_Unkey.f k a0) (bursarref13_Unkey.f (k + 1) a0) := by
 intro a0 k
 obtain ⟨ih0,ih1⟩:=bursarref13_Unkey.mono_l k
 unfold bursarref13_Unkey.f
 repeat' first
  |(with_reducible exact ih0 _ _ _)
  |(with_reducible exact ih1 _ _ _)
  |(with_reducible exact bursarref05_Split.mono _ _)
  |(with_reducible exact bursarref13_Key.mono _ _ _ _)
  |(with_reducible exact LeO.refl _)
  |(with_reducible exact LeO.none _)
  |(with_reducible refine LeO.ite ?_ ?_)
  |(with_reducible refine LeO.bind ?_ (fun _ => ?_))
  |exact ih0 _ _ _
  |exact ih1 _ _ _
  |exact bursarref05_Split.mono _ _
  |exact bursarref13_Key.mono _ _ _ _
  |exact LeO.none _
  |refine LeO.ite ?_ ?_
  |refine LeO.bind ?_ (fun _ => ?_)
def bursarref13_Unkey.B9 : List Nat := [0, 0, 2, 6, 0, 16, 48, 1, 143, 511, 1023]
end Go.Proofs.YtniolbolfclhkaaDoor.Q
namespace Go.Proofs.YtniolbolfclhkaaDoor.Q
end Go.Proofs.YtniolbolfclhkaaDoor.Q
namespace Go.Proofs.YtniolbolfclhkaaDoor.Q
open Go.RowKit Go.Proofs.YtniolbolfclhkaaDoorW.PrintWords Go.Proofs.YtniolbolfclhkaaDoorW.PrintLast Go.Proofs.YtniolbolfclhkaaDoorW.PrintMore Go.Proofs.YtniolbolfclhkaaDoor.Pl
set_option linter.unusedVariables false
set_option linter.unusedSimpArgs false
def toNums (l : List UInt8) : List Int := l.map fun b => (b.toNat : Int)
theorem toNums_len (l : List UInt8) : (toNums l).length = l.length := by unfold toNums; rw [List.length_map]
theorem toNums_app (l : List UInt8) (c : UInt8) : toNums (l ++ [c]) = toNums l ++ [(c.toNat : Int)] := by unfold toNums; simp
theorem str_nums (l : List UInt8) : strOfNums (toNums l) = toB l := str_bytes (toB l)
theorem listB_toB (l : List UInt8) : listB (toB l) = l := by unfold listB toB; simp
def goodN (s : ByteArray) (ps : List (List UInt8)) : Bool := decide (1 ≤ ps.length ∧ ps.length ≤ 8 ∧ s.size ≤ 120)
def finS (s : ByteArray) (r : Option (List (List UInt8))) : List ByteArray × Int := match r with
  | none => ([], 2)
  | some ps => if goodN s ps = true then (ps.map toB, 0) else ([], 2)
theorem bt_eq (s : ByteArray) (i : Nat) (h : i < s.size) (c : UInt8) : bt s (i : Int) = (c.toNat : Int) ↔ s[i]'h = c := by
  rw [← bt_get s i h]
  constructor
  · intro e
    exact UInt8.toNat_inj.1 (by omega)
  · intro e; rw [e]
theorem bt_1 (s : ByteArray) (i : Nat) (h : i < s.size) : bt s (i : Int) = 1 ↔ s[i]'h = 1 := bt_eq s i h 1
theorem bt_255 (s : ByteArray) (i : Nat) (h : i < s.size) : bt s (i : Int) = 255 ↔ s[i]'h = 255 := bt_eq s i h 255
theorem bt_0 (s : ByteArray) (i : Nat) (h : i < s.size) : bt s (i : Int) = 0 ↔ s[i]'h = 0 := bt_eq s i h 0
theorem sloop (s : ByteArray) (hs : s.size ≤ 1048576) (d : Nat) : ∀ (i : Nat) (acc : List (List UInt8)) (cur : List UInt8), i + d = s.size → acc.length ≤ i → cur.length ≤ i →
    Ev (fun k => key_Split.l0 k s (acc.map toB) (toNums cur) (i : Int)) (finS s (cutK (s.data.toList.drop i) cur acc)) := by
  induction d using Nat.strongRecOn with
  | _ d ih =>
  intro i acc cur hi ha hc
  match d, ih, hi with
  | 0, ih, hi =>
    rw [List.drop_of_length_le (by rw [size_list]; omega)]
    have e : finS s (cutK [] cur acc) = (if 0 < cur.length then ([], 2) else if acc.length = 0 then ([], 2) else if 8 < acc.length then ([], 2) else if 120 < s.size then ([], 2) else (acc.map toB, 0)) := by
      unfold cutK
      by_cases h1 : cur = []
      · subst h1
        rw [if_pos rfl, if_neg (by simp)]
        unfold finS goodN
        simp only [decide_eq_true_eq]
        repeat' split
        all_goals first | rfl | (exfalso; omega)
      · rw [if_neg h1, if_pos (List.length_pos_iff.2 h1)]
        rfl
    refine Ev.step (f := fun _ => some (finS s (cutK [] cur acc))) (fun k => ?_) (Ev.now _)
    rw [e]
    simp only [key_Split.l0]
    rw [if_neg (by omega), toNums_len, List.length_map]
    repeat' split
    all_goals first | rfl | (exfalso; omega)
  | d + 1, ih, hi =>
    have hlt : i < s.size := by omega
    rw [drop_cons s i hlt]
    by_cases h0 : s[i]'hlt = 0
    · have hb := (bt_0 s i hlt).2 h0
      rw [h0]
      unfold cutK
      rw [if_neg (by simp)]
      by_cases h2 : i + 1 < s.size
      · rw [drop_cons s (i + 1) h2]
        simp only
        have q255 := bt_255 s (i + 1) h2
        have q1 := bt_1 s (i + 1) h2
        by_cases h255 : s[i + 1]'h2 = 255
        · rw [if_pos h255]
          refine Ev.step (f := fun k => key_Split.j1 k s (acc.map toB) (toNums cur) ((i + 1 : Nat) : Int) true) (fun k => ?_) ?_
          · simp only [key_Split.l0]
            rw [if_pos (by omega), if_pos (by omega), if_pos hb, w64 i (by omega), if_pos (by omega), if_pos (by omega), q255.2 h255]
            rfl
          · refine Ev.step (fun k => ?_) (ih (d - 1) (by omega) (i + 2) acc (cur ++ [0]) (by omega) (by omega) (by simp; omega))
            simp only [key_Split.j1]
            rw [if_pos trivial, toNums_len, if_pos (by omega), w64 (i + 1) (by omega), toNums_app]
            rfl
        · rw [if_neg h255]
          have hj : ∀ k, key_Split.l0 (k + 1) s (acc.map toB) (toNums cur) (i : Int) = key_Split.j1 k s (acc.map toB) (toNums cur) ((i + 1 : Nat) : Int) false := fun k => by
            simp only [key_Split.l0]
            rw [if_pos (by omega), if_pos (by omega), if_pos hb, w64 i (by omega), if_pos (by omega), if_pos (by omega), beq_eq_false_iff_ne.2 (fun e => h255 (q255.1 e))]
          refine Ev.step hj ?_
          by_cases h1 : s[i + 1]'h2 = 1
          · rw [if_pos h1]
            refine Ev.step (fun k => ?_) (ih (d - 1) (by omega) (i + 2) (acc ++ [cur]) [] (by omega) (by simp; omega) (by simp))
            simp only [key_Split.j1]
            rw [if_neg (by decide), if_pos (by omega), if_pos (by omega), if_pos (q1.2 h1), List.length_map, if_pos (by omega), str_nums, w64 (i + 1) (by omega), List.map_append]
            rfl
          · rw [if_neg h1]
            refine Ev.step (f := fun _ => some ([], 2)) (fun k => ?_) (Ev.now _)
            simp only [key_Split.j1]
            rw [if_neg (by decide), if_pos (by omega), if_pos (by omega), if_neg (fun e => h1 (q1.1 e))]
      · rw [List.drop_of_length_le (by rw [size_list]; omega)]
        refine Ev.step (f := fun k => key_Split.j1 k s (acc.map toB) (toNums cur) ((i + 1 : Nat) : Int) false) (fun k => ?_) ?_
        · simp only [key_Split.l0]
          rw [if_pos (by omega), if_pos (by omega), if_pos hb, w64 i (by omega), if_neg (by omega)]
        · refine Ev.step (f := fun _ => some ([], 2)) (fun k => ?_) (Ev.now _)
          simp only [key_Split.j1]
          rw [if_neg (by decide), if_neg (by omega)]
    · have hb : ¬ bt s (i : Int) = 0 := fun e => h0 ((bt_0 s i hlt).1 e)
      unfold cutK
      rw [if_pos h0]
      refine Ev.step (fun k => ?_) (ih d (by omega) (i + 1) acc (cur ++ [s[i]'hlt]) (by omega) (by omega) (by simp; omega))
      simp only [key_Split.l0]
      rw [if_pos (by omega), if_pos (by omega), if_neg hb, toNums_len, if_pos (by omega), w64 i (by omega), toNums_app, bt_get s i hlt]
theorem split_f (s : ByteArray) (hs : s.size ≤ 1048576) : Ev (fun k => key_Split.f k s) (finS s (cutK (listB s) [] [])) :=
  sloop s hs s.size 0 [] [] (by omega) (by simp) (by simp)
theorem toB_sizeB (l : List UInt8) : (toB l).size = l.length := by
  show l.toArray.size = _
  simp
theorem toB_listB (s : ByteArray) : toB (listB s) = s := ba_ext (by unfold toB listB; simp)
def cutS (s : ByteArray) : List ByteArray × Int := finS s (cutK (listB s) [] [])
theorem keySplit_ev (s : ByteArray) (hs : s.size ≤ 1048576) : Ev (fun k => key_Split.f k s) (cutS s) := split_f s hs
end Go.Proofs.YtniolbolfclhkaaDoor.Q
namespace Go.Proofs.YtniolbolfclhkaaDoor.Q
open Go.RowKit Go.Proofs.YtniolbolfclhkaaDoorW.PrintWords Go.Proofs.YtniolbolfclhkaaDoorW.PrintLast Go.Proofs.YtniolbolfclhkaaDoorW.PrintMore Go.Proofs.YtniolbolfclhkaaDoor.Pl
set_option linter.unusedVariables false
set_option linter.unusedSimpArgs false
theorem letter_ext {k : Nat} (hk : k ≤ 4) : (⟨#[110, 113, 108, 111, 98]⟩ : ByteArray).extract (k : Int).toNat ((wrap64 ((k : Int) + 1)) : Int).toNat = letB k := by
  rw [w64 k (by omega), Int.toNat_natCast, Int.toNat_natCast]
  rfl
theorem key_good {kind : Int} {p n : ByteArray} (h : okKey kind p n = true) : keyS kind p n = toB (keyL kind.toNat p n) ∧ keyE kind p n = 0 := by
  unfold keyS keyE
  rw [if_pos h, if_pos h]
  exact ⟨rfl, rfl⟩
theorem key_bad {kind : Int} {p n : ByteArray} (h : ¬ okKey kind p n = true) : keyS kind p n = ⟨#[]⟩ ∧ keyE kind p n = (if 0 ≤ kind ∧ kind ≤ 4 then (if pathS p = 0 then 40 else 41) else 1) := by
  unfold keyS keyE
  rw [if_neg h, if_neg h]
  exact ⟨rfl, rfl⟩
def unkG (s p n : ByteArray) : Nat → Nat → Int × ByteArray × ByteArray × Int
  | 0, _ => (0, ⟨#[]⟩, ⟨#[]⟩, 2)
  | d + 1, i => if keyE (i : Int) p n = 0 then (if keyS (i : Int) p n = s then ((i : Int), p, n, 0) else unkG s p n d (i + 1)) else unkG s p n d (i + 1)
def unkR (s : ByteArray) : Int × ByteArray × ByteArray × Int :=
  if (cutS s).2 = 0 ∧ (cutS s).1.length = 3 then unkG s (rdOf ByteArray.empty (cutS s).1 1) (rdOf ByteArray.empty (cutS s).1 2) 5 0 else (0, ⟨#[]⟩, ⟨#[]⟩, 2)
theorem uloop (s : ByteArray) (ps : List ByteArray) (h3 : ps.length = 3) (d : Nat) : ∀ i : Nat, i + d = 5 → Ev (fun k => object_Unkey.l0 k s ps (i : Int)) (unkG s (rdOf ByteArray.empty ps 1) (rdOf ByteArray.empty ps 2) d i) := by
  induction d with
  | zero =>
    intro i hi
    refine Ev.step (f := fun _ => some (0, ⟨#[]⟩, ⟨#[]⟩, 2)) (fun k => ?_) (Ev.now _)
    simp only [object_Unkey.l0]
    rw [if_neg (by omega)]
  | succ d ih =>
    intro i hi
    have hn := ih (i + 1) (by omega)
    rw [unkG]
    have hx := ba_iff (keyS (i : Int) (rdOf ByteArray.empty ps 1) (rdOf ByteArray.empty ps 2)) s
    have hst : ∀ k, object_Unkey.l0 (k + 1) s ps (i : Int) = (if keyE (i : Int) (rdOf ByteArray.empty ps 1) (rdOf ByteArray.empty ps 2) = 0 then (if (keyS (i : Int) (rdOf ByteArray.empty ps 1) (rdOf ByteArray.empty ps 2)).toList = s.toList then (some ((i : Int), rdOf ByteArray.empty ps 1, rdOf ByteArray.empty ps 2, 0)) else object_Unkey.l0 k s ps ((i + 1 : Nat) : Int)) else object_Unkey.l0 k s ps ((i + 1 : Nat) : Int)) := fun k => by
      simp only [object_Unkey.l0]
      rw [if_pos (by omega), if_pos (by omega), if_pos (by omega), w64 i (by omega)]
      rfl
    by_cases h1 : keyE (i : Int) (rdOf ByteArray.empty ps 1) (rdOf ByteArray.empty ps 2) = 0
    · rw [if_pos h1]
      by_cases h2 : keyS (i : Int) (rdOf ByteArray.empty ps 1) (rdOf ByteArray.empty ps 2) = s
      · rw [if_pos h2]
        exact Ev.step (f := fun _ => some _) (fun k => by rw [hst, if_pos h1, if_pos (hx.2 h2)]) (Ev.now _)
      · rw [if_neg h2]
        exact Ev.step (fun k => by rw [hst, if_pos h1, if_neg (fun e => h2 (hx.1 e))]) hn
    · rw [if_neg h1]
      exact Ev.step (fun k => by rw [hst, if_neg h1]) hn
theorem unkey_ev (s : ByteArray) (hs : s.size ≤ 1048576) : Ev (fun k => object_Unkey.f k s) (unkR s) := by
  have hbad : ∀ ps, Ev (fun k => object_Unkey.j0 k s ps true) (0, ⟨#[]⟩, ⟨#[]⟩, 2) := fun ps => Ev.step (f := fun _ => some _) (fun k => by simp only [object_Unkey.j0]; rw [if_pos trivial]) (Ev.now _)
  refine Ev.bind (f := fun k b => if b.2 = 0 then object_Unkey.j0 k s b.1 ((b.1.length : Int) != 3) else object_Unkey.j0 k s b.1 true) (keySplit_ev s hs) ?_
  unfold unkR
  generalize cutS s = r
  by_cases h0 : r.2 = 0
  · by_cases h3 : r.1.length = 3
    · rw [if_pos ⟨h0, h3⟩]
      refine Ev.congr (f := fun k => object_Unkey.j0 k s r.1 false) (fun k => ?_) ?_
      · rw [if_pos h0, bne_eq_false_iff_eq.2 (by omega)]
      · refine Ev.step (fun k => ?_) (uloop s r.1 h3 5 0 rfl)
        simp only [object_Unkey.j0]
        rw [if_neg (by decide)]
        rfl
    · rw [if_neg (fun e => h3 e.2)]
      refine Ev.congr (fun k => ?_) (hbad r.1)
      rw [if_pos h0, bne_iff_ne.2 (by omega)]
  · rw [if_neg (fun e => h0 e.1)]
    exact Ev.congr (fun k => by rw [if_neg h0]) (hbad r.1)
end Go.Proofs.YtniolbolfclhkaaDoor.Q
namespace Go.Proofs.YtniolbolfclhkaaDoor.Q
open Go.RowKit Go.Proofs.YtniolbolfclhkaaDoorW.PrintWords Go.Proofs.YtniolbolfclhkaaDoorW.PrintLast Go.Proofs.YtniolbolfclhkaaDoorW.PrintMore Go.Proofs.YtniolbolfclhkaaDoor.Pl
def smallB : ByteArray := ⟨#[79, 1, 2, 47, 97, 1, 120, 0, 3, 0, 1, 4, 109, 97, 105, 110, 1, 3, 99, 112, 117, 244, 3, 0, 7]⟩
def smallA : List Amt := [⟨⟨#[99, 112, 117]⟩, 500⟩]
def smallPs : List Prt := [⟨⟨#[109, 97, 105, 110]⟩, smallA, []⟩]
def pA : ByteArray := ⟨#[47, 97]⟩
def nX : ByteArray := ⟨#[120]⟩
theorem small_form : formB pA nX [] 3 0 smallPs 7 = true := by decide +kernel
theorem numL_500 : numL 500 = [244, 3] := by rw [numL_ge (by decide), numL_lt (by decide)]; rfl
theorem small_out : encO pA nX [] 3 0 smallPs 7 = bytesOf smallB := by
  have h0 : numL 0 = [0] := numL_lt (by decide)
  have h1 : numL 1 = [1] := numL_lt (by decide)
  have h2 : numL 2 = [2] := numL_lt (by decide)
  have h3 : numL 3 = [3] := numL_lt (by decide)
  have h4 : numL 4 = [4] := numL_lt (by decide)
  have h7 : numL 7 = [7] := numL_lt (by decide)
  have hA : encAmts smallA = [1, 3, 99, 112, 117, 244, 3] := by
    show numL 1 ++ ((numL 3 ++ bytesOf ⟨#[99, 112, 117]⟩ ++ numL 500) ++ []) = _
    rw [h1, h3, numL_500]
    rfl
  have hP : encParts smallPs = [1, 4, 109, 97, 105, 110, 1, 3, 99, 112, 117, 244, 3, 0] := by
    show numL 1 ++ (((numL 4 ++ bytesOf ⟨#[109, 97, 105, 110]⟩) ++ (encAmts smallA ++ (numL 0 ++ []))) ++ []) = _
    rw [h1, h4, hA, h0]
    rfl
  show ([79] ++ [1] ++ (numL 2 ++ bytesOf pA) ++ (numL 1 ++ bytesOf nX)) ++ (numL 0 ++ []) ++ [3] ++ numL 0 ++ encParts smallPs ++ numL 7 = _
  rw [h0, h1, h2, h7, hP]
  rfl
theorem small_small : SmallP smallPs := by
  intro q hq
  obtain rfl := List.mem_singleton.1 hq
  refine ⟨fun a ha => ?_, fun a ha => absurd ha (by simp)⟩
  obtain rfl := List.mem_singleton.1 ha
  decide
theorem small_enc : encR pA nX [] 3 0 smallPs 7 = (smallB, 0) := by
  unfold encR
  rw [if_pos small_form, small_out]
  unfold encS encE
  rw [if_pos (by decide), if_pos (by decide), str_bytes]
theorem small_st : st0 smallB = some (textL pA ++ textL nX ++ encLabs [] ++ [3] ++ numL (0 : Int).toNat ++ encParts smallPs ++ numL (7 : Int).toNat) := by
  have h := small_out
  unfold encO headL at h
  have e : bytesOf smallB = 79 :: 1 :: (textL pA ++ textL nX ++ encLabs [] ++ [3] ++ numL (0 : Int).toNat ++ encParts smallPs ++ numL (7 : Int).toNat) := by
    rw [← h]
    rfl
  unfold st0
  rw [e]
  rfl
theorem small_dec : decO (st0 smallB) = (⟨pA, nX, [], 3, 0, smallPs, 7⟩, some []) := by
  rw [small_st]
  exact dec_enc (p := pA) (n := nX) (ls := []) (pr := 3) (d := 0) (ps := smallPs) (v := 7) (ob_fit small_form) small_small
theorem small_letter : letterOf smallB = 79 := by
  have e : bytesOf smallB = 79 :: 1 :: (bytesOf smallB).drop 2 := rfl
  unfold letterOf
  rw [e]
  generalize (bytesOf smallB).drop 2 = r
  rfl
theorem small_good : goodD smallB = true := by
  unfold goodD
  rw [small_dec]
  simp only [small_letter, small_enc, decide_true, Bool.and_self]
theorem fixed_f : bursarlaw13_fixed.f = some true := by
  have e1 : bursarlaw13_small.f = some (pA, nX, [], 3, 0, smallPs, 7) := rfl
  have e2 : object_EncodeObject.f pA nX [] 3 0 smallPs 7 = some (smallB, 0) := by
    unfold object_EncodeObject.f
    rw [if_pos small_small, small_enc]
  have e3 : object_DecodeObject.f smallB = some (pA, nX, [], 3, 0, smallPs, 7, 0) := by
    unfold object_DecodeObject.f decR decE
    rw [if_pos (by decide), if_pos small_good, if_pos small_good, small_dec]
  have e4 : object_Key.f 3 pA nX = some (⟨#[111, 0, 1, 47, 97, 0, 1, 120, 0, 1]⟩, 0) := by
    have ho : okKey 3 pA nX = true := by decide +kernel
    unfold object_Key.f keyS keyE
    rw [if_pos ho, if_pos ho]
    decide +kernel
  have hb : (⟨#[79, 1, 2, 47, 97, 1, 120, 0, 3, 0, 1, 4, 109, 97, 105, 110, 1, 3, 99, 112, 117, 244, 3, 0, 7]⟩ : ByteArray) = smallB := rfl
  have hp : (⟨#[47, 97]⟩ : ByteArray) = pA := rfl
  have hx : (⟨#[120]⟩ : ByteArray) = nX := rfl
  have e5 : bursarlaw13_sameObject.f pA nX [] 3 0 smallPs 7 pA nX [] 3 0 smallPs 7 = some true := congrArg some (decide_eq_true ⟨rfl, rfl, rfl, rfl, rfl, rfl, rfl⟩)
  have e6 : smallB.toList = ([79, 1, 2, 47, 97, 1, 120, 0, 3, 0, 1, 4, 109, 97, 105, 110, 1, 3, 99, 112, 117, 244, 3, 0, 7] : List UInt8) := lit_list.2 rfl
  have e7 : ((⟨#[111, 0, 1, 47, 97, 0, 1, 120, 0, 1]⟩ : ByteArray).toList == ([111, 0, 1, 47, 97, 0, 1, 120, 0, 1] : List UInt8)) = true := beq_iff_eq.2 (lit_list.2 rfl)
  unfold bursarlaw13_fixed.f
  rw [hb, hp, hx, e1]
  generalize smallB = s at *
  generalize pA = p at *
  generalize nX = n at *
  generalize smallPs = ps at *
  simp only [Option.bind_some, e2, e3, e4, e5, e6, if_true, e7]
end Go.Proofs.YtniolbolfclhkaaDoor.Q
namespace Go.Proofs.YtniolbolfclhkaaDoor.Q
open Go.RowKit Go.Proofs.YtniolbolfclhkaaDoorW.PrintWords Go.Proofs.YtniolbolfclhkaaDoorW.PrintLast Go.Proofs.YtniolbolfclhkaaDoorW.PrintMore Go.Proofs.YtniolbolfclhkaaDoor.Pl
set_option linter.unusedVariables false
set_option linter.unusedSimpArgs false
theorem toB_injB {a b : List UInt8} (h : toB a = toB b) : a = b := by
  have := congrArg listB h
  rwa [listB_toB, listB_toB] at this
theorem listB_inj {a b : ByteArray} (h : listB a = listB b) : a = b := by
  rw [← toB_listB a, ← toB_listB b, h]
theorem letB_inj {j k : Nat} (hj : j ≤ 4) (hk : k ≤ 4) (h : letB j = letB k) : j = k := by
  revert h
  rcases (show j = 0 ∨ j = 1 ∨ j = 2 ∨ j = 3 ∨ j = 4 by omega) with rfl | rfl | rfl | rfl | rfl <;>
  rcases (show k = 0 ∨ k = 1 ∨ k = 2 ∨ k = 3 ∨ k = 4 by omega) with rfl | rfl | rfl | rfl | rfl <;>
  first | (intro _; rfl) | (intro h; exact absurd h (by decide +kernel))
theorem keyE_zero {kind : Int} {p n : ByteArray} : keyE kind p n = 0 ↔ okKey kind p n = true := by
  constructor
  · intro h
    cases ho : okKey kind p n with
    | true => rfl
    | false =>
      rw [(key_bad (by rw [ho]; decide)).2] at h
      revert h
      repeat' split
      all_goals (intro h; exact absurd h (by decide))
  · intro h; exact (key_good h).2
theorem keyS_bad {kind : Int} {p n : ByteArray} (h : ¬ keyE kind p n = 0) : keyS kind p n = ⟨#[]⟩ := (key_bad (fun e => h (keyE_zero.2 e))).1
theorem okKey_nat {kind : Int} {p n : ByteArray} (h : okKey kind p n = true) : ∃ m : Nat, kind = (m : Int) ∧ m ≤ 4 := by
  obtain ⟨⟨h0, h4⟩, _⟩ := okKey_parts h
  obtain ⟨m, rfl⟩ := Int.eq_ofNat_of_zero_le h0
  exact ⟨m, rfl, by omega⟩
theorem keyS_inj {k j : Nat} {p n p2 n2 : ByteArray} (h : okKey (k : Int) p n = true) (h2 : okKey (j : Int) p2 n2 = true) (e : keyS (k : Int) p n = keyS (j : Int) p2 n2) : k = j ∧ p = p2 ∧ n = n2 := by
  have hk := (okKey_parts h).1
  have hj := (okKey_parts h2).1
  rw [(key_good h).1, (key_good h2).1, Int.toNat_natCast, Int.toNat_natCast] at e
  have e2 := makeK_inj (toB_injB e)
  simp only [List.map_cons, List.map_nil, List.cons.injEq, and_true] at e2
  exact ⟨letB_inj (by omega) (by omega) (listB_inj e2.1), listB_inj e2.2.1, listB_inj e2.2.2⟩
theorem cutS_key {k : Nat} {p n : ByteArray} (h : okKey (k : Int) p n = true) : cutS (keyS (k : Int) p n) = ([letB k, p, n], 0) := by
  obtain ⟨hk, q2, q3, q4⟩ := okKey_parts h
  have hlen := keyL_len (kind := k) (by omega) q2 q3 q4
  rw [(key_good h).1, Int.toNat_natCast]
  unfold cutS
  rw [listB_toB, show keyL k p n = makeK [listB (letB k), listB p, listB n] from rfl, (cutK_iff _ _).2 rfl]
  unfold finS
  simp only
  rw [if_pos (by unfold goodN; refine decide_eq_true ⟨by simp, by simp, ?_⟩; rw [toB_sizeB]; exact Nat.le_trans hlen (by decide))]
  simp only [List.map_cons, List.map_nil, toB_listB]
theorem unkG_cases (s p n : ByteArray) : ∀ d i : Nat, unkG s p n d i = (0, ⟨#[]⟩, ⟨#[]⟩, 2) ∧ (∀ j : Nat, i ≤ j → j < i + d → ¬ (keyE (j : Int) p n = 0 ∧ keyS (j : Int) p n = s)) ∨ ∃ j : Nat, unkG s p n d i = ((j : Int), p, n, 0) ∧ keyE (j : Int) p n = 0 ∧ keyS (j : Int) p n = s := by
  intro d
  induction d with
  | zero => intro i; exact .inl ⟨rfl, fun j h1 h2 => by omega⟩
  | succ d ih =>
    intro i
    rw [unkG]
    by_cases h : keyE (i : Int) p n = 0 ∧ keyS (i : Int) p n = s
    · rw [if_pos h.1, if_pos h.2]
      exact .inr ⟨i, rfl, h.1, h.2⟩
    · have e : (if keyE (i : Int) p n = 0 then (if keyS (i : Int) p n = s then ((i : Int), p, n, (0 : Int)) else unkG s p n d (i + 1)) else unkG s p n d (i + 1)) = unkG s p n d (i + 1) := by
        by_cases h1 : keyE (i : Int) p n = 0
        · rw [if_pos h1, if_neg (fun e => h ⟨h1, e⟩)]
        · rw [if_neg h1]
      rw [e]
      rcases ih (i + 1) with ⟨h1, h2⟩ | h1
      · refine .inl ⟨h1, fun j ha hb => ?_⟩
        by_cases hj : j = i
        · rw [hj]; exact h
        · exact h2 j (by omega) (by omega)
      · exact .inr h1
theorem unkR_key {k : Nat} {p n : ByteArray} (h : okKey (k : Int) p n = true) : unkR (keyS (k : Int) p n) = ((k : Int), p, n, 0) := by
  have hk := (okKey_parts h).1
  unfold unkR
  rw [cutS_key h, if_pos ⟨rfl, rfl⟩]
  show unkG (keyS (k : Int) p n) p n 5 0 = _
  rcases unkG_cases (keyS (k : Int) p n) p n 5 0 with ⟨_, h2⟩ | ⟨j, h1, h2, h3⟩
  · exact absurd ⟨keyE_zero.2 h, rfl⟩ (h2 k (by omega) (by omega))
  · obtain ⟨rfl, _⟩ := keyS_inj (keyE_zero.1 h2) h h3
    exact h1
theorem unkR_cases (s : ByteArray) : unkR s = (0, ⟨#[]⟩, ⟨#[]⟩, 2) ∨ ∃ (j : Nat) (p n : ByteArray), unkR s = ((j : Int), p, n, 0) ∧ keyE (j : Int) p n = 0 ∧ keyS (j : Int) p n = s := by
  unfold unkR
  split
  · rcases unkG_cases s (rdOf ByteArray.empty (cutS s).1 1) (rdOf ByteArray.empty (cutS s).1 2) 5 0 with ⟨h1, _⟩ | ⟨j, h1, h2, h3⟩
    · exact .inl h1
    · exact .inr ⟨j, _, _, h1, h2, h3⟩
  · exact .inl rfl
theorem range_f {ps : List ByteArray} (h1 : 1 ≤ ps.length) (h8 : ps.length ≤ 8) (hz : ∀ s ∈ ps, (0 : UInt8) ∉ listB s ∧ s.size ≤ 4096) (hl : (makeB ps).length ≤ 120) :
    ∃ X, makeK (ps.map listB) = X ++ [0, 1] ∧ key_Range.f ps = some (toB (X ++ [0, 1]), toB (X ++ [0, 2]), 0) := by
  obtain ⟨X, hX⟩ := makeK_ends (ps := ps.map listB) (by intro e; rw [List.map_eq_nil_iff] at e; rw [e] at h1; simp at h1)
  refine ⟨X, hX, ?_⟩
  have hm : key_Make.f ps = some (toB (X ++ [0, 1]), 0) := by
    unfold key_Make.f
    rw [if_neg (by omega), if_pos hz, if_pos hl]
    unfold makeB
    rw [hX]
    rfl
  have hsz : (toB (X ++ [0, 1])).size = X.length + 2 := by rw [toB_sizeB]; simp
  have hX2 : X.length + 2 ≤ 120 := by
    unfold makeB at hl
    rw [hX] at hl
    simpa using hl
  have hw : wrap64 (((toB (X ++ [0, 1])).size : Int) - 1) = ((X.length + 1 : Nat) : Int) := by rw [hsz]; unfold wrap64; omega
  have hcut : (toB (X ++ [0, 1])).extract 0 (X.length + 1) ++ (⟨#[2]⟩ : ByteArray) = toB (X ++ [0, 2]) := by
    apply ba_ext
    rw [ByteArray.data_append, Array.toList_append, ext_list]
    show ((X ++ [0, 1]).toArray.toList.take (X.length + 1)).drop 0 ++ [2] = (X ++ [0, 2]).toArray.toList
    simp [List.take_append, List.take_of_length_le (Nat.le_succ X.length)]
  unfold key_Range.f
  rw [hm]
  simp only [Option.bind_some]
  rw [if_pos trivial, hw, Int.toNat_natCast, if_pos (by omega), if_pos (by rw [hsz]; omega), if_pos (by rw [ByteArray.size_extract]; omega), hcut]
theorem bl_toB (a b : List UInt8) : Op.bytesLess (toB a).toList (toB b).toList = Op.bytesLess a b := by
  rw [ByteArray.toList_eq, ByteArray.toList_eq]
  unfold toB
  simp
theorem within_f {ps : List ByteArray} {qs : List (List UInt8)} (h1 : 1 ≤ ps.length) (h8 : ps.length ≤ 8) (hz : ∀ s ∈ ps, (0 : UInt8) ∉ listB s ∧ s.size ≤ 4096) (hl : (makeB ps).length ≤ 120) :
    ∃ b, bursarlaw13_within.f (toB (makeK qs)) ps = some b ∧ (b = true ↔ ps.map listB <+: qs) := by
  obtain ⟨X, hX, hr⟩ := range_f h1 h8 hz hl
  have hi := range_iff (qs := qs) hX
  rw [hX] at hi
  unfold bursarlaw13_within.f
  rw [hr]
  simp only [Option.bind_some]
  rw [if_pos trivial, bl_toB, bl_toB]
  cases ha : Op.bytesLess (makeK qs) (X ++ [0, 1]) with
  | true =>
    refine ⟨false, by rw [if_pos rfl], ⟨(fun e => by cases e), fun e => ?_⟩⟩
    have := (hi.2 e).1
    rw [ha] at this
    cases this
  | false =>
    refine ⟨Op.bytesLess (makeK qs) (X ++ [0, 2]), by rw [if_neg (by decide)], ⟨fun e => hi.1 ⟨ha, e⟩, fun e => (hi.2 e).2⟩⟩
theorem keyL_eq (k : Nat) (p n : ByteArray) : keyL k p n = makeK [listB (letB k), listB p, listB n] := rfl
theorem within_key {k j : Nat} {p n : ByteArray} (hk : okKey (k : Int) p n = true) {ps : List ByteArray} (h1 : 1 ≤ ps.length) (h8 : ps.length ≤ 8) (hz : ∀ s ∈ ps, (0 : UInt8) ∉ listB s ∧ s.size ≤ 4096) (hl : (makeB ps).length ≤ 120) :
    ∃ b, bursarlaw13_within.f (keyS (k : Int) p n) ps = some b ∧ (b = true ↔ ps.map listB <+: [listB (letB k), listB p, listB n]) := by
  rw [(key_good hk).1, Int.toNat_natCast, keyL_eq]
  exact within_f h1 h8 hz hl
theorem some_b {o : Option Bool} {p : Prop} [Decidable p] (h : ∃ b, o = some b ∧ (b = true ↔ p)) : o = some (decide p) := by
  obtain ⟨b, h1, h2⟩ := h
  rw [h1]
  congr 1
  cases b with
  | true => exact (decide_eq_true (h2.1 rfl)).symm
  | false => exact (decide_eq_false (fun e => by cases h2.2 e)).symm
theorem letB_ok {k : Nat} (hk : k ≤ 4) : (0 : UInt8) ∉ listB (letB k) ∧ (letB k).size ≤ 4096 := by
  obtain ⟨h1, h2⟩ := letB_zero hk
  rw [listB_len] at h2
  exact ⟨h1, by omega⟩
theorem make1_len {j : Nat} (hj : j ≤ 4) : (makeB [letB j]).length ≤ 120 := by
  obtain ⟨h1, h2⟩ := letB_zero hj
  unfold makeB
  simp only [List.map_cons, List.map_nil, makeK, esc_id h1, List.length_append, List.length_cons, List.length_nil]
  omega
theorem make2_len {j : Nat} {p : ByteArray} (hj : j ≤ 4) (hp : pathS p = 0) : (makeB [letB j, p]).length ≤ 120 := by
  obtain ⟨h1, h2⟩ := letB_zero hj
  have := pathS_size' hp
  unfold makeB
  simp only [List.map_cons, List.map_nil, makeK, esc_id h1, esc_id (pathS_zero hp), List.length_append, List.length_cons, List.length_nil, listB_len] at h2 ⊢
  omega
theorem in1 {k j : Nat} {p n p2 n2 : ByteArray} (hk : okKey (k : Int) p n = true) (hj : okKey (j : Int) p2 n2 = true) : bursarlaw13_within.f (keyS (k : Int) p n) [letB j] = some (decide (k = j)) := by
  obtain ⟨hj4, _⟩ := okKey_parts hj
  obtain ⟨hk4, _⟩ := okKey_parts hk
  have hl := letB_ok (k := j) (by omega)
  refine some_b ?_
  obtain ⟨b, h1, h2⟩ := within_key (j := j) hk (ps := [letB j]) (by simp) (by simp) (fun s hs => by obtain rfl := List.mem_singleton.1 hs; exact hl) (make1_len (by omega))
  refine ⟨b, h1, h2.trans ?_⟩
  simp only [List.map_cons, List.map_nil, List.cons_prefix_cons, List.nil_prefix, and_true]
  exact ⟨fun e => (letB_inj (by omega) (by omega) (listB_inj e)).symm, fun e => by rw [e]⟩
theorem in2 {k j : Nat} {p n p2 n2 : ByteArray} (hk : okKey (k : Int) p n = true) (hj : okKey (j : Int) p2 n2 = true) : bursarlaw13_within.f (keyS (k : Int) p n) [letB j, p2] = some (decide (k = j ∧ p = p2)) := by
  obtain ⟨hj4, hp2, _⟩ := okKey_parts hj
  obtain ⟨hk4, _⟩ := okKey_parts hk
  have hl := letB_ok (k := j) (by omega)
  have hs2 := pathS_size' hp2
  refine some_b ?_
  obtain ⟨b, h1, h2⟩ := within_key (j := j) hk (ps := [letB j, p2]) (by simp) (by simp) (fun s hs => by
    simp only [List.mem_cons, List.not_mem_nil, or_false] at hs
    rcases hs with rfl | rfl
    · exact hl
    · exact ⟨pathS_zero hp2, by omega⟩) (make2_len (by omega) hp2)
  refine ⟨b, h1, h2.trans ?_⟩
  simp only [List.map_cons, List.map_nil, List.cons_prefix_cons, List.nil_prefix, and_true]
  exact ⟨fun e => ⟨(letB_inj (by omega) (by omega) (listB_inj e.1)).symm, (listB_inj e.2).symm⟩, fun e => by rw [e.1, e.2]; exact ⟨rfl, rfl⟩⟩
theorem in3 {k : Nat} {p n : ByteArray} (hk : okKey (k : Int) p n = true) : bursarlaw13_within.f (keyS (k : Int) p n) [letB k, p, n] = some true := by
  obtain ⟨hk4, q2, q3, q4⟩ := okKey_parts hk
  have hl := letB_ok (k := k) (by omega)
  have hs2 := pathS_size' q2
  have hlen := keyL_len (kind := k) (by omega) q2 q3 q4
  obtain ⟨b, h1, h2⟩ := within_key (j := k) hk (ps := [letB k, p, n]) (by simp) (by simp) (fun s hs => by
    simp only [List.mem_cons, List.not_mem_nil, or_false] at hs
    rcases hs with rfl | rfl | rfl
    · exact hl
    · exact ⟨pathS_zero q2, by omega⟩
    · exact ⟨q3, by omega⟩) (by unfold keyL at hlen; omega)
  rw [h1, h2.2 (List.prefix_refl _)]
end Go.Proofs.YtniolbolfclhkaaDoor.Q
namespace Go.Proofs.YtniolbolfclhkaaDoor.Q
open Go.RowKit Go.Proofs.YtniolbolfclhkaaDoorW.PrintWords Go.Proofs.YtniolbolfclhkaaDoorW.PrintLast Go.Proofs.YtniolbolfclhkaaDoorW.PrintMore Go.Proofs.YtniolbolfclhkaaDoor.Pl
set_option linter.unusedVariables false
set_option linter.unusedSimpArgs false
abbrev letW : ByteArray := ⟨#[110, 113, 108, 111, 98]⟩
theorem letW_size : (letW.size : Int) = 5 := rfl
theorem letW_ext {k : Nat} (hk : k ≤ 4) : letW.extract (k : Int).toNat ((wrap64 ((k : Int) + 1)) : Int).toNat = letB k := letter_ext hk
theorem wlet {k : Nat} (hk : k ≤ 4) : (k : Int) ≤ wrap64 ((k : Int) + 1) ∧ wrap64 ((k : Int) + 1) ≤ 5 := by
  rw [w64 k (by omega)]; omega
theorem p4 (t : ByteArray) (ht : t.size ≤ 1048576) : Ev (fun k => bursarlaw13_ObjectPlaces.j4 k t) true := by
  refine Ev.step (f := fun k => (object_Unkey.f k t).bind fun b => (if b.2.2.2 = 0 then ((object_Key.f b.1 b.2.1 b.2.2.1).bind fun c => (if c.2 = 0 then (some (c.1.toList == t.toList)) else (none))) else (if b.2.2.2 = 2 then (if b.1 = 0 then (if b.2.1.toList = ([] : List UInt8) then (some (b.2.2.1.toList == ([] : List UInt8))) else (none)) else (none)) else (none)))) (fun k => by simp only [bursarlaw13_ObjectPlaces.j4]) ?_
  refine Ev.bind (unkey_ev t ht) ?_
  rcases unkR_cases t with h | ⟨j, p, n, h, h2, h3⟩
  · rw [h]
    refine Ev.congr (f := fun _ => some true) (fun k => ?_) (Ev.now _)
    have e : (⟨#[]⟩ : ByteArray).toList = ([] : List UInt8) := lit_list.2 rfl
    simp only
    rw [if_neg (by decide), if_pos trivial, if_pos trivial, e, if_pos rfl]
    rfl
  · rw [h]
    refine Ev.congr (f := fun _ => some true) (fun k => ?_) (Ev.now _)
    simp only
    rw [if_pos trivial, show object_Key.f (j : Int) p n = some (keyS (j : Int) p n, keyE (j : Int) p n) from rfl, Option.bind_some, if_pos h2, h3]
    rw [beq_self_eq_true]
theorem blet {a b : ByteArray} : (a.toList == b.toList) = decide (a = b) := by
  have := ba_iff a b
  by_cases h : a = b
  · rw [decide_eq_true h, beq_iff_eq.2 (this.2 h)]
  · rw [decide_eq_false h, beq_eq_false_iff_ne.2 (fun e => h (this.1 e))]
theorem p3 (k j : Nat) (p n p2 n2 t : ByteArray) (ht : t.size ≤ 1048576) (b : ByteArray) (e : Int) (h : okKey (k : Int) p n = true) (other : Int) (hb : b = keyS other p2 n2) (he : e = keyE other p2 n2) :
    Ev (fun f => bursarlaw13_ObjectPlaces.j3 f (k : Int) p n other p2 n2 t (keyS (k : Int) p n) b e letW false) true := by
  by_cases h0 : e = 0
  rotate_left
  · refine Ev.step (fun f => ?_) (p4 t ht)
    simp only [bursarlaw13_ObjectPlaces.j3]
    rw [if_neg (by decide), if_neg h0]
  have ho : okKey other p2 n2 = true := keyE_zero.1 (he ▸ h0)
  obtain ⟨j, rfl, hj4⟩ := okKey_nat ho
  have g1 := in1 h ho
  have g2 := in2 h ho
  have w := wlet hj4
  have hinj := fun q => keyS_inj (k := k) (j := j) h ho q
  have hS : keyS (k : Int) p n = b ↔ k = j ∧ p = p2 ∧ n = n2 := ⟨fun q => hinj (hb ▸ q), fun ⟨a1, a2, a3⟩ => by rw [hb, a1, a2, a3]⟩
  subst h0
  have hx1 := ba_iff p p2
  have key : ∀ f, bursarlaw13_ObjectPlaces.j3 (f + 1) (k : Int) p n (j : Int) p2 n2 t (keyS (k : Int) p n) b 0 letW false = bursarlaw13_ObjectPlaces.j4 f t := fun f => by
    simp only [bursarlaw13_ObjectPlaces.j3]
    rw [if_neg (by decide), if_pos trivial, if_pos (by omega), if_pos w.1, letW_size, if_pos w.2, letW_ext hj4, g1, g2]
    simp only [Option.bind_some, blet]
    by_cases e1 : k = j
    · subst e1
      rw [if_pos rfl]
      by_cases e2 : p = p2
      · rw [if_pos (hx1.2 e2)]
        subst e2
        by_cases e3 : n = n2
        · subst e3
          have hb1 := hS.2 ⟨rfl, rfl, rfl⟩
          simp [hb1]
        · have hb1 : ¬ keyS (k : Int) p n = b := fun q => e3 (hS.1 q).2.2
          simp [hb1, e3]
      · rw [if_neg (fun q => e2 (hx1.1 q))]
        have hb1 : ¬ keyS (k : Int) p n = b := fun q => e2 (hS.1 q).2.1
        simp [hb1, e2]
    · have e4 : ¬ (k : Int) = (j : Int) := by omega
      rw [if_neg e4]
      have hb1 : ¬ keyS (k : Int) p n = b := fun q => e1 (hS.1 q).1
      simp [hb1, e1, e4]
  exact Ev.step key (p4 t ht)
theorem p2_ (k : Nat) (p n p2 n2 t : ByteArray) (ht : t.size ≤ 1048576) (h : okKey (k : Int) p n = true) (other : Int) :
    Ev (fun f => bursarlaw13_ObjectPlaces.j2 f (k : Int) p n other p2 n2 t (keyS (k : Int) p n) (keyS other p2 n2) (keyE other p2 n2) letW false) true := by
  refine Ev.step (fun f => ?_) (p3 k 0 p n p2 n2 t ht _ _ h other rfl rfl)
  simp only [bursarlaw13_ObjectPlaces.j2]
  rw [if_neg (by decide)]
  by_cases h0 : keyE other p2 n2 = 0
  · obtain ⟨j, hj, hj4⟩ := okKey_nat (keyE_zero.1 h0)
    rw [if_pos h0, if_neg (by omega), decide_eq_false (by omega)]
  · rw [if_neg h0]
theorem p1_ (k : Nat) (p n p2 n2 t : ByteArray) (ht : t.size ≤ 1048576) (h : okKey (k : Int) p n = true) (other : Int) :
    Ev (fun f => bursarlaw13_ObjectPlaces.j1 f (k : Int) p n other p2 n2 t (keyS (k : Int) p n) (keyS other p2 n2) (keyE other p2 n2) letW false) true := by
  have hk4 : k ≤ 4 := by have := (okKey_parts h).1; omega
  have w := wlet hk4
  have g1 := in1 h h
  have g2 := in2 h h
  have g3 := in3 h
  rw [decide_eq_true rfl] at g1
  rw [decide_eq_true ⟨rfl, rfl⟩] at g2
  refine Ev.step (fun f => ?_) (p2_ k p n p2 n2 t ht h other)
  simp only [bursarlaw13_ObjectPlaces.j1]
  rw [if_neg (by decide), if_pos (by omega), if_pos w.1, letW_size, if_pos w.2, letW_ext hk4, g1, Option.bind_some, if_pos rfl, g2, Option.bind_some, if_pos rfl, g3, Option.bind_some]
  rfl
theorem p0 (kind : Int) (p n p2 n2 t : ByteArray) (ht : t.size ≤ 1048576) (other : Int) :
    Ev (fun f => bursarlaw13_ObjectPlaces.j0 f kind p n other p2 n2 t (keyS kind p n) (keyE kind p n) (keyS other p2 n2) (keyE other p2 n2) false) true := by
  by_cases h0 : keyE kind p n = 0
  rotate_left
  · refine Ev.step (fun f => ?_) (p4 t ht)
    simp only [bursarlaw13_ObjectPlaces.j0]
    rw [if_neg (by decide), if_neg h0]
  have h := keyE_zero.1 h0
  obtain ⟨k, rfl, hk4⟩ := okKey_nat h
  have hsz : (keyS (k : Int) p n).size ≤ 103 := by
    obtain ⟨_, q2, q3, q4⟩ := okKey_parts h
    have := keyL_len (kind := k) hk4 q2 q3 q4
    rw [(key_good h).1, Int.toNat_natCast, toB_sizeB]
    exact this
  have hu := unkey_ev (keyS (k : Int) p n) (by omega)
  rw [unkR_key h] at hu
  refine Ev.step (fun f => by simp only [bursarlaw13_ObjectPlaces.j0]; rw [if_neg (by decide), if_pos h0]) ?_
  refine Ev.bind hu ?_
  refine Ev.congr (fun f => ?_) (p1_ k p n p2 n2 t ht h other)
  simp only
  rw [if_pos trivial, if_pos trivial, if_pos trivial, if_pos trivial, if_neg (by omega), if_neg (by omega), decide_eq_false (by omega)]
theorem ObjectPlaces_true (a0 : Int) (a1 a2 : ByteArray) (a3 : Int) (a4 a5 a6 : ByteArray) (h6 : a6.size ≤ 1048576) : Ev (fun k => bursarlaw13_ObjectPlaces.f k a0 a1 a2 a3 a4 a5 a6) true := by
  refine Ev.congr (fun k => ?_) (p0 a0 a1 a2 a4 a5 a6 h6 a3)
  unfold bursarlaw13_ObjectPlaces.f
  rw [fixed_f, Option.bind_some, if_pos rfl, show object_Key.f a0 a1 a2 = some (keyS a0 a1 a2, keyE a0 a1 a2) from rfl, Option.bind_some, show object_Key.f a3 a4 a5 = some (keyS a3 a4 a5, keyE a3 a4 a5) from rfl, Option.bind_some]
  have emp : (⟨#[]⟩ : ByteArray).toList = ([] : List UInt8) := lit_list.2 rfl
  have hb : ∀ (kind : Int) (p n : ByteArray), ¬ keyE kind p n = 0 → (keyS kind p n).toList = [] := fun kind p n h => by rw [keyS_bad h, emp]
  by_cases e1 : keyE a0 a1 a2 = 0
  · by_cases e2 : keyE a3 a4 a5 = 0
    · rw [if_pos e1, if_pos e2]
    · rw [if_pos e1, if_neg e2, hb _ _ _ e2]
      rfl
  · rw [if_neg e1, if_pos (hb _ _ _ e1)]
    by_cases e2 : keyE a3 a4 a5 = 0
    · rw [if_pos e2]
    · rw [if_neg e2, hb _ _ _ e2]
      rfl
end Go.Proofs.YtniolbolfclhkaaDoor.Q
namespace Go.Proofs.YtniolbolfclhkaaDoor.Pure
open Go.RowKit Go.Proofs.YtniolbolfclhkaaDoorW.PrintWords
set_option linter.unusedVariables false
theorem ObjectPlaces (a0 : Int) (a1 a2 : ByteArray) (a3 : Int) (a4 a5 a6 : ByteArray) {P0 P3 : Prop} (w0 : P0) (b1 : a1.size ≤ 1048576) (b2 : a2.size ≤ 1048576) (w3 : P3) (b4 : a4.size ≤ 1048576) (b5 : a5.size ≤ 1048576) (b6 : a6.size ≤ 1048576) : ∃ k, Q.bursarlaw13_ObjectPlaces.f k a0 a1 a2 a3 a4 a5 a6 = some true := (Q.ObjectPlaces_true a0 a1 a2 a3 a4 a5 a6 b6).rounds
end Go.Proofs.YtniolbolfclhkaaDoor.Pure
namespace Go.Proofs.YtniolbolfclhkaaDoor.Q
open Go.RowKit Go.Lib Go.ChangeShapes Go.Proofs.YtniolbolfclhkaaDoorW.PrintWords Go.Proofs.YtniolbolfclhkaaDoorW.PrintLast
set_option linter.unusedVariables false
set_option linter.unusedSimpArgs false
theorem laid_one {P : Program} {w : World} {l : List (String × DataW Unit)} {n : String} {d : DataW Unit} (h : laidMetH P l w) (hl : (l.filter fun x => x.1 == n) = [(n, d)]) (hd : d.handleName? = none) : laidMet P [(n, d)] w := by
  have h1 := h.filter (fun x => x.1 == n)
  rw [hl] at h1
  have h2 := (laidMetH_iff.1 h1).1
  have e : ([(n, d)] : List (String × DataW Unit)).filter (fun x => x.2.handleName?.isNone) = [(n, d)] := by simp [List.filter_cons, hd]
  rw [e] at h2
  exact h2
theorem letters_laid {w : World} (h : laidMet Tryd.prog [("bursar/object.letters", Rows.laid_bursar_object_letters)] w) : w.cell? ⟨0, 1, none⟩ = some (.int .u8 81) ∧ w.cell? ⟨0, 2, none⟩ = some (.int .u8 76) ∧ w.cell? ⟨0, 3, none⟩ = some (.int .u8 79) ∧ w.cell? ⟨0, 4, none⟩ = some (.int .u8 66) := by
  have t := Lib.tabIs_of_head (k := .u8) (zs := [0, 81, 76, 79, 66]) (g := 0) (t := 55) (e := 5) (n := 5) (by kernel_rfl) (by kernel_rfl) Tryd.underlying55 Tryd.underlying5 (by kernel_rfl) (by kernel_rfl) h
  exact ⟨t.cell (by kernel_rfl) 1 (by decide), t.cell (by kernel_rfl) 2 (by decide), t.cell (by kernel_rfl) 3 (by decide), t.cell (by kernel_rfl) 4 (by decide)⟩
theorem glob_of {W : World} (hsh : W.ShapedOpen Tryd.prog) (h : laidMetH Tryd.prog [("unicode/utf8.acceptRanges", Rows.laid_unicode_utf8_acceptRanges), ("bursar/object.letters", Rows.laid_bursar_object_letters), ("unicode/utf8.first", Rows.laid_unicode_utf8_first)] W) : Glob W :=
  have l := letters_laid (laid_one h rfl rfl)
  ⟨Tryd.laysM146.s1_3 W hsh, l.1, l.2.1, l.2.2.1, l.2.2.2⟩
end Go.Proofs.YtniolbolfclhkaaDoor.Q
namespace Go.Proofs.YtniolbolfclhkaaDoor.objectPlaces
open Go.ChangeShapes Go.WideShapes Go.ChangeAt Go.RowKit
open Go.ChangeMaps (open_string shut_string)
set_option linter.unusedVariables false
set_option linter.unusedSimpArgs false
theorem own : ownKnob Tryd.prog.godebug = none := by kernel_rfl
set_option maxRecDepth 100000 in
theorem contract (H : Type) (enc : TypeId × Value → H) (W : World) (base : Nat) (args : Array Value) (ds gs : List (DataW H)) (before : List MemPlace)
    (hval0 : ∀ (j : Nat) t v, Tryd.f5.params[j]? = some t → args[j]? = some v → Value.okWide Tryd.prog W .any base t v)
    (hW : DataW.Whole enc Tryd.prog Tryd.f5.params.toList Rows.objectPlacesSpec.vars false W args.toList ds gs before)
    (hk : Rows.uptoSmall H (ds ++ gs) = true)
    (hsh : W.ShapedOpen Tryd.prog)
    (hl : laidMetH Tryd.prog Rows.objectPlacesUptoRow.laid W)
    : Calls Tryd.prog 5 args W fun e W' => ∃ v, e = .returned v ∧ Rows.objectPlacesSpec.post enc Tryd.prog Tryd.f5 false true false false W args v W' := by
  have hval : ∀ (j : Nat) t v, Tryd.f5.params[j]? = some t → args[j]? = some v → Value.okWide Tryd.prog W .any base t v := hval0
  have hW' := hW
  obtain ⟨p, q, hA0, hV, rfl, hfz, hnd⟩ := hW
  have hA : DataW.TrodAll enc Tryd.prog W 0 (fun _ => true) true Tryd.f5.params.toList args.toList ds p := hA0
  rw [Tryd.params5] at hA hval
  obtain ⟨v0, vs0, d0, ds0, p0, q0, hargs, rfl, rfl, h0, r0⟩ := trodAll_cons hA
  obtain ⟨v1, vs1, d1, ds1, p1, q1, rfl, rfl, rfl, h1, r1⟩ := trodAll_cons r0
  obtain ⟨v2, vs2, d2, ds2, p2, q2, rfl, rfl, rfl, h2, r2⟩ := trodAll_cons r1
  obtain ⟨v3, vs3, d3, ds3, p3, q3, rfl, rfl, rfl, h3, r3⟩ := trodAll_cons r2
  obtain ⟨v4, vs4, d4, ds4, p4, q4, rfl, rfl, rfl, h4, r4⟩ := trodAll_cons r3
  obtain ⟨v5, vs5, d5, ds5, p5, q5, rfl, rfl, rfl, h5, r5⟩ := trodAll_cons r4
  obtain ⟨v6, vs6, d6, ds6, p6, q6, rfl, rfl, rfl, h6, r6⟩ := trodAll_cons r5
  obtain ⟨rfl, rfl, rfl⟩ := trodAll_nil r6
  obtain rfl : args = #[v0, v1, v2, v3, v4, v5, v6] := by cases args; simp_all
  obtain ⟨rfl, rfl⟩ := trodVars_none hV
  obtain ⟨a0, rfl, rfl, rfl, w0⟩ := open_int Tryd.underlying3 (hval 0 3 v0 rfl rfl) h0
  obtain ⟨a1, rfl, rfl, rfl, y1⟩ := open_string Tryd.underlying9 (hval 1 9 v1 rfl rfl) h1
  obtain ⟨a2, rfl, rfl, rfl, y2⟩ := open_string Tryd.underlying9 (hval 2 9 v2 rfl rfl) h2
  obtain ⟨a3, rfl, rfl, rfl, w3⟩ := open_int Tryd.underlying3 (hval 3 3 v3 rfl rfl) h3
  obtain ⟨a4, rfl, rfl, rfl, y4⟩ := open_string Tryd.underlying9 (hval 4 9 v4 rfl rfl) h4
  obtain ⟨a5, rfl, rfl, rfl, y5⟩ := open_string Tryd.underlying9 (hval 5 9 v5 rfl rfl) h5
  obtain ⟨a6, rfl, rfl, rfl, y6⟩ := open_string Tryd.underlying9 (hval 6 9 v6 rfl rfl) h6
  have hb := of_decide_eq_true hk
  simp only [List.append_nil, List.cons_append, List.nil_append, Rows.uptoBulkAll, Rows.uptoBulk, Array.length_toList] at hb
  have b1 : a1.size ≤ 1048576 := by have : a1.data.size = a1.size := rfl; omega
  have b2 : a2.size ≤ 1048576 := by have : a2.data.size = a2.size := rfl; omega
  have b4 : a4.size ≤ 1048576 := by have : a4.data.size = a4.size := rfl; omega
  have b5 : a5.size ≤ 1048576 := by have : a5.data.size = a5.size := rfl; omega
  have b6 : a6.size ≤ 1048576 := by have : a6.data.size = a6.size := rfl; omega
  obtain ⟨k, hp⟩ := Pure.ObjectPlaces a0 a1 a2 a3 a4 a5 a6 w0 b1 b2 w3 b4 b5 b6
  refine (Q.bursarlaw13_ObjectPlaces.calls k a0 a1 a2 a3 a4 a5 a6 true W  hp (Q.glob_of hsh hl)).mono fun e W' ⟨he, bel⟩ => ?_
  subst he
  exact ⟨_, rfl, _, _, _, [], _, [], hW', trodAll_mk1 (shut_bool Tryd.underlying4 _), (trodAll_cons_mk (shut_int Tryd.underlying3 w0) (trodAll_cons_mk (shut_string Tryd.underlying9 y1) (trodAll_cons_mk (shut_string Tryd.underlying9 y2) (trodAll_cons_mk (shut_int Tryd.underlying3 w3) (trodAll_cons_mk (shut_string Tryd.underlying9 y4) (trodAll_cons_mk (shut_string Tryd.underlying9 y5) (trodAll_cons_mk (shut_string Tryd.underlying9 y6) trodAll_mk0))))))), rfl, bel.frame _, fun h => by cases h⟩
noncomputable def tab1 : Obj → Obj
  | .cells _ t frozen => .cells (Go.Pinned.utf8FirstZ.map fun (n : Nat) => Value.int .u8 (n : Int)).toArray t frozen
  | o => o
noncomputable def laidWorld (os : Os) : World :=
  { World.doorLaid Tryd.prog 400 os with heap := (World.doorLaid Tryd.prog 400 os).heap.modify 2 tab1 }
theorem laid_met (os : Os) : laidMet Tryd.prog Rows.objectPlacesRow.laid ((laidWorld os).forCall (fun _ _ => 0) ⟨#[], #[.int .i64 0, .string ByteArray.empty, .string ByteArray.empty, .int .i64 0, .string ByteArray.empty, .string ByteArray.empty, .string ByteArray.empty], []⟩).memory :=
  laidMet_of_run' 8 (by kernel_rfl) (by kernel_rfl)
theorem reads (os : Os) {H : Type} (enc : TypeId × Value → H) : ∃ places, DataW.whole enc Tryd.prog ((laidWorld os).forCall (fun _ _ => 0) ⟨#[], #[.int .i64 0, .string ByteArray.empty, .string ByteArray.empty, .int .i64 0, .string ByteArray.empty, .string ByteArray.empty, .string ByteArray.empty], []⟩).memory Tryd.f5.params.toList Rows.objectPlacesSpec.vars false (#[.int .i64 0, .string ByteArray.empty, .string ByteArray.empty, .int .i64 0, .string ByteArray.empty, .string ByteArray.empty, .string ByteArray.empty] : Array Value).toList 8 = some ([.lit (.int .i64 0), .lit (.string []), .lit (.string []), .lit (.int .i64 0), .lit (.string []), .lit (.string []), .lit (.string [])], [], places) :=
  ⟨[], by kernel_rfl⟩
set_option maxRecDepth 100000 in
theorem lifted (os : Os) (started : os.Started) (H : Type) (enc : TypeId × Value → H) (F : Stop.Interp) :
    ReturnsInHanded {} Tryd.checked os 5 .any ((Rows.OpenSpec.upto Rows.objectPlacesSpec).preRow enc Tryd.prog Tryd.f5 Rows.objectPlacesUptoRow.domain false Rows.objectPlacesUptoRow.laid) (((Rows.OpenSpec.upto Rows.objectPlacesSpec).at F).post enc Tryd.prog Tryd.f5 false true false false) := by
  obtain ⟨places, hx⟩ := reads os enc
  refine returnsInHanded_of_row (C := Tryd.checked) (s := Rows.OpenSpec.upto Rows.objectPlacesSpec) own started (by kernel_rfl) Tryd.func5
    (witness_row_at (enc := enc) (C := Tryd.checked) false (laidWorld os) #[.int .i64 0, .string ByteArray.empty, .string ByteArray.empty, .int .i64 0, .string ByteArray.empty, .string ByteArray.empty, .string ByteArray.empty] rfl (by kernel_rfl) (by kernel_rfl) (by kernel_rfl)
      (OpenSpec.preRow_of_cond 8 hx (by kernel_rfl) (fun k hk => by cases hk; kernel_rfl) (by kernel_rfl) (laid_met os))) ?_
  intro W base args ds gs before hval hW _ hcond hsz hl hsh _
  exact contract H enc W base args ds gs before hval hW (hcond _ rfl) hsh hl
theorem said : Rows.ObjectPlacesUptoSaid :=
  OpenClaim.holds_of_cond 5 Tryd.f5 rfl rfl rfl rfl rfl rfl rfl ⟨rfl, rfl, rfl, rfl, rfl⟩ rfl rfl rfl rfl rfl (by kernel_rfl) Tryd.func5 (by kernel_rfl)
    (of_decide_eq_true (by kernel_rfl)) (by unfold Func.isWrapper; first | (rw [if_pos (by decide +kernel)]; kernel_rfl) | (rw [if_neg (by decide +kernel)]; exact ⟨rfl, rfl⟩))
    (fun os started H enc _ F => by rw [OpenClaim.pre_eq_preRow]; exact lifted os started H enc F)
theorem plain (f : FuncId) (fn : Func) (hf : Tryd.pinned.checked.prog.funcNamed "bursar/bursarlaw13.ObjectPlaces" = some f) (hfn : Tryd.pinned.checked.prog.funcs[f]? = some fn) :
    false = Tryd.pinned.checked.prog.looks [] ∧ ∀ (j : Nat) t, fn.params[j]? = some t → Tryd.pinned.checked.prog.wantsStandIn t = false := by
  obtain rfl : f = 5 := Option.some.inj ((show Tryd.prog.funcNamed "bursar/bursarlaw13.ObjectPlaces" = some 5 by kernel_rfl).symm.trans hf) |>.symm
  obtain rfl : fn = Tryd.f5 := (Option.some.inj (Tryd.func5.symm.trans hfn)).symm
  refine ⟨by kernel_rfl, fun j t ht => ?_⟩
  rw [Tryd.params5] at ht
  have hall : ∀ x ∈ [3, 9, 9, 3, 9, 9, 9], Tryd.prog.wantsStandIn x = false := by
    intro x hx; simp only [List.mem_cons, List.mem_nil_iff, or_false] at hx; rcases hx with rfl | rfl | rfl | rfl | rfl | rfl | rfl <;> kernel_rfl
  exact hall t (by simpa using Array.mem_of_getElem? ht)
theorem card : Rows.ObjectPlacesUptoCardSaid :=
  Claim7.holds_tied_plain_at .later [] _ _ _ _ said (fun _ h => by cases h) (by kernel_rfl) (fun _ h => by cases h) objectPlacesUpto_row_tie rfl ⟨rfl, rfl⟩ (by kernel_rfl) rfl plain (by kernel_rfl)
end Go.Proofs.YtniolbolfclhkaaDoor.objectPlaces
namespace Go.Proofs.YtniolbolfclhkaaDoor
theorem objectPlaces_holds : Rows.ObjectPlacesUptoCardSaid := objectPlaces.card
end Go.Proofs.YtniolbolfclhkaaDoor
